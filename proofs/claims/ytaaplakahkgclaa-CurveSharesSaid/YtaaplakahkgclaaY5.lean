/- What these functions compute: a contract for each, walked through its code. -/
import Derived.Test.YtaaplakahkgclaaSLzh
import Derived.Test.YtaaplakahkgclaaKPure
import Derived.Test.YtaaplakahkgclaaProg
import Derived.Test.YtaaplakahkgclaaX1
import Derived.Test.YtaaplakahkgclaaX2
import Derived.Test.YtaaplakahkgclaaX3
import Derived.Test.YtaaplakahkgclaaX4
import Derived.Test.YtaaplakahkgclaaX5
import Derived.Test.YtaaplakahkgclaaX6
import Derived.Test.YtaaplakahkgclaaX7
import Derived.Test.YtaaplakahkgclaaX8
import Derived.Test.YtaaplakahkgclaaX9
import Derived.Test.YtaaplakahkgclaaY1
import Derived.Test.YtaaplakahkgclaaY2
import Derived.Test.YtaaplakahkgclaaY3
import Derived.Test.YtaaplakahkgclaaY4
namespace Go.Proofs.Ytaaplakahkgclaa.Y5
open Go Go.Proofs.Ytaaplakahkgclaa.SL Go.Proofs.Ytaaplakahkgclaa.SL.W Go.Proofs.Ytaaplakahkgclaa.SL.F Go.Proofs.Ytaaplakahkgclaa.SL.N Go.Proofs.Ytaaplakahkgclaa.SL.E Go.Proofs.Ytaaplakahkgclaa.SL.K Go.Proofs.Ytaaplakahkgclaa.X1 Go.Proofs.Ytaaplakahkgclaa.X2 Go.Proofs.Ytaaplakahkgclaa.X3 Go.Proofs.Ytaaplakahkgclaa.X4 Go.Proofs.Ytaaplakahkgclaa.X5 Go.Proofs.Ytaaplakahkgclaa.X6 Go.Proofs.Ytaaplakahkgclaa.X7 Go.Proofs.Ytaaplakahkgclaa.X8 Go.Proofs.Ytaaplakahkgclaa.X9 Go.Proofs.Ytaaplakahkgclaa.Y1 Go.Proofs.Ytaaplakahkgclaa.Y2 Go.Proofs.Ytaaplakahkgclaa.Y3 Go.Proofs.Ytaaplakahkgclaa.Y4
set_option linter.unusedVariables false
set_option linter.unusedSimpArgs false
set_option maxRecDepth 100000
set_option maxHeartbeats 40000000
def U : Tab where
  und := [(3, .int .i64), (5, .int .u8), (22, .slice 3), (23, .slice 5), (91, .array 32 3), (92, .array 32 3)]
  fld := []
  sz := [(3, 1), (5, 1), (22, 1), (23, 1), (91, 32), (92, 32)]
  ti := [(3, (1, 8, .int .i64 0)), (5, (1, 1, .int .u8 0)), (22, (1, 24, .slice none 0 0)), (23, (1, 24, .slice none 0 0)), (91, (32, 256, z32)), (92, (32, 256, z32))]
  bld := []

theorem hU : U.OK Try.prog where
  und := by
    intro p hp
    simp only [U, List.mem_cons, List.not_mem_nil, or_false] at hp
    rcases hp with rfl | rfl | rfl | rfl | rfl | rfl
    · exact Try.underlying3
    · exact Try.underlying5
    · exact Try.underlying22
    · exact Try.underlying23
    · exact Try.underlying91
    · exact Try.underlying92
  fld := by
    intro p hp; cases hp
  sz := by
    intro p hp
    simp only [U, List.mem_cons, List.not_mem_nil, or_false] at hp
    rcases hp with rfl | rfl | rfl | rfl | rfl | rfl
    · exact ⟨Try.prog.types[3]!, by kernel_rfl, by kernel_rfl⟩
    · exact ⟨Try.prog.types[5]!, by kernel_rfl, by kernel_rfl⟩
    · exact ⟨Try.prog.types[22]!, by kernel_rfl, by kernel_rfl⟩
    · exact ⟨Try.prog.types[23]!, by kernel_rfl, by kernel_rfl⟩
    · exact ⟨Try.prog.types[91]!, by kernel_rfl, by kernel_rfl⟩
    · exact ⟨Try.prog.types[92]!, by kernel_rfl, by kernel_rfl⟩
  ti := by
    intro p hp
    simp only [U, List.mem_cons, List.not_mem_nil, or_false] at hp
    rcases hp with rfl | rfl | rfl | rfl | rfl | rfl
    · exact ⟨Try.prog.types[3]!, by kernel_rfl, by kernel_rfl, by kernel_rfl, by kernel_rfl⟩
    · exact ⟨Try.prog.types[5]!, by kernel_rfl, by kernel_rfl, by kernel_rfl, by kernel_rfl⟩
    · exact ⟨Try.prog.types[22]!, by kernel_rfl, by kernel_rfl, by kernel_rfl, by kernel_rfl⟩
    · exact ⟨Try.prog.types[23]!, by kernel_rfl, by kernel_rfl, by kernel_rfl, by kernel_rfl⟩
    · exact ⟨Try.prog.types[91]!, by kernel_rfl, by kernel_rfl, by kernel_rfl, by kernel_rfl⟩
    · exact ⟨Try.prog.types[92]!, by kernel_rfl, by kernel_rfl, by kernel_rfl, by kernel_rfl⟩
  bld := by
    intro p hp; cases hp
  mixed := by kernel_rfl

theorem n_Add_spec (xs : List Int) (x : Int) (ys : List Int) (y : Int) (hX : Dg xs x) (hlx : xs.length = 32) (hY : Dg ys y) (hly : ys.length = 32) :
    CallsS Try.prog 79 [ag .i64 xs, ag .i64 ys] [] (fun r D => ∃ (zs : List Int), r = ag .i64 zs ∧ D = [] ∧ (Dg zs ((x + y) % P)) ∧ (zs.length = 32)) := by
  refine CallsS.enter hU Try.f79 _ [.cell 4 92] 24 Try.func79 rfl (by decide) rfl rfl (by kernel_rfl) fun w0 W => ?_
  refine RunC.sr ?_
  refine RunR.st (some 2) (.box 92 (.tmp 0)) (Step.box (ag .i64 xs) (by kernel_rfl) (by kernel_rfl) (fun b1 => ?_))
  refine RunR.st (some 3) (.box 92 (.tmp 1)) (Step.box (ag .i64 ys) (by kernel_rfl) (by kernel_rfl) (fun b2 => ?_))
  refine RunR.st (some 4) (.alloc 92) (Step.al hU 32 256 z32 (fun b3 => ?_))
  have hl4 : (List.replicate 32 (0 : Int)).length = 32 := List.length_replicate
  refine RunR.nx ?_
  refine RunR.sl hU [] 1 1 [2, 3, 4, 5] [(2, pt b1), (3, pt b2), (4, pt b3), (5, .slice none 0 0)] 1 ?_
  refine RunR.nn ?_
  refine RunC.seq ?_
  refine RunC.sr ?_
  refine RunR.sl hU [] 1 1 [2, 3, 4, 5, 6] [(2, pt b1), (3, pt b2), (4, pt b3), (5, .slice none 0 0), (6, .int .i64 0)] 1 ?_
  refine RunR.nn ?_
  refine RunC.block ?_
  refine RunC.turn ([row 3 1 (.slice none 0 0) 0 (nums .i64 ([] : List Int)), blk b3 92 (nums .i64 (List.replicate 32 (0 : Int))), blk b2 92 (nums .i64 ys), blk b1 92 (nums .i64 xs)]) (fun _ _ w hs => hs.nil_row 3 1) ?_
  refine RunC.env [2, 3, 4, 5, 6] [(2, pt b1), (3, pt b2), (4, pt b3), (5, .slice none 0 0), (6, .int .i64 0)] (by kernel_rfl) ?_
  refine RunC.only [0, 0, 0, 0] [row 3 1 (.slice none 0 0) 0 (nums .i64 ([] : List Int)), blk b3 92 (nums .i64 (List.replicate 32 (0 : Int))), blk b2 92 (nums .i64 ys), blk b1 92 (nums .i64 xs)] (by kernel_rfl) ?_
  refine RunC.loop (σ := Nat) (fun n_ t_ D_ => ∃ (i : Int) (A : Option Addr) (cp : Nat) (ss : List Int), (0 ≤ i) ∧ (i ≤ 32) ∧ (ss = (List.range i.toNat).map (gs xs ys)) ∧ (ss.length = i.toNat) ∧ (In .u8 xs) ∧ (In .u8 ys) ∧ (ss.length ≤ cp) ∧ (0 < ss.length → Option.isSome A = true) ∧ n_ = ((32 - i).toNat : Nat) ∧ t_ = [(2, pt b1), (3, pt b2), (4, pt b3), (5, .slice A ss.length cp), (6, .int .i64 i)] ∧ D_ = [row 3 1 (.slice A ss.length cp) ss.length (nums .i64 ss), blk b3 92 (nums .i64 (List.replicate 32 (0 : Int))), blk b2 92 (nums .i64 ys), blk b1 92 (nums .i64 xs)]) id _ ⟨0, none, 0, ([] : List Int), (by omega), (by omega), (by rfl), (by rfl), (by exact hX.inn), (by exact hY.inn), (by exact Nat.le_refl _), (by intro h; simp at h), rfl, rfl, rfl⟩ ?_
  rintro n_ _ _ ⟨i, A, cp, ss, hi, hi2, hs, hsl, hx8, hy8, hc_ss, hA_ss, rfl, rfl, rfl⟩
  refine RunC.seq ?_
  refine RunC.sr ?_
  refine RunR.sl hU [] 2 2 [2, 3, 4, 5, 6, 8] [(2, pt b1), (3, pt b2), (4, pt b3), (5, .slice A ss.length cp), (6, .int .i64 i), (8, .bool (decide (i < 32)))] 2 ?_
  refine RunR.nn ?_
  refine RunC.condp (i < 32) (by kernel_rfl) (fun h5 => ?_) (fun h5 => ?_)
  · skip
    refine RunC.ks ?_
    refine RunC.seq ?_
    refine RunC.block ?_
    refine RunC.regionU hU 11 [blk b1 92 (nums .i64 xs), blk b2 92 (nums .i64 ys)] [3, 2] [9, 10] (bm 11 0) (by kernel_rfl) (by kernel_rfl) (by kernel_rfl) ?_
    refine RunU.sl hU 0 (bm 11 1) 11 (.slice A ss.length cp) ?_
    refine RunU.sl hU 1 (bm 11 3) 12 (.int .i64 i) ?_
    refine RunU.sil hU false 2 (bm 11 7) 13 (.pointer (some ⟨b1, 0 + (i).toNat * 1, none⟩)) (0 ≤ i ∧ i < ((32 : Nat) : Int)) (by kernel_rfl) (by omega) (by kernel_rfl) (by kernel_rfl) (fun _ _ _ h => h) ?_
    refine RunU.rd 3 (bm 11 15) 14 (.load 3 (.tmp 13)) (.int .i64 (xs.getD ((i).toNat) 0)) [3, 2] (Reads.load_blknum hU 0 b1 (0 + (i).toNat * 1) 92 ((i).toNat) .i64 xs rfl (by kernel_rfl) (by kernel_rfl) (by omega) (by omega)) ?_
    have hb6 : 0 ≤ xs.getD ((i).toNat) 0 ∧ xs.getD ((i).toNat) 0 < 256 := hx8.at_ _
    refine RunU.sl hU 4 (bm 11 31) 15 (.int .i64 i) ?_
    refine RunU.sil hU false 5 (bm 11 63) 16 (.pointer (some ⟨b2, 0 + (i).toNat * 1, none⟩)) (0 ≤ i ∧ i < ((32 : Nat) : Int)) (by kernel_rfl) (by omega) (by kernel_rfl) (by kernel_rfl) (fun _ _ _ h => h) ?_
    refine RunU.rd 6 (bm 11 127) 17 (.load 3 (.tmp 16)) (.int .i64 (ys.getD ((i).toNat) 0)) [3, 2] (Reads.load_blknum hU 1 b2 (0 + (i).toNat * 1) 92 ((i).toNat) .i64 ys rfl (by kernel_rfl) (by kernel_rfl) (by omega) (by omega)) ?_
    have hb7 : 0 ≤ ys.getD ((i).toNat) 0 ∧ ys.getD ((i).toNat) 0 < 256 := hy8.at_ _
    refine RunU.sil hU true 7 (bm 11 255) 18 (.int .i64 ((xs.getD ((i).toNat) 0) + (ys.getD ((i).toNat) 0))) (-9223372036854775808 ≤ ((xs.getD ((i).toNat) 0) + (ys.getD ((i).toNat) 0)) ∧ ((xs.getD ((i).toNat) 0) + (ys.getD ((i).toNat) 0)) < 9223372036854775808) (by kernel_rfl) (by omega) (by kernel_rfl) (by kernel_rfl) (fun _ _ _ h => h) ?_
    refine RunU.on (some 19) (.buildSlice 22 1 #[(0, .tmp 18)]) 8 (bm 11 511) [4, 3] (Step.lit_nums hU 3 8 .i64 (.int .i64 0) ([(xs.getD ((i).toNat) 0) + (ys.getD ((i).toNat) 0)] : List Int) rfl rfl (by kernel_rfl) rfl rfl (by kernel_rfl) (fun b8 => ?_))
    have hl9 : (([(xs.getD ((i).toNat) 0) + (ys.getD ((i).toNat) 0)] : List Int)).length = 1 := rfl
    refine orL ?_
    have hl14 : (([(xs.getD ((i).toNat) 0) + (ys.getD ((i).toNat) 0)] : List Int)).length = 1 := rfl
    refine RunU.on (some 20) (.call { callee := .builtin .append, args := #[.tmp 11, .tmp 19], argTypes := #[22, 22] }) 9 (bm 11 1023) [] (Step.append_nums hU 3 8 (.int .i64 0) .i64 1 0 A ss.length cp ss (some ⟨b8, 0, none⟩) 1 1 (row 3 1 (.slice (some ⟨b8, 0, none⟩) 1 1) 1 (nums .i64 ([(xs.getD ((i).toNat) 0) + (ys.getD ((i).toNat) 0)] : List Int))) ([(xs.getD ((i).toNat) 0) + (ys.getD ((i).toNat) 0)] : List Int) rfl rfl rfl (by kernel_rfl) (by kernel_rfl) (by kernel_rfl) (by kernel_rfl) (tells_row _ _ _ _ _ _) (by rfl) (by rfl) (by omega) (by omega) (by kernel_rfl) (fun Aq10 cq11 hc12 hA13 => ?_))
    have hl15 : (ss ++ ([(xs.getD ((i).toNat) 0) + (ys.getD ((i).toNat) 0)] : List Int)).length = ss.length + ([(xs.getD ((i).toNat) 0) + (ys.getD ((i).toNat) 0)] : List Int).length := List.length_append
    simp only [List.length_cons, List.length_nil] at hl15
    refine orR ?_
    refine RunU.sl hU 10 (bm 11 2047) 5 (.slice Aq10 ((ss ++ ([(xs.getD ((i).toNat) 0) + (ys.getD ((i).toNat) 0)] : List Int)).length) cq11) ?_
    refine RunU.ev [2, 3, 4, 5, 6] [(2, pt b1), (3, pt b2), (4, pt b3), (5, .slice Aq10 ((ss ++ ([(xs.getD ((i).toNat) 0) + (ys.getD ((i).toNat) 0)] : List Int)).length) cq11), (6, .int .i64 i)] ?_
    refine RunU.dn ?_
    refine kblock_n ?_
    refine kseq_n ?_
    refine RunC.region ?_
    refine RunR.sil hU [1] 3 3 [2, 3, 4, 5, 6] [(2, pt b1), (3, pt b2), (4, pt b3), (5, .slice Aq10 ((ss ++ ([(xs.getD ((i).toNat) 0) + (ys.getD ((i).toNat) 0)] : List Int)).length) cq11), (6, .int .i64 (i + 1))] ((True) ∧ (-9223372036854775808 ≤ (i + 1) ∧ (i + 1) < 9223372036854775808) ∧ (True) ∧ True) rfl (by kernel_rfl) ⟨trivial, (by omega), trivial, trivial⟩ ?_
    refine RunR.dn ?_
    refine kloop_n _ [2, 3, 4, 5, 6] [0, 1, 1, 1] [(2, pt b1), (3, pt b2), (4, pt b3), (5, .slice Aq10 ((ss ++ ([(xs.getD ((i).toNat) 0) + (ys.getD ((i).toNat) 0)] : List Int)).length) cq11), (6, .int .i64 (i + 1))] [row 3 1 (.slice Aq10 ((ss ++ ([(xs.getD ((i).toNat) 0) + (ys.getD ((i).toNat) 0)] : List Int)).length) cq11) ((ss ++ ([(xs.getD ((i).toNat) 0) + (ys.getD ((i).toNat) 0)] : List Int)).length) (nums .i64 (ss ++ ([(xs.getD ((i).toNat) 0) + (ys.getD ((i).toNat) 0)] : List Int))), blk b3 92 (nums .i64 (List.replicate 32 (0 : Int))), blk b2 92 (nums .i64 ys), blk b1 92 (nums .i64 xs)] (by kernel_rfl) (by kernel_rfl) ?_ ⟨(i + 1), Aq10, cq11, (ss ++ ([(xs.getD ((i).toNat) 0) + (ys.getD ((i).toNat) 0)] : List Int)), (by omega), (by assumption), (by rw [hs, show (i + 1).toNat = i.toNat + 1 by omega]; exact map_snoc _ _), (by rw [List.length_append]; simp only [List.length_cons, List.length_nil]; omega), hx8, hy8, (by assumption), (fun h => hA13 (by exact h)), rfl, (by rfl), (by rfl)⟩
    show ((32 - (i + 1)).toNat : Nat) < ((32 - i).toNat : Nat)
    omega
  · skip
    refine RunC.exit ?_
    refine kseq_e ?_
    refine kloop_e ?_
    refine kblock_e ?_
    refine kseq_n ?_
    refine RunC.sr ?_
    refine RunR.sl hU [] 1 1 [4, 21] [(4, pt b3), (21, .slice A ss.length cp)] 1 ?_
    refine RunR.st (some 22) (.call { callee := .value (.func 100), args := #[.tmp 21], argTypes := #[22] }) (Step.cn 100 [.slice A ss.length cp] [row 3 1 (.slice A ss.length cp) ss.length (nums .i64 ss)] [blk b3 92 (nums .i64 (List.replicate 32 (0 : Int))), blk b2 92 (nums .i64 ys), blk b1 92 (nums .i64 xs)] (n_fold_spec A cp ss ss.length (by exact (add_fb hX hY (by rw [hs, show i = 32 by omega] <;> rfl)).1) (by assumption) (fun h => hA_ss (by exact h)) (by rfl)) [0] ?_)
    rintro _ _ ⟨zs16, z17, rfl, rfl, hp18, hp19, hp20⟩
    refine RunR.st (some 23) (.call { callee := .value (.func 83), args := #[.tmp 22], argTypes := #[92] }) (Step.cn 83 [ag .i64 zs16] [] [blk b3 92 (nums .i64 (List.replicate 32 (0 : Int))), blk b2 92 (nums .i64 ys), blk b1 92 (nums .i64 xs)] (n_Rest_spec zs16 z17 (by assumption) (by assumption)) [] ?_)
    rintro _ _ ⟨zs21, rfl, rfl, hp22, hp23⟩
    refine RunR.st none (.store 92 (.tmp 4) (.tmp 23)) (Step.store_arr hU 0 b3 92 32 .i64 (List.replicate 32 (0 : Int)) zs21 (by kernel_rfl) (by kernel_rfl) (by kernel_rfl) (by kernel_rfl) (by rfl) (by omega) ?_)
    refine RunR.nn ?_
    refine RunC.ret ?_
    refine kret_r [ag .i64 zs21] [] [] ⟨⟨0, b3, 0, 92, nums .i64 zs21, rfl, rfl, (loadv_arr (U := U) (n := 32) (by kernel_rfl) (by kernel_rfl) (by omega))⟩, trivial⟩ (by kernel_rfl) rfl ⟨zs21, rfl, rfl, (by exact Dg.cong (by assumption) (by assumption) (add_fb hX hY (by rw [hs, show i = 32 by omega] <;> rfl)).2), (by assumption)⟩

theorem n_Mul_spec (xs : List Int) (x : Int) (ys : List Int) (y : Int) (hX : Dg xs x) (hlx : xs.length = 32) (hY : Dg ys y) (hly : ys.length = 32) :
    CallsS Try.prog 81 [ag .i64 xs, ag .i64 ys] [] (fun r D => ∃ (zs : List Int), r = ag .i64 zs ∧ D = [] ∧ (Dg zs ((x * y) % P)) ∧ (zs.length = 32)) := by
  refine CallsS.enter hU Try.f81 _ [.cell 4 92] 39 Try.func81 rfl (by decide) rfl rfl (by kernel_rfl) fun w0 W => ?_
  refine RunC.sr ?_
  refine RunR.st (some 2) (.box 92 (.tmp 0)) (Step.box (ag .i64 xs) (by kernel_rfl) (by kernel_rfl) (fun b1 => ?_))
  refine RunR.st (some 3) (.box 92 (.tmp 1)) (Step.box (ag .i64 ys) (by kernel_rfl) (by kernel_rfl) (fun b2 => ?_))
  refine RunR.st (some 4) (.alloc 92) (Step.al hU 32 256 z32 (fun b3 => ?_))
  have hl4 : (List.replicate 32 (0 : Int)).length = 32 := List.length_replicate
  refine RunR.nx ?_
  refine RunR.st (some 8) (.makeSlice 22 (.const (.int .i64 63)) (.const (.int .i64 63))) (Step.make_nums hU 3 8 .i64 .i64 .i64 (63) rfl rfl (by kernel_rfl) (by kernel_rfl) (by omega) (by omega) (by kernel_rfl) (fun b5 => ?_))
  have hl6 : (List.replicate 63 (0 : Int)).length = 63 := List.length_replicate
  refine RunR.sl hU [] 1 2 [2, 3, 4, 5] [(2, pt b1), (3, pt b2), (4, pt b3), (5, .slice (some ⟨b5, 0, none⟩) 63 63)] 1 ?_
  refine RunR.nn ?_
  refine RunC.seq ?_
  refine RunC.sr ?_
  refine RunR.sl hU [] 1 1 [2, 3, 4, 5, 6] [(2, pt b1), (3, pt b2), (4, pt b3), (5, .slice (some ⟨b5, 0, none⟩) 63 63), (6, .int .i64 0)] 1 ?_
  refine RunR.nn ?_
  refine RunC.block ?_
  refine RunC.env [2, 3, 4, 5, 6] [(2, pt b1), (3, pt b2), (4, pt b3), (5, .slice (some ⟨b5, 0, none⟩) 63 63), (6, .int .i64 0)] (by kernel_rfl) ?_
  refine RunC.only [0, 0, 0, 0] [row 3 1 (.slice (some ⟨b5, 0, none⟩) 63 63) 63 (nums .i64 (List.replicate 63 (0 : Int))), blk b3 92 (nums .i64 (List.replicate 32 (0 : Int))), blk b2 92 (nums .i64 ys), blk b1 92 (nums .i64 xs)] (by kernel_rfl) ?_
  refine RunC.loop (σ := Nat) (fun n_ t_ D_ => ∃ (i : Int) (ss : List Int), (0 ≤ i) ∧ (i ≤ 32) ∧ (CB (32 * i.toNat) ss) ∧ (leN ss 63 = leN xs i.toNat * y) ∧ (In .u8 xs) ∧ (In .u8 ys) ∧ (ss.length = 63) ∧ n_ = ((32 - i).toNat : Nat) ∧ t_ = [(2, pt b1), (3, pt b2), (4, pt b3), (5, .slice (some ⟨b5, 0, none⟩) 63 63), (6, .int .i64 i)] ∧ D_ = [row 3 1 (.slice (some ⟨b5, 0, none⟩) 63 63) 63 (nums .i64 ss), blk b3 92 (nums .i64 (List.replicate 32 (0 : Int))), blk b2 92 (nums .i64 ys), blk b1 92 (nums .i64 xs)]) id _ ⟨0, (List.replicate 63 (0 : Int)), (by omega), (by omega), (by exact cb_zero), (by rw [show leN (List.replicate 63 (0 : Int)) 63 = 0 by decide +kernel]; simp [leN]), (by exact hX.inn), (by exact hY.inn), (by rfl), rfl, rfl, rfl⟩ ?_
  rintro n_ _ _ ⟨i, ss, hi, hi2, hC, hv, hx8, hy8, hsl, rfl, rfl, rfl⟩
  refine RunC.seq ?_
  refine RunC.sr ?_
  refine RunR.sl hU [] 2 2 [2, 3, 4, 5, 6, 10] [(2, pt b1), (3, pt b2), (4, pt b3), (5, .slice (some ⟨b5, 0, none⟩) 63 63), (6, .int .i64 i), (10, .bool (decide (i < 32)))] 2 ?_
  refine RunR.nn ?_
  refine RunC.condp (i < 32) (by kernel_rfl) (fun h7 => ?_) (fun h7 => ?_)
  · skip
    refine RunC.ks ?_
    refine RunC.seq ?_
    refine RunC.block ?_
    refine RunC.sr ?_
    refine RunR.sl hU [] 1 1 [2, 3, 4, 5, 6, 7] [(2, pt b1), (3, pt b2), (4, pt b3), (5, .slice (some ⟨b5, 0, none⟩) 63 63), (6, .int .i64 i), (7, .int .i64 0)] 1 ?_
    refine RunR.nn ?_
    refine RunC.block ?_
    refine RunC.env [2, 3, 4, 5, 6, 7] [(2, pt b1), (3, pt b2), (4, pt b3), (5, .slice (some ⟨b5, 0, none⟩) 63 63), (6, .int .i64 i), (7, .int .i64 0)] (by kernel_rfl) ?_
    refine RunC.only [0, 0, 0, 0] [row 3 1 (.slice (some ⟨b5, 0, none⟩) 63 63) 63 (nums .i64 ss), blk b3 92 (nums .i64 (List.replicate 32 (0 : Int))), blk b2 92 (nums .i64 ys), blk b1 92 (nums .i64 xs)] (by kernel_rfl) ?_
    refine RunC.loop (σ := Nat) (fun n_ t_ D_ => ∃ (k : Int) (ts : List Int), (0 ≤ k) ∧ (k ≤ 32) ∧ (CB (32 * i.toNat + k.toNat) ts) ∧ (Bnd 0 66585601 ts) ∧ (leN ts 63 = leN xs i.toNat * y + xs.getD i.toNat 0 * 256 ^ i.toNat * leN ys k.toNat) ∧ (ts.length = 63) ∧ n_ = ((32 - k).toNat : Nat) ∧ t_ = [(2, pt b1), (3, pt b2), (4, pt b3), (5, .slice (some ⟨b5, 0, none⟩) 63 63), (6, .int .i64 i), (7, .int .i64 k)] ∧ D_ = [row 3 1 (.slice (some ⟨b5, 0, none⟩) 63 63) 63 (nums .i64 ts), blk b3 92 (nums .i64 (List.replicate 32 (0 : Int))), blk b2 92 (nums .i64 ys), blk b1 92 (nums .i64 xs)]) id _ ⟨0, ss, (by omega), (by omega), (by exact hC), (by exact hC.bnd (by omega)), (by rw [hv]; simp [leN]), (by exact hsl), rfl, rfl, rfl⟩ ?_
    rintro n_ _ _ ⟨k, ts, hk, hk2, hC2, hbn, hv2, htl, rfl, rfl, rfl⟩
    refine RunC.seq ?_
    refine RunC.sr ?_
    refine RunR.sl hU [] 2 2 [2, 3, 4, 5, 6, 7, 14] [(2, pt b1), (3, pt b2), (4, pt b3), (5, .slice (some ⟨b5, 0, none⟩) 63 63), (6, .int .i64 i), (7, .int .i64 k), (14, .bool (decide (k < 32)))] 2 ?_
    refine RunR.nn ?_
    refine RunC.condp (k < 32) (by kernel_rfl) (fun h8 => ?_) (fun h8 => ?_)
    · skip
      refine RunC.ks ?_
      refine RunC.seq ?_
      refine RunC.block ?_
      refine RunC.regionU hU 20 [row 3 1 (.slice (some ⟨b5, 0, none⟩) 63 63) 63 (nums .i64 ts), blk b1 92 (nums .i64 xs), blk b2 92 (nums .i64 ys)] [0, 3, 2] [18, 19] (bm 20 0) (by kernel_rfl) (by kernel_rfl) (by kernel_rfl) ?_
      refine RunU.sl hU 0 (bm 20 1) 17 (.slice (some ⟨b5, 0, none⟩) 63 63) ?_
      refine RunU.sl hU 1 (bm 20 3) 18 (.int .i64 i) ?_
      refine RunU.sl hU 2 (bm 20 7) 19 (.int .i64 k) ?_
      refine RunU.sil hU true 3 (bm 20 15) 20 (.int .i64 (i + k)) (-9223372036854775808 ≤ (i + k) ∧ (i + k) < 9223372036854775808) (by kernel_rfl) (by omega) (by kernel_rfl) (by kernel_rfl) (fun _ _ _ h => h) ?_
      refine RunU.sl hU 4 (bm 20 31) 21 (.slice (some ⟨b5, 0, none⟩) 63 63) ?_
      refine RunU.sl hU 5 (bm 20 63) 22 (.int .i64 i) ?_
      refine RunU.sl hU 6 (bm 20 127) 23 (.int .i64 k) ?_
      refine RunU.sil hU true 7 (bm 20 255) 24 (.int .i64 (i + k)) (-9223372036854775808 ≤ (i + k) ∧ (i + k) < 9223372036854775808) (by kernel_rfl) (by omega) (by kernel_rfl) (by kernel_rfl) (fun _ _ _ h => h) ?_
      refine RunU.sil hU false 8 (bm 20 511) 25 (.pointer (elemAt (some ⟨b5, 0, none⟩) (i + k) 1)) ((0 ≤ (i + k) ∧ (i + k) < ((63 : Nat) : Int)) ∧ Option.isSome (some ⟨b5, 0, none⟩ : Option Addr) = true) (by kernel_rfl) ⟨by omega, rfl⟩ (by kernel_rfl) (by kernel_rfl) (fun _ _ _ h => h) ?_
      refine RunU.rd 9 (bm 20 1023) 26 (.load 3 (.tmp 25)) (.int .i64 (ts.getD (i + k).toNat 0)) [0, 3, 2] (Reads.load_num hU 0 (row 3 1 (.slice (some ⟨b5, 0, none⟩) 63 63) 63 (nums .i64 ts)) (some ⟨b5, 0, none⟩) (i + k) .i64 ts rfl (by kernel_rfl) (by kernel_rfl) (tells_row _ _ _ _ _ _) (by omega)) ?_
      have hb9 : 0 ≤ ts.getD ((i + k).toNat) 0 ∧ ts.getD ((i + k).toNat) 0 < 66585601 := hbn.at_ _
      refine RunU.sl hU 10 (bm 20 2047) 27 (.int .i64 i) ?_
      refine RunU.sil hU false 11 (bm 20 4095) 28 (.pointer (some ⟨b1, 0 + (i).toNat * 1, none⟩)) (0 ≤ i ∧ i < ((32 : Nat) : Int)) (by kernel_rfl) (by omega) (by kernel_rfl) (by kernel_rfl) (fun _ _ _ h => h) ?_
      refine RunU.rd 12 (bm 20 8191) 29 (.load 3 (.tmp 28)) (.int .i64 (xs.getD ((i).toNat) 0)) [0, 3, 2] (Reads.load_blknum hU 1 b1 (0 + (i).toNat * 1) 92 ((i).toNat) .i64 xs rfl (by kernel_rfl) (by kernel_rfl) (by omega) (by omega)) ?_
      have hb10 : 0 ≤ xs.getD ((i).toNat) 0 ∧ xs.getD ((i).toNat) 0 < 256 := hx8.at_ _
      refine RunU.sl hU 13 (bm 20 16383) 30 (.int .i64 k) ?_
      refine RunU.sil hU false 14 (bm 20 32767) 31 (.pointer (some ⟨b2, 0 + (k).toNat * 1, none⟩)) (0 ≤ k ∧ k < ((32 : Nat) : Int)) (by kernel_rfl) (by omega) (by kernel_rfl) (by kernel_rfl) (fun _ _ _ h => h) ?_
      refine RunU.rd 15 (bm 20 65535) 32 (.load 3 (.tmp 31)) (.int .i64 (ys.getD ((k).toNat) 0)) [0, 3, 2] (Reads.load_blknum hU 2 b2 (0 + (k).toNat * 1) 92 ((k).toNat) .i64 ys rfl (by kernel_rfl) (by kernel_rfl) (by omega) (by omega)) ?_
      have hb11 : 0 ≤ ys.getD ((k).toNat) 0 ∧ ys.getD ((k).toNat) 0 < 256 := hy8.at_ _
      have hm12 := mul_bd8 (a := (xs.getD ((i).toNat) 0)) (b := (ys.getD ((k).toNat) 0)) (by omega) (by omega)
      refine RunU.sil hU true 16 (bm 20 131071) 33 (.int .i64 ((xs.getD ((i).toNat) 0) * (ys.getD ((k).toNat) 0))) (-9223372036854775808 ≤ ((xs.getD ((i).toNat) 0) * (ys.getD ((k).toNat) 0)) ∧ ((xs.getD ((i).toNat) 0) * (ys.getD ((k).toNat) 0)) < 9223372036854775808) (by kernel_rfl) (by omega) (by kernel_rfl) (by kernel_rfl) (fun _ _ _ h => h) ?_
      refine RunU.sil hU true 17 (bm 20 262143) 34 (.int .i64 ((ts.getD (i + k).toNat 0) + ((xs.getD ((i).toNat) 0) * (ys.getD ((k).toNat) 0)))) (-9223372036854775808 ≤ ((ts.getD (i + k).toNat 0) + ((xs.getD ((i).toNat) 0) * (ys.getD ((k).toNat) 0))) ∧ ((ts.getD (i + k).toNat 0) + ((xs.getD ((i).toNat) 0) * (ys.getD ((k).toNat) 0))) < 9223372036854775808) (by kernel_rfl) (by omega) (by kernel_rfl) (by kernel_rfl) (fun _ _ _ h => h) ?_
      refine RunU.sil hU false 18 (bm 20 524287) 35 (.pointer (elemAt (some ⟨b5, 0, none⟩) (i + k) 1)) ((0 ≤ (i + k) ∧ (i + k) < ((63 : Nat) : Int)) ∧ Option.isSome (some ⟨b5, 0, none⟩ : Option Addr) = true) (by kernel_rfl) ⟨by omega, rfl⟩ (by kernel_rfl) (by kernel_rfl) (fun _ _ _ h => h) ?_
      refine RunU.on none (.store 3 (.tmp 35) (.tmp 34)) 19 (bm 20 1048575) [] (Step.store_num hU 0 3 63 63 (some ⟨b5, 0, none⟩) .i64 ts (i + k) ((ts.getD (i + k).toNat 0) + ((xs.getD ((i).toNat) 0) * (ys.getD ((k).toNat) 0))) (by kernel_rfl) (by kernel_rfl) (by kernel_rfl) rfl (by omega) ?_)
      have hl13 : (ts.set (i + k).toNat ((ts.getD (i + k).toNat 0) + ((xs.getD ((i).toNat) 0) * (ys.getD ((k).toNat) 0)))).length = ts.length := List.length_set
      refine orR ?_
      refine RunU.ev [2, 3, 4, 5, 6, 7] [(2, pt b1), (3, pt b2), (4, pt b3), (5, .slice (some ⟨b5, 0, none⟩) 63 63), (6, .int .i64 i), (7, .int .i64 k)] ?_
      refine RunU.dn ?_
      refine kblock_n ?_
      refine kseq_n ?_
      refine RunC.region ?_
      refine RunR.sil hU [1] 3 3 [2, 3, 4, 5, 6, 7] [(2, pt b1), (3, pt b2), (4, pt b3), (5, .slice (some ⟨b5, 0, none⟩) 63 63), (6, .int .i64 i), (7, .int .i64 (k + 1))] ((True) ∧ (-9223372036854775808 ≤ (k + 1) ∧ (k + 1) < 9223372036854775808) ∧ (True) ∧ True) rfl (by kernel_rfl) ⟨trivial, (by omega), trivial, trivial⟩ ?_
      refine RunR.dn ?_
      refine kloop_n _ [2, 3, 4, 5, 6, 7] [0, 0, 0, 0] [(2, pt b1), (3, pt b2), (4, pt b3), (5, .slice (some ⟨b5, 0, none⟩) 63 63), (6, .int .i64 i), (7, .int .i64 (k + 1))] [row 3 1 (.slice (some ⟨b5, 0, none⟩) 63 63) 63 (nums .i64 (ts.set (i + k).toNat ((ts.getD (i + k).toNat 0) + ((xs.getD ((i).toNat) 0) * (ys.getD ((k).toNat) 0))))), blk b3 92 (nums .i64 (List.replicate 32 (0 : Int))), blk b2 92 (nums .i64 ys), blk b1 92 (nums .i64 xs)] (by kernel_rfl) (by kernel_rfl) ?_ ⟨(k + 1), (ts.set (i + k).toNat ((ts.getD (i + k).toNat 0) + ((xs.getD ((i).toNat) 0) * (ys.getD ((k).toNat) 0)))), (by omega), (by assumption), (by rw [show 32 * i.toNat + (k + 1).toNat = 32 * i.toNat + k.toNat + 1 by omega]; exact hC2.set _ (by assumption)), (by (refine CB.bnd (m := 32 * i.toNat + k.toNat + 1) ?_ (by omega)); exact hC2.set _ (by assumption)), (by rw [show (i + k).toNat = i.toNat + k.toNat by omega, show (k + 1).toNat = k.toNat + 1 by omega]; exact conv_step (by omega) (by omega) htl hv2), (by rw [List.length_set]; exact htl), rfl, (by rfl), (by rfl)⟩
      show ((32 - (k + 1)).toNat : Nat) < ((32 - k).toNat : Nat)
      omega
    · skip
      refine RunC.exit ?_
      refine kseq_e ?_
      refine kloop_e ?_
      refine kblock_e ?_
      refine kblock_n ?_
      refine kseq_n ?_
      refine RunC.region ?_
      refine RunR.sil hU [1] 3 3 [2, 3, 4, 5, 6] [(2, pt b1), (3, pt b2), (4, pt b3), (5, .slice (some ⟨b5, 0, none⟩) 63 63), (6, .int .i64 (i + 1))] ((True) ∧ (-9223372036854775808 ≤ (i + 1) ∧ (i + 1) < 9223372036854775808) ∧ (True) ∧ True) rfl (by kernel_rfl) ⟨trivial, (by omega), trivial, trivial⟩ ?_
      refine RunR.dn ?_
      refine kloop_n _ [2, 3, 4, 5, 6] [0, 0, 0, 0] [(2, pt b1), (3, pt b2), (4, pt b3), (5, .slice (some ⟨b5, 0, none⟩) 63 63), (6, .int .i64 (i + 1))] [row 3 1 (.slice (some ⟨b5, 0, none⟩) 63 63) 63 (nums .i64 ts), blk b3 92 (nums .i64 (List.replicate 32 (0 : Int))), blk b2 92 (nums .i64 ys), blk b1 92 (nums .i64 xs)] (by kernel_rfl) (by kernel_rfl) ?_ ⟨(i + 1), ts, (by omega), (by assumption), (by rw [show 32 * (i + 1).toNat = 32 * i.toNat + k.toNat by omega]; exact hC2), (by rw [show (i + 1).toNat = i.toNat + 1 by omega]; exact conv_row hY.val (by rw [hv2, show k = 32 by omega] <;> rfl)), hx8, hy8, (by exact hC2.len), rfl, (by rfl), (by rfl)⟩
      show ((32 - (i + 1)).toNat : Nat) < ((32 - i).toNat : Nat)
      omega
  · skip
    refine RunC.exit ?_
    refine kseq_e ?_
    refine kloop_e ?_
    refine kblock_e ?_
    refine kseq_n ?_
    refine RunC.sr ?_
    refine RunR.sl hU [] 1 1 [4, 36] [(4, pt b3), (36, .slice (some ⟨b5, 0, none⟩) 63 63)] 1 ?_
    refine RunR.st (some 37) (.call { callee := .value (.func 100), args := #[.tmp 36], argTypes := #[22] }) (Step.cn 100 [.slice (some ⟨b5, 0, none⟩) 63 63] [row 3 1 (.slice (some ⟨b5, 0, none⟩) 63 63) 63 (nums .i64 ss)] [blk b3 92 (nums .i64 (List.replicate 32 (0 : Int))), blk b2 92 (nums .i64 ys), blk b1 92 (nums .i64 xs)] (n_fold_spec (some ⟨b5, 0, none⟩) 63 ss 63 (by rw [show 32 * i.toNat = 1024 by omega] at hC; exact hC.fb) (by omega) (fun _ => rfl) (by assumption)) [0] ?_)
    rintro _ _ ⟨zs14, z15, rfl, rfl, hp16, hp17, hp18⟩
    refine RunR.st (some 38) (.call { callee := .value (.func 83), args := #[.tmp 37], argTypes := #[92] }) (Step.cn 83 [ag .i64 zs14] [] [blk b3 92 (nums .i64 (List.replicate 32 (0 : Int))), blk b2 92 (nums .i64 ys), blk b1 92 (nums .i64 xs)] (n_Rest_spec zs14 z15 (by assumption) (by assumption)) [] ?_)
    rintro _ _ ⟨zs19, rfl, rfl, hp20, hp21⟩
    refine RunR.st none (.store 92 (.tmp 4) (.tmp 38)) (Step.store_arr hU 0 b3 92 32 .i64 (List.replicate 32 (0 : Int)) zs19 (by kernel_rfl) (by kernel_rfl) (by kernel_rfl) (by kernel_rfl) (by rfl) (by omega) ?_)
    refine RunR.nn ?_
    refine RunC.ret ?_
    refine kret_r [ag .i64 zs19] [] [] ⟨⟨0, b3, 0, 92, nums .i64 zs19, rfl, rfl, (loadv_arr (U := U) (n := 32) (by kernel_rfl) (by kernel_rfl) (by omega))⟩, trivial⟩ (by kernel_rfl) rfl ⟨zs19, rfl, rfl, (by exact Dg.cong (by assumption) (by assumption) (by rw [hsl, hv, show i.toNat = 32 by omega, hX.val])), (by assumption)⟩

theorem n_From_spec (A : Option Addr) (cb : Nat) (bs : List Int) (l_bs : Nat) (hB8 : In .u8 bs) (hbl : bs.length ≤ 140737488351232) (hl_bs : bs.length = l_bs) :
    CallsS Try.prog 61 [.slice A l_bs cb] [vw A (nums .u8 bs)] (fun r D => ∃ (zs : List Int), r = ag .i64 zs ∧ D = [] ∧ (Dg zs (fromV bs % P)) ∧ (zs.length = 32)) := by
  subst hl_bs
  refine CallsS.enter hU Try.f61 _ [.cell 2 92] 28 Try.func61 rfl (by decide) rfl rfl (by kernel_rfl) fun w0 W => ?_
  refine RunC.know (p := 0 < bs.length → Option.isSome A = true) (fun _ _ w hs => vw_some hs 0 rfl (by (simp [nums_length]; done))) (fun hA1 => ?_)
  refine RunC.sr ?_
  refine RunR.st (some 2) (.alloc 92) (Step.al hU 32 256 z32 (fun b2 => ?_))
  have hl3 : (List.replicate 32 (0 : Int)).length = 32 := List.length_replicate
  refine RunR.nx ?_
  refine RunR.st (some 3) (.alloc 92) (Step.al hU 32 256 z32 (fun b4 => ?_))
  have hl5 : (List.replicate 32 (0 : Int)).length = 32 := List.length_replicate
  refine RunR.nn ?_
  refine RunC.seq ?_
  refine RunC.sr ?_
  refine RunR.sl hU [] 1 1 [0, 2, 3, 4] [(0, .slice A bs.length cb), (2, pt b2), (3, pt b4), (4, .int .i64 0)] 1 ?_
  refine RunR.nn ?_
  refine RunC.block ?_
  refine RunC.env [0, 2, 3, 4] [(0, .slice A bs.length cb), (2, pt b2), (3, pt b4), (4, .int .i64 0)] (by kernel_rfl) ?_
  refine RunC.only [0, 0, 0] [blk b4 92 (nums .i64 (List.replicate 32 (0 : Int))), blk b2 92 (nums .i64 (List.replicate 32 (0 : Int))), vw A (nums .u8 bs)] (by kernel_rfl) ?_
  refine RunC.loop (σ := Nat) (fun n_ t_ D_ => ∃ (i : Int) (os : List Int), (0 ≤ i) ∧ (i ≤ 32) ∧ (i ≤ (bs.length : Int)) ∧ (os = mapP (fun i => bs.getD i 0) (List.replicate 32 0) i.toNat) ∧ (In .u8 os) ∧ (os.length = 32) ∧ n_ = ((32 - i).toNat : Nat) ∧ t_ = [(0, .slice A bs.length cb), (2, pt b2), (3, pt b4), (4, .int .i64 i)] ∧ D_ = [blk b4 92 (nums .i64 os), blk b2 92 (nums .i64 (List.replicate 32 (0 : Int))), vw A (nums .u8 bs)]) id _ ⟨0, (List.replicate 32 (0 : Int)), (by omega), (by omega), (by omega), (by rfl), (by (repeat with_reducible exact In.replicate _ _)), (by rfl), rfl, rfl, rfl⟩ ?_
  rintro n_ _ _ ⟨i, os, hi, hi2, hib, ho, hoi, hol, rfl, rfl, rfl⟩
  refine RunC.seq ?_
  refine RunC.sr ?_
  refine RunR.sl hU [] 3 3 [0, 2, 3, 4, 7] [(0, .slice A bs.length cb), (2, pt b2), (3, pt b4), (4, .int .i64 i), (7, .bool (decide (i < 32)))] 3 ?_
  refine RunR.ev [0, 2, 3, 4, 7] [(0, .slice A bs.length cb), (2, pt b2), (3, pt b4), (4, .int .i64 i), (7, .bool (decide (i < 32)))] ?_
  by_cases h6 : i < 32
  · skip
    refine RunR.enveq [(0, .slice A bs.length cb), (2, pt b2), (3, pt b4), (4, .int .i64 i), (7, .bool true)] (by rw [decide_eq_true h6]; try rfl) ?_
    refine RunR.sl hU [] 5 8 [0, 2, 3, 4, 12] [(0, .slice A bs.length cb), (2, pt b2), (3, pt b4), (4, .int .i64 i), (12, .bool (decide (i < ((bs.length : Nat) : Int))))] 5 ?_
    refine RunR.nn ?_
    refine RunC.condp (i < ((bs.length : Nat) : Int)) (by kernel_rfl) (fun h7 => ?_) (fun h7 => ?_)
    · skip
      refine RunC.ks ?_
      refine RunC.seq ?_
      refine RunC.block ?_
      refine RunC.region ?_
      refine RunR.sil hU [] 4 4 [0, 2, 3, 4, 15, 18] [(0, .slice A bs.length cb), (2, pt b2), (3, pt b4), (4, .int .i64 i), (15, .int .i64 i), (18, .pointer (elemAt A i 1))] ((True) ∧ (True) ∧ (True) ∧ ((0 ≤ i ∧ i < ((bs.length : Nat) : Int)) ∧ Option.isSome A = true) ∧ True) rfl (by kernel_rfl) ⟨trivial, trivial, trivial, ⟨by omega, hA1 (by omega)⟩, trivial⟩ ?_
      refine RunR.st (some 19) (.load 5 (.tmp 18)) (Step.load_num hU 2 (vw A (nums .u8 bs)) A i .u8 bs rfl (by kernel_rfl) (by kernel_rfl) (tells_vw _ _) (by kernel_rfl) (by omega) ?_)
      have hb8 : 0 ≤ bs.getD ((i).toNat) 0 ∧ bs.getD ((i).toNat) 0 < 256 := hB8.at_ _
      refine RunR.sil hU [5] 2 7 [0, 2, 3, 4, 20, 21] [(0, .slice A bs.length cb), (2, pt b2), (3, pt b4), (4, .int .i64 i), (20, .int .i64 (bs.getD (i).toNat 0)), (21, .pointer (some ⟨b4, 0 + (i).toNat * 1, none⟩))] ((-9223372036854775808 ≤ (bs.getD (i).toNat 0) ∧ (bs.getD (i).toNat 0) < 9223372036854775808) ∧ (0 ≤ i ∧ i < ((32 : Nat) : Int)) ∧ True) rfl (by kernel_rfl) ⟨(by omega), (by omega), trivial⟩ ?_
      refine RunR.st none (.store 3 (.tmp 21) (.tmp 20)) (Step.store_blknum hU 0 b4 (0 + (i).toNat * 1) 92 ((i).toNat) .i64 os (bs.getD (i).toNat 0) (by kernel_rfl) (by kernel_rfl) (by kernel_rfl) rfl (by omega) (by omega) ?_)
      have hl9 : (os.set ((i).toNat) (bs.getD (i).toNat 0)).length = os.length := List.length_set
      refine RunR.dn ?_
      refine kblock_n ?_
      refine kseq_n ?_
      refine RunC.region ?_
      refine RunR.sil hU [1] 3 3 [0, 2, 3, 4] [(0, .slice A bs.length cb), (2, pt b2), (3, pt b4), (4, .int .i64 (i + 1))] ((True) ∧ (-9223372036854775808 ≤ (i + 1) ∧ (i + 1) < 9223372036854775808) ∧ (True) ∧ True) rfl (by kernel_rfl) ⟨trivial, (by omega), trivial, trivial⟩ ?_
      refine RunR.dn ?_
      refine kloop_n _ [0, 2, 3, 4] [0, 0, 0] [(0, .slice A bs.length cb), (2, pt b2), (3, pt b4), (4, .int .i64 (i + 1))] [blk b4 92 (nums .i64 (os.set ((i).toNat) (bs.getD (i).toNat 0))), blk b2 92 (nums .i64 (List.replicate 32 (0 : Int))), vw A (nums .u8 bs)] (by kernel_rfl) (by kernel_rfl) ?_ ⟨(i + 1), (os.set ((i).toNat) (bs.getD (i).toNat 0)), (by omega), (by assumption), (by assumption), (by rw [ho, show (i + 1).toNat = i.toNat + 1 by omega]; exact mapP_step (fun i => bs.getD i 0) _ _ (by simp; omega)), (by exact In.set hoi _ (by simp only [fits]; omega)), (by rw [List.length_set]; exact hol), rfl, (by rfl), (by rfl)⟩
      show ((32 - (i + 1)).toNat : Nat) < ((32 - i).toNat : Nat)
      omega
    · skip
      refine RunC.exit ?_
      refine kseq_e ?_
      refine kloop_e ?_
      refine kblock_e ?_
      refine kseq_n ?_
      refine RunC.sr ?_
      refine RunR.sil hU [] 1 1 [2, 3, 22] [(2, pt b2), (3, pt b4), (22, .pointer (some ⟨b4, 31, none⟩))] ((0 ≤ (31 : Int) ∧ (31 : Int) < ((32 : Nat) : Int)) ∧ True) rfl (by kernel_rfl) ⟨(by omega), trivial⟩ ?_
      refine RunR.st (some 23) (.load 3 (.tmp 22)) (Step.load_blknum hU 0 b4 (31) 92 31 .i64 os rfl (by kernel_rfl) (by kernel_rfl) (by kernel_rfl) (by omega) (by omega) ?_)
      have hb10 : 0 ≤ os.getD 31 0 ∧ os.getD 31 0 < 256 := hoi.at_ _
      refine RunR.sil hU [2] 2 4 [2, 3, 24, 25] [(2, pt b2), (3, pt b4), (24, .int .i64 ((os.getD 31 0) % (128 : Int))), (25, .pointer (some ⟨b4, 31, none⟩))] ((0 ≤ (os.getD 31 0) ∧ 0 < (128 : Int)) ∧ (0 ≤ (31 : Int) ∧ (31 : Int) < ((32 : Nat) : Int)) ∧ True) rfl (by kernel_rfl) ⟨(by omega), (by omega), trivial⟩ ?_
      refine RunR.st none (.store 3 (.tmp 25) (.tmp 24)) (Step.store_blknum hU 0 b4 (31) 92 31 .i64 os ((os.getD 31 0) % (128 : Int)) (by kernel_rfl) (by kernel_rfl) (by kernel_rfl) rfl (by omega) (by omega) ?_)
      have hl11 : (os.set 31 ((os.getD 31 0) % (128 : Int))).length = os.length := List.length_set
      refine RunR.nx ?_
      refine RunR.st (some 26) (.load 92 (.tmp 3)) (Step.load_arr hU 0 b4 92 32 .i64 (os.set 31 ((os.getD 31 0) % (128 : Int))) (by kernel_rfl) (by kernel_rfl) (by kernel_rfl) (by kernel_rfl) (by omega) (by kernel_rfl) ?_)
      refine RunR.st (some 27) (.call { callee := .value (.func 83), args := #[.tmp 26], argTypes := #[92] }) (Step.cn 83 [.agg (nums .i64 (os.set 31 ((os.getD 31 0) % (128 : Int)))).toArray] [] [blk b4 92 (nums .i64 (os.set 31 ((os.getD 31 0) % (128 : Int)))), blk b2 92 (nums .i64 (List.replicate 32 (0 : Int))), vw A (nums .u8 bs)] (n_Rest_spec (os.set 31 ((os.getD 31 0) % (128 : Int))) (fromV bs) (by exact from_dg hB8 (from_all (by omega) (by omega) ho)) (by omega)) [] ?_)
      rintro _ _ ⟨zs12, rfl, rfl, hp13, hp14⟩
      refine RunR.st none (.store 92 (.tmp 2) (.tmp 27)) (Step.store_arr hU 1 b2 92 32 .i64 (List.replicate 32 (0 : Int)) zs12 (by kernel_rfl) (by kernel_rfl) (by kernel_rfl) (by kernel_rfl) (by rfl) (by omega) ?_)
      refine RunR.nn ?_
      refine RunC.ret ?_
      refine kret_r [ag .i64 zs12] [] [] ⟨⟨0, b2, 0, 92, nums .i64 zs12, rfl, rfl, (loadv_arr (U := U) (n := 32) (by kernel_rfl) (by kernel_rfl) (by omega))⟩, trivial⟩ (by kernel_rfl) rfl ⟨zs12, rfl, rfl, (by assumption), (by assumption)⟩
  · skip
    refine RunR.enveq [(0, .slice A bs.length cb), (2, pt b2), (3, pt b4), (4, .int .i64 i), (7, .bool false)] (by rw [decide_eq_false h6]; try rfl) ?_
    refine RunR.sl hU [] 5 8 [0, 2, 3, 4, 12] [(0, .slice A bs.length cb), (2, pt b2), (3, pt b4), (4, .int .i64 i), (12, .bool false)] 1 ?_
    refine RunR.nn ?_
    refine RunC.cond (b := false) (by kernel_rfl) (fun h => by cases h) (fun _ => ?_)
    refine RunC.exit ?_
    refine kseq_e ?_
    refine kloop_e ?_
    refine kblock_e ?_
    refine kseq_n ?_
    refine RunC.sr ?_
    refine RunR.sil hU [] 1 1 [2, 3, 22] [(2, pt b2), (3, pt b4), (22, .pointer (some ⟨b4, 31, none⟩))] ((0 ≤ (31 : Int) ∧ (31 : Int) < ((32 : Nat) : Int)) ∧ True) rfl (by kernel_rfl) ⟨(by omega), trivial⟩ ?_
    refine RunR.st (some 23) (.load 3 (.tmp 22)) (Step.load_blknum hU 0 b4 (31) 92 31 .i64 os rfl (by kernel_rfl) (by kernel_rfl) (by kernel_rfl) (by omega) (by omega) ?_)
    have hb15 : 0 ≤ os.getD 31 0 ∧ os.getD 31 0 < 256 := hoi.at_ _
    refine RunR.sil hU [2] 2 4 [2, 3, 24, 25] [(2, pt b2), (3, pt b4), (24, .int .i64 ((os.getD 31 0) % (128 : Int))), (25, .pointer (some ⟨b4, 31, none⟩))] ((0 ≤ (os.getD 31 0) ∧ 0 < (128 : Int)) ∧ (0 ≤ (31 : Int) ∧ (31 : Int) < ((32 : Nat) : Int)) ∧ True) rfl (by kernel_rfl) ⟨(by omega), (by omega), trivial⟩ ?_
    refine RunR.st none (.store 3 (.tmp 25) (.tmp 24)) (Step.store_blknum hU 0 b4 (31) 92 31 .i64 os ((os.getD 31 0) % (128 : Int)) (by kernel_rfl) (by kernel_rfl) (by kernel_rfl) rfl (by omega) (by omega) ?_)
    have hl16 : (os.set 31 ((os.getD 31 0) % (128 : Int))).length = os.length := List.length_set
    refine RunR.nx ?_
    refine RunR.st (some 26) (.load 92 (.tmp 3)) (Step.load_arr hU 0 b4 92 32 .i64 (os.set 31 ((os.getD 31 0) % (128 : Int))) (by kernel_rfl) (by kernel_rfl) (by kernel_rfl) (by kernel_rfl) (by omega) (by kernel_rfl) ?_)
    refine RunR.st (some 27) (.call { callee := .value (.func 83), args := #[.tmp 26], argTypes := #[92] }) (Step.cn 83 [.agg (nums .i64 (os.set 31 ((os.getD 31 0) % (128 : Int)))).toArray] [] [blk b4 92 (nums .i64 (os.set 31 ((os.getD 31 0) % (128 : Int)))), blk b2 92 (nums .i64 (List.replicate 32 (0 : Int))), vw A (nums .u8 bs)] (n_Rest_spec (os.set 31 ((os.getD 31 0) % (128 : Int))) (fromV bs) (by exact from_dg hB8 (from_all (by omega) (by omega) ho)) (by omega)) [] ?_)
    rintro _ _ ⟨zs17, rfl, rfl, hp18, hp19⟩
    refine RunR.st none (.store 92 (.tmp 2) (.tmp 27)) (Step.store_arr hU 1 b2 92 32 .i64 (List.replicate 32 (0 : Int)) zs17 (by kernel_rfl) (by kernel_rfl) (by kernel_rfl) (by kernel_rfl) (by rfl) (by omega) ?_)
    refine RunR.nn ?_
    refine RunC.ret ?_
    refine kret_r [ag .i64 zs17] [] [] ⟨⟨0, b2, 0, 92, nums .i64 zs17, rfl, rfl, (loadv_arr (U := U) (n := 32) (by kernel_rfl) (by kernel_rfl) (by omega))⟩, trivial⟩ (by kernel_rfl) rfl ⟨zs17, rfl, rfl, (by assumption), (by assumption)⟩

theorem n_Bytes_spec (xs : List Int) (x : Int) (hX : Dg xs x) (hlx : xs.length = 32) :
    CallsS Try.prog 63 [ag .i64 xs] [] (fun r D => ∃ (A : Option Addr) (cb : Nat) (zs : List Int), r = .slice A zs.length cb ∧ D = [row 5 1 (.slice A zs.length cb) zs.length (nums .u8 zs)] ∧ (Dg zs x) ∧ (zs.length = 32) ∧ (In .u8 zs) ∧ (zs.length ≤ cb) ∧ (0 < zs.length → Option.isSome A = true)) := by
  refine CallsS.enter hU Try.f63 _ [.tmp 2] 17 Try.func63 rfl (by decide) rfl rfl (by kernel_rfl) fun w0 W => ?_
  refine RunC.sr ?_
  refine RunR.st (some 1) (.box 92 (.tmp 0)) (Step.box (ag .i64 xs) (by kernel_rfl) (by kernel_rfl) (fun b1 => ?_))
  refine RunR.sl hU [] 1 2 [1, 2] [(1, pt b1), (2, .slice none 0 0)] 1 ?_
  refine RunR.nx ?_
  refine RunR.sl hU [] 1 1 [1, 2, 3] [(1, pt b1), (2, .slice none 0 0), (3, .slice none 0 0)] 1 ?_
  refine RunR.nn ?_
  refine RunC.seq ?_
  refine RunC.sr ?_
  refine RunR.sl hU [] 1 1 [1, 2, 3, 4] [(1, pt b1), (2, .slice none 0 0), (3, .slice none 0 0), (4, .int .i64 0)] 1 ?_
  refine RunR.nn ?_
  refine RunC.block ?_
  refine RunC.turn ([row 5 1 (.slice none 0 0) 0 (nums .u8 ([] : List Int)), blk b1 92 (nums .i64 xs)]) (fun _ _ w hs => hs.nil_row 5 1) ?_
  refine RunC.env [1, 2, 3, 4] [(1, pt b1), (2, .slice none 0 0), (3, .slice none 0 0), (4, .int .i64 0)] (by kernel_rfl) ?_
  refine RunC.only [0, 0] [row 5 1 (.slice none 0 0) 0 (nums .u8 ([] : List Int)), blk b1 92 (nums .i64 xs)] (by kernel_rfl) ?_
  refine RunC.loop (σ := Nat) (fun n_ t_ D_ => ∃ (i : Int) (A : Option Addr) (cp : Nat) (ss : List Int), (0 ≤ i) ∧ (i ≤ 32) ∧ (ss = xs.take i.toNat) ∧ (ss.length = i.toNat) ∧ (In .u8 xs) ∧ (In .u8 ss) ∧ (ss.length ≤ cp) ∧ (0 < ss.length → Option.isSome A = true) ∧ n_ = ((32 - i).toNat : Nat) ∧ t_ = [(1, pt b1), (2, .slice none 0 0), (3, .slice A ss.length cp), (4, .int .i64 i)] ∧ D_ = [row 5 1 (.slice A ss.length cp) ss.length (nums .u8 ss), blk b1 92 (nums .i64 xs)]) id _ ⟨0, none, 0, ([] : List Int), (by omega), (by omega), (by simp), (by rfl), (by exact hX.inn), (by exact In.nil _), (by exact Nat.le_refl _), (by intro h; simp at h), rfl, rfl, rfl⟩ ?_
  rintro n_ _ _ ⟨i, A, cp, ss, hi, hi2, hs, hsl, hx8, hs8, hc_ss, hA_ss, rfl, rfl, rfl⟩
  refine RunC.seq ?_
  refine RunC.sr ?_
  refine RunR.sl hU [] 2 2 [1, 2, 3, 4, 6] [(1, pt b1), (2, .slice none 0 0), (3, .slice A ss.length cp), (4, .int .i64 i), (6, .bool (decide (i < 32)))] 2 ?_
  refine RunR.nn ?_
  refine RunC.condp (i < 32) (by kernel_rfl) (fun h2 => ?_) (fun h2 => ?_)
  · skip
    refine RunC.ks ?_
    refine RunC.seq ?_
    refine RunC.block ?_
    refine RunC.region ?_
    refine RunR.sil hU [] 3 3 [1, 2, 3, 4, 9, 11] [(1, pt b1), (2, .slice none 0 0), (3, .slice A ss.length cp), (4, .int .i64 i), (9, .slice A ss.length cp), (11, .pointer (some ⟨b1, 0 + (i).toNat * 1, none⟩))] ((True) ∧ (True) ∧ (0 ≤ i ∧ i < ((32 : Nat) : Int)) ∧ True) rfl (by kernel_rfl) ⟨trivial, trivial, (by omega), trivial⟩ ?_
    refine RunR.st (some 12) (.load 3 (.tmp 11)) (Step.load_blknum hU 1 b1 (0 + (i).toNat * 1) 92 ((i).toNat) .i64 xs rfl (by kernel_rfl) (by kernel_rfl) (by kernel_rfl) (by omega) (by omega) ?_)
    have hb3 : 0 ≤ xs.getD ((i).toNat) 0 ∧ xs.getD ((i).toNat) 0 < 256 := hx8.at_ _
    refine RunR.sl hU [] 1 5 [1, 2, 3, 4, 9, 13] [(1, pt b1), (2, .slice none 0 0), (3, .slice A ss.length cp), (4, .int .i64 i), (9, .slice A ss.length cp), (13, .int .u8 (IntKind.wrap .u8 (xs.getD ((i).toNat) 0)))] 1 ?_
    refine RunR.st (some 14) (.buildSlice 23 1 #[(0, .tmp 13)]) (Step.lit_nums hU 5 1 .u8 (.int .u8 0) ([IntKind.wrap .u8 (xs.getD ((i).toNat) 0)] : List Int) rfl rfl (by kernel_rfl) rfl rfl (by kernel_rfl) (fun b4 => ?_))
    have hl5 : (([IntKind.wrap .u8 (xs.getD ((i).toNat) 0)] : List Int)).length = 1 := rfl
    have hl10 : (([IntKind.wrap .u8 (xs.getD ((i).toNat) 0)] : List Int)).length = 1 := rfl
    refine RunR.st (some 15) (.call { callee := .builtin .append, args := #[.tmp 9, .tmp 14], argTypes := #[23, 23] }) (Step.append_nums hU 5 1 (.int .u8 0) .u8 1 0 A ss.length cp ss (some ⟨b4, 0, none⟩) 1 1 (row 5 1 (.slice (some ⟨b4, 0, none⟩) 1 1) 1 (nums .u8 ([IntKind.wrap .u8 (xs.getD ((i).toNat) 0)] : List Int))) ([IntKind.wrap .u8 (xs.getD ((i).toNat) 0)] : List Int) rfl rfl rfl (by kernel_rfl) (by kernel_rfl) (by kernel_rfl) (by kernel_rfl) (tells_row _ _ _ _ _ _) (by rfl) (by rfl) (by omega) (by omega) (by kernel_rfl) (fun Aq6 cq7 hc8 hA9 => ?_))
    have hl11 : (ss ++ ([IntKind.wrap .u8 (xs.getD ((i).toNat) 0)] : List Int)).length = ss.length + ([IntKind.wrap .u8 (xs.getD ((i).toNat) 0)] : List Int).length := List.length_append
    simp only [List.length_cons, List.length_nil] at hl11
    refine RunR.sl hU [] 1 8 [1, 2, 3, 4] [(1, pt b1), (2, .slice none 0 0), (3, .slice Aq6 ((ss ++ ([IntKind.wrap .u8 (xs.getD ((i).toNat) 0)] : List Int)).length) cq7), (4, .int .i64 i)] 1 ?_
    refine RunR.dn ?_
    refine kblock_n ?_
    refine kseq_n ?_
    refine RunC.region ?_
    refine RunR.sil hU [1] 3 3 [1, 2, 3, 4] [(1, pt b1), (2, .slice none 0 0), (3, .slice Aq6 ((ss ++ ([IntKind.wrap .u8 (xs.getD ((i).toNat) 0)] : List Int)).length) cq7), (4, .int .i64 (i + 1))] ((True) ∧ (-9223372036854775808 ≤ (i + 1) ∧ (i + 1) < 9223372036854775808) ∧ (True) ∧ True) rfl (by kernel_rfl) ⟨trivial, (by omega), trivial, trivial⟩ ?_
    refine RunR.dn ?_
    refine kloop_n _ [1, 2, 3, 4] [0, 1] [(1, pt b1), (2, .slice none 0 0), (3, .slice Aq6 ((ss ++ ([IntKind.wrap .u8 (xs.getD ((i).toNat) 0)] : List Int)).length) cq7), (4, .int .i64 (i + 1))] [row 5 1 (.slice Aq6 ((ss ++ ([IntKind.wrap .u8 (xs.getD ((i).toNat) 0)] : List Int)).length) cq7) ((ss ++ ([IntKind.wrap .u8 (xs.getD ((i).toNat) 0)] : List Int)).length) (nums .u8 (ss ++ ([IntKind.wrap .u8 (xs.getD ((i).toNat) 0)] : List Int))), blk b1 92 (nums .i64 xs)] (by kernel_rfl) (by kernel_rfl) ?_ ⟨(i + 1), Aq6, cq7, (ss ++ ([IntKind.wrap .u8 (xs.getD ((i).toNat) 0)] : List Int)), (by omega), (by assumption), (by rw [hs, show (i + 1).toNat = i.toNat + 1 by omega]; exact bytes_step hX (by omega)), (by rw [List.length_append]; simp only [List.length_cons, List.length_nil]; omega), hx8, (by (repeat first | assumption | with_reducible first | exact fits_wrap _ _ | exact In.nil _ | apply In.append | apply In.cons)), (by assumption), (fun h => hA9 (by exact h)), rfl, (by rfl), (by rfl)⟩
    show ((32 - (i + 1)).toNat : Nat) < ((32 - i).toNat : Nat)
    omega
  · skip
    refine RunC.exit ?_
    refine kseq_e ?_
    refine kloop_e ?_
    refine kblock_e ?_
    refine kseq_n ?_
    refine RunC.sr ?_
    refine RunR.sl hU [] 2 2 [2] [(2, .slice A ss.length cp)] 2 ?_
    refine RunR.nn ?_
    refine RunC.ret ?_
    refine kret_r [.slice A ss.length cp] [0] [row 5 1 (.slice A ss.length cp) ss.length (nums .u8 ss)] ⟨rfl, trivial⟩ (by kernel_rfl) rfl ⟨A, cp, ss, rfl, rfl, (by rw [hs, List.take_of_length_le (by omega)]; exact hX), (by omega), (by exact hs8), (by assumption), (by assumption)⟩
end Go.Proofs.Ytaaplakahkgclaa.Y5
