/- What these functions compute: a contract for each, walked through its code. -/
import Derived.Test.YtaaplakahkgclaaSLzh
import Derived.Test.YtaaplakahkgclaaKPure
import Derived.Test.YtaaplakahkgclaaProg
import Derived.Test.YtaaplakahkgclaaX1
import Derived.Test.YtaaplakahkgclaaX2
import Derived.Test.YtaaplakahkgclaaX3
import Derived.Test.YtaaplakahkgclaaX4
import Derived.Test.YtaaplakahkgclaaX5
import Derived.Test.YtaaplakahkgclaaX6
import Derived.Test.YtaaplakahkgclaaX7
import Derived.Test.YtaaplakahkgclaaX8
import Derived.Test.YtaaplakahkgclaaX9
import Derived.Test.YtaaplakahkgclaaY1
import Derived.Test.YtaaplakahkgclaaY2
import Derived.Test.YtaaplakahkgclaaY3
import Derived.Test.YtaaplakahkgclaaY4
import Derived.Test.YtaaplakahkgclaaY5
import Derived.Test.YtaaplakahkgclaaY6
import Derived.Test.YtaaplakahkgclaaZ1
import Derived.Test.YtaaplakahkgclaaZ2
import Derived.Test.YtaaplakahkgclaaZ3
import Derived.Test.YtaaplakahkgclaaZ4
import Derived.Test.YtaaplakahkgclaaZ5
namespace Go.Proofs.Ytaaplakahkgclaa.Z6
open Go Go.Proofs.Ytaaplakahkgclaa.SL Go.Proofs.Ytaaplakahkgclaa.SL.W Go.Proofs.Ytaaplakahkgclaa.SL.F Go.Proofs.Ytaaplakahkgclaa.SL.N Go.Proofs.Ytaaplakahkgclaa.SL.E Go.Proofs.Ytaaplakahkgclaa.SL.K Go.Proofs.Ytaaplakahkgclaa.X1 Go.Proofs.Ytaaplakahkgclaa.X2 Go.Proofs.Ytaaplakahkgclaa.X3 Go.Proofs.Ytaaplakahkgclaa.X4 Go.Proofs.Ytaaplakahkgclaa.X5 Go.Proofs.Ytaaplakahkgclaa.X6 Go.Proofs.Ytaaplakahkgclaa.X7 Go.Proofs.Ytaaplakahkgclaa.X8 Go.Proofs.Ytaaplakahkgclaa.X9 Go.Proofs.Ytaaplakahkgclaa.Y1 Go.Proofs.Ytaaplakahkgclaa.Y2 Go.Proofs.Ytaaplakahkgclaa.Y3 Go.Proofs.Ytaaplakahkgclaa.Y4 Go.Proofs.Ytaaplakahkgclaa.Y5 Go.Proofs.Ytaaplakahkgclaa.Y6 Go.Proofs.Ytaaplakahkgclaa.Z1 Go.Proofs.Ytaaplakahkgclaa.Z2 Go.Proofs.Ytaaplakahkgclaa.Z3 Go.Proofs.Ytaaplakahkgclaa.Z4 Go.Proofs.Ytaaplakahkgclaa.Z5
set_option linter.unusedVariables false
set_option linter.unusedSimpArgs false
set_option maxRecDepth 100000
set_option maxHeartbeats 40000000
def U : Tab where
  und := [(3, .int .i64), (5, .int .u8), (23, .slice 5), (91, .array 32 3), (92, .array 32 3), (114, .int .u64)]
  fld := []
  sz := [(3, 1), (5, 1), (23, 1), (91, 32), (92, 32), (114, 1)]
  ti := [(3, (1, 8, .int .i64 0)), (5, (1, 1, .int .u8 0)), (23, (1, 24, .slice none 0 0)), (91, (32, 256, z32)), (92, (32, 256, z32)), (114, (1, 8, .int .u64 0))]
  bld := []

theorem hU : U.OK Try.prog where
  und := by
    intro p hp
    simp only [U, List.mem_cons, List.not_mem_nil, or_false] at hp
    rcases hp with rfl | rfl | rfl | rfl | rfl | rfl
    · exact Try.underlying3
    · exact Try.underlying5
    · exact Try.underlying23
    · exact Try.underlying91
    · exact Try.underlying92
    · exact Try.underlying114
  fld := by
    intro p hp; cases hp
  sz := by
    intro p hp
    simp only [U, List.mem_cons, List.not_mem_nil, or_false] at hp
    rcases hp with rfl | rfl | rfl | rfl | rfl | rfl
    · exact ⟨Try.prog.types[3]!, by kernel_rfl, by kernel_rfl⟩
    · exact ⟨Try.prog.types[5]!, by kernel_rfl, by kernel_rfl⟩
    · exact ⟨Try.prog.types[23]!, by kernel_rfl, by kernel_rfl⟩
    · exact ⟨Try.prog.types[91]!, by kernel_rfl, by kernel_rfl⟩
    · exact ⟨Try.prog.types[92]!, by kernel_rfl, by kernel_rfl⟩
    · exact ⟨Try.prog.types[114]!, by kernel_rfl, by kernel_rfl⟩
  ti := by
    intro p hp
    simp only [U, List.mem_cons, List.not_mem_nil, or_false] at hp
    rcases hp with rfl | rfl | rfl | rfl | rfl | rfl
    · exact ⟨Try.prog.types[3]!, by kernel_rfl, by kernel_rfl, by kernel_rfl, by kernel_rfl⟩
    · exact ⟨Try.prog.types[5]!, by kernel_rfl, by kernel_rfl, by kernel_rfl, by kernel_rfl⟩
    · exact ⟨Try.prog.types[23]!, by kernel_rfl, by kernel_rfl, by kernel_rfl, by kernel_rfl⟩
    · exact ⟨Try.prog.types[91]!, by kernel_rfl, by kernel_rfl, by kernel_rfl, by kernel_rfl⟩
    · exact ⟨Try.prog.types[92]!, by kernel_rfl, by kernel_rfl, by kernel_rfl, by kernel_rfl⟩
    · exact ⟨Try.prog.types[114]!, by kernel_rfl, by kernel_rfl, by kernel_rfl, by kernel_rfl⟩
  bld := by
    intro p hp; cases hp
  mixed := by kernel_rfl

theorem kr_Ladder_spec (A8 : Option Addr) (c8 : Nat) (ks : List Int) (us : List Int) (u : Int) (l_ks : Nat) (hIks : In .u8 ks) (hCks : ks.length ≤ c8) (hBks : ks.length ≤ 140737488351232) (hl : ks.length = 32) (hE : Dg us u) (hul : us.length = 32) (huP : u < P) (hl_ks : ks.length = l_ks) :
    CallsS Try.prog 60 [.slice A8 l_ks c8, ag .i64 us] [vw A8 (nums .u8 ks)] (fun r D => ∃ (zs : List Int), r = ag .i64 zs ∧ D = [] ∧ (Dg zs (ladR ks u)) ∧ (zs.length = 32)) := by
  subst hl_ks
  refine CallsS.enter hU Try.f60 _ [.cell 4 92] 103 Try.func60 rfl (by decide) rfl rfl (by kernel_rfl) fun w0 W => ?_
  refine RunC.know (p := 0 < ks.length → Option.isSome A8 = true) (fun _ _ w hs => vw_some hs 0 rfl (by (simp [nums_length]; done))) (fun hA1 => ?_)
  refine RunC.sr ?_
  refine RunR.st (some 3) (.box 92 (.tmp 1)) (Step.box (ag .i64 us) (by kernel_rfl) (by kernel_rfl) (fun b2 => ?_))
  refine RunR.st (some 4) (.alloc 92) (Step.al hU 32 256 z32 (fun b3 => ?_))
  have hl4 : (List.replicate 32 (0 : Int)).length = 32 := List.length_replicate
  refine RunR.nx ?_
  refine RunR.st (some 18) (.call { callee := .value (.func 62), args := #[.const (.int .u32 1)], argTypes := #[96] }) (Step.cn 62 [.int .u32 1] [] [blk b3 92 (nums .i64 (List.replicate 32 (0 : Int))), blk b2 92 (nums .i64 us), vw A8 (nums .u8 ks)] (n_Small_spec 1 (by (refine ⟨?_, ?_⟩ <;> omega))) [] ?_)
  rintro _ _ ⟨zs5, rfl, rfl, hp6, hp7⟩
  refine RunR.st (some 5) (.alloc 92) (Step.al hU 32 256 z32 (fun b8 => ?_))
  have hl9 : (List.replicate 32 (0 : Int)).length = 32 := List.length_replicate
  refine RunR.st none (.store 92 (.tmp 5) (.tmp 18)) (Step.store_arr hU 0 b8 92 32 .i64 (List.replicate 32 (0 : Int)) zs5 (by kernel_rfl) (by kernel_rfl) (by kernel_rfl) (by kernel_rfl) (by rfl) (by omega) ?_)
  refine RunR.nx ?_
  refine RunR.st (some 19) (.call { callee := .value (.func 62), args := #[.const (.int .u32 0)], argTypes := #[96] }) (Step.cn 62 [.int .u32 0] [] [blk b8 92 (nums .i64 zs5), blk b3 92 (nums .i64 (List.replicate 32 (0 : Int))), blk b2 92 (nums .i64 us), vw A8 (nums .u8 ks)] (n_Small_spec 0 (by (refine ⟨?_, ?_⟩ <;> omega))) [] ?_)
  rintro _ _ ⟨zs10, rfl, rfl, hp11, hp12⟩
  refine RunR.st (some 6) (.alloc 92) (Step.al hU 32 256 z32 (fun b13 => ?_))
  have hl14 : (List.replicate 32 (0 : Int)).length = 32 := List.length_replicate
  refine RunR.st none (.store 92 (.tmp 6) (.tmp 19)) (Step.store_arr hU 0 b13 92 32 .i64 (List.replicate 32 (0 : Int)) zs10 (by kernel_rfl) (by kernel_rfl) (by kernel_rfl) (by kernel_rfl) (by rfl) (by omega) ?_)
  refine RunR.nx ?_
  refine RunR.st (some 20) (.load 92 (.tmp 3)) (Step.load_arr hU 3 b2 92 32 .i64 us (by kernel_rfl) (by kernel_rfl) (by kernel_rfl) (by kernel_rfl) (by omega) (by kernel_rfl) ?_)
  refine RunR.st (some 7) (.alloc 92) (Step.al hU 32 256 z32 (fun b15 => ?_))
  have hl16 : (List.replicate 32 (0 : Int)).length = 32 := List.length_replicate
  refine RunR.st none (.store 92 (.tmp 7) (.tmp 20)) (Step.store_arr hU 0 b15 92 32 .i64 (List.replicate 32 (0 : Int)) us (by kernel_rfl) (by kernel_rfl) (by kernel_rfl) (by kernel_rfl) (by rfl) (by omega) ?_)
  refine RunR.nx ?_
  refine RunR.st (some 21) (.call { callee := .value (.func 62), args := #[.const (.int .u32 1)], argTypes := #[96] }) (Step.cn 62 [.int .u32 1] [] [blk b15 92 (nums .i64 us), blk b13 92 (nums .i64 zs10), blk b8 92 (nums .i64 zs5), blk b3 92 (nums .i64 (List.replicate 32 (0 : Int))), blk b2 92 (nums .i64 us), vw A8 (nums .u8 ks)] (n_Small_spec 1 (by (refine ⟨?_, ?_⟩ <;> omega))) [] ?_)
  rintro _ _ ⟨zs17, rfl, rfl, hp18, hp19⟩
  refine RunR.st (some 8) (.alloc 92) (Step.al hU 32 256 z32 (fun b20 => ?_))
  have hl21 : (List.replicate 32 (0 : Int)).length = 32 := List.length_replicate
  refine RunR.st none (.store 92 (.tmp 8) (.tmp 21)) (Step.store_arr hU 0 b20 92 32 .i64 (List.replicate 32 (0 : Int)) zs17 (by kernel_rfl) (by kernel_rfl) (by kernel_rfl) (by kernel_rfl) (by rfl) (by omega) ?_)
  refine RunR.nn ?_
  refine RunC.seq ?_
  refine RunC.sr ?_
  refine RunR.sl hU [] 1 1 [0, 3, 4, 5, 6, 7, 8, 9] [(0, .slice A8 ks.length c8), (3, pt b2), (4, pt b3), (5, pt b8), (6, pt b13), (7, pt b15), (8, pt b20), (9, .int .i64 254)] 1 ?_
  refine RunR.nn ?_
  refine RunC.block ?_
  refine RunC.env [0, 3, 4, 5, 6, 7, 8, 9] [(0, .slice A8 ks.length c8), (3, pt b2), (4, pt b3), (5, pt b8), (6, pt b13), (7, pt b15), (8, pt b20), (9, .int .i64 254)] (by kernel_rfl) ?_
  refine RunC.only [3, 2, 1, 0, 0, 0, 0] [blk b8 92 (nums .i64 zs5), blk b13 92 (nums .i64 zs10), blk b15 92 (nums .i64 us), blk b20 92 (nums .i64 zs17), blk b3 92 (nums .i64 (List.replicate 32 (0 : Int))), blk b2 92 (nums .i64 us), vw A8 (nums .u8 ks)] (by kernel_rfl) ?_
  refine RunC.loop (σ := Nat) (fun n_ t_ D_ => ∃ (i : Int) (p2 : List Int) (q2 : List Int) (p3 : List Int) (q3 : List Int) (x2 : Int) (z2 : Int) (x3 : Int) (z3 : Int), (-1 ≤ i) ∧ (i ≤ 254) ∧ (Dg p2 x2) ∧ (Dg q2 z2) ∧ (Dg p3 x3) ∧ (Dg q3 z3) ∧ (p2.length = 32) ∧ (q2.length = 32) ∧ (p3.length = 32) ∧ (q3.length = 32) ∧ (x2 < P) ∧ (z2 < P) ∧ (x3 < P) ∧ (z3 < P) ∧ ((x2, z2, x3, z3) = lad ks u (254 - i).toNat) ∧ n_ = ((i + 1).toNat : Nat) ∧ t_ = [(0, .slice A8 ks.length c8), (3, pt b2), (4, pt b3), (5, pt b8), (6, pt b13), (7, pt b15), (8, pt b20), (9, .int .i64 i)] ∧ D_ = [blk b8 92 (nums .i64 p2), blk b13 92 (nums .i64 q2), blk b15 92 (nums .i64 p3), blk b20 92 (nums .i64 q3), blk b3 92 (nums .i64 (List.replicate 32 (0 : Int))), blk b2 92 (nums .i64 us), vw A8 (nums .u8 ks)]) id _ ⟨254, zs5, zs10, us, zs17, 1, 0, u, 1, (by omega), (by omega), (by assumption), (by assumption), (by assumption), (by assumption), (by assumption), (by assumption), (by assumption), (by assumption), (by decide), (by decide), (by assumption), (by decide), (by rfl), rfl, rfl, rfl⟩ ?_
  rintro n_ _ _ ⟨i, p2, q2, p3, q3, x2, z2, x3, z3, hi, hi2, hDx2, hDz2, hDx3, hDz3, hlx2, hlz2, hlx3, hlz3, hbx2, hbz2, hbx3, hbz3, hs, rfl, rfl, rfl⟩
  refine RunC.seq ?_
  refine RunC.sr ?_
  refine RunR.sl hU [] 2 2 [0, 3, 4, 5, 6, 7, 8, 9, 23] [(0, .slice A8 ks.length c8), (3, pt b2), (4, pt b3), (5, pt b8), (6, pt b13), (7, pt b15), (8, pt b20), (9, .int .i64 i), (23, .bool (decide (i ≥ 0)))] 2 ?_
  refine RunR.nn ?_
  refine RunC.condp (i ≥ 0) (by kernel_rfl) (fun h22 => ?_) (fun h22 => ?_)
  · skip
    refine RunC.ks ?_
    refine RunC.seq ?_
    refine RunC.block ?_
    refine RunC.sr ?_
    refine RunR.sil hU [2] 4 4 [0, 3, 4, 5, 6, 7, 8, 9, 29] [(0, .slice A8 ks.length c8), (3, pt b2), (4, pt b3), (5, pt b8), (6, pt b13), (7, pt b15), (8, pt b20), (9, .int .i64 i), (29, .pointer (elemAt A8 (i / (8 : Int)) 1))] ((True) ∧ (True) ∧ (0 ≤ i ∧ 0 < (8 : Int) ∧ -9223372036854775808 ≤ (i / (8 : Int)) ∧ (i / (8 : Int)) < 9223372036854775808) ∧ ((0 ≤ (i / (8 : Int)) ∧ (i / (8 : Int)) < ((ks.length : Nat) : Int)) ∧ Option.isSome A8 = true) ∧ True) rfl (by kernel_rfl) ⟨trivial, trivial, (by omega), ⟨by omega, hA1 (by omega)⟩, trivial⟩ ?_
    refine RunR.st (some 30) (.load 5 (.tmp 29)) (Step.load_num hU 6 (vw A8 (nums .u8 ks)) A8 (i / (8 : Int)) .u8 ks rfl (by kernel_rfl) (by kernel_rfl) (tells_vw _ _) (by kernel_rfl) (by omega) ?_)
    have hb23 : 0 ≤ ks.getD ((i / (8 : Int)).toNat) 0 ∧ ks.getD ((i / (8 : Int)).toNat) 0 < 256 := hIks.at_ _
    have hm24 : 0 ≤ (ks.getD (i / (8 : Int)).toNat 0) → 0 ≤ (ks.getD (i / (8 : Int)).toNat 0) / 2 ^ (min (i % (8 : Int)).toNat 8) ∧ (ks.getD (i / (8 : Int)).toNat 0) / 2 ^ (min (i % (8 : Int)).toNat 8) ≤ (ks.getD (i / (8 : Int)).toNat 0) := fun h => ⟨Int.ediv_nonneg h (Int.le_of_lt (Int.pow_pos (by decide))), Int.ediv_le_self _ h⟩
    refine RunR.sil hU [6, 7, 8, 9] 6 11 [0, 3, 4, 5, 6, 7, 8, 9, 10] [(0, .slice A8 ks.length c8), (3, pt b2), (4, pt b3), (5, pt b8), (6, pt b13), (7, pt b15), (8, pt b20), (9, .int .i64 i), (10, .int .u8 (((ks.getD (i / (8 : Int)).toNat 0) / 2 ^ (min (i % (8 : Int)).toNat 8)) % (2 : Int)))] ((True) ∧ (0 ≤ i ∧ 0 < (8 : Int)) ∧ (0 ≤ (i % (8 : Int)) ∧ (i % (8 : Int)) < 18446744073709551616) ∧ (0 ≤ (i % (8 : Int))) ∧ (0 ≤ ((ks.getD (i / (8 : Int)).toNat 0) / 2 ^ (min (i % (8 : Int)).toNat 8)) ∧ 0 < (2 : Int)) ∧ (True) ∧ True) rfl (by kernel_rfl) ⟨trivial, (by omega), (by omega), (by omega), (by omega), trivial, trivial⟩ ?_
    refine RunR.nn ?_
    refine RunC.seq ?_
    refine RunC.sr ?_
    refine RunR.sl hU [] 2 2 [0, 3, 4, 5, 6, 7, 8, 9, 10, 37] [(0, .slice A8 ks.length c8), (3, pt b2), (4, pt b3), (5, pt b8), (6, pt b13), (7, pt b15), (8, pt b20), (9, .int .i64 i), (10, .int .u8 (((ks.getD (i / (8 : Int)).toNat 0) / 2 ^ (min (i % (8 : Int)).toNat 8)) % (2 : Int))), (37, .bool (decide ((((ks.getD (i / (8 : Int)).toNat 0) / 2 ^ (min (i % (8 : Int)).toNat 8)) % (2 : Int)) = 1)))] 2 ?_
    refine RunR.nn ?_
    refine RunC.condp ((((ks.getD (i / (8 : Int)).toNat 0) / 2 ^ (min (i % (8 : Int)).toNat 8)) % (2 : Int)) = 1) (by kernel_rfl) (fun h25 => ?_) (fun h25 => ?_)
    · skip
      refine RunC.sr ?_
      refine RunR.st (some 38) (.load 92 (.tmp 7)) (Step.load_arr hU 2 b15 92 32 .i64 p3 (by kernel_rfl) (by kernel_rfl) (by kernel_rfl) (by kernel_rfl) (by omega) (by kernel_rfl) ?_)
      refine RunR.st (some 39) (.load 92 (.tmp 5)) (Step.load_arr hU 0 b8 92 32 .i64 p2 (by kernel_rfl) (by kernel_rfl) (by kernel_rfl) (by kernel_rfl) (by omega) (by kernel_rfl) ?_)
      refine RunR.st none (.store 92 (.tmp 5) (.tmp 38)) (Step.store_arr hU 0 b8 92 32 .i64 p2 p3 (by kernel_rfl) (by kernel_rfl) (by kernel_rfl) (by kernel_rfl) (by omega) (by omega) ?_)
      refine RunR.st none (.store 92 (.tmp 7) (.tmp 39)) (Step.store_arr hU 2 b15 92 32 .i64 p3 p2 (by kernel_rfl) (by kernel_rfl) (by kernel_rfl) (by kernel_rfl) (by omega) (by omega) ?_)
      refine RunR.nn ?_
      refine RunC.region ?_
      refine RunR.st (some 40) (.load 92 (.tmp 8)) (Step.load_arr hU 3 b20 92 32 .i64 q3 (by kernel_rfl) (by kernel_rfl) (by kernel_rfl) (by kernel_rfl) (by omega) (by kernel_rfl) ?_)
      refine RunR.st (some 41) (.load 92 (.tmp 6)) (Step.load_arr hU 2 b13 92 32 .i64 q2 (by kernel_rfl) (by kernel_rfl) (by kernel_rfl) (by kernel_rfl) (by omega) (by kernel_rfl) ?_)
      refine RunR.st none (.store 92 (.tmp 6) (.tmp 40)) (Step.store_arr hU 2 b13 92 32 .i64 q2 q3 (by kernel_rfl) (by kernel_rfl) (by kernel_rfl) (by kernel_rfl) (by omega) (by omega) ?_)
      refine RunR.st none (.store 92 (.tmp 8) (.tmp 41)) (Step.store_arr hU 3 b20 92 32 .i64 q3 q2 (by kernel_rfl) (by kernel_rfl) (by kernel_rfl) (by kernel_rfl) (by omega) (by omega) ?_)
      refine RunR.nx ?_
      refine RunR.st (some 42) (.load 92 (.tmp 5)) (Step.load_arr hU 3 b8 92 32 .i64 p3 (by kernel_rfl) (by kernel_rfl) (by kernel_rfl) (by kernel_rfl) (by omega) (by kernel_rfl) ?_)
      refine RunR.st (some 43) (.load 92 (.tmp 6)) (Step.load_arr hU 1 b13 92 32 .i64 q3 (by kernel_rfl) (by kernel_rfl) (by kernel_rfl) (by kernel_rfl) (by omega) (by kernel_rfl) ?_)
      refine RunR.st (some 44) (.call { callee := .value (.func 79), args := #[.tmp 42, .tmp 43], argTypes := #[92, 92] }) (Step.cn 79 [ag .i64 p3, ag .i64 q3] [] [blk b20 92 (nums .i64 q2), blk b13 92 (nums .i64 q3), blk b15 92 (nums .i64 p2), blk b8 92 (nums .i64 p3), blk b3 92 (nums .i64 (List.replicate 32 (0 : Int))), blk b2 92 (nums .i64 us), vw A8 (nums .u8 ks)] (n_Add_spec p3 x3 q3 z3 (by assumption) (by assumption) (by assumption) (by assumption)) [] ?_)
      rintro _ _ ⟨zs26, rfl, rfl, hp27, hp28⟩
      refine RunR.st (some 11) (.alloc 92) (Step.al hU 32 256 z32 (fun b29 => ?_))
      have hl30 : (List.replicate 32 (0 : Int)).length = 32 := List.length_replicate
      refine RunR.st none (.store 92 (.tmp 11) (.tmp 44)) (Step.store_arr hU 0 b29 92 32 .i64 (List.replicate 32 (0 : Int)) zs26 (by kernel_rfl) (by kernel_rfl) (by kernel_rfl) (by kernel_rfl) (by rfl) (by omega) ?_)
      refine RunR.nx ?_
      refine RunR.st (some 45) (.load 92 (.tmp 5)) (Step.load_arr hU 4 b8 92 32 .i64 p3 (by kernel_rfl) (by kernel_rfl) (by kernel_rfl) (by kernel_rfl) (by omega) (by kernel_rfl) ?_)
      refine RunR.st (some 46) (.load 92 (.tmp 6)) (Step.load_arr hU 2 b13 92 32 .i64 q3 (by kernel_rfl) (by kernel_rfl) (by kernel_rfl) (by kernel_rfl) (by omega) (by kernel_rfl) ?_)
      refine RunR.st (some 47) (.call { callee := .value (.func 80), args := #[.tmp 45, .tmp 46], argTypes := #[92, 92] }) (Step.cn 80 [ag .i64 p3, ag .i64 q3] [] [blk b29 92 (nums .i64 zs26), blk b20 92 (nums .i64 q2), blk b13 92 (nums .i64 q3), blk b15 92 (nums .i64 p2), blk b8 92 (nums .i64 p3), blk b3 92 (nums .i64 (List.replicate 32 (0 : Int))), blk b2 92 (nums .i64 us), vw A8 (nums .u8 ks)] (n_Sub_spec p3 x3 q3 z3 (by assumption) (by assumption) (by assumption) (by assumption) (by exact Int.le_of_lt (by assumption))) [] ?_)
      rintro _ _ ⟨zs31, rfl, rfl, hp32, hp33⟩
      refine RunR.st (some 12) (.alloc 92) (Step.al hU 32 256 z32 (fun b34 => ?_))
      have hl35 : (List.replicate 32 (0 : Int)).length = 32 := List.length_replicate
      refine RunR.st none (.store 92 (.tmp 12) (.tmp 47)) (Step.store_arr hU 0 b34 92 32 .i64 (List.replicate 32 (0 : Int)) zs31 (by kernel_rfl) (by kernel_rfl) (by kernel_rfl) (by kernel_rfl) (by rfl) (by omega) ?_)
      refine RunR.nx ?_
      refine RunR.st (some 48) (.load 92 (.tmp 11)) (Step.load_arr hU 1 b29 92 32 .i64 zs26 (by kernel_rfl) (by kernel_rfl) (by kernel_rfl) (by kernel_rfl) (by omega) (by kernel_rfl) ?_)
      refine RunR.st (some 49) (.load 92 (.tmp 11)) (Step.load_arr hU 1 b29 92 32 .i64 zs26 (by kernel_rfl) (by kernel_rfl) (by kernel_rfl) (by kernel_rfl) (by omega) (by kernel_rfl) ?_)
      refine RunR.st (some 50) (.call { callee := .value (.func 81), args := #[.tmp 48, .tmp 49], argTypes := #[92, 92] }) (Step.cn 81 [ag .i64 zs26, ag .i64 zs26] [] [blk b34 92 (nums .i64 zs31), blk b29 92 (nums .i64 zs26), blk b20 92 (nums .i64 q2), blk b13 92 (nums .i64 q3), blk b15 92 (nums .i64 p2), blk b8 92 (nums .i64 p3), blk b3 92 (nums .i64 (List.replicate 32 (0 : Int))), blk b2 92 (nums .i64 us), vw A8 (nums .u8 ks)] (n_Mul_spec zs26 ((x3 + z3) % P) zs26 ((x3 + z3) % P) (by assumption) (by assumption) (by assumption) (by assumption)) [] ?_)
      rintro _ _ ⟨zs36, rfl, rfl, hp37, hp38⟩
      refine RunR.st (some 13) (.alloc 92) (Step.al hU 32 256 z32 (fun b39 => ?_))
      have hl40 : (List.replicate 32 (0 : Int)).length = 32 := List.length_replicate
      refine RunR.st none (.store 92 (.tmp 13) (.tmp 50)) (Step.store_arr hU 0 b39 92 32 .i64 (List.replicate 32 (0 : Int)) zs36 (by kernel_rfl) (by kernel_rfl) (by kernel_rfl) (by kernel_rfl) (by rfl) (by omega) ?_)
      refine RunR.nx ?_
      refine RunR.st (some 51) (.load 92 (.tmp 12)) (Step.load_arr hU 1 b34 92 32 .i64 zs31 (by kernel_rfl) (by kernel_rfl) (by kernel_rfl) (by kernel_rfl) (by omega) (by kernel_rfl) ?_)
      refine RunR.st (some 52) (.load 92 (.tmp 12)) (Step.load_arr hU 1 b34 92 32 .i64 zs31 (by kernel_rfl) (by kernel_rfl) (by kernel_rfl) (by kernel_rfl) (by omega) (by kernel_rfl) ?_)
      refine RunR.st (some 53) (.call { callee := .value (.func 81), args := #[.tmp 51, .tmp 52], argTypes := #[92, 92] }) (Step.cn 81 [ag .i64 zs31, ag .i64 zs31] [] [blk b39 92 (nums .i64 zs36), blk b34 92 (nums .i64 zs31), blk b29 92 (nums .i64 zs26), blk b20 92 (nums .i64 q2), blk b13 92 (nums .i64 q3), blk b15 92 (nums .i64 p2), blk b8 92 (nums .i64 p3), blk b3 92 (nums .i64 (List.replicate 32 (0 : Int))), blk b2 92 (nums .i64 us), vw A8 (nums .u8 ks)] (n_Mul_spec zs31 ((x3 - z3) % P) zs31 ((x3 - z3) % P) (by assumption) (by assumption) (by assumption) (by assumption)) [] ?_)
      rintro _ _ ⟨zs41, rfl, rfl, hp42, hp43⟩
      refine RunR.st (some 14) (.alloc 92) (Step.al hU 32 256 z32 (fun b44 => ?_))
      have hl45 : (List.replicate 32 (0 : Int)).length = 32 := List.length_replicate
      refine RunR.st none (.store 92 (.tmp 14) (.tmp 53)) (Step.store_arr hU 0 b44 92 32 .i64 (List.replicate 32 (0 : Int)) zs41 (by kernel_rfl) (by kernel_rfl) (by kernel_rfl) (by kernel_rfl) (by rfl) (by omega) ?_)
      refine RunR.nx ?_
      refine RunR.st (some 54) (.load 92 (.tmp 13)) (Step.load_arr hU 1 b39 92 32 .i64 zs36 (by kernel_rfl) (by kernel_rfl) (by kernel_rfl) (by kernel_rfl) (by omega) (by kernel_rfl) ?_)
      refine RunR.st (some 55) (.load 92 (.tmp 14)) (Step.load_arr hU 0 b44 92 32 .i64 zs41 (by kernel_rfl) (by kernel_rfl) (by kernel_rfl) (by kernel_rfl) (by omega) (by kernel_rfl) ?_)
      refine RunR.st (some 56) (.call { callee := .value (.func 80), args := #[.tmp 54, .tmp 55], argTypes := #[92, 92] }) (Step.cn 80 [ag .i64 zs36, ag .i64 zs41] [] [blk b44 92 (nums .i64 zs41), blk b39 92 (nums .i64 zs36), blk b34 92 (nums .i64 zs31), blk b29 92 (nums .i64 zs26), blk b20 92 (nums .i64 q2), blk b13 92 (nums .i64 q3), blk b15 92 (nums .i64 p2), blk b8 92 (nums .i64 p3), blk b3 92 (nums .i64 (List.replicate 32 (0 : Int))), blk b2 92 (nums .i64 us), vw A8 (nums .u8 ks)] (n_Sub_spec zs36 ((((x3 + z3) % P) * ((x3 + z3) % P)) % P) zs41 ((((x3 - z3) % P) * ((x3 - z3) % P)) % P) (by assumption) (by assumption) (by assumption) (by assumption) (by exact Int.le_of_lt (Int.emod_lt_of_pos _ (by decide)))) [] ?_)
      rintro _ _ ⟨zs46, rfl, rfl, hp47, hp48⟩
      refine RunR.st (some 15) (.alloc 92) (Step.al hU 32 256 z32 (fun b49 => ?_))
      have hl50 : (List.replicate 32 (0 : Int)).length = 32 := List.length_replicate
      refine RunR.st none (.store 92 (.tmp 15) (.tmp 56)) (Step.store_arr hU 0 b49 92 32 .i64 (List.replicate 32 (0 : Int)) zs46 (by kernel_rfl) (by kernel_rfl) (by kernel_rfl) (by kernel_rfl) (by rfl) (by omega) ?_)
      refine RunR.nn ?_
      refine RunC.seq ?_
      refine RunC.regionU hU 7 [blk b15 92 (nums .i64 p2), blk b20 92 (nums .i64 q2), blk b29 92 (nums .i64 zs26)] [7, 5, 4] [4, 6] (bm 7 0) (by kernel_rfl) (by kernel_rfl) (by kernel_rfl) ?_
      refine RunU.rd 0 (bm 7 1) 57 (.load 92 (.tmp 7)) (ag .i64 p2) [7, 5, 4] (Reads.load_arr hU 0 b15 92 32 .i64 p2 (by kernel_rfl) (by kernel_rfl) (by kernel_rfl) (by kernel_rfl) (by omega)) ?_
      refine RunU.rd 1 (bm 7 3) 58 (.load 92 (.tmp 8)) (ag .i64 q2) [7, 5, 4] (Reads.load_arr hU 1 b20 92 32 .i64 q2 (by kernel_rfl) (by kernel_rfl) (by kernel_rfl) (by kernel_rfl) (by omega)) ?_
      refine RunU.rd 3 (bm 7 11) 60 (.load 92 (.tmp 11)) (ag .i64 zs26) [7, 5, 4] (Reads.load_arr hU 2 b29 92 32 .i64 zs26 (by kernel_rfl) (by kernel_rfl) (by kernel_rfl) (by kernel_rfl) (by omega)) ?_
      refine RunU.ev [0, 3, 4, 5, 6, 7, 8, 9, 10, 12, 13, 14, 15, 57, 58, 60] [(0, .slice A8 ks.length c8), (3, pt b2), (4, pt b3), (5, pt b8), (6, pt b13), (7, pt b15), (8, pt b20), (9, .int .i64 i), (10, .int .u8 (((ks.getD (i / (8 : Int)).toNat 0) / 2 ^ (min (i % (8 : Int)).toNat 8)) % (2 : Int))), (12, pt b34), (13, pt b39), (14, pt b44), (15, pt b49), (57, ag .i64 p2), (58, ag .i64 q2), (60, ag .i64 zs26)] ?_
      refine RunU.name (fun R_ hR_ => ?_)
      have hD68_0 : ∀ (zs54 : List Int) (b57 : Nat), Dg zs54 ((((x2 - z2) % P) * ((x3 + z3) % P)) % P) → zs54.length = 32 → R_ 1 (bm 7 63) [(0, .slice A8 ks.length c8), (3, pt b2), (4, pt b3), (5, pt b8), (6, pt b13), (7, pt b15), (8, pt b20), (9, .int .i64 i), (10, .int .u8 (((ks.getD (i / (8 : Int)).toNat 0) / 2 ^ (min (i % (8 : Int)).toNat 8)) % (2 : Int))), (12, pt b34), (13, pt b39), (14, pt b44), (15, pt b49), (16, pt b57), (61, ag .i64 zs54)] [blk b57 92 (nums .i64 (List.replicate 32 (0 : Int))), blk b49 92 (nums .i64 zs46), blk b44 92 (nums .i64 zs41), blk b39 92 (nums .i64 zs36), blk b34 92 (nums .i64 zs31), blk b29 92 (nums .i64 zs26), blk b20 92 (nums .i64 q2), blk b13 92 (nums .i64 q3), blk b15 92 (nums .i64 p2), blk b8 92 (nums .i64 p3), blk b3 92 (nums .i64 (List.replicate 32 (0 : Int))), blk b2 92 (nums .i64 us), vw A8 (nums .u8 ks)] := by
        intro zs54 b57 hp55 hp56
        rw [hR_]
        refine RunU.on none (.store 92 (.tmp 16) (.tmp 61)) 6 (bm 7 127) [] (Step.store_arr hU 0 b57 92 32 .i64 (List.replicate 32 (0 : Int)) zs54 (by kernel_rfl) (by kernel_rfl) (by kernel_rfl) (by kernel_rfl) (by rfl) (by omega) ?_)
        refine orR ?_
        refine RunU.ev [0, 3, 4, 5, 6, 7, 8, 9, 10, 12, 13, 14, 15, 16] [(0, .slice A8 ks.length c8), (3, pt b2), (4, pt b3), (5, pt b8), (6, pt b13), (7, pt b15), (8, pt b20), (9, .int .i64 i), (10, .int .u8 (((ks.getD (i / (8 : Int)).toNat 0) / 2 ^ (min (i % (8 : Int)).toNat 8)) % (2 : Int))), (12, pt b34), (13, pt b39), (14, pt b44), (15, pt b49), (16, pt b57)] ?_
        refine RunU.dn ?_
        refine kseq_n ?_
        refine RunC.seq ?_
        refine RunC.regionU hU 7 [blk b15 92 (nums .i64 p2), blk b20 92 (nums .i64 q2), blk b34 92 (nums .i64 zs31)] [8, 6, 4] [4, 6] (bm 7 0) (by kernel_rfl) (by kernel_rfl) (by kernel_rfl) ?_
        refine RunU.rd 0 (bm 7 1) 62 (.load 92 (.tmp 7)) (ag .i64 p2) [8, 6, 4] (Reads.load_arr hU 0 b15 92 32 .i64 p2 (by kernel_rfl) (by kernel_rfl) (by kernel_rfl) (by kernel_rfl) (by omega)) ?_
        refine RunU.rd 1 (bm 7 3) 63 (.load 92 (.tmp 8)) (ag .i64 q2) [8, 6, 4] (Reads.load_arr hU 1 b20 92 32 .i64 q2 (by kernel_rfl) (by kernel_rfl) (by kernel_rfl) (by kernel_rfl) (by omega)) ?_
        refine RunU.rd 3 (bm 7 11) 65 (.load 92 (.tmp 12)) (ag .i64 zs31) [8, 6, 4] (Reads.load_arr hU 2 b34 92 32 .i64 zs31 (by kernel_rfl) (by kernel_rfl) (by kernel_rfl) (by kernel_rfl) (by omega)) ?_
        refine RunU.ev [0, 3, 4, 5, 6, 7, 8, 9, 10, 13, 14, 15, 16, 62, 63, 65] [(0, .slice A8 ks.length c8), (3, pt b2), (4, pt b3), (5, pt b8), (6, pt b13), (7, pt b15), (8, pt b20), (9, .int .i64 i), (10, .int .u8 (((ks.getD (i / (8 : Int)).toNat 0) / 2 ^ (min (i % (8 : Int)).toNat 8)) % (2 : Int))), (13, pt b39), (14, pt b44), (15, pt b49), (16, pt b57), (62, ag .i64 p2), (63, ag .i64 q2), (65, ag .i64 zs31)] ?_
        refine RunU.name (fun R_ hR_ => ?_)
        have hD87_0 : ∀ (zs73 : List Int) (b76 : Nat), Dg zs73 ((((x2 + z2) % P) * ((x3 - z3) % P)) % P) → zs73.length = 32 → R_ 1 (bm 7 63) [(0, .slice A8 ks.length c8), (3, pt b2), (4, pt b3), (5, pt b8), (6, pt b13), (7, pt b15), (8, pt b20), (9, .int .i64 i), (10, .int .u8 (((ks.getD (i / (8 : Int)).toNat 0) / 2 ^ (min (i % (8 : Int)).toNat 8)) % (2 : Int))), (13, pt b39), (14, pt b44), (15, pt b49), (16, pt b57), (17, pt b76), (66, ag .i64 zs73)] [blk b76 92 (nums .i64 (List.replicate 32 (0 : Int))), blk b57 92 (nums .i64 zs54), blk b49 92 (nums .i64 zs46), blk b44 92 (nums .i64 zs41), blk b39 92 (nums .i64 zs36), blk b34 92 (nums .i64 zs31), blk b29 92 (nums .i64 zs26), blk b20 92 (nums .i64 q2), blk b13 92 (nums .i64 q3), blk b15 92 (nums .i64 p2), blk b8 92 (nums .i64 p3), blk b3 92 (nums .i64 (List.replicate 32 (0 : Int))), blk b2 92 (nums .i64 us), vw A8 (nums .u8 ks)] := by
          intro zs73 b76 hp74 hp75
          rw [hR_]
          refine RunU.on none (.store 92 (.tmp 17) (.tmp 66)) 6 (bm 7 127) [] (Step.store_arr hU 0 b76 92 32 .i64 (List.replicate 32 (0 : Int)) zs73 (by kernel_rfl) (by kernel_rfl) (by kernel_rfl) (by kernel_rfl) (by rfl) (by omega) ?_)
          refine orR ?_
          refine RunU.ev [0, 3, 4, 5, 6, 7, 8, 9, 10, 13, 14, 15, 16, 17] [(0, .slice A8 ks.length c8), (3, pt b2), (4, pt b3), (5, pt b8), (6, pt b13), (7, pt b15), (8, pt b20), (9, .int .i64 i), (10, .int .u8 (((ks.getD (i / (8 : Int)).toNat 0) / 2 ^ (min (i % (8 : Int)).toNat 8)) % (2 : Int))), (13, pt b39), (14, pt b44), (15, pt b49), (16, pt b57), (17, pt b76)] ?_
          refine RunU.dn ?_
          refine kseq_n ?_
          refine RunC.seq ?_
          refine RunC.regionU hU 8 [blk b57 92 (nums .i64 zs54), blk b76 92 (nums .i64 zs73)] [1, 0] [5, 6, 7] (bm 8 0) (by kernel_rfl) (by kernel_rfl) (by kernel_rfl) ?_
          refine RunU.rd 0 (bm 8 1) 67 (.load 92 (.tmp 16)) (ag .i64 zs54) [1, 0] (Reads.load_arr hU 0 b57 92 32 .i64 zs54 (by kernel_rfl) (by kernel_rfl) (by kernel_rfl) (by kernel_rfl) (by omega)) ?_
          refine RunU.rd 1 (bm 8 3) 68 (.load 92 (.tmp 17)) (ag .i64 zs73) [1, 0] (Reads.load_arr hU 1 b76 92 32 .i64 zs73 (by kernel_rfl) (by kernel_rfl) (by kernel_rfl) (by kernel_rfl) (by omega)) ?_
          refine RunU.rd 3 (bm 8 11) 70 (.load 92 (.tmp 16)) (ag .i64 zs54) [1, 0] (Reads.load_arr hU 0 b57 92 32 .i64 zs54 (by kernel_rfl) (by kernel_rfl) (by kernel_rfl) (by kernel_rfl) (by omega)) ?_
          refine RunU.rd 4 (bm 8 27) 71 (.load 92 (.tmp 17)) (ag .i64 zs73) [1, 0] (Reads.load_arr hU 1 b76 92 32 .i64 zs73 (by kernel_rfl) (by kernel_rfl) (by kernel_rfl) (by kernel_rfl) (by omega)) ?_
          refine RunU.on (some 69) (.call { callee := .value (.func 79), args := #[.tmp 67, .tmp 68], argTypes := #[92, 92] }) 2 (bm 8 31) [1, 0] (Step.cn 79 [ag .i64 zs54, ag .i64 zs73] [] [blk b76 92 (nums .i64 zs73), blk b57 92 (nums .i64 zs54), blk b49 92 (nums .i64 zs46), blk b44 92 (nums .i64 zs41), blk b39 92 (nums .i64 zs36), blk b34 92 (nums .i64 zs31), blk b29 92 (nums .i64 zs26), blk b20 92 (nums .i64 q2), blk b13 92 (nums .i64 q3), blk b15 92 (nums .i64 p2), blk b8 92 (nums .i64 p3), blk b3 92 (nums .i64 (List.replicate 32 (0 : Int))), blk b2 92 (nums .i64 us), vw A8 (nums .u8 ks)] (n_Add_spec zs54 ((((x2 - z2) % P) * ((x3 + z3) % P)) % P) zs73 ((((x2 + z2) % P) * ((x3 - z3) % P)) % P) (by assumption) (by assumption) (by assumption) (by assumption)) [] ?_)
          rintro _ _ ⟨zs89, rfl, rfl, hp90, hp91⟩
          refine orL ?_
          refine RunU.on (some 72) (.call { callee := .value (.func 79), args := #[.tmp 70, .tmp 71], argTypes := #[92, 92] }) 5 (bm 8 63) [] (Step.cn 79 [ag .i64 zs54, ag .i64 zs73] [] [blk b76 92 (nums .i64 zs73), blk b57 92 (nums .i64 zs54), blk b49 92 (nums .i64 zs46), blk b44 92 (nums .i64 zs41), blk b39 92 (nums .i64 zs36), blk b34 92 (nums .i64 zs31), blk b29 92 (nums .i64 zs26), blk b20 92 (nums .i64 q2), blk b13 92 (nums .i64 q3), blk b15 92 (nums .i64 p2), blk b8 92 (nums .i64 p3), blk b3 92 (nums .i64 (List.replicate 32 (0 : Int))), blk b2 92 (nums .i64 us), vw A8 (nums .u8 ks)] (n_Add_spec zs54 ((((x2 - z2) % P) * ((x3 + z3) % P)) % P) zs73 ((((x2 + z2) % P) * ((x3 - z3) % P)) % P) (by assumption) (by assumption) (by assumption) (by assumption)) [] ?_)
          rintro _ _ ⟨zs92, rfl, rfl, hp93, hp94⟩
          refine orR ?_
          refine RunU.on (some 73) (.call { callee := .value (.func 81), args := #[.tmp 69, .tmp 72], argTypes := #[92, 92] }) 6 (bm 8 127) [] (Step.cn 81 [ag .i64 zs89, ag .i64 zs92] [] [blk b76 92 (nums .i64 zs73), blk b57 92 (nums .i64 zs54), blk b49 92 (nums .i64 zs46), blk b44 92 (nums .i64 zs41), blk b39 92 (nums .i64 zs36), blk b34 92 (nums .i64 zs31), blk b29 92 (nums .i64 zs26), blk b20 92 (nums .i64 q2), blk b13 92 (nums .i64 q3), blk b15 92 (nums .i64 p2), blk b8 92 (nums .i64 p3), blk b3 92 (nums .i64 (List.replicate 32 (0 : Int))), blk b2 92 (nums .i64 us), vw A8 (nums .u8 ks)] (n_Mul_spec zs89 ((((((x2 - z2) % P) * ((x3 + z3) % P)) % P) + ((((x2 + z2) % P) * ((x3 - z3) % P)) % P)) % P) zs92 ((((((x2 - z2) % P) * ((x3 + z3) % P)) % P) + ((((x2 + z2) % P) * ((x3 - z3) % P)) % P)) % P) (by assumption) (by assumption) (by assumption) (by assumption)) [] ?_)
          rintro _ _ ⟨zs95, rfl, rfl, hp96, hp97⟩
          refine orR ?_
          refine RunU.on none (.store 92 (.tmp 7) (.tmp 73)) 7 (bm 8 255) [] (Step.store_arr hU 9 b15 92 32 .i64 p2 zs95 (by kernel_rfl) (by kernel_rfl) (by kernel_rfl) (by kernel_rfl) (by omega) (by omega) ?_)
          refine orR ?_
          refine RunU.ev [0, 3, 4, 5, 6, 7, 8, 9, 10, 13, 14, 15, 16, 17] [(0, .slice A8 ks.length c8), (3, pt b2), (4, pt b3), (5, pt b8), (6, pt b13), (7, pt b15), (8, pt b20), (9, .int .i64 i), (10, .int .u8 (((ks.getD (i / (8 : Int)).toNat 0) / 2 ^ (min (i % (8 : Int)).toNat 8)) % (2 : Int))), (13, pt b39), (14, pt b44), (15, pt b49), (16, pt b57), (17, pt b76)] ?_
          refine RunU.dn ?_
          refine kseq_n ?_
          refine RunC.seq ?_
          refine RunC.regionU hU 10 [blk b2 92 (nums .i64 us), blk b57 92 (nums .i64 zs54), blk b76 92 (nums .i64 zs73)] [12, 2, 1] [8, 9] (bm 10 0) (by kernel_rfl) (by kernel_rfl) (by kernel_rfl) ?_
          refine RunU.rd 0 (bm 10 1) 74 (.load 92 (.tmp 3)) (ag .i64 us) [12, 2, 1] (Reads.load_arr hU 0 b2 92 32 .i64 us (by kernel_rfl) (by kernel_rfl) (by kernel_rfl) (by kernel_rfl) (by omega)) ?_
          refine RunU.rd 1 (bm 10 3) 75 (.load 92 (.tmp 16)) (ag .i64 zs54) [12, 2, 1] (Reads.load_arr hU 1 b57 92 32 .i64 zs54 (by kernel_rfl) (by kernel_rfl) (by kernel_rfl) (by kernel_rfl) (by omega)) ?_
          refine RunU.rd 2 (bm 10 7) 76 (.load 92 (.tmp 17)) (ag .i64 zs73) [12, 2, 1] (Reads.load_arr hU 2 b76 92 32 .i64 zs73 (by kernel_rfl) (by kernel_rfl) (by kernel_rfl) (by kernel_rfl) (by omega)) ?_
          refine RunU.rd 4 (bm 10 23) 78 (.load 92 (.tmp 16)) (ag .i64 zs54) [12, 2, 1] (Reads.load_arr hU 1 b57 92 32 .i64 zs54 (by kernel_rfl) (by kernel_rfl) (by kernel_rfl) (by kernel_rfl) (by omega)) ?_
          refine RunU.rd 5 (bm 10 55) 79 (.load 92 (.tmp 17)) (ag .i64 zs73) [12, 2, 1] (Reads.load_arr hU 2 b76 92 32 .i64 zs73 (by kernel_rfl) (by kernel_rfl) (by kernel_rfl) (by kernel_rfl) (by omega)) ?_
          refine RunU.on (some 77) (.call { callee := .value (.func 80), args := #[.tmp 75, .tmp 76], argTypes := #[92, 92] }) 3 (bm 10 63) [12, 2, 1] (Step.cn 80 [ag .i64 zs54, ag .i64 zs73] [] [blk b15 92 (nums .i64 zs95), blk b76 92 (nums .i64 zs73), blk b57 92 (nums .i64 zs54), blk b49 92 (nums .i64 zs46), blk b44 92 (nums .i64 zs41), blk b39 92 (nums .i64 zs36), blk b34 92 (nums .i64 zs31), blk b29 92 (nums .i64 zs26), blk b20 92 (nums .i64 q2), blk b13 92 (nums .i64 q3), blk b8 92 (nums .i64 p3), blk b3 92 (nums .i64 (List.replicate 32 (0 : Int))), blk b2 92 (nums .i64 us), vw A8 (nums .u8 ks)] (n_Sub_spec zs54 ((((x2 - z2) % P) * ((x3 + z3) % P)) % P) zs73 ((((x2 + z2) % P) * ((x3 - z3) % P)) % P) (by assumption) (by assumption) (by assumption) (by assumption) (by exact Int.le_of_lt (Int.emod_lt_of_pos _ (by decide)))) [] ?_)
          rintro _ _ ⟨zs98, rfl, rfl, hp99, hp100⟩
          refine orL ?_
          refine RunU.on (some 80) (.call { callee := .value (.func 80), args := #[.tmp 78, .tmp 79], argTypes := #[92, 92] }) 6 (bm 10 127) [12, 2, 1] (Step.cn 80 [ag .i64 zs54, ag .i64 zs73] [] [blk b15 92 (nums .i64 zs95), blk b76 92 (nums .i64 zs73), blk b57 92 (nums .i64 zs54), blk b49 92 (nums .i64 zs46), blk b44 92 (nums .i64 zs41), blk b39 92 (nums .i64 zs36), blk b34 92 (nums .i64 zs31), blk b29 92 (nums .i64 zs26), blk b20 92 (nums .i64 q2), blk b13 92 (nums .i64 q3), blk b8 92 (nums .i64 p3), blk b3 92 (nums .i64 (List.replicate 32 (0 : Int))), blk b2 92 (nums .i64 us), vw A8 (nums .u8 ks)] (n_Sub_spec zs54 ((((x2 - z2) % P) * ((x3 + z3) % P)) % P) zs73 ((((x2 + z2) % P) * ((x3 - z3) % P)) % P) (by assumption) (by assumption) (by assumption) (by assumption) (by exact Int.le_of_lt (Int.emod_lt_of_pos _ (by decide)))) [] ?_)
          rintro _ _ ⟨zs101, rfl, rfl, hp102, hp103⟩
          refine orL ?_
          refine RunU.on (some 81) (.call { callee := .value (.func 81), args := #[.tmp 77, .tmp 80], argTypes := #[92, 92] }) 7 (bm 10 255) [12, 2, 1] (Step.cn 81 [ag .i64 zs98, ag .i64 zs101] [] [blk b15 92 (nums .i64 zs95), blk b76 92 (nums .i64 zs73), blk b57 92 (nums .i64 zs54), blk b49 92 (nums .i64 zs46), blk b44 92 (nums .i64 zs41), blk b39 92 (nums .i64 zs36), blk b34 92 (nums .i64 zs31), blk b29 92 (nums .i64 zs26), blk b20 92 (nums .i64 q2), blk b13 92 (nums .i64 q3), blk b8 92 (nums .i64 p3), blk b3 92 (nums .i64 (List.replicate 32 (0 : Int))), blk b2 92 (nums .i64 us), vw A8 (nums .u8 ks)] (n_Mul_spec zs98 ((((((x2 - z2) % P) * ((x3 + z3) % P)) % P) - ((((x2 + z2) % P) * ((x3 - z3) % P)) % P)) % P) zs101 ((((((x2 - z2) % P) * ((x3 + z3) % P)) % P) - ((((x2 + z2) % P) * ((x3 - z3) % P)) % P)) % P) (by assumption) (by assumption) (by assumption) (by assumption)) [] ?_)
          rintro _ _ ⟨zs104, rfl, rfl, hp105, hp106⟩
          refine orL ?_
          refine RunU.on (some 82) (.call { callee := .value (.func 81), args := #[.tmp 74, .tmp 81], argTypes := #[92, 92] }) 8 (bm 10 511) [] (Step.cn 81 [ag .i64 us, ag .i64 zs104] [] [blk b15 92 (nums .i64 zs95), blk b76 92 (nums .i64 zs73), blk b57 92 (nums .i64 zs54), blk b49 92 (nums .i64 zs46), blk b44 92 (nums .i64 zs41), blk b39 92 (nums .i64 zs36), blk b34 92 (nums .i64 zs31), blk b29 92 (nums .i64 zs26), blk b20 92 (nums .i64 q2), blk b13 92 (nums .i64 q3), blk b8 92 (nums .i64 p3), blk b3 92 (nums .i64 (List.replicate 32 (0 : Int))), blk b2 92 (nums .i64 us), vw A8 (nums .u8 ks)] (n_Mul_spec us u zs104 ((((((((x2 - z2) % P) * ((x3 + z3) % P)) % P) - ((((x2 + z2) % P) * ((x3 - z3) % P)) % P)) % P) * ((((((x2 - z2) % P) * ((x3 + z3) % P)) % P) - ((((x2 + z2) % P) * ((x3 - z3) % P)) % P)) % P)) % P) (by assumption) (by assumption) (by assumption) (by assumption)) [] ?_)
          rintro _ _ ⟨zs107, rfl, rfl, hp108, hp109⟩
          refine orR ?_
          refine RunU.on none (.store 92 (.tmp 8) (.tmp 82)) 9 (bm 10 1023) [] (Step.store_arr hU 8 b20 92 32 .i64 q2 zs107 (by kernel_rfl) (by kernel_rfl) (by kernel_rfl) (by kernel_rfl) (by omega) (by omega) ?_)
          refine orR ?_
          refine RunU.ev [0, 3, 4, 5, 6, 7, 8, 9, 10, 13, 14, 15] [(0, .slice A8 ks.length c8), (3, pt b2), (4, pt b3), (5, pt b8), (6, pt b13), (7, pt b15), (8, pt b20), (9, .int .i64 i), (10, .int .u8 (((ks.getD (i / (8 : Int)).toNat 0) / 2 ^ (min (i % (8 : Int)).toNat 8)) % (2 : Int))), (13, pt b39), (14, pt b44), (15, pt b49)] ?_
          refine RunU.dn ?_
          refine kseq_n ?_
          refine RunC.sr ?_
          refine RunR.st (some 83) (.load 92 (.tmp 13)) (Step.load_arr hU 6 b39 92 32 .i64 zs36 (by kernel_rfl) (by kernel_rfl) (by kernel_rfl) (by kernel_rfl) (by omega) (by kernel_rfl) ?_)
          refine RunR.st (some 84) (.load 92 (.tmp 14)) (Step.load_arr hU 5 b44 92 32 .i64 zs41 (by kernel_rfl) (by kernel_rfl) (by kernel_rfl) (by kernel_rfl) (by omega) (by kernel_rfl) ?_)
          refine RunR.st (some 85) (.call { callee := .value (.func 81), args := #[.tmp 83, .tmp 84], argTypes := #[92, 92] }) (Step.cn 81 [ag .i64 zs36, ag .i64 zs41] [] [blk b20 92 (nums .i64 zs107), blk b15 92 (nums .i64 zs95), blk b76 92 (nums .i64 zs73), blk b57 92 (nums .i64 zs54), blk b49 92 (nums .i64 zs46), blk b44 92 (nums .i64 zs41), blk b39 92 (nums .i64 zs36), blk b34 92 (nums .i64 zs31), blk b29 92 (nums .i64 zs26), blk b13 92 (nums .i64 q3), blk b8 92 (nums .i64 p3), blk b3 92 (nums .i64 (List.replicate 32 (0 : Int))), blk b2 92 (nums .i64 us), vw A8 (nums .u8 ks)] (n_Mul_spec zs36 ((((x3 + z3) % P) * ((x3 + z3) % P)) % P) zs41 ((((x3 - z3) % P) * ((x3 - z3) % P)) % P) (by assumption) (by assumption) (by assumption) (by assumption)) [] ?_)
          rintro _ _ ⟨zs110, rfl, rfl, hp111, hp112⟩
          refine RunR.st none (.store 92 (.tmp 5) (.tmp 85)) (Step.store_arr hU 10 b8 92 32 .i64 p3 zs110 (by kernel_rfl) (by kernel_rfl) (by kernel_rfl) (by kernel_rfl) (by omega) (by omega) ?_)
          refine RunR.nn ?_
          refine RunC.seq ?_
          refine RunC.regionU hU 8 [blk b49 92 (nums .i64 zs46), blk b39 92 (nums .i64 zs36)] [5, 7] [6, 7] (bm 8 0) (by kernel_rfl) (by kernel_rfl) (by kernel_rfl) ?_
          refine RunU.rd 0 (bm 8 1) 86 (.load 92 (.tmp 15)) (ag .i64 zs46) [5, 7] (Reads.load_arr hU 0 b49 92 32 .i64 zs46 (by kernel_rfl) (by kernel_rfl) (by kernel_rfl) (by kernel_rfl) (by omega)) ?_
          refine RunU.rd 1 (bm 8 3) 87 (.load 92 (.tmp 13)) (ag .i64 zs36) [5, 7] (Reads.load_arr hU 1 b39 92 32 .i64 zs36 (by kernel_rfl) (by kernel_rfl) (by kernel_rfl) (by kernel_rfl) (by omega)) ?_
          refine RunU.rd 3 (bm 8 11) 89 (.load 92 (.tmp 15)) (ag .i64 zs46) [5, 7] (Reads.load_arr hU 0 b49 92 32 .i64 zs46 (by kernel_rfl) (by kernel_rfl) (by kernel_rfl) (by kernel_rfl) (by omega)) ?_
          refine RunU.on (some 88) (.call { callee := .value (.func 62), args := #[.const (.int .u32 121665)], argTypes := #[96] }) 2 (bm 8 15) [5, 7] (Step.cn 62 [.int .u32 121665] [] [blk b8 92 (nums .i64 zs110), blk b20 92 (nums .i64 zs107), blk b15 92 (nums .i64 zs95), blk b76 92 (nums .i64 zs73), blk b57 92 (nums .i64 zs54), blk b49 92 (nums .i64 zs46), blk b44 92 (nums .i64 zs41), blk b39 92 (nums .i64 zs36), blk b34 92 (nums .i64 zs31), blk b29 92 (nums .i64 zs26), blk b13 92 (nums .i64 q3), blk b3 92 (nums .i64 (List.replicate 32 (0 : Int))), blk b2 92 (nums .i64 us), vw A8 (nums .u8 ks)] (n_Small_spec 121665 (by (refine ⟨?_, ?_⟩ <;> omega))) [] ?_)
          rintro _ _ ⟨zs113, rfl, rfl, hp114, hp115⟩
          refine orL ?_
          refine RunU.on (some 90) (.call { callee := .value (.func 81), args := #[.tmp 88, .tmp 89], argTypes := #[92, 92] }) 4 (bm 8 31) [5, 7] (Step.cn 81 [ag .i64 zs113, ag .i64 zs46] [] [blk b8 92 (nums .i64 zs110), blk b20 92 (nums .i64 zs107), blk b15 92 (nums .i64 zs95), blk b76 92 (nums .i64 zs73), blk b57 92 (nums .i64 zs54), blk b49 92 (nums .i64 zs46), blk b44 92 (nums .i64 zs41), blk b39 92 (nums .i64 zs36), blk b34 92 (nums .i64 zs31), blk b29 92 (nums .i64 zs26), blk b13 92 (nums .i64 q3), blk b3 92 (nums .i64 (List.replicate 32 (0 : Int))), blk b2 92 (nums .i64 us), vw A8 (nums .u8 ks)] (n_Mul_spec zs113 121665 zs46 ((((((x3 + z3) % P) * ((x3 + z3) % P)) % P) - ((((x3 - z3) % P) * ((x3 - z3) % P)) % P)) % P) (by assumption) (by assumption) (by assumption) (by assumption)) [] ?_)
          rintro _ _ ⟨zs116, rfl, rfl, hp117, hp118⟩
          refine orL ?_
          refine RunU.on (some 91) (.call { callee := .value (.func 79), args := #[.tmp 87, .tmp 90], argTypes := #[92, 92] }) 5 (bm 8 63) [5, 7] (Step.cn 79 [ag .i64 zs36, ag .i64 zs116] [] [blk b8 92 (nums .i64 zs110), blk b20 92 (nums .i64 zs107), blk b15 92 (nums .i64 zs95), blk b76 92 (nums .i64 zs73), blk b57 92 (nums .i64 zs54), blk b49 92 (nums .i64 zs46), blk b44 92 (nums .i64 zs41), blk b39 92 (nums .i64 zs36), blk b34 92 (nums .i64 zs31), blk b29 92 (nums .i64 zs26), blk b13 92 (nums .i64 q3), blk b3 92 (nums .i64 (List.replicate 32 (0 : Int))), blk b2 92 (nums .i64 us), vw A8 (nums .u8 ks)] (n_Add_spec zs36 ((((x3 + z3) % P) * ((x3 + z3) % P)) % P) zs116 ((121665 * ((((((x3 + z3) % P) * ((x3 + z3) % P)) % P) - ((((x3 - z3) % P) * ((x3 - z3) % P)) % P)) % P)) % P) (by assumption) (by assumption) (by assumption) (by assumption)) [] ?_)
          rintro _ _ ⟨zs119, rfl, rfl, hp120, hp121⟩
          refine orL ?_
          refine RunU.on (some 92) (.call { callee := .value (.func 81), args := #[.tmp 86, .tmp 91], argTypes := #[92, 92] }) 6 (bm 8 127) [] (Step.cn 81 [ag .i64 zs46, ag .i64 zs119] [] [blk b8 92 (nums .i64 zs110), blk b20 92 (nums .i64 zs107), blk b15 92 (nums .i64 zs95), blk b76 92 (nums .i64 zs73), blk b57 92 (nums .i64 zs54), blk b49 92 (nums .i64 zs46), blk b44 92 (nums .i64 zs41), blk b39 92 (nums .i64 zs36), blk b34 92 (nums .i64 zs31), blk b29 92 (nums .i64 zs26), blk b13 92 (nums .i64 q3), blk b3 92 (nums .i64 (List.replicate 32 (0 : Int))), blk b2 92 (nums .i64 us), vw A8 (nums .u8 ks)] (n_Mul_spec zs46 ((((((x3 + z3) % P) * ((x3 + z3) % P)) % P) - ((((x3 - z3) % P) * ((x3 - z3) % P)) % P)) % P) zs119 ((((((x3 + z3) % P) * ((x3 + z3) % P)) % P) + ((121665 * ((((((x3 + z3) % P) * ((x3 + z3) % P)) % P) - ((((x3 - z3) % P) * ((x3 - z3) % P)) % P)) % P)) % P)) % P) (by assumption) (by assumption) (by assumption) (by assumption)) [] ?_)
          rintro _ _ ⟨zs122, rfl, rfl, hp123, hp124⟩
          refine orR ?_
          refine RunU.on none (.store 92 (.tmp 6) (.tmp 92)) 7 (bm 8 255) [] (Step.store_arr hU 10 b13 92 32 .i64 q3 zs122 (by kernel_rfl) (by kernel_rfl) (by kernel_rfl) (by kernel_rfl) (by omega) (by omega) ?_)
          refine orR ?_
          refine RunU.ev [0, 3, 4, 5, 6, 7, 8, 9, 10] [(0, .slice A8 ks.length c8), (3, pt b2), (4, pt b3), (5, pt b8), (6, pt b13), (7, pt b15), (8, pt b20), (9, .int .i64 i), (10, .int .u8 (((ks.getD (i / (8 : Int)).toNat 0) / 2 ^ (min (i % (8 : Int)).toNat 8)) % (2 : Int)))] ?_
          refine RunU.dn ?_
          refine kseq_n ?_
          refine RunC.sr ?_
          refine RunR.sl hU [] 2 2 [0, 3, 4, 5, 6, 7, 8, 9, 94] [(0, .slice A8 ks.length c8), (3, pt b2), (4, pt b3), (5, pt b8), (6, pt b13), (7, pt b15), (8, pt b20), (9, .int .i64 i), (94, .bool (decide ((((ks.getD (i / (8 : Int)).toNat 0) / 2 ^ (min (i % (8 : Int)).toNat 8)) % (2 : Int)) = 1)))] 2 ?_
          refine RunR.ev [0, 3, 4, 5, 6, 7, 8, 9, 94] [(0, .slice A8 ks.length c8), (3, pt b2), (4, pt b3), (5, pt b8), (6, pt b13), (7, pt b15), (8, pt b20), (9, .int .i64 i), (94, .bool (decide ((((ks.getD (i / (8 : Int)).toNat 0) / 2 ^ (min (i % (8 : Int)).toNat 8)) % (2 : Int)) = 1)))] ?_
          have hk125 : ((((ks.getD (i / (8 : Int)).toNat 0) / 2 ^ (min (i % (8 : Int)).toNat 8)) % (2 : Int)) = 1) := by exact h25
          refine RunR.enveq [(0, .slice A8 ks.length c8), (3, pt b2), (4, pt b3), (5, pt b8), (6, pt b13), (7, pt b15), (8, pt b20), (9, .int .i64 i), (94, .bool true)] (by rw [decide_eq_true hk125]; try rfl) ?_
          refine RunR.nn ?_
          refine RunC.cond (b := true) (by kernel_rfl) (fun _ => ?_) (fun h => by cases h)
          refine RunC.sr ?_
          refine RunR.st (some 95) (.load 92 (.tmp 7)) (Step.load_arr hU 3 b15 92 32 .i64 zs95 (by kernel_rfl) (by kernel_rfl) (by kernel_rfl) (by kernel_rfl) (by omega) (by kernel_rfl) ?_)
          refine RunR.st (some 96) (.load 92 (.tmp 5)) (Step.load_arr hU 1 b8 92 32 .i64 zs110 (by kernel_rfl) (by kernel_rfl) (by kernel_rfl) (by kernel_rfl) (by omega) (by kernel_rfl) ?_)
          refine RunR.st none (.store 92 (.tmp 5) (.tmp 95)) (Step.store_arr hU 1 b8 92 32 .i64 zs110 zs95 (by kernel_rfl) (by kernel_rfl) (by kernel_rfl) (by kernel_rfl) (by omega) (by omega) ?_)
          refine RunR.st none (.store 92 (.tmp 7) (.tmp 96)) (Step.store_arr hU 3 b15 92 32 .i64 zs95 zs110 (by kernel_rfl) (by kernel_rfl) (by kernel_rfl) (by kernel_rfl) (by omega) (by omega) ?_)
          refine RunR.nn ?_
          refine RunC.region ?_
          refine RunR.st (some 97) (.load 92 (.tmp 8)) (Step.load_arr hU 3 b20 92 32 .i64 zs107 (by kernel_rfl) (by kernel_rfl) (by kernel_rfl) (by kernel_rfl) (by omega) (by kernel_rfl) ?_)
          refine RunR.st (some 98) (.load 92 (.tmp 6)) (Step.load_arr hU 2 b13 92 32 .i64 zs122 (by kernel_rfl) (by kernel_rfl) (by kernel_rfl) (by kernel_rfl) (by omega) (by kernel_rfl) ?_)
          refine RunR.st none (.store 92 (.tmp 6) (.tmp 97)) (Step.store_arr hU 2 b13 92 32 .i64 zs122 zs107 (by kernel_rfl) (by kernel_rfl) (by kernel_rfl) (by kernel_rfl) (by omega) (by omega) ?_)
          refine RunR.st none (.store 92 (.tmp 8) (.tmp 98)) (Step.store_arr hU 3 b20 92 32 .i64 zs107 zs122 (by kernel_rfl) (by kernel_rfl) (by kernel_rfl) (by kernel_rfl) (by omega) (by omega) ?_)
          refine RunR.dn ?_
          refine kblock_n ?_
          refine kseq_n ?_
          refine RunC.region ?_
          refine RunR.sil hU [1] 3 3 [0, 3, 4, 5, 6, 7, 8, 9] [(0, .slice A8 ks.length c8), (3, pt b2), (4, pt b3), (5, pt b8), (6, pt b13), (7, pt b15), (8, pt b20), (9, .int .i64 (i - 1))] ((True) ∧ (-9223372036854775808 ≤ (i - 1) ∧ (i - 1) < 9223372036854775808) ∧ (True) ∧ True) rfl (by kernel_rfl) ⟨trivial, (by omega), trivial, trivial⟩ ?_
          refine RunR.dn ?_
          refine kloop_n _ [0, 3, 4, 5, 6, 7, 8, 9] [3, 1, 1, 0, 7, 7, 7] [(0, .slice A8 ks.length c8), (3, pt b2), (4, pt b3), (5, pt b8), (6, pt b13), (7, pt b15), (8, pt b20), (9, .int .i64 (i - 1))] [blk b8 92 (nums .i64 zs95), blk b13 92 (nums .i64 zs107), blk b15 92 (nums .i64 zs110), blk b20 92 (nums .i64 zs122), blk b3 92 (nums .i64 (List.replicate 32 (0 : Int))), blk b2 92 (nums .i64 us), vw A8 (nums .u8 ks)] (by kernel_rfl) (by kernel_rfl) ?_ ⟨(i - 1), zs95, zs107, zs110, zs122, ((((((((x2 - z2) % P) * ((x3 + z3) % P)) % P) + ((((x2 + z2) % P) * ((x3 - z3) % P)) % P)) % P) * ((((((x2 - z2) % P) * ((x3 + z3) % P)) % P) + ((((x2 + z2) % P) * ((x3 - z3) % P)) % P)) % P)) % P), ((u * ((((((((x2 - z2) % P) * ((x3 + z3) % P)) % P) - ((((x2 + z2) % P) * ((x3 - z3) % P)) % P)) % P) * ((((((x2 - z2) % P) * ((x3 + z3) % P)) % P) - ((((x2 + z2) % P) * ((x3 - z3) % P)) % P)) % P)) % P)) % P), ((((((x3 + z3) % P) * ((x3 + z3) % P)) % P) * ((((x3 - z3) % P) * ((x3 - z3) % P)) % P)) % P), ((((((((x3 + z3) % P) * ((x3 + z3) % P)) % P) - ((((x3 - z3) % P) * ((x3 - z3) % P)) % P)) % P) * ((((((x3 + z3) % P) * ((x3 + z3) % P)) % P) + ((121665 * ((((((x3 + z3) % P) * ((x3 + z3) % P)) % P) - ((((x3 - z3) % P) * ((x3 - z3) % P)) % P)) % P)) % P)) % P)) % P), (by omega), (by omega), (by assumption), (by assumption), (by assumption), (by assumption), (by assumption), (by assumption), (by assumption), (by assumption), (by exact Int.emod_lt_of_pos _ (by decide)), (by exact Int.emod_lt_of_pos _ (by decide)), (by exact Int.emod_lt_of_pos _ (by decide)), (by exact Int.emod_lt_of_pos _ (by decide)), (by rw [show (254 - (i - 1)).toNat = (254 - i).toNat + 1 by omega]; exact lad_one hs (bit_b hIks (by omega) (by omega) (by assumption))), rfl, (by rfl), (by rfl)⟩
          show (((i - 1) + 1).toNat : Nat) < ((i + 1).toNat : Nat)
          omega
        have hD87_1 : ∀ (zs73 : List Int), Dg zs73 ((((x2 + z2) % P) * ((x3 - z3) % P)) % P) → zs73.length = 32 → R_ 2 (bm 7 31) [(0, .slice A8 ks.length c8), (3, pt b2), (4, pt b3), (5, pt b8), (6, pt b13), (7, pt b15), (8, pt b20), (9, .int .i64 i), (10, .int .u8 (((ks.getD (i / (8 : Int)).toNat 0) / 2 ^ (min (i % (8 : Int)).toNat 8)) % (2 : Int))), (13, pt b39), (14, pt b44), (15, pt b49), (16, pt b57), (66, ag .i64 zs73)] [blk b57 92 (nums .i64 zs54), blk b49 92 (nums .i64 zs46), blk b44 92 (nums .i64 zs41), blk b39 92 (nums .i64 zs36), blk b34 92 (nums .i64 zs31), blk b29 92 (nums .i64 zs26), blk b20 92 (nums .i64 q2), blk b13 92 (nums .i64 q3), blk b15 92 (nums .i64 p2), blk b8 92 (nums .i64 p3), blk b3 92 (nums .i64 (List.replicate 32 (0 : Int))), blk b2 92 (nums .i64 us), vw A8 (nums .u8 ks)] := by
          intro zs73 hp74 hp75
          rw [hR_]
          refine RunU.any [5] (by kernel_rfl) rfl (all_cons (i := 5) ?_ all_nil)
          · skip
            refine ⟨(some 17), (.alloc 92), (bm 7 63), [9, 7, 5], (by kernel_rfl), (by kernel_rfl), ?_⟩
            refine (Step.al hU 32 256 z32 (fun b126 => ?_))
            have hl127 : (List.replicate 32 (0 : Int)).length = 32 := List.length_replicate
            refine orL ?_
            refine RunU.turn [blk b126 92 (nums .i64 (List.replicate 32 (0 : Int))), blk b57 92 (nums .i64 zs54), blk b49 92 (nums .i64 zs46), blk b44 92 (nums .i64 zs41), blk b39 92 (nums .i64 zs36), blk b34 92 (nums .i64 zs31), blk b29 92 (nums .i64 zs26), blk b20 92 (nums .i64 q2), blk b13 92 (nums .i64 q3), blk b15 92 (nums .i64 p2), blk b8 92 (nums .i64 p3), blk b3 92 (nums .i64 (List.replicate 32 (0 : Int))), blk b2 92 (nums .i64 us), vw A8 (nums .u8 ks)] (fun _ _ w hs => hs.pulls2 [0, 0, 0, 0, 0, 0, 0, 0, 0, 0, 0, 0, 0, 0] _ (by kernel_rfl)) ?_
            refine RunU.ev [0, 3, 4, 5, 6, 7, 8, 9, 10, 13, 14, 15, 16, 17, 66] [(0, .slice A8 ks.length c8), (3, pt b2), (4, pt b3), (5, pt b8), (6, pt b13), (7, pt b15), (8, pt b20), (9, .int .i64 i), (10, .int .u8 (((ks.getD (i / (8 : Int)).toNat 0) / 2 ^ (min (i % (8 : Int)).toNat 8)) % (2 : Int))), (13, pt b39), (14, pt b44), (15, pt b49), (16, pt b57), (17, pt b126), (66, ag .i64 zs73)] ?_
            have q_ := hD87_0 zs73 b126 (by assumption) (by assumption)
            rw [hR_] at q_
            exact q_
        have hD87_2 : ∀ (zs70 : List Int) (b78 : Nat), Dg zs70 ((x2 + z2) % P) → zs70.length = 32 → R_ 2 (bm 7 47) [(0, .slice A8 ks.length c8), (3, pt b2), (4, pt b3), (5, pt b8), (6, pt b13), (7, pt b15), (8, pt b20), (9, .int .i64 i), (10, .int .u8 (((ks.getD (i / (8 : Int)).toNat 0) / 2 ^ (min (i % (8 : Int)).toNat 8)) % (2 : Int))), (13, pt b39), (14, pt b44), (15, pt b49), (16, pt b57), (17, pt b78), (64, ag .i64 zs70), (65, ag .i64 zs31)] [blk b78 92 (nums .i64 (List.replicate 32 (0 : Int))), blk b57 92 (nums .i64 zs54), blk b49 92 (nums .i64 zs46), blk b44 92 (nums .i64 zs41), blk b39 92 (nums .i64 zs36), blk b34 92 (nums .i64 zs31), blk b29 92 (nums .i64 zs26), blk b20 92 (nums .i64 q2), blk b13 92 (nums .i64 q3), blk b15 92 (nums .i64 p2), blk b8 92 (nums .i64 p3), blk b3 92 (nums .i64 (List.replicate 32 (0 : Int))), blk b2 92 (nums .i64 us), vw A8 (nums .u8 ks)] := by
          intro zs70 b78 hp71 hp72
          rw [hR_]
          refine RunU.any [4] (by kernel_rfl) rfl (all_cons (i := 4) ?_ all_nil)
          · skip
            refine ⟨(some 66), (.call { callee := .value (.func 81), args := #[.tmp 64, .tmp 65], argTypes := #[92, 92] }), (bm 7 63), [], (by kernel_rfl), (by kernel_rfl), ?_⟩
            refine (Step.cn 81 [ag .i64 zs70, ag .i64 zs31] [] [blk b78 92 (nums .i64 (List.replicate 32 (0 : Int))), blk b57 92 (nums .i64 zs54), blk b49 92 (nums .i64 zs46), blk b44 92 (nums .i64 zs41), blk b39 92 (nums .i64 zs36), blk b34 92 (nums .i64 zs31), blk b29 92 (nums .i64 zs26), blk b20 92 (nums .i64 q2), blk b13 92 (nums .i64 q3), blk b15 92 (nums .i64 p2), blk b8 92 (nums .i64 p3), blk b3 92 (nums .i64 (List.replicate 32 (0 : Int))), blk b2 92 (nums .i64 us), vw A8 (nums .u8 ks)] (n_Mul_spec zs70 ((x2 + z2) % P) zs31 ((x3 - z3) % P) (by assumption) (by assumption) (by assumption) (by assumption)) [] ?_)
            rintro _ _ ⟨zs128, rfl, rfl, hp129, hp130⟩
            refine orR ?_
            refine RunU.turn [blk b78 92 (nums .i64 (List.replicate 32 (0 : Int))), blk b57 92 (nums .i64 zs54), blk b49 92 (nums .i64 zs46), blk b44 92 (nums .i64 zs41), blk b39 92 (nums .i64 zs36), blk b34 92 (nums .i64 zs31), blk b29 92 (nums .i64 zs26), blk b20 92 (nums .i64 q2), blk b13 92 (nums .i64 q3), blk b15 92 (nums .i64 p2), blk b8 92 (nums .i64 p3), blk b3 92 (nums .i64 (List.replicate 32 (0 : Int))), blk b2 92 (nums .i64 us), vw A8 (nums .u8 ks)] (fun _ _ w hs => hs.pulls2 [0, 0, 0, 0, 0, 0, 0, 0, 0, 0, 0, 0, 0, 0] _ (by kernel_rfl)) ?_
            refine RunU.ev [0, 3, 4, 5, 6, 7, 8, 9, 10, 13, 14, 15, 16, 17, 66] [(0, .slice A8 ks.length c8), (3, pt b2), (4, pt b3), (5, pt b8), (6, pt b13), (7, pt b15), (8, pt b20), (9, .int .i64 i), (10, .int .u8 (((ks.getD (i / (8 : Int)).toNat 0) / 2 ^ (min (i % (8 : Int)).toNat 8)) % (2 : Int))), (13, pt b39), (14, pt b44), (15, pt b49), (16, pt b57), (17, pt b78), (66, ag .i64 zs128)] ?_
            have q_ := hD87_0 zs128 b78 (by assumption) (by assumption)
            rw [hR_] at q_
            exact q_
        have hD87_3 : ∀ (zs70 : List Int), Dg zs70 ((x2 + z2) % P) → zs70.length = 32 → R_ 3 (bm 7 15) [(0, .slice A8 ks.length c8), (3, pt b2), (4, pt b3), (5, pt b8), (6, pt b13), (7, pt b15), (8, pt b20), (9, .int .i64 i), (10, .int .u8 (((ks.getD (i / (8 : Int)).toNat 0) / 2 ^ (min (i % (8 : Int)).toNat 8)) % (2 : Int))), (13, pt b39), (14, pt b44), (15, pt b49), (16, pt b57), (64, ag .i64 zs70), (65, ag .i64 zs31)] [blk b57 92 (nums .i64 zs54), blk b49 92 (nums .i64 zs46), blk b44 92 (nums .i64 zs41), blk b39 92 (nums .i64 zs36), blk b34 92 (nums .i64 zs31), blk b29 92 (nums .i64 zs26), blk b20 92 (nums .i64 q2), blk b13 92 (nums .i64 q3), blk b15 92 (nums .i64 p2), blk b8 92 (nums .i64 p3), blk b3 92 (nums .i64 (List.replicate 32 (0 : Int))), blk b2 92 (nums .i64 us), vw A8 (nums .u8 ks)] := by
          intro zs70 hp71 hp72
          rw [hR_]
          refine RunU.any [4, 5] (by kernel_rfl) rfl (all_cons (i := 4) ?_ (all_cons (i := 5) ?_ all_nil))
          · skip
            refine ⟨(some 66), (.call { callee := .value (.func 81), args := #[.tmp 64, .tmp 65], argTypes := #[92, 92] }), (bm 7 31), [], (by kernel_rfl), (by kernel_rfl), ?_⟩
            refine (Step.cn 81 [ag .i64 zs70, ag .i64 zs31] [] [blk b57 92 (nums .i64 zs54), blk b49 92 (nums .i64 zs46), blk b44 92 (nums .i64 zs41), blk b39 92 (nums .i64 zs36), blk b34 92 (nums .i64 zs31), blk b29 92 (nums .i64 zs26), blk b20 92 (nums .i64 q2), blk b13 92 (nums .i64 q3), blk b15 92 (nums .i64 p2), blk b8 92 (nums .i64 p3), blk b3 92 (nums .i64 (List.replicate 32 (0 : Int))), blk b2 92 (nums .i64 us), vw A8 (nums .u8 ks)] (n_Mul_spec zs70 ((x2 + z2) % P) zs31 ((x3 - z3) % P) (by assumption) (by assumption) (by assumption) (by assumption)) [] ?_)
            rintro _ _ ⟨zs131, rfl, rfl, hp132, hp133⟩
            refine orR ?_
            refine RunU.turn [blk b57 92 (nums .i64 zs54), blk b49 92 (nums .i64 zs46), blk b44 92 (nums .i64 zs41), blk b39 92 (nums .i64 zs36), blk b34 92 (nums .i64 zs31), blk b29 92 (nums .i64 zs26), blk b20 92 (nums .i64 q2), blk b13 92 (nums .i64 q3), blk b15 92 (nums .i64 p2), blk b8 92 (nums .i64 p3), blk b3 92 (nums .i64 (List.replicate 32 (0 : Int))), blk b2 92 (nums .i64 us), vw A8 (nums .u8 ks)] (fun _ _ w hs => hs.pulls2 [0, 0, 0, 0, 0, 0, 0, 0, 0, 0, 0, 0, 0] _ (by kernel_rfl)) ?_
            refine RunU.ev [0, 3, 4, 5, 6, 7, 8, 9, 10, 13, 14, 15, 16, 66] [(0, .slice A8 ks.length c8), (3, pt b2), (4, pt b3), (5, pt b8), (6, pt b13), (7, pt b15), (8, pt b20), (9, .int .i64 i), (10, .int .u8 (((ks.getD (i / (8 : Int)).toNat 0) / 2 ^ (min (i % (8 : Int)).toNat 8)) % (2 : Int))), (13, pt b39), (14, pt b44), (15, pt b49), (16, pt b57), (66, ag .i64 zs131)] ?_
            have q_ := hD87_1 zs131 (by assumption) (by assumption)
            rw [hR_] at q_
            exact q_
          · skip
            refine ⟨(some 17), (.alloc 92), (bm 7 47), [9, 7, 5], (by kernel_rfl), (by kernel_rfl), ?_⟩
            refine (Step.al hU 32 256 z32 (fun b134 => ?_))
            have hl135 : (List.replicate 32 (0 : Int)).length = 32 := List.length_replicate
            refine orL ?_
            refine RunU.turn [blk b134 92 (nums .i64 (List.replicate 32 (0 : Int))), blk b57 92 (nums .i64 zs54), blk b49 92 (nums .i64 zs46), blk b44 92 (nums .i64 zs41), blk b39 92 (nums .i64 zs36), blk b34 92 (nums .i64 zs31), blk b29 92 (nums .i64 zs26), blk b20 92 (nums .i64 q2), blk b13 92 (nums .i64 q3), blk b15 92 (nums .i64 p2), blk b8 92 (nums .i64 p3), blk b3 92 (nums .i64 (List.replicate 32 (0 : Int))), blk b2 92 (nums .i64 us), vw A8 (nums .u8 ks)] (fun _ _ w hs => hs.pulls2 [0, 0, 0, 0, 0, 0, 0, 0, 0, 0, 0, 0, 0, 0] _ (by kernel_rfl)) ?_
            refine RunU.ev [0, 3, 4, 5, 6, 7, 8, 9, 10, 13, 14, 15, 16, 17, 64, 65] [(0, .slice A8 ks.length c8), (3, pt b2), (4, pt b3), (5, pt b8), (6, pt b13), (7, pt b15), (8, pt b20), (9, .int .i64 i), (10, .int .u8 (((ks.getD (i / (8 : Int)).toNat 0) / 2 ^ (min (i % (8 : Int)).toNat 8)) % (2 : Int))), (13, pt b39), (14, pt b44), (15, pt b49), (16, pt b57), (17, pt b134), (64, ag .i64 zs70), (65, ag .i64 zs31)] ?_
            have q_ := hD87_2 zs70 b134 (by assumption) (by assumption)
            rw [hR_] at q_
            exact q_
        have hD87_4 : ∀ (b83 : Nat), R_ 3 (bm 7 43) [(0, .slice A8 ks.length c8), (3, pt b2), (4, pt b3), (5, pt b8), (6, pt b13), (7, pt b15), (8, pt b20), (9, .int .i64 i), (10, .int .u8 (((ks.getD (i / (8 : Int)).toNat 0) / 2 ^ (min (i % (8 : Int)).toNat 8)) % (2 : Int))), (13, pt b39), (14, pt b44), (15, pt b49), (16, pt b57), (17, pt b83), (62, ag .i64 p2), (63, ag .i64 q2), (65, ag .i64 zs31)] [blk b83 92 (nums .i64 (List.replicate 32 (0 : Int))), blk b57 92 (nums .i64 zs54), blk b49 92 (nums .i64 zs46), blk b44 92 (nums .i64 zs41), blk b39 92 (nums .i64 zs36), blk b34 92 (nums .i64 zs31), blk b29 92 (nums .i64 zs26), blk b20 92 (nums .i64 q2), blk b13 92 (nums .i64 q3), blk b15 92 (nums .i64 p2), blk b8 92 (nums .i64 p3), blk b3 92 (nums .i64 (List.replicate 32 (0 : Int))), blk b2 92 (nums .i64 us), vw A8 (nums .u8 ks)] := by
          intro b83
          rw [hR_]
          refine RunU.any [2] (by kernel_rfl) rfl (all_cons (i := 2) ?_ all_nil)
          · skip
            refine ⟨(some 64), (.call { callee := .value (.func 79), args := #[.tmp 62, .tmp 63], argTypes := #[92, 92] }), (bm 7 47), [9, 7, 5], (by kernel_rfl), (by kernel_rfl), ?_⟩
            refine (Step.cn 79 [ag .i64 p2, ag .i64 q2] [] [blk b83 92 (nums .i64 (List.replicate 32 (0 : Int))), blk b57 92 (nums .i64 zs54), blk b49 92 (nums .i64 zs46), blk b44 92 (nums .i64 zs41), blk b39 92 (nums .i64 zs36), blk b34 92 (nums .i64 zs31), blk b29 92 (nums .i64 zs26), blk b20 92 (nums .i64 q2), blk b13 92 (nums .i64 q3), blk b15 92 (nums .i64 p2), blk b8 92 (nums .i64 p3), blk b3 92 (nums .i64 (List.replicate 32 (0 : Int))), blk b2 92 (nums .i64 us), vw A8 (nums .u8 ks)] (n_Add_spec p2 x2 q2 z2 (by assumption) (by assumption) (by assumption) (by assumption)) [] ?_)
            rintro _ _ ⟨zs136, rfl, rfl, hp137, hp138⟩
            refine orL ?_
            refine RunU.turn [blk b83 92 (nums .i64 (List.replicate 32 (0 : Int))), blk b57 92 (nums .i64 zs54), blk b49 92 (nums .i64 zs46), blk b44 92 (nums .i64 zs41), blk b39 92 (nums .i64 zs36), blk b34 92 (nums .i64 zs31), blk b29 92 (nums .i64 zs26), blk b20 92 (nums .i64 q2), blk b13 92 (nums .i64 q3), blk b15 92 (nums .i64 p2), blk b8 92 (nums .i64 p3), blk b3 92 (nums .i64 (List.replicate 32 (0 : Int))), blk b2 92 (nums .i64 us), vw A8 (nums .u8 ks)] (fun _ _ w hs => hs.pulls2 [0, 0, 0, 0, 0, 0, 0, 0, 0, 0, 0, 0, 0, 0] _ (by kernel_rfl)) ?_
            refine RunU.ev [0, 3, 4, 5, 6, 7, 8, 9, 10, 13, 14, 15, 16, 17, 64, 65] [(0, .slice A8 ks.length c8), (3, pt b2), (4, pt b3), (5, pt b8), (6, pt b13), (7, pt b15), (8, pt b20), (9, .int .i64 i), (10, .int .u8 (((ks.getD (i / (8 : Int)).toNat 0) / 2 ^ (min (i % (8 : Int)).toNat 8)) % (2 : Int))), (13, pt b39), (14, pt b44), (15, pt b49), (16, pt b57), (17, pt b83), (64, ag .i64 zs136), (65, ag .i64 zs31)] ?_
            have q_ := hD87_2 zs136 b83 (by assumption) (by assumption)
            rw [hR_] at q_
            exact q_
        have hD87_5 : R_ 4 (bm 7 11) [(0, .slice A8 ks.length c8), (3, pt b2), (4, pt b3), (5, pt b8), (6, pt b13), (7, pt b15), (8, pt b20), (9, .int .i64 i), (10, .int .u8 (((ks.getD (i / (8 : Int)).toNat 0) / 2 ^ (min (i % (8 : Int)).toNat 8)) % (2 : Int))), (13, pt b39), (14, pt b44), (15, pt b49), (16, pt b57), (62, ag .i64 p2), (63, ag .i64 q2), (65, ag .i64 zs31)] [blk b57 92 (nums .i64 zs54), blk b49 92 (nums .i64 zs46), blk b44 92 (nums .i64 zs41), blk b39 92 (nums .i64 zs36), blk b34 92 (nums .i64 zs31), blk b29 92 (nums .i64 zs26), blk b20 92 (nums .i64 q2), blk b13 92 (nums .i64 q3), blk b15 92 (nums .i64 p2), blk b8 92 (nums .i64 p3), blk b3 92 (nums .i64 (List.replicate 32 (0 : Int))), blk b2 92 (nums .i64 us), vw A8 (nums .u8 ks)] := by
          rw [hR_]
          refine RunU.any [2, 5] (by kernel_rfl) rfl (all_cons (i := 2) ?_ (all_cons (i := 5) ?_ all_nil))
          · skip
            refine ⟨(some 64), (.call { callee := .value (.func 79), args := #[.tmp 62, .tmp 63], argTypes := #[92, 92] }), (bm 7 15), [8, 6, 4], (by kernel_rfl), (by kernel_rfl), ?_⟩
            refine (Step.cn 79 [ag .i64 p2, ag .i64 q2] [] [blk b57 92 (nums .i64 zs54), blk b49 92 (nums .i64 zs46), blk b44 92 (nums .i64 zs41), blk b39 92 (nums .i64 zs36), blk b34 92 (nums .i64 zs31), blk b29 92 (nums .i64 zs26), blk b20 92 (nums .i64 q2), blk b13 92 (nums .i64 q3), blk b15 92 (nums .i64 p2), blk b8 92 (nums .i64 p3), blk b3 92 (nums .i64 (List.replicate 32 (0 : Int))), blk b2 92 (nums .i64 us), vw A8 (nums .u8 ks)] (n_Add_spec p2 x2 q2 z2 (by assumption) (by assumption) (by assumption) (by assumption)) [] ?_)
            rintro _ _ ⟨zs139, rfl, rfl, hp140, hp141⟩
            refine orL ?_
            refine RunU.turn [blk b57 92 (nums .i64 zs54), blk b49 92 (nums .i64 zs46), blk b44 92 (nums .i64 zs41), blk b39 92 (nums .i64 zs36), blk b34 92 (nums .i64 zs31), blk b29 92 (nums .i64 zs26), blk b20 92 (nums .i64 q2), blk b13 92 (nums .i64 q3), blk b15 92 (nums .i64 p2), blk b8 92 (nums .i64 p3), blk b3 92 (nums .i64 (List.replicate 32 (0 : Int))), blk b2 92 (nums .i64 us), vw A8 (nums .u8 ks)] (fun _ _ w hs => hs.pulls2 [0, 0, 0, 0, 0, 0, 0, 0, 0, 0, 0, 0, 0] _ (by kernel_rfl)) ?_
            refine RunU.ev [0, 3, 4, 5, 6, 7, 8, 9, 10, 13, 14, 15, 16, 64, 65] [(0, .slice A8 ks.length c8), (3, pt b2), (4, pt b3), (5, pt b8), (6, pt b13), (7, pt b15), (8, pt b20), (9, .int .i64 i), (10, .int .u8 (((ks.getD (i / (8 : Int)).toNat 0) / 2 ^ (min (i % (8 : Int)).toNat 8)) % (2 : Int))), (13, pt b39), (14, pt b44), (15, pt b49), (16, pt b57), (64, ag .i64 zs139), (65, ag .i64 zs31)] ?_
            have q_ := hD87_3 zs139 (by assumption) (by assumption)
            rw [hR_] at q_
            exact q_
          · skip
            refine ⟨(some 17), (.alloc 92), (bm 7 43), [9, 7, 5], (by kernel_rfl), (by kernel_rfl), ?_⟩
            refine (Step.al hU 32 256 z32 (fun b142 => ?_))
            have hl143 : (List.replicate 32 (0 : Int)).length = 32 := List.length_replicate
            refine orL ?_
            refine RunU.turn [blk b142 92 (nums .i64 (List.replicate 32 (0 : Int))), blk b57 92 (nums .i64 zs54), blk b49 92 (nums .i64 zs46), blk b44 92 (nums .i64 zs41), blk b39 92 (nums .i64 zs36), blk b34 92 (nums .i64 zs31), blk b29 92 (nums .i64 zs26), blk b20 92 (nums .i64 q2), blk b13 92 (nums .i64 q3), blk b15 92 (nums .i64 p2), blk b8 92 (nums .i64 p3), blk b3 92 (nums .i64 (List.replicate 32 (0 : Int))), blk b2 92 (nums .i64 us), vw A8 (nums .u8 ks)] (fun _ _ w hs => hs.pulls2 [0, 0, 0, 0, 0, 0, 0, 0, 0, 0, 0, 0, 0, 0] _ (by kernel_rfl)) ?_
            refine RunU.ev [0, 3, 4, 5, 6, 7, 8, 9, 10, 13, 14, 15, 16, 17, 62, 63, 65] [(0, .slice A8 ks.length c8), (3, pt b2), (4, pt b3), (5, pt b8), (6, pt b13), (7, pt b15), (8, pt b20), (9, .int .i64 i), (10, .int .u8 (((ks.getD (i / (8 : Int)).toNat 0) / 2 ^ (min (i % (8 : Int)).toNat 8)) % (2 : Int))), (13, pt b39), (14, pt b44), (15, pt b49), (16, pt b57), (17, pt b142), (62, ag .i64 p2), (63, ag .i64 q2), (65, ag .i64 zs31)] ?_
            have q_ := hD87_4 b142
            rw [hR_] at q_
            exact q_
        exact hD87_5
      have hD68_1 : ∀ (zs54 : List Int), Dg zs54 ((((x2 - z2) % P) * ((x3 + z3) % P)) % P) → zs54.length = 32 → R_ 2 (bm 7 31) [(0, .slice A8 ks.length c8), (3, pt b2), (4, pt b3), (5, pt b8), (6, pt b13), (7, pt b15), (8, pt b20), (9, .int .i64 i), (10, .int .u8 (((ks.getD (i / (8 : Int)).toNat 0) / 2 ^ (min (i % (8 : Int)).toNat 8)) % (2 : Int))), (12, pt b34), (13, pt b39), (14, pt b44), (15, pt b49), (61, ag .i64 zs54)] [blk b49 92 (nums .i64 zs46), blk b44 92 (nums .i64 zs41), blk b39 92 (nums .i64 zs36), blk b34 92 (nums .i64 zs31), blk b29 92 (nums .i64 zs26), blk b20 92 (nums .i64 q2), blk b13 92 (nums .i64 q3), blk b15 92 (nums .i64 p2), blk b8 92 (nums .i64 p3), blk b3 92 (nums .i64 (List.replicate 32 (0 : Int))), blk b2 92 (nums .i64 us), vw A8 (nums .u8 ks)] := by
        intro zs54 hp55 hp56
        rw [hR_]
        refine RunU.any [5] (by kernel_rfl) rfl (all_cons (i := 5) ?_ all_nil)
        · skip
          refine ⟨(some 16), (.alloc 92), (bm 7 63), [8, 6, 5], (by kernel_rfl), (by kernel_rfl), ?_⟩
          refine (Step.al hU 32 256 z32 (fun b144 => ?_))
          have hl145 : (List.replicate 32 (0 : Int)).length = 32 := List.length_replicate
          refine orL ?_
          refine RunU.turn [blk b144 92 (nums .i64 (List.replicate 32 (0 : Int))), blk b49 92 (nums .i64 zs46), blk b44 92 (nums .i64 zs41), blk b39 92 (nums .i64 zs36), blk b34 92 (nums .i64 zs31), blk b29 92 (nums .i64 zs26), blk b20 92 (nums .i64 q2), blk b13 92 (nums .i64 q3), blk b15 92 (nums .i64 p2), blk b8 92 (nums .i64 p3), blk b3 92 (nums .i64 (List.replicate 32 (0 : Int))), blk b2 92 (nums .i64 us), vw A8 (nums .u8 ks)] (fun _ _ w hs => hs.pulls2 [0, 0, 0, 0, 0, 0, 0, 0, 0, 0, 0, 0, 0] _ (by kernel_rfl)) ?_
          refine RunU.ev [0, 3, 4, 5, 6, 7, 8, 9, 10, 12, 13, 14, 15, 16, 61] [(0, .slice A8 ks.length c8), (3, pt b2), (4, pt b3), (5, pt b8), (6, pt b13), (7, pt b15), (8, pt b20), (9, .int .i64 i), (10, .int .u8 (((ks.getD (i / (8 : Int)).toNat 0) / 2 ^ (min (i % (8 : Int)).toNat 8)) % (2 : Int))), (12, pt b34), (13, pt b39), (14, pt b44), (15, pt b49), (16, pt b144), (61, ag .i64 zs54)] ?_
          have q_ := hD68_0 zs54 b144 (by assumption) (by assumption)
          rw [hR_] at q_
          exact q_
      have hD68_2 : ∀ (zs51 : List Int) (b59 : Nat), Dg zs51 ((x2 - z2) % P) → zs51.length = 32 → R_ 2 (bm 7 47) [(0, .slice A8 ks.length c8), (3, pt b2), (4, pt b3), (5, pt b8), (6, pt b13), (7, pt b15), (8, pt b20), (9, .int .i64 i), (10, .int .u8 (((ks.getD (i / (8 : Int)).toNat 0) / 2 ^ (min (i % (8 : Int)).toNat 8)) % (2 : Int))), (12, pt b34), (13, pt b39), (14, pt b44), (15, pt b49), (16, pt b59), (59, ag .i64 zs51), (60, ag .i64 zs26)] [blk b59 92 (nums .i64 (List.replicate 32 (0 : Int))), blk b49 92 (nums .i64 zs46), blk b44 92 (nums .i64 zs41), blk b39 92 (nums .i64 zs36), blk b34 92 (nums .i64 zs31), blk b29 92 (nums .i64 zs26), blk b20 92 (nums .i64 q2), blk b13 92 (nums .i64 q3), blk b15 92 (nums .i64 p2), blk b8 92 (nums .i64 p3), blk b3 92 (nums .i64 (List.replicate 32 (0 : Int))), blk b2 92 (nums .i64 us), vw A8 (nums .u8 ks)] := by
        intro zs51 b59 hp52 hp53
        rw [hR_]
        refine RunU.any [4] (by kernel_rfl) rfl (all_cons (i := 4) ?_ all_nil)
        · skip
          refine ⟨(some 61), (.call { callee := .value (.func 81), args := #[.tmp 59, .tmp 60], argTypes := #[92, 92] }), (bm 7 63), [], (by kernel_rfl), (by kernel_rfl), ?_⟩
          refine (Step.cn 81 [ag .i64 zs51, ag .i64 zs26] [] [blk b59 92 (nums .i64 (List.replicate 32 (0 : Int))), blk b49 92 (nums .i64 zs46), blk b44 92 (nums .i64 zs41), blk b39 92 (nums .i64 zs36), blk b34 92 (nums .i64 zs31), blk b29 92 (nums .i64 zs26), blk b20 92 (nums .i64 q2), blk b13 92 (nums .i64 q3), blk b15 92 (nums .i64 p2), blk b8 92 (nums .i64 p3), blk b3 92 (nums .i64 (List.replicate 32 (0 : Int))), blk b2 92 (nums .i64 us), vw A8 (nums .u8 ks)] (n_Mul_spec zs51 ((x2 - z2) % P) zs26 ((x3 + z3) % P) (by assumption) (by assumption) (by assumption) (by assumption)) [] ?_)
          rintro _ _ ⟨zs146, rfl, rfl, hp147, hp148⟩
          refine orR ?_
          refine RunU.turn [blk b59 92 (nums .i64 (List.replicate 32 (0 : Int))), blk b49 92 (nums .i64 zs46), blk b44 92 (nums .i64 zs41), blk b39 92 (nums .i64 zs36), blk b34 92 (nums .i64 zs31), blk b29 92 (nums .i64 zs26), blk b20 92 (nums .i64 q2), blk b13 92 (nums .i64 q3), blk b15 92 (nums .i64 p2), blk b8 92 (nums .i64 p3), blk b3 92 (nums .i64 (List.replicate 32 (0 : Int))), blk b2 92 (nums .i64 us), vw A8 (nums .u8 ks)] (fun _ _ w hs => hs.pulls2 [0, 0, 0, 0, 0, 0, 0, 0, 0, 0, 0, 0, 0] _ (by kernel_rfl)) ?_
          refine RunU.ev [0, 3, 4, 5, 6, 7, 8, 9, 10, 12, 13, 14, 15, 16, 61] [(0, .slice A8 ks.length c8), (3, pt b2), (4, pt b3), (5, pt b8), (6, pt b13), (7, pt b15), (8, pt b20), (9, .int .i64 i), (10, .int .u8 (((ks.getD (i / (8 : Int)).toNat 0) / 2 ^ (min (i % (8 : Int)).toNat 8)) % (2 : Int))), (12, pt b34), (13, pt b39), (14, pt b44), (15, pt b49), (16, pt b59), (61, ag .i64 zs146)] ?_
          have q_ := hD68_0 zs146 b59 (by assumption) (by assumption)
          rw [hR_] at q_
          exact q_
      have hD68_3 : ∀ (zs51 : List Int), Dg zs51 ((x2 - z2) % P) → zs51.length = 32 → R_ 3 (bm 7 15) [(0, .slice A8 ks.length c8), (3, pt b2), (4, pt b3), (5, pt b8), (6, pt b13), (7, pt b15), (8, pt b20), (9, .int .i64 i), (10, .int .u8 (((ks.getD (i / (8 : Int)).toNat 0) / 2 ^ (min (i % (8 : Int)).toNat 8)) % (2 : Int))), (12, pt b34), (13, pt b39), (14, pt b44), (15, pt b49), (59, ag .i64 zs51), (60, ag .i64 zs26)] [blk b49 92 (nums .i64 zs46), blk b44 92 (nums .i64 zs41), blk b39 92 (nums .i64 zs36), blk b34 92 (nums .i64 zs31), blk b29 92 (nums .i64 zs26), blk b20 92 (nums .i64 q2), blk b13 92 (nums .i64 q3), blk b15 92 (nums .i64 p2), blk b8 92 (nums .i64 p3), blk b3 92 (nums .i64 (List.replicate 32 (0 : Int))), blk b2 92 (nums .i64 us), vw A8 (nums .u8 ks)] := by
        intro zs51 hp52 hp53
        rw [hR_]
        refine RunU.any [4, 5] (by kernel_rfl) rfl (all_cons (i := 4) ?_ (all_cons (i := 5) ?_ all_nil))
        · skip
          refine ⟨(some 61), (.call { callee := .value (.func 81), args := #[.tmp 59, .tmp 60], argTypes := #[92, 92] }), (bm 7 31), [], (by kernel_rfl), (by kernel_rfl), ?_⟩
          refine (Step.cn 81 [ag .i64 zs51, ag .i64 zs26] [] [blk b49 92 (nums .i64 zs46), blk b44 92 (nums .i64 zs41), blk b39 92 (nums .i64 zs36), blk b34 92 (nums .i64 zs31), blk b29 92 (nums .i64 zs26), blk b20 92 (nums .i64 q2), blk b13 92 (nums .i64 q3), blk b15 92 (nums .i64 p2), blk b8 92 (nums .i64 p3), blk b3 92 (nums .i64 (List.replicate 32 (0 : Int))), blk b2 92 (nums .i64 us), vw A8 (nums .u8 ks)] (n_Mul_spec zs51 ((x2 - z2) % P) zs26 ((x3 + z3) % P) (by assumption) (by assumption) (by assumption) (by assumption)) [] ?_)
          rintro _ _ ⟨zs149, rfl, rfl, hp150, hp151⟩
          refine orR ?_
          refine RunU.turn [blk b49 92 (nums .i64 zs46), blk b44 92 (nums .i64 zs41), blk b39 92 (nums .i64 zs36), blk b34 92 (nums .i64 zs31), blk b29 92 (nums .i64 zs26), blk b20 92 (nums .i64 q2), blk b13 92 (nums .i64 q3), blk b15 92 (nums .i64 p2), blk b8 92 (nums .i64 p3), blk b3 92 (nums .i64 (List.replicate 32 (0 : Int))), blk b2 92 (nums .i64 us), vw A8 (nums .u8 ks)] (fun _ _ w hs => hs.pulls2 [0, 0, 0, 0, 0, 0, 0, 0, 0, 0, 0, 0] _ (by kernel_rfl)) ?_
          refine RunU.ev [0, 3, 4, 5, 6, 7, 8, 9, 10, 12, 13, 14, 15, 61] [(0, .slice A8 ks.length c8), (3, pt b2), (4, pt b3), (5, pt b8), (6, pt b13), (7, pt b15), (8, pt b20), (9, .int .i64 i), (10, .int .u8 (((ks.getD (i / (8 : Int)).toNat 0) / 2 ^ (min (i % (8 : Int)).toNat 8)) % (2 : Int))), (12, pt b34), (13, pt b39), (14, pt b44), (15, pt b49), (61, ag .i64 zs149)] ?_
          have q_ := hD68_1 zs149 (by assumption) (by assumption)
          rw [hR_] at q_
          exact q_
        · skip
          refine ⟨(some 16), (.alloc 92), (bm 7 47), [8, 6, 5], (by kernel_rfl), (by kernel_rfl), ?_⟩
          refine (Step.al hU 32 256 z32 (fun b152 => ?_))
          have hl153 : (List.replicate 32 (0 : Int)).length = 32 := List.length_replicate
          refine orL ?_
          refine RunU.turn [blk b152 92 (nums .i64 (List.replicate 32 (0 : Int))), blk b49 92 (nums .i64 zs46), blk b44 92 (nums .i64 zs41), blk b39 92 (nums .i64 zs36), blk b34 92 (nums .i64 zs31), blk b29 92 (nums .i64 zs26), blk b20 92 (nums .i64 q2), blk b13 92 (nums .i64 q3), blk b15 92 (nums .i64 p2), blk b8 92 (nums .i64 p3), blk b3 92 (nums .i64 (List.replicate 32 (0 : Int))), blk b2 92 (nums .i64 us), vw A8 (nums .u8 ks)] (fun _ _ w hs => hs.pulls2 [0, 0, 0, 0, 0, 0, 0, 0, 0, 0, 0, 0, 0] _ (by kernel_rfl)) ?_
          refine RunU.ev [0, 3, 4, 5, 6, 7, 8, 9, 10, 12, 13, 14, 15, 16, 59, 60] [(0, .slice A8 ks.length c8), (3, pt b2), (4, pt b3), (5, pt b8), (6, pt b13), (7, pt b15), (8, pt b20), (9, .int .i64 i), (10, .int .u8 (((ks.getD (i / (8 : Int)).toNat 0) / 2 ^ (min (i % (8 : Int)).toNat 8)) % (2 : Int))), (12, pt b34), (13, pt b39), (14, pt b44), (15, pt b49), (16, pt b152), (59, ag .i64 zs51), (60, ag .i64 zs26)] ?_
          have q_ := hD68_2 zs51 b152 (by assumption) (by assumption)
          rw [hR_] at q_
          exact q_
      have hD68_4 : ∀ (b64 : Nat), R_ 3 (bm 7 43) [(0, .slice A8 ks.length c8), (3, pt b2), (4, pt b3), (5, pt b8), (6, pt b13), (7, pt b15), (8, pt b20), (9, .int .i64 i), (10, .int .u8 (((ks.getD (i / (8 : Int)).toNat 0) / 2 ^ (min (i % (8 : Int)).toNat 8)) % (2 : Int))), (12, pt b34), (13, pt b39), (14, pt b44), (15, pt b49), (16, pt b64), (57, ag .i64 p2), (58, ag .i64 q2), (60, ag .i64 zs26)] [blk b64 92 (nums .i64 (List.replicate 32 (0 : Int))), blk b49 92 (nums .i64 zs46), blk b44 92 (nums .i64 zs41), blk b39 92 (nums .i64 zs36), blk b34 92 (nums .i64 zs31), blk b29 92 (nums .i64 zs26), blk b20 92 (nums .i64 q2), blk b13 92 (nums .i64 q3), blk b15 92 (nums .i64 p2), blk b8 92 (nums .i64 p3), blk b3 92 (nums .i64 (List.replicate 32 (0 : Int))), blk b2 92 (nums .i64 us), vw A8 (nums .u8 ks)] := by
        intro b64
        rw [hR_]
        refine RunU.any [2] (by kernel_rfl) rfl (all_cons (i := 2) ?_ all_nil)
        · skip
          refine ⟨(some 59), (.call { callee := .value (.func 80), args := #[.tmp 57, .tmp 58], argTypes := #[92, 92] }), (bm 7 47), [8, 6, 5], (by kernel_rfl), (by kernel_rfl), ?_⟩
          refine (Step.cn 80 [ag .i64 p2, ag .i64 q2] [] [blk b64 92 (nums .i64 (List.replicate 32 (0 : Int))), blk b49 92 (nums .i64 zs46), blk b44 92 (nums .i64 zs41), blk b39 92 (nums .i64 zs36), blk b34 92 (nums .i64 zs31), blk b29 92 (nums .i64 zs26), blk b20 92 (nums .i64 q2), blk b13 92 (nums .i64 q3), blk b15 92 (nums .i64 p2), blk b8 92 (nums .i64 p3), blk b3 92 (nums .i64 (List.replicate 32 (0 : Int))), blk b2 92 (nums .i64 us), vw A8 (nums .u8 ks)] (n_Sub_spec p2 x2 q2 z2 (by assumption) (by assumption) (by assumption) (by assumption) (by exact Int.le_of_lt (by assumption))) [] ?_)
          rintro _ _ ⟨zs154, rfl, rfl, hp155, hp156⟩
          refine orL ?_
          refine RunU.turn [blk b64 92 (nums .i64 (List.replicate 32 (0 : Int))), blk b49 92 (nums .i64 zs46), blk b44 92 (nums .i64 zs41), blk b39 92 (nums .i64 zs36), blk b34 92 (nums .i64 zs31), blk b29 92 (nums .i64 zs26), blk b20 92 (nums .i64 q2), blk b13 92 (nums .i64 q3), blk b15 92 (nums .i64 p2), blk b8 92 (nums .i64 p3), blk b3 92 (nums .i64 (List.replicate 32 (0 : Int))), blk b2 92 (nums .i64 us), vw A8 (nums .u8 ks)] (fun _ _ w hs => hs.pulls2 [0, 0, 0, 0, 0, 0, 0, 0, 0, 0, 0, 0, 0] _ (by kernel_rfl)) ?_
          refine RunU.ev [0, 3, 4, 5, 6, 7, 8, 9, 10, 12, 13, 14, 15, 16, 59, 60] [(0, .slice A8 ks.length c8), (3, pt b2), (4, pt b3), (5, pt b8), (6, pt b13), (7, pt b15), (8, pt b20), (9, .int .i64 i), (10, .int .u8 (((ks.getD (i / (8 : Int)).toNat 0) / 2 ^ (min (i % (8 : Int)).toNat 8)) % (2 : Int))), (12, pt b34), (13, pt b39), (14, pt b44), (15, pt b49), (16, pt b64), (59, ag .i64 zs154), (60, ag .i64 zs26)] ?_
          have q_ := hD68_2 zs154 b64 (by assumption) (by assumption)
          rw [hR_] at q_
          exact q_
      have hD68_5 : R_ 4 (bm 7 11) [(0, .slice A8 ks.length c8), (3, pt b2), (4, pt b3), (5, pt b8), (6, pt b13), (7, pt b15), (8, pt b20), (9, .int .i64 i), (10, .int .u8 (((ks.getD (i / (8 : Int)).toNat 0) / 2 ^ (min (i % (8 : Int)).toNat 8)) % (2 : Int))), (12, pt b34), (13, pt b39), (14, pt b44), (15, pt b49), (57, ag .i64 p2), (58, ag .i64 q2), (60, ag .i64 zs26)] [blk b49 92 (nums .i64 zs46), blk b44 92 (nums .i64 zs41), blk b39 92 (nums .i64 zs36), blk b34 92 (nums .i64 zs31), blk b29 92 (nums .i64 zs26), blk b20 92 (nums .i64 q2), blk b13 92 (nums .i64 q3), blk b15 92 (nums .i64 p2), blk b8 92 (nums .i64 p3), blk b3 92 (nums .i64 (List.replicate 32 (0 : Int))), blk b2 92 (nums .i64 us), vw A8 (nums .u8 ks)] := by
        rw [hR_]
        refine RunU.any [2, 5] (by kernel_rfl) rfl (all_cons (i := 2) ?_ (all_cons (i := 5) ?_ all_nil))
        · skip
          refine ⟨(some 59), (.call { callee := .value (.func 80), args := #[.tmp 57, .tmp 58], argTypes := #[92, 92] }), (bm 7 15), [7, 5, 4], (by kernel_rfl), (by kernel_rfl), ?_⟩
          refine (Step.cn 80 [ag .i64 p2, ag .i64 q2] [] [blk b49 92 (nums .i64 zs46), blk b44 92 (nums .i64 zs41), blk b39 92 (nums .i64 zs36), blk b34 92 (nums .i64 zs31), blk b29 92 (nums .i64 zs26), blk b20 92 (nums .i64 q2), blk b13 92 (nums .i64 q3), blk b15 92 (nums .i64 p2), blk b8 92 (nums .i64 p3), blk b3 92 (nums .i64 (List.replicate 32 (0 : Int))), blk b2 92 (nums .i64 us), vw A8 (nums .u8 ks)] (n_Sub_spec p2 x2 q2 z2 (by assumption) (by assumption) (by assumption) (by assumption) (by exact Int.le_of_lt (by assumption))) [] ?_)
          rintro _ _ ⟨zs157, rfl, rfl, hp158, hp159⟩
          refine orL ?_
          refine RunU.turn [blk b49 92 (nums .i64 zs46), blk b44 92 (nums .i64 zs41), blk b39 92 (nums .i64 zs36), blk b34 92 (nums .i64 zs31), blk b29 92 (nums .i64 zs26), blk b20 92 (nums .i64 q2), blk b13 92 (nums .i64 q3), blk b15 92 (nums .i64 p2), blk b8 92 (nums .i64 p3), blk b3 92 (nums .i64 (List.replicate 32 (0 : Int))), blk b2 92 (nums .i64 us), vw A8 (nums .u8 ks)] (fun _ _ w hs => hs.pulls2 [0, 0, 0, 0, 0, 0, 0, 0, 0, 0, 0, 0] _ (by kernel_rfl)) ?_
          refine RunU.ev [0, 3, 4, 5, 6, 7, 8, 9, 10, 12, 13, 14, 15, 59, 60] [(0, .slice A8 ks.length c8), (3, pt b2), (4, pt b3), (5, pt b8), (6, pt b13), (7, pt b15), (8, pt b20), (9, .int .i64 i), (10, .int .u8 (((ks.getD (i / (8 : Int)).toNat 0) / 2 ^ (min (i % (8 : Int)).toNat 8)) % (2 : Int))), (12, pt b34), (13, pt b39), (14, pt b44), (15, pt b49), (59, ag .i64 zs157), (60, ag .i64 zs26)] ?_
          have q_ := hD68_3 zs157 (by assumption) (by assumption)
          rw [hR_] at q_
          exact q_
        · skip
          refine ⟨(some 16), (.alloc 92), (bm 7 43), [8, 6, 5], (by kernel_rfl), (by kernel_rfl), ?_⟩
          refine (Step.al hU 32 256 z32 (fun b160 => ?_))
          have hl161 : (List.replicate 32 (0 : Int)).length = 32 := List.length_replicate
          refine orL ?_
          refine RunU.turn [blk b160 92 (nums .i64 (List.replicate 32 (0 : Int))), blk b49 92 (nums .i64 zs46), blk b44 92 (nums .i64 zs41), blk b39 92 (nums .i64 zs36), blk b34 92 (nums .i64 zs31), blk b29 92 (nums .i64 zs26), blk b20 92 (nums .i64 q2), blk b13 92 (nums .i64 q3), blk b15 92 (nums .i64 p2), blk b8 92 (nums .i64 p3), blk b3 92 (nums .i64 (List.replicate 32 (0 : Int))), blk b2 92 (nums .i64 us), vw A8 (nums .u8 ks)] (fun _ _ w hs => hs.pulls2 [0, 0, 0, 0, 0, 0, 0, 0, 0, 0, 0, 0, 0] _ (by kernel_rfl)) ?_
          refine RunU.ev [0, 3, 4, 5, 6, 7, 8, 9, 10, 12, 13, 14, 15, 16, 57, 58, 60] [(0, .slice A8 ks.length c8), (3, pt b2), (4, pt b3), (5, pt b8), (6, pt b13), (7, pt b15), (8, pt b20), (9, .int .i64 i), (10, .int .u8 (((ks.getD (i / (8 : Int)).toNat 0) / 2 ^ (min (i % (8 : Int)).toNat 8)) % (2 : Int))), (12, pt b34), (13, pt b39), (14, pt b44), (15, pt b49), (16, pt b160), (57, ag .i64 p2), (58, ag .i64 q2), (60, ag .i64 zs26)] ?_
          have q_ := hD68_4 b160
          rw [hR_] at q_
          exact q_
      exact hD68_5
    · skip
      refine RunC.ksr ?_
      refine RunR.st (some 42) (.load 92 (.tmp 5)) (Step.load_arr hU 0 b8 92 32 .i64 p2 (by kernel_rfl) (by kernel_rfl) (by kernel_rfl) (by kernel_rfl) (by omega) (by kernel_rfl) ?_)
      refine RunR.st (some 43) (.load 92 (.tmp 6)) (Step.load_arr hU 1 b13 92 32 .i64 q2 (by kernel_rfl) (by kernel_rfl) (by kernel_rfl) (by kernel_rfl) (by omega) (by kernel_rfl) ?_)
      refine RunR.st (some 44) (.call { callee := .value (.func 79), args := #[.tmp 42, .tmp 43], argTypes := #[92, 92] }) (Step.cn 79 [ag .i64 p2, ag .i64 q2] [] [blk b8 92 (nums .i64 p2), blk b13 92 (nums .i64 q2), blk b15 92 (nums .i64 p3), blk b20 92 (nums .i64 q3), blk b3 92 (nums .i64 (List.replicate 32 (0 : Int))), blk b2 92 (nums .i64 us), vw A8 (nums .u8 ks)] (n_Add_spec p2 x2 q2 z2 (by assumption) (by assumption) (by assumption) (by assumption)) [] ?_)
      rintro _ _ ⟨zs162, rfl, rfl, hp163, hp164⟩
      refine RunR.st (some 11) (.alloc 92) (Step.al hU 32 256 z32 (fun b165 => ?_))
      have hl166 : (List.replicate 32 (0 : Int)).length = 32 := List.length_replicate
      refine RunR.st none (.store 92 (.tmp 11) (.tmp 44)) (Step.store_arr hU 0 b165 92 32 .i64 (List.replicate 32 (0 : Int)) zs162 (by kernel_rfl) (by kernel_rfl) (by kernel_rfl) (by kernel_rfl) (by rfl) (by omega) ?_)
      refine RunR.nx ?_
      refine RunR.st (some 45) (.load 92 (.tmp 5)) (Step.load_arr hU 1 b8 92 32 .i64 p2 (by kernel_rfl) (by kernel_rfl) (by kernel_rfl) (by kernel_rfl) (by omega) (by kernel_rfl) ?_)
      refine RunR.st (some 46) (.load 92 (.tmp 6)) (Step.load_arr hU 2 b13 92 32 .i64 q2 (by kernel_rfl) (by kernel_rfl) (by kernel_rfl) (by kernel_rfl) (by omega) (by kernel_rfl) ?_)
      refine RunR.st (some 47) (.call { callee := .value (.func 80), args := #[.tmp 45, .tmp 46], argTypes := #[92, 92] }) (Step.cn 80 [ag .i64 p2, ag .i64 q2] [] [blk b165 92 (nums .i64 zs162), blk b8 92 (nums .i64 p2), blk b13 92 (nums .i64 q2), blk b15 92 (nums .i64 p3), blk b20 92 (nums .i64 q3), blk b3 92 (nums .i64 (List.replicate 32 (0 : Int))), blk b2 92 (nums .i64 us), vw A8 (nums .u8 ks)] (n_Sub_spec p2 x2 q2 z2 (by assumption) (by assumption) (by assumption) (by assumption) (by exact Int.le_of_lt (by assumption))) [] ?_)
      rintro _ _ ⟨zs167, rfl, rfl, hp168, hp169⟩
      refine RunR.st (some 12) (.alloc 92) (Step.al hU 32 256 z32 (fun b170 => ?_))
      have hl171 : (List.replicate 32 (0 : Int)).length = 32 := List.length_replicate
      refine RunR.st none (.store 92 (.tmp 12) (.tmp 47)) (Step.store_arr hU 0 b170 92 32 .i64 (List.replicate 32 (0 : Int)) zs167 (by kernel_rfl) (by kernel_rfl) (by kernel_rfl) (by kernel_rfl) (by rfl) (by omega) ?_)
      refine RunR.nx ?_
      refine RunR.st (some 48) (.load 92 (.tmp 11)) (Step.load_arr hU 1 b165 92 32 .i64 zs162 (by kernel_rfl) (by kernel_rfl) (by kernel_rfl) (by kernel_rfl) (by omega) (by kernel_rfl) ?_)
      refine RunR.st (some 49) (.load 92 (.tmp 11)) (Step.load_arr hU 1 b165 92 32 .i64 zs162 (by kernel_rfl) (by kernel_rfl) (by kernel_rfl) (by kernel_rfl) (by omega) (by kernel_rfl) ?_)
      refine RunR.st (some 50) (.call { callee := .value (.func 81), args := #[.tmp 48, .tmp 49], argTypes := #[92, 92] }) (Step.cn 81 [ag .i64 zs162, ag .i64 zs162] [] [blk b170 92 (nums .i64 zs167), blk b165 92 (nums .i64 zs162), blk b8 92 (nums .i64 p2), blk b13 92 (nums .i64 q2), blk b15 92 (nums .i64 p3), blk b20 92 (nums .i64 q3), blk b3 92 (nums .i64 (List.replicate 32 (0 : Int))), blk b2 92 (nums .i64 us), vw A8 (nums .u8 ks)] (n_Mul_spec zs162 ((x2 + z2) % P) zs162 ((x2 + z2) % P) (by assumption) (by assumption) (by assumption) (by assumption)) [] ?_)
      rintro _ _ ⟨zs172, rfl, rfl, hp173, hp174⟩
      refine RunR.st (some 13) (.alloc 92) (Step.al hU 32 256 z32 (fun b175 => ?_))
      have hl176 : (List.replicate 32 (0 : Int)).length = 32 := List.length_replicate
      refine RunR.st none (.store 92 (.tmp 13) (.tmp 50)) (Step.store_arr hU 0 b175 92 32 .i64 (List.replicate 32 (0 : Int)) zs172 (by kernel_rfl) (by kernel_rfl) (by kernel_rfl) (by kernel_rfl) (by rfl) (by omega) ?_)
      refine RunR.nx ?_
      refine RunR.st (some 51) (.load 92 (.tmp 12)) (Step.load_arr hU 1 b170 92 32 .i64 zs167 (by kernel_rfl) (by kernel_rfl) (by kernel_rfl) (by kernel_rfl) (by omega) (by kernel_rfl) ?_)
      refine RunR.st (some 52) (.load 92 (.tmp 12)) (Step.load_arr hU 1 b170 92 32 .i64 zs167 (by kernel_rfl) (by kernel_rfl) (by kernel_rfl) (by kernel_rfl) (by omega) (by kernel_rfl) ?_)
      refine RunR.st (some 53) (.call { callee := .value (.func 81), args := #[.tmp 51, .tmp 52], argTypes := #[92, 92] }) (Step.cn 81 [ag .i64 zs167, ag .i64 zs167] [] [blk b175 92 (nums .i64 zs172), blk b170 92 (nums .i64 zs167), blk b165 92 (nums .i64 zs162), blk b8 92 (nums .i64 p2), blk b13 92 (nums .i64 q2), blk b15 92 (nums .i64 p3), blk b20 92 (nums .i64 q3), blk b3 92 (nums .i64 (List.replicate 32 (0 : Int))), blk b2 92 (nums .i64 us), vw A8 (nums .u8 ks)] (n_Mul_spec zs167 ((x2 - z2) % P) zs167 ((x2 - z2) % P) (by assumption) (by assumption) (by assumption) (by assumption)) [] ?_)
      rintro _ _ ⟨zs177, rfl, rfl, hp178, hp179⟩
      refine RunR.st (some 14) (.alloc 92) (Step.al hU 32 256 z32 (fun b180 => ?_))
      have hl181 : (List.replicate 32 (0 : Int)).length = 32 := List.length_replicate
      refine RunR.st none (.store 92 (.tmp 14) (.tmp 53)) (Step.store_arr hU 0 b180 92 32 .i64 (List.replicate 32 (0 : Int)) zs177 (by kernel_rfl) (by kernel_rfl) (by kernel_rfl) (by kernel_rfl) (by rfl) (by omega) ?_)
      refine RunR.nx ?_
      refine RunR.st (some 54) (.load 92 (.tmp 13)) (Step.load_arr hU 1 b175 92 32 .i64 zs172 (by kernel_rfl) (by kernel_rfl) (by kernel_rfl) (by kernel_rfl) (by omega) (by kernel_rfl) ?_)
      refine RunR.st (some 55) (.load 92 (.tmp 14)) (Step.load_arr hU 0 b180 92 32 .i64 zs177 (by kernel_rfl) (by kernel_rfl) (by kernel_rfl) (by kernel_rfl) (by omega) (by kernel_rfl) ?_)
      refine RunR.st (some 56) (.call { callee := .value (.func 80), args := #[.tmp 54, .tmp 55], argTypes := #[92, 92] }) (Step.cn 80 [ag .i64 zs172, ag .i64 zs177] [] [blk b180 92 (nums .i64 zs177), blk b175 92 (nums .i64 zs172), blk b170 92 (nums .i64 zs167), blk b165 92 (nums .i64 zs162), blk b8 92 (nums .i64 p2), blk b13 92 (nums .i64 q2), blk b15 92 (nums .i64 p3), blk b20 92 (nums .i64 q3), blk b3 92 (nums .i64 (List.replicate 32 (0 : Int))), blk b2 92 (nums .i64 us), vw A8 (nums .u8 ks)] (n_Sub_spec zs172 ((((x2 + z2) % P) * ((x2 + z2) % P)) % P) zs177 ((((x2 - z2) % P) * ((x2 - z2) % P)) % P) (by assumption) (by assumption) (by assumption) (by assumption) (by exact Int.le_of_lt (Int.emod_lt_of_pos _ (by decide)))) [] ?_)
      rintro _ _ ⟨zs182, rfl, rfl, hp183, hp184⟩
      refine RunR.st (some 15) (.alloc 92) (Step.al hU 32 256 z32 (fun b185 => ?_))
      have hl186 : (List.replicate 32 (0 : Int)).length = 32 := List.length_replicate
      refine RunR.st none (.store 92 (.tmp 15) (.tmp 56)) (Step.store_arr hU 0 b185 92 32 .i64 (List.replicate 32 (0 : Int)) zs182 (by kernel_rfl) (by kernel_rfl) (by kernel_rfl) (by kernel_rfl) (by rfl) (by omega) ?_)
      refine RunR.nn ?_
      refine RunC.seq ?_
      refine RunC.regionU hU 7 [blk b15 92 (nums .i64 p3), blk b20 92 (nums .i64 q3), blk b165 92 (nums .i64 zs162)] [7, 8, 4] [4, 6] (bm 7 0) (by kernel_rfl) (by kernel_rfl) (by kernel_rfl) ?_
      refine RunU.rd 0 (bm 7 1) 57 (.load 92 (.tmp 7)) (ag .i64 p3) [7, 8, 4] (Reads.load_arr hU 0 b15 92 32 .i64 p3 (by kernel_rfl) (by kernel_rfl) (by kernel_rfl) (by kernel_rfl) (by omega)) ?_
      refine RunU.rd 1 (bm 7 3) 58 (.load 92 (.tmp 8)) (ag .i64 q3) [7, 8, 4] (Reads.load_arr hU 1 b20 92 32 .i64 q3 (by kernel_rfl) (by kernel_rfl) (by kernel_rfl) (by kernel_rfl) (by omega)) ?_
      refine RunU.rd 3 (bm 7 11) 60 (.load 92 (.tmp 11)) (ag .i64 zs162) [7, 8, 4] (Reads.load_arr hU 2 b165 92 32 .i64 zs162 (by kernel_rfl) (by kernel_rfl) (by kernel_rfl) (by kernel_rfl) (by omega)) ?_
      refine RunU.ev [0, 3, 4, 5, 6, 7, 8, 9, 10, 12, 13, 14, 15, 57, 58, 60] [(0, .slice A8 ks.length c8), (3, pt b2), (4, pt b3), (5, pt b8), (6, pt b13), (7, pt b15), (8, pt b20), (9, .int .i64 i), (10, .int .u8 (((ks.getD (i / (8 : Int)).toNat 0) / 2 ^ (min (i % (8 : Int)).toNat 8)) % (2 : Int))), (12, pt b170), (13, pt b175), (14, pt b180), (15, pt b185), (57, ag .i64 p3), (58, ag .i64 q3), (60, ag .i64 zs162)] ?_
      refine RunU.name (fun R_ hR_ => ?_)
      have hD204_0 : ∀ (zs190 : List Int) (b193 : Nat), Dg zs190 ((((x3 - z3) % P) * ((x2 + z2) % P)) % P) → zs190.length = 32 → R_ 1 (bm 7 63) [(0, .slice A8 ks.length c8), (3, pt b2), (4, pt b3), (5, pt b8), (6, pt b13), (7, pt b15), (8, pt b20), (9, .int .i64 i), (10, .int .u8 (((ks.getD (i / (8 : Int)).toNat 0) / 2 ^ (min (i % (8 : Int)).toNat 8)) % (2 : Int))), (12, pt b170), (13, pt b175), (14, pt b180), (15, pt b185), (16, pt b193), (61, ag .i64 zs190)] [blk b193 92 (nums .i64 (List.replicate 32 (0 : Int))), blk b185 92 (nums .i64 zs182), blk b180 92 (nums .i64 zs177), blk b175 92 (nums .i64 zs172), blk b170 92 (nums .i64 zs167), blk b165 92 (nums .i64 zs162), blk b8 92 (nums .i64 p2), blk b13 92 (nums .i64 q2), blk b15 92 (nums .i64 p3), blk b20 92 (nums .i64 q3), blk b3 92 (nums .i64 (List.replicate 32 (0 : Int))), blk b2 92 (nums .i64 us), vw A8 (nums .u8 ks)] := by
        intro zs190 b193 hp191 hp192
        rw [hR_]
        refine RunU.on none (.store 92 (.tmp 16) (.tmp 61)) 6 (bm 7 127) [] (Step.store_arr hU 0 b193 92 32 .i64 (List.replicate 32 (0 : Int)) zs190 (by kernel_rfl) (by kernel_rfl) (by kernel_rfl) (by kernel_rfl) (by rfl) (by omega) ?_)
        refine orR ?_
        refine RunU.ev [0, 3, 4, 5, 6, 7, 8, 9, 10, 12, 13, 14, 15, 16] [(0, .slice A8 ks.length c8), (3, pt b2), (4, pt b3), (5, pt b8), (6, pt b13), (7, pt b15), (8, pt b20), (9, .int .i64 i), (10, .int .u8 (((ks.getD (i / (8 : Int)).toNat 0) / 2 ^ (min (i % (8 : Int)).toNat 8)) % (2 : Int))), (12, pt b170), (13, pt b175), (14, pt b180), (15, pt b185), (16, pt b193)] ?_
        refine RunU.dn ?_
        refine kseq_n ?_
        refine RunC.seq ?_
        refine RunC.regionU hU 7 [blk b15 92 (nums .i64 p3), blk b20 92 (nums .i64 q3), blk b170 92 (nums .i64 zs167)] [8, 9, 4] [4, 6] (bm 7 0) (by kernel_rfl) (by kernel_rfl) (by kernel_rfl) ?_
        refine RunU.rd 0 (bm 7 1) 62 (.load 92 (.tmp 7)) (ag .i64 p3) [8, 9, 4] (Reads.load_arr hU 0 b15 92 32 .i64 p3 (by kernel_rfl) (by kernel_rfl) (by kernel_rfl) (by kernel_rfl) (by omega)) ?_
        refine RunU.rd 1 (bm 7 3) 63 (.load 92 (.tmp 8)) (ag .i64 q3) [8, 9, 4] (Reads.load_arr hU 1 b20 92 32 .i64 q3 (by kernel_rfl) (by kernel_rfl) (by kernel_rfl) (by kernel_rfl) (by omega)) ?_
        refine RunU.rd 3 (bm 7 11) 65 (.load 92 (.tmp 12)) (ag .i64 zs167) [8, 9, 4] (Reads.load_arr hU 2 b170 92 32 .i64 zs167 (by kernel_rfl) (by kernel_rfl) (by kernel_rfl) (by kernel_rfl) (by omega)) ?_
        refine RunU.ev [0, 3, 4, 5, 6, 7, 8, 9, 10, 13, 14, 15, 16, 62, 63, 65] [(0, .slice A8 ks.length c8), (3, pt b2), (4, pt b3), (5, pt b8), (6, pt b13), (7, pt b15), (8, pt b20), (9, .int .i64 i), (10, .int .u8 (((ks.getD (i / (8 : Int)).toNat 0) / 2 ^ (min (i % (8 : Int)).toNat 8)) % (2 : Int))), (13, pt b175), (14, pt b180), (15, pt b185), (16, pt b193), (62, ag .i64 p3), (63, ag .i64 q3), (65, ag .i64 zs167)] ?_
        refine RunU.name (fun R_ hR_ => ?_)
        have hD223_0 : ∀ (zs209 : List Int) (b212 : Nat), Dg zs209 ((((x3 + z3) % P) * ((x2 - z2) % P)) % P) → zs209.length = 32 → R_ 1 (bm 7 63) [(0, .slice A8 ks.length c8), (3, pt b2), (4, pt b3), (5, pt b8), (6, pt b13), (7, pt b15), (8, pt b20), (9, .int .i64 i), (10, .int .u8 (((ks.getD (i / (8 : Int)).toNat 0) / 2 ^ (min (i % (8 : Int)).toNat 8)) % (2 : Int))), (13, pt b175), (14, pt b180), (15, pt b185), (16, pt b193), (17, pt b212), (66, ag .i64 zs209)] [blk b212 92 (nums .i64 (List.replicate 32 (0 : Int))), blk b193 92 (nums .i64 zs190), blk b185 92 (nums .i64 zs182), blk b180 92 (nums .i64 zs177), blk b175 92 (nums .i64 zs172), blk b170 92 (nums .i64 zs167), blk b165 92 (nums .i64 zs162), blk b8 92 (nums .i64 p2), blk b13 92 (nums .i64 q2), blk b15 92 (nums .i64 p3), blk b20 92 (nums .i64 q3), blk b3 92 (nums .i64 (List.replicate 32 (0 : Int))), blk b2 92 (nums .i64 us), vw A8 (nums .u8 ks)] := by
          intro zs209 b212 hp210 hp211
          rw [hR_]
          refine RunU.on none (.store 92 (.tmp 17) (.tmp 66)) 6 (bm 7 127) [] (Step.store_arr hU 0 b212 92 32 .i64 (List.replicate 32 (0 : Int)) zs209 (by kernel_rfl) (by kernel_rfl) (by kernel_rfl) (by kernel_rfl) (by rfl) (by omega) ?_)
          refine orR ?_
          refine RunU.ev [0, 3, 4, 5, 6, 7, 8, 9, 10, 13, 14, 15, 16, 17] [(0, .slice A8 ks.length c8), (3, pt b2), (4, pt b3), (5, pt b8), (6, pt b13), (7, pt b15), (8, pt b20), (9, .int .i64 i), (10, .int .u8 (((ks.getD (i / (8 : Int)).toNat 0) / 2 ^ (min (i % (8 : Int)).toNat 8)) % (2 : Int))), (13, pt b175), (14, pt b180), (15, pt b185), (16, pt b193), (17, pt b212)] ?_
          refine RunU.dn ?_
          refine kseq_n ?_
          refine RunC.seq ?_
          refine RunC.regionU hU 8 [blk b193 92 (nums .i64 zs190), blk b212 92 (nums .i64 zs209)] [1, 0] [5, 6, 7] (bm 8 0) (by kernel_rfl) (by kernel_rfl) (by kernel_rfl) ?_
          refine RunU.rd 0 (bm 8 1) 67 (.load 92 (.tmp 16)) (ag .i64 zs190) [1, 0] (Reads.load_arr hU 0 b193 92 32 .i64 zs190 (by kernel_rfl) (by kernel_rfl) (by kernel_rfl) (by kernel_rfl) (by omega)) ?_
          refine RunU.rd 1 (bm 8 3) 68 (.load 92 (.tmp 17)) (ag .i64 zs209) [1, 0] (Reads.load_arr hU 1 b212 92 32 .i64 zs209 (by kernel_rfl) (by kernel_rfl) (by kernel_rfl) (by kernel_rfl) (by omega)) ?_
          refine RunU.rd 3 (bm 8 11) 70 (.load 92 (.tmp 16)) (ag .i64 zs190) [1, 0] (Reads.load_arr hU 0 b193 92 32 .i64 zs190 (by kernel_rfl) (by kernel_rfl) (by kernel_rfl) (by kernel_rfl) (by omega)) ?_
          refine RunU.rd 4 (bm 8 27) 71 (.load 92 (.tmp 17)) (ag .i64 zs209) [1, 0] (Reads.load_arr hU 1 b212 92 32 .i64 zs209 (by kernel_rfl) (by kernel_rfl) (by kernel_rfl) (by kernel_rfl) (by omega)) ?_
          refine RunU.on (some 69) (.call { callee := .value (.func 79), args := #[.tmp 67, .tmp 68], argTypes := #[92, 92] }) 2 (bm 8 31) [1, 0] (Step.cn 79 [ag .i64 zs190, ag .i64 zs209] [] [blk b212 92 (nums .i64 zs209), blk b193 92 (nums .i64 zs190), blk b185 92 (nums .i64 zs182), blk b180 92 (nums .i64 zs177), blk b175 92 (nums .i64 zs172), blk b170 92 (nums .i64 zs167), blk b165 92 (nums .i64 zs162), blk b8 92 (nums .i64 p2), blk b13 92 (nums .i64 q2), blk b15 92 (nums .i64 p3), blk b20 92 (nums .i64 q3), blk b3 92 (nums .i64 (List.replicate 32 (0 : Int))), blk b2 92 (nums .i64 us), vw A8 (nums .u8 ks)] (n_Add_spec zs190 ((((x3 - z3) % P) * ((x2 + z2) % P)) % P) zs209 ((((x3 + z3) % P) * ((x2 - z2) % P)) % P) (by assumption) (by assumption) (by assumption) (by assumption)) [] ?_)
          rintro _ _ ⟨zs225, rfl, rfl, hp226, hp227⟩
          refine orL ?_
          refine RunU.on (some 72) (.call { callee := .value (.func 79), args := #[.tmp 70, .tmp 71], argTypes := #[92, 92] }) 5 (bm 8 63) [] (Step.cn 79 [ag .i64 zs190, ag .i64 zs209] [] [blk b212 92 (nums .i64 zs209), blk b193 92 (nums .i64 zs190), blk b185 92 (nums .i64 zs182), blk b180 92 (nums .i64 zs177), blk b175 92 (nums .i64 zs172), blk b170 92 (nums .i64 zs167), blk b165 92 (nums .i64 zs162), blk b8 92 (nums .i64 p2), blk b13 92 (nums .i64 q2), blk b15 92 (nums .i64 p3), blk b20 92 (nums .i64 q3), blk b3 92 (nums .i64 (List.replicate 32 (0 : Int))), blk b2 92 (nums .i64 us), vw A8 (nums .u8 ks)] (n_Add_spec zs190 ((((x3 - z3) % P) * ((x2 + z2) % P)) % P) zs209 ((((x3 + z3) % P) * ((x2 - z2) % P)) % P) (by assumption) (by assumption) (by assumption) (by assumption)) [] ?_)
          rintro _ _ ⟨zs228, rfl, rfl, hp229, hp230⟩
          refine orR ?_
          refine RunU.on (some 73) (.call { callee := .value (.func 81), args := #[.tmp 69, .tmp 72], argTypes := #[92, 92] }) 6 (bm 8 127) [] (Step.cn 81 [ag .i64 zs225, ag .i64 zs228] [] [blk b212 92 (nums .i64 zs209), blk b193 92 (nums .i64 zs190), blk b185 92 (nums .i64 zs182), blk b180 92 (nums .i64 zs177), blk b175 92 (nums .i64 zs172), blk b170 92 (nums .i64 zs167), blk b165 92 (nums .i64 zs162), blk b8 92 (nums .i64 p2), blk b13 92 (nums .i64 q2), blk b15 92 (nums .i64 p3), blk b20 92 (nums .i64 q3), blk b3 92 (nums .i64 (List.replicate 32 (0 : Int))), blk b2 92 (nums .i64 us), vw A8 (nums .u8 ks)] (n_Mul_spec zs225 ((((((x3 - z3) % P) * ((x2 + z2) % P)) % P) + ((((x3 + z3) % P) * ((x2 - z2) % P)) % P)) % P) zs228 ((((((x3 - z3) % P) * ((x2 + z2) % P)) % P) + ((((x3 + z3) % P) * ((x2 - z2) % P)) % P)) % P) (by assumption) (by assumption) (by assumption) (by assumption)) [] ?_)
          rintro _ _ ⟨zs231, rfl, rfl, hp232, hp233⟩
          refine orR ?_
          refine RunU.on none (.store 92 (.tmp 7) (.tmp 73)) 7 (bm 8 255) [] (Step.store_arr hU 9 b15 92 32 .i64 p3 zs231 (by kernel_rfl) (by kernel_rfl) (by kernel_rfl) (by kernel_rfl) (by omega) (by omega) ?_)
          refine orR ?_
          refine RunU.ev [0, 3, 4, 5, 6, 7, 8, 9, 10, 13, 14, 15, 16, 17] [(0, .slice A8 ks.length c8), (3, pt b2), (4, pt b3), (5, pt b8), (6, pt b13), (7, pt b15), (8, pt b20), (9, .int .i64 i), (10, .int .u8 (((ks.getD (i / (8 : Int)).toNat 0) / 2 ^ (min (i % (8 : Int)).toNat 8)) % (2 : Int))), (13, pt b175), (14, pt b180), (15, pt b185), (16, pt b193), (17, pt b212)] ?_
          refine RunU.dn ?_
          refine kseq_n ?_
          refine RunC.seq ?_
          refine RunC.regionU hU 10 [blk b2 92 (nums .i64 us), blk b193 92 (nums .i64 zs190), blk b212 92 (nums .i64 zs209)] [12, 2, 1] [8, 9] (bm 10 0) (by kernel_rfl) (by kernel_rfl) (by kernel_rfl) ?_
          refine RunU.rd 0 (bm 10 1) 74 (.load 92 (.tmp 3)) (ag .i64 us) [12, 2, 1] (Reads.load_arr hU 0 b2 92 32 .i64 us (by kernel_rfl) (by kernel_rfl) (by kernel_rfl) (by kernel_rfl) (by omega)) ?_
          refine RunU.rd 1 (bm 10 3) 75 (.load 92 (.tmp 16)) (ag .i64 zs190) [12, 2, 1] (Reads.load_arr hU 1 b193 92 32 .i64 zs190 (by kernel_rfl) (by kernel_rfl) (by kernel_rfl) (by kernel_rfl) (by omega)) ?_
          refine RunU.rd 2 (bm 10 7) 76 (.load 92 (.tmp 17)) (ag .i64 zs209) [12, 2, 1] (Reads.load_arr hU 2 b212 92 32 .i64 zs209 (by kernel_rfl) (by kernel_rfl) (by kernel_rfl) (by kernel_rfl) (by omega)) ?_
          refine RunU.rd 4 (bm 10 23) 78 (.load 92 (.tmp 16)) (ag .i64 zs190) [12, 2, 1] (Reads.load_arr hU 1 b193 92 32 .i64 zs190 (by kernel_rfl) (by kernel_rfl) (by kernel_rfl) (by kernel_rfl) (by omega)) ?_
          refine RunU.rd 5 (bm 10 55) 79 (.load 92 (.tmp 17)) (ag .i64 zs209) [12, 2, 1] (Reads.load_arr hU 2 b212 92 32 .i64 zs209 (by kernel_rfl) (by kernel_rfl) (by kernel_rfl) (by kernel_rfl) (by omega)) ?_
          refine RunU.on (some 77) (.call { callee := .value (.func 80), args := #[.tmp 75, .tmp 76], argTypes := #[92, 92] }) 3 (bm 10 63) [12, 2, 1] (Step.cn 80 [ag .i64 zs190, ag .i64 zs209] [] [blk b15 92 (nums .i64 zs231), blk b212 92 (nums .i64 zs209), blk b193 92 (nums .i64 zs190), blk b185 92 (nums .i64 zs182), blk b180 92 (nums .i64 zs177), blk b175 92 (nums .i64 zs172), blk b170 92 (nums .i64 zs167), blk b165 92 (nums .i64 zs162), blk b8 92 (nums .i64 p2), blk b13 92 (nums .i64 q2), blk b20 92 (nums .i64 q3), blk b3 92 (nums .i64 (List.replicate 32 (0 : Int))), blk b2 92 (nums .i64 us), vw A8 (nums .u8 ks)] (n_Sub_spec zs190 ((((x3 - z3) % P) * ((x2 + z2) % P)) % P) zs209 ((((x3 + z3) % P) * ((x2 - z2) % P)) % P) (by assumption) (by assumption) (by assumption) (by assumption) (by exact Int.le_of_lt (Int.emod_lt_of_pos _ (by decide)))) [] ?_)
          rintro _ _ ⟨zs234, rfl, rfl, hp235, hp236⟩
          refine orL ?_
          refine RunU.on (some 80) (.call { callee := .value (.func 80), args := #[.tmp 78, .tmp 79], argTypes := #[92, 92] }) 6 (bm 10 127) [12, 2, 1] (Step.cn 80 [ag .i64 zs190, ag .i64 zs209] [] [blk b15 92 (nums .i64 zs231), blk b212 92 (nums .i64 zs209), blk b193 92 (nums .i64 zs190), blk b185 92 (nums .i64 zs182), blk b180 92 (nums .i64 zs177), blk b175 92 (nums .i64 zs172), blk b170 92 (nums .i64 zs167), blk b165 92 (nums .i64 zs162), blk b8 92 (nums .i64 p2), blk b13 92 (nums .i64 q2), blk b20 92 (nums .i64 q3), blk b3 92 (nums .i64 (List.replicate 32 (0 : Int))), blk b2 92 (nums .i64 us), vw A8 (nums .u8 ks)] (n_Sub_spec zs190 ((((x3 - z3) % P) * ((x2 + z2) % P)) % P) zs209 ((((x3 + z3) % P) * ((x2 - z2) % P)) % P) (by assumption) (by assumption) (by assumption) (by assumption) (by exact Int.le_of_lt (Int.emod_lt_of_pos _ (by decide)))) [] ?_)
          rintro _ _ ⟨zs237, rfl, rfl, hp238, hp239⟩
          refine orL ?_
          refine RunU.on (some 81) (.call { callee := .value (.func 81), args := #[.tmp 77, .tmp 80], argTypes := #[92, 92] }) 7 (bm 10 255) [12, 2, 1] (Step.cn 81 [ag .i64 zs234, ag .i64 zs237] [] [blk b15 92 (nums .i64 zs231), blk b212 92 (nums .i64 zs209), blk b193 92 (nums .i64 zs190), blk b185 92 (nums .i64 zs182), blk b180 92 (nums .i64 zs177), blk b175 92 (nums .i64 zs172), blk b170 92 (nums .i64 zs167), blk b165 92 (nums .i64 zs162), blk b8 92 (nums .i64 p2), blk b13 92 (nums .i64 q2), blk b20 92 (nums .i64 q3), blk b3 92 (nums .i64 (List.replicate 32 (0 : Int))), blk b2 92 (nums .i64 us), vw A8 (nums .u8 ks)] (n_Mul_spec zs234 ((((((x3 - z3) % P) * ((x2 + z2) % P)) % P) - ((((x3 + z3) % P) * ((x2 - z2) % P)) % P)) % P) zs237 ((((((x3 - z3) % P) * ((x2 + z2) % P)) % P) - ((((x3 + z3) % P) * ((x2 - z2) % P)) % P)) % P) (by assumption) (by assumption) (by assumption) (by assumption)) [] ?_)
          rintro _ _ ⟨zs240, rfl, rfl, hp241, hp242⟩
          refine orL ?_
          refine RunU.on (some 82) (.call { callee := .value (.func 81), args := #[.tmp 74, .tmp 81], argTypes := #[92, 92] }) 8 (bm 10 511) [] (Step.cn 81 [ag .i64 us, ag .i64 zs240] [] [blk b15 92 (nums .i64 zs231), blk b212 92 (nums .i64 zs209), blk b193 92 (nums .i64 zs190), blk b185 92 (nums .i64 zs182), blk b180 92 (nums .i64 zs177), blk b175 92 (nums .i64 zs172), blk b170 92 (nums .i64 zs167), blk b165 92 (nums .i64 zs162), blk b8 92 (nums .i64 p2), blk b13 92 (nums .i64 q2), blk b20 92 (nums .i64 q3), blk b3 92 (nums .i64 (List.replicate 32 (0 : Int))), blk b2 92 (nums .i64 us), vw A8 (nums .u8 ks)] (n_Mul_spec us u zs240 ((((((((x3 - z3) % P) * ((x2 + z2) % P)) % P) - ((((x3 + z3) % P) * ((x2 - z2) % P)) % P)) % P) * ((((((x3 - z3) % P) * ((x2 + z2) % P)) % P) - ((((x3 + z3) % P) * ((x2 - z2) % P)) % P)) % P)) % P) (by assumption) (by assumption) (by assumption) (by assumption)) [] ?_)
          rintro _ _ ⟨zs243, rfl, rfl, hp244, hp245⟩
          refine orR ?_
          refine RunU.on none (.store 92 (.tmp 8) (.tmp 82)) 9 (bm 10 1023) [] (Step.store_arr hU 10 b20 92 32 .i64 q3 zs243 (by kernel_rfl) (by kernel_rfl) (by kernel_rfl) (by kernel_rfl) (by omega) (by omega) ?_)
          refine orR ?_
          refine RunU.ev [0, 3, 4, 5, 6, 7, 8, 9, 10, 13, 14, 15] [(0, .slice A8 ks.length c8), (3, pt b2), (4, pt b3), (5, pt b8), (6, pt b13), (7, pt b15), (8, pt b20), (9, .int .i64 i), (10, .int .u8 (((ks.getD (i / (8 : Int)).toNat 0) / 2 ^ (min (i % (8 : Int)).toNat 8)) % (2 : Int))), (13, pt b175), (14, pt b180), (15, pt b185)] ?_
          refine RunU.dn ?_
          refine kseq_n ?_
          refine RunC.sr ?_
          refine RunR.st (some 83) (.load 92 (.tmp 13)) (Step.load_arr hU 6 b175 92 32 .i64 zs172 (by kernel_rfl) (by kernel_rfl) (by kernel_rfl) (by kernel_rfl) (by omega) (by kernel_rfl) ?_)
          refine RunR.st (some 84) (.load 92 (.tmp 14)) (Step.load_arr hU 5 b180 92 32 .i64 zs177 (by kernel_rfl) (by kernel_rfl) (by kernel_rfl) (by kernel_rfl) (by omega) (by kernel_rfl) ?_)
          refine RunR.st (some 85) (.call { callee := .value (.func 81), args := #[.tmp 83, .tmp 84], argTypes := #[92, 92] }) (Step.cn 81 [ag .i64 zs172, ag .i64 zs177] [] [blk b20 92 (nums .i64 zs243), blk b15 92 (nums .i64 zs231), blk b212 92 (nums .i64 zs209), blk b193 92 (nums .i64 zs190), blk b185 92 (nums .i64 zs182), blk b180 92 (nums .i64 zs177), blk b175 92 (nums .i64 zs172), blk b170 92 (nums .i64 zs167), blk b165 92 (nums .i64 zs162), blk b8 92 (nums .i64 p2), blk b13 92 (nums .i64 q2), blk b3 92 (nums .i64 (List.replicate 32 (0 : Int))), blk b2 92 (nums .i64 us), vw A8 (nums .u8 ks)] (n_Mul_spec zs172 ((((x2 + z2) % P) * ((x2 + z2) % P)) % P) zs177 ((((x2 - z2) % P) * ((x2 - z2) % P)) % P) (by assumption) (by assumption) (by assumption) (by assumption)) [] ?_)
          rintro _ _ ⟨zs246, rfl, rfl, hp247, hp248⟩
          refine RunR.st none (.store 92 (.tmp 5) (.tmp 85)) (Step.store_arr hU 9 b8 92 32 .i64 p2 zs246 (by kernel_rfl) (by kernel_rfl) (by kernel_rfl) (by kernel_rfl) (by omega) (by omega) ?_)
          refine RunR.nn ?_
          refine RunC.seq ?_
          refine RunC.regionU hU 8 [blk b185 92 (nums .i64 zs182), blk b175 92 (nums .i64 zs172)] [5, 7] [6, 7] (bm 8 0) (by kernel_rfl) (by kernel_rfl) (by kernel_rfl) ?_
          refine RunU.rd 0 (bm 8 1) 86 (.load 92 (.tmp 15)) (ag .i64 zs182) [5, 7] (Reads.load_arr hU 0 b185 92 32 .i64 zs182 (by kernel_rfl) (by kernel_rfl) (by kernel_rfl) (by kernel_rfl) (by omega)) ?_
          refine RunU.rd 1 (bm 8 3) 87 (.load 92 (.tmp 13)) (ag .i64 zs172) [5, 7] (Reads.load_arr hU 1 b175 92 32 .i64 zs172 (by kernel_rfl) (by kernel_rfl) (by kernel_rfl) (by kernel_rfl) (by omega)) ?_
          refine RunU.rd 3 (bm 8 11) 89 (.load 92 (.tmp 15)) (ag .i64 zs182) [5, 7] (Reads.load_arr hU 0 b185 92 32 .i64 zs182 (by kernel_rfl) (by kernel_rfl) (by kernel_rfl) (by kernel_rfl) (by omega)) ?_
          refine RunU.on (some 88) (.call { callee := .value (.func 62), args := #[.const (.int .u32 121665)], argTypes := #[96] }) 2 (bm 8 15) [5, 7] (Step.cn 62 [.int .u32 121665] [] [blk b8 92 (nums .i64 zs246), blk b20 92 (nums .i64 zs243), blk b15 92 (nums .i64 zs231), blk b212 92 (nums .i64 zs209), blk b193 92 (nums .i64 zs190), blk b185 92 (nums .i64 zs182), blk b180 92 (nums .i64 zs177), blk b175 92 (nums .i64 zs172), blk b170 92 (nums .i64 zs167), blk b165 92 (nums .i64 zs162), blk b13 92 (nums .i64 q2), blk b3 92 (nums .i64 (List.replicate 32 (0 : Int))), blk b2 92 (nums .i64 us), vw A8 (nums .u8 ks)] (n_Small_spec 121665 (by (refine ⟨?_, ?_⟩ <;> omega))) [] ?_)
          rintro _ _ ⟨zs249, rfl, rfl, hp250, hp251⟩
          refine orL ?_
          refine RunU.on (some 90) (.call { callee := .value (.func 81), args := #[.tmp 88, .tmp 89], argTypes := #[92, 92] }) 4 (bm 8 31) [5, 7] (Step.cn 81 [ag .i64 zs249, ag .i64 zs182] [] [blk b8 92 (nums .i64 zs246), blk b20 92 (nums .i64 zs243), blk b15 92 (nums .i64 zs231), blk b212 92 (nums .i64 zs209), blk b193 92 (nums .i64 zs190), blk b185 92 (nums .i64 zs182), blk b180 92 (nums .i64 zs177), blk b175 92 (nums .i64 zs172), blk b170 92 (nums .i64 zs167), blk b165 92 (nums .i64 zs162), blk b13 92 (nums .i64 q2), blk b3 92 (nums .i64 (List.replicate 32 (0 : Int))), blk b2 92 (nums .i64 us), vw A8 (nums .u8 ks)] (n_Mul_spec zs249 121665 zs182 ((((((x2 + z2) % P) * ((x2 + z2) % P)) % P) - ((((x2 - z2) % P) * ((x2 - z2) % P)) % P)) % P) (by assumption) (by assumption) (by assumption) (by assumption)) [] ?_)
          rintro _ _ ⟨zs252, rfl, rfl, hp253, hp254⟩
          refine orL ?_
          refine RunU.on (some 91) (.call { callee := .value (.func 79), args := #[.tmp 87, .tmp 90], argTypes := #[92, 92] }) 5 (bm 8 63) [5, 7] (Step.cn 79 [ag .i64 zs172, ag .i64 zs252] [] [blk b8 92 (nums .i64 zs246), blk b20 92 (nums .i64 zs243), blk b15 92 (nums .i64 zs231), blk b212 92 (nums .i64 zs209), blk b193 92 (nums .i64 zs190), blk b185 92 (nums .i64 zs182), blk b180 92 (nums .i64 zs177), blk b175 92 (nums .i64 zs172), blk b170 92 (nums .i64 zs167), blk b165 92 (nums .i64 zs162), blk b13 92 (nums .i64 q2), blk b3 92 (nums .i64 (List.replicate 32 (0 : Int))), blk b2 92 (nums .i64 us), vw A8 (nums .u8 ks)] (n_Add_spec zs172 ((((x2 + z2) % P) * ((x2 + z2) % P)) % P) zs252 ((121665 * ((((((x2 + z2) % P) * ((x2 + z2) % P)) % P) - ((((x2 - z2) % P) * ((x2 - z2) % P)) % P)) % P)) % P) (by assumption) (by assumption) (by assumption) (by assumption)) [] ?_)
          rintro _ _ ⟨zs255, rfl, rfl, hp256, hp257⟩
          refine orL ?_
          refine RunU.on (some 92) (.call { callee := .value (.func 81), args := #[.tmp 86, .tmp 91], argTypes := #[92, 92] }) 6 (bm 8 127) [] (Step.cn 81 [ag .i64 zs182, ag .i64 zs255] [] [blk b8 92 (nums .i64 zs246), blk b20 92 (nums .i64 zs243), blk b15 92 (nums .i64 zs231), blk b212 92 (nums .i64 zs209), blk b193 92 (nums .i64 zs190), blk b185 92 (nums .i64 zs182), blk b180 92 (nums .i64 zs177), blk b175 92 (nums .i64 zs172), blk b170 92 (nums .i64 zs167), blk b165 92 (nums .i64 zs162), blk b13 92 (nums .i64 q2), blk b3 92 (nums .i64 (List.replicate 32 (0 : Int))), blk b2 92 (nums .i64 us), vw A8 (nums .u8 ks)] (n_Mul_spec zs182 ((((((x2 + z2) % P) * ((x2 + z2) % P)) % P) - ((((x2 - z2) % P) * ((x2 - z2) % P)) % P)) % P) zs255 ((((((x2 + z2) % P) * ((x2 + z2) % P)) % P) + ((121665 * ((((((x2 + z2) % P) * ((x2 + z2) % P)) % P) - ((((x2 - z2) % P) * ((x2 - z2) % P)) % P)) % P)) % P)) % P) (by assumption) (by assumption) (by assumption) (by assumption)) [] ?_)
          rintro _ _ ⟨zs258, rfl, rfl, hp259, hp260⟩
          refine orR ?_
          refine RunU.on none (.store 92 (.tmp 6) (.tmp 92)) 7 (bm 8 255) [] (Step.store_arr hU 10 b13 92 32 .i64 q2 zs258 (by kernel_rfl) (by kernel_rfl) (by kernel_rfl) (by kernel_rfl) (by omega) (by omega) ?_)
          refine orR ?_
          refine RunU.ev [0, 3, 4, 5, 6, 7, 8, 9, 10] [(0, .slice A8 ks.length c8), (3, pt b2), (4, pt b3), (5, pt b8), (6, pt b13), (7, pt b15), (8, pt b20), (9, .int .i64 i), (10, .int .u8 (((ks.getD (i / (8 : Int)).toNat 0) / 2 ^ (min (i % (8 : Int)).toNat 8)) % (2 : Int)))] ?_
          refine RunU.dn ?_
          refine kseq_n ?_
          refine RunC.sr ?_
          refine RunR.sl hU [] 2 2 [0, 3, 4, 5, 6, 7, 8, 9, 94] [(0, .slice A8 ks.length c8), (3, pt b2), (4, pt b3), (5, pt b8), (6, pt b13), (7, pt b15), (8, pt b20), (9, .int .i64 i), (94, .bool (decide ((((ks.getD (i / (8 : Int)).toNat 0) / 2 ^ (min (i % (8 : Int)).toNat 8)) % (2 : Int)) = 1)))] 2 ?_
          refine RunR.ev [0, 3, 4, 5, 6, 7, 8, 9, 94] [(0, .slice A8 ks.length c8), (3, pt b2), (4, pt b3), (5, pt b8), (6, pt b13), (7, pt b15), (8, pt b20), (9, .int .i64 i), (94, .bool (decide ((((ks.getD (i / (8 : Int)).toNat 0) / 2 ^ (min (i % (8 : Int)).toNat 8)) % (2 : Int)) = 1)))] ?_
          have hk261 : ¬ ((((ks.getD (i / (8 : Int)).toNat 0) / 2 ^ (min (i % (8 : Int)).toNat 8)) % (2 : Int)) = 1) := by exact h25
          refine RunR.enveq [(0, .slice A8 ks.length c8), (3, pt b2), (4, pt b3), (5, pt b8), (6, pt b13), (7, pt b15), (8, pt b20), (9, .int .i64 i), (94, .bool false)] (by rw [decide_eq_false hk261]; try rfl) ?_
          refine RunR.nn ?_
          refine RunC.cond (b := false) (by kernel_rfl) (fun h => by cases h) (fun _ => ?_)
          refine RunC.skip ?_
          refine kblock_n ?_
          refine kseq_n ?_
          refine RunC.region ?_
          refine RunR.sil hU [1] 3 3 [0, 3, 4, 5, 6, 7, 8, 9] [(0, .slice A8 ks.length c8), (3, pt b2), (4, pt b3), (5, pt b8), (6, pt b13), (7, pt b15), (8, pt b20), (9, .int .i64 (i - 1))] ((True) ∧ (-9223372036854775808 ≤ (i - 1) ∧ (i - 1) < 9223372036854775808) ∧ (True) ∧ True) rfl (by kernel_rfl) ⟨trivial, (by omega), trivial, trivial⟩ ?_
          refine RunR.dn ?_
          refine kloop_n _ [0, 3, 4, 5, 6, 7, 8, 9] [1, 0, 1, 0, 7, 7, 7] [(0, .slice A8 ks.length c8), (3, pt b2), (4, pt b3), (5, pt b8), (6, pt b13), (7, pt b15), (8, pt b20), (9, .int .i64 (i - 1))] [blk b8 92 (nums .i64 zs246), blk b13 92 (nums .i64 zs258), blk b15 92 (nums .i64 zs231), blk b20 92 (nums .i64 zs243), blk b3 92 (nums .i64 (List.replicate 32 (0 : Int))), blk b2 92 (nums .i64 us), vw A8 (nums .u8 ks)] (by kernel_rfl) (by kernel_rfl) ?_ ⟨(i - 1), zs246, zs258, zs231, zs243, ((((((x2 + z2) % P) * ((x2 + z2) % P)) % P) * ((((x2 - z2) % P) * ((x2 - z2) % P)) % P)) % P), ((((((((x2 + z2) % P) * ((x2 + z2) % P)) % P) - ((((x2 - z2) % P) * ((x2 - z2) % P)) % P)) % P) * ((((((x2 + z2) % P) * ((x2 + z2) % P)) % P) + ((121665 * ((((((x2 + z2) % P) * ((x2 + z2) % P)) % P) - ((((x2 - z2) % P) * ((x2 - z2) % P)) % P)) % P)) % P)) % P)) % P), ((((((((x3 - z3) % P) * ((x2 + z2) % P)) % P) + ((((x3 + z3) % P) * ((x2 - z2) % P)) % P)) % P) * ((((((x3 - z3) % P) * ((x2 + z2) % P)) % P) + ((((x3 + z3) % P) * ((x2 - z2) % P)) % P)) % P)) % P), ((u * ((((((((x3 - z3) % P) * ((x2 + z2) % P)) % P) - ((((x3 + z3) % P) * ((x2 - z2) % P)) % P)) % P) * ((((((x3 - z3) % P) * ((x2 + z2) % P)) % P) - ((((x3 + z3) % P) * ((x2 - z2) % P)) % P)) % P)) % P)) % P), (by omega), (by omega), (by assumption), (by assumption), (by assumption), (by assumption), (by assumption), (by assumption), (by assumption), (by assumption), (by exact Int.emod_lt_of_pos _ (by decide)), (by exact Int.emod_lt_of_pos _ (by decide)), (by exact Int.emod_lt_of_pos _ (by decide)), (by exact Int.emod_lt_of_pos _ (by decide)), (by rw [show (254 - (i - 1)).toNat = (254 - i).toNat + 1 by omega]; exact lad_zero hs (bit_c hIks (by omega) (by omega) (by assumption))), rfl, (by rfl), (by rfl)⟩
          show (((i - 1) + 1).toNat : Nat) < ((i + 1).toNat : Nat)
          omega
        have hD223_1 : ∀ (zs209 : List Int), Dg zs209 ((((x3 + z3) % P) * ((x2 - z2) % P)) % P) → zs209.length = 32 → R_ 2 (bm 7 31) [(0, .slice A8 ks.length c8), (3, pt b2), (4, pt b3), (5, pt b8), (6, pt b13), (7, pt b15), (8, pt b20), (9, .int .i64 i), (10, .int .u8 (((ks.getD (i / (8 : Int)).toNat 0) / 2 ^ (min (i % (8 : Int)).toNat 8)) % (2 : Int))), (13, pt b175), (14, pt b180), (15, pt b185), (16, pt b193), (66, ag .i64 zs209)] [blk b193 92 (nums .i64 zs190), blk b185 92 (nums .i64 zs182), blk b180 92 (nums .i64 zs177), blk b175 92 (nums .i64 zs172), blk b170 92 (nums .i64 zs167), blk b165 92 (nums .i64 zs162), blk b8 92 (nums .i64 p2), blk b13 92 (nums .i64 q2), blk b15 92 (nums .i64 p3), blk b20 92 (nums .i64 q3), blk b3 92 (nums .i64 (List.replicate 32 (0 : Int))), blk b2 92 (nums .i64 us), vw A8 (nums .u8 ks)] := by
          intro zs209 hp210 hp211
          rw [hR_]
          refine RunU.any [5] (by kernel_rfl) rfl (all_cons (i := 5) ?_ all_nil)
          · skip
            refine ⟨(some 17), (.alloc 92), (bm 7 63), [9, 10, 5], (by kernel_rfl), (by kernel_rfl), ?_⟩
            refine (Step.al hU 32 256 z32 (fun b262 => ?_))
            have hl263 : (List.replicate 32 (0 : Int)).length = 32 := List.length_replicate
            refine orL ?_
            refine RunU.turn [blk b262 92 (nums .i64 (List.replicate 32 (0 : Int))), blk b193 92 (nums .i64 zs190), blk b185 92 (nums .i64 zs182), blk b180 92 (nums .i64 zs177), blk b175 92 (nums .i64 zs172), blk b170 92 (nums .i64 zs167), blk b165 92 (nums .i64 zs162), blk b8 92 (nums .i64 p2), blk b13 92 (nums .i64 q2), blk b15 92 (nums .i64 p3), blk b20 92 (nums .i64 q3), blk b3 92 (nums .i64 (List.replicate 32 (0 : Int))), blk b2 92 (nums .i64 us), vw A8 (nums .u8 ks)] (fun _ _ w hs => hs.pulls2 [0, 0, 0, 0, 0, 0, 0, 0, 0, 0, 0, 0, 0, 0] _ (by kernel_rfl)) ?_
            refine RunU.ev [0, 3, 4, 5, 6, 7, 8, 9, 10, 13, 14, 15, 16, 17, 66] [(0, .slice A8 ks.length c8), (3, pt b2), (4, pt b3), (5, pt b8), (6, pt b13), (7, pt b15), (8, pt b20), (9, .int .i64 i), (10, .int .u8 (((ks.getD (i / (8 : Int)).toNat 0) / 2 ^ (min (i % (8 : Int)).toNat 8)) % (2 : Int))), (13, pt b175), (14, pt b180), (15, pt b185), (16, pt b193), (17, pt b262), (66, ag .i64 zs209)] ?_
            have q_ := hD223_0 zs209 b262 (by assumption) (by assumption)
            rw [hR_] at q_
            exact q_
        have hD223_2 : ∀ (zs206 : List Int) (b214 : Nat), Dg zs206 ((x3 + z3) % P) → zs206.length = 32 → R_ 2 (bm 7 47) [(0, .slice A8 ks.length c8), (3, pt b2), (4, pt b3), (5, pt b8), (6, pt b13), (7, pt b15), (8, pt b20), (9, .int .i64 i), (10, .int .u8 (((ks.getD (i / (8 : Int)).toNat 0) / 2 ^ (min (i % (8 : Int)).toNat 8)) % (2 : Int))), (13, pt b175), (14, pt b180), (15, pt b185), (16, pt b193), (17, pt b214), (64, ag .i64 zs206), (65, ag .i64 zs167)] [blk b214 92 (nums .i64 (List.replicate 32 (0 : Int))), blk b193 92 (nums .i64 zs190), blk b185 92 (nums .i64 zs182), blk b180 92 (nums .i64 zs177), blk b175 92 (nums .i64 zs172), blk b170 92 (nums .i64 zs167), blk b165 92 (nums .i64 zs162), blk b8 92 (nums .i64 p2), blk b13 92 (nums .i64 q2), blk b15 92 (nums .i64 p3), blk b20 92 (nums .i64 q3), blk b3 92 (nums .i64 (List.replicate 32 (0 : Int))), blk b2 92 (nums .i64 us), vw A8 (nums .u8 ks)] := by
          intro zs206 b214 hp207 hp208
          rw [hR_]
          refine RunU.any [4] (by kernel_rfl) rfl (all_cons (i := 4) ?_ all_nil)
          · skip
            refine ⟨(some 66), (.call { callee := .value (.func 81), args := #[.tmp 64, .tmp 65], argTypes := #[92, 92] }), (bm 7 63), [], (by kernel_rfl), (by kernel_rfl), ?_⟩
            refine (Step.cn 81 [ag .i64 zs206, ag .i64 zs167] [] [blk b214 92 (nums .i64 (List.replicate 32 (0 : Int))), blk b193 92 (nums .i64 zs190), blk b185 92 (nums .i64 zs182), blk b180 92 (nums .i64 zs177), blk b175 92 (nums .i64 zs172), blk b170 92 (nums .i64 zs167), blk b165 92 (nums .i64 zs162), blk b8 92 (nums .i64 p2), blk b13 92 (nums .i64 q2), blk b15 92 (nums .i64 p3), blk b20 92 (nums .i64 q3), blk b3 92 (nums .i64 (List.replicate 32 (0 : Int))), blk b2 92 (nums .i64 us), vw A8 (nums .u8 ks)] (n_Mul_spec zs206 ((x3 + z3) % P) zs167 ((x2 - z2) % P) (by assumption) (by assumption) (by assumption) (by assumption)) [] ?_)
            rintro _ _ ⟨zs264, rfl, rfl, hp265, hp266⟩
            refine orR ?_
            refine RunU.turn [blk b214 92 (nums .i64 (List.replicate 32 (0 : Int))), blk b193 92 (nums .i64 zs190), blk b185 92 (nums .i64 zs182), blk b180 92 (nums .i64 zs177), blk b175 92 (nums .i64 zs172), blk b170 92 (nums .i64 zs167), blk b165 92 (nums .i64 zs162), blk b8 92 (nums .i64 p2), blk b13 92 (nums .i64 q2), blk b15 92 (nums .i64 p3), blk b20 92 (nums .i64 q3), blk b3 92 (nums .i64 (List.replicate 32 (0 : Int))), blk b2 92 (nums .i64 us), vw A8 (nums .u8 ks)] (fun _ _ w hs => hs.pulls2 [0, 0, 0, 0, 0, 0, 0, 0, 0, 0, 0, 0, 0, 0] _ (by kernel_rfl)) ?_
            refine RunU.ev [0, 3, 4, 5, 6, 7, 8, 9, 10, 13, 14, 15, 16, 17, 66] [(0, .slice A8 ks.length c8), (3, pt b2), (4, pt b3), (5, pt b8), (6, pt b13), (7, pt b15), (8, pt b20), (9, .int .i64 i), (10, .int .u8 (((ks.getD (i / (8 : Int)).toNat 0) / 2 ^ (min (i % (8 : Int)).toNat 8)) % (2 : Int))), (13, pt b175), (14, pt b180), (15, pt b185), (16, pt b193), (17, pt b214), (66, ag .i64 zs264)] ?_
            have q_ := hD223_0 zs264 b214 (by assumption) (by assumption)
            rw [hR_] at q_
            exact q_
        have hD223_3 : ∀ (zs206 : List Int), Dg zs206 ((x3 + z3) % P) → zs206.length = 32 → R_ 3 (bm 7 15) [(0, .slice A8 ks.length c8), (3, pt b2), (4, pt b3), (5, pt b8), (6, pt b13), (7, pt b15), (8, pt b20), (9, .int .i64 i), (10, .int .u8 (((ks.getD (i / (8 : Int)).toNat 0) / 2 ^ (min (i % (8 : Int)).toNat 8)) % (2 : Int))), (13, pt b175), (14, pt b180), (15, pt b185), (16, pt b193), (64, ag .i64 zs206), (65, ag .i64 zs167)] [blk b193 92 (nums .i64 zs190), blk b185 92 (nums .i64 zs182), blk b180 92 (nums .i64 zs177), blk b175 92 (nums .i64 zs172), blk b170 92 (nums .i64 zs167), blk b165 92 (nums .i64 zs162), blk b8 92 (nums .i64 p2), blk b13 92 (nums .i64 q2), blk b15 92 (nums .i64 p3), blk b20 92 (nums .i64 q3), blk b3 92 (nums .i64 (List.replicate 32 (0 : Int))), blk b2 92 (nums .i64 us), vw A8 (nums .u8 ks)] := by
          intro zs206 hp207 hp208
          rw [hR_]
          refine RunU.any [4, 5] (by kernel_rfl) rfl (all_cons (i := 4) ?_ (all_cons (i := 5) ?_ all_nil))
          · skip
            refine ⟨(some 66), (.call { callee := .value (.func 81), args := #[.tmp 64, .tmp 65], argTypes := #[92, 92] }), (bm 7 31), [], (by kernel_rfl), (by kernel_rfl), ?_⟩
            refine (Step.cn 81 [ag .i64 zs206, ag .i64 zs167] [] [blk b193 92 (nums .i64 zs190), blk b185 92 (nums .i64 zs182), blk b180 92 (nums .i64 zs177), blk b175 92 (nums .i64 zs172), blk b170 92 (nums .i64 zs167), blk b165 92 (nums .i64 zs162), blk b8 92 (nums .i64 p2), blk b13 92 (nums .i64 q2), blk b15 92 (nums .i64 p3), blk b20 92 (nums .i64 q3), blk b3 92 (nums .i64 (List.replicate 32 (0 : Int))), blk b2 92 (nums .i64 us), vw A8 (nums .u8 ks)] (n_Mul_spec zs206 ((x3 + z3) % P) zs167 ((x2 - z2) % P) (by assumption) (by assumption) (by assumption) (by assumption)) [] ?_)
            rintro _ _ ⟨zs267, rfl, rfl, hp268, hp269⟩
            refine orR ?_
            refine RunU.turn [blk b193 92 (nums .i64 zs190), blk b185 92 (nums .i64 zs182), blk b180 92 (nums .i64 zs177), blk b175 92 (nums .i64 zs172), blk b170 92 (nums .i64 zs167), blk b165 92 (nums .i64 zs162), blk b8 92 (nums .i64 p2), blk b13 92 (nums .i64 q2), blk b15 92 (nums .i64 p3), blk b20 92 (nums .i64 q3), blk b3 92 (nums .i64 (List.replicate 32 (0 : Int))), blk b2 92 (nums .i64 us), vw A8 (nums .u8 ks)] (fun _ _ w hs => hs.pulls2 [0, 0, 0, 0, 0, 0, 0, 0, 0, 0, 0, 0, 0] _ (by kernel_rfl)) ?_
            refine RunU.ev [0, 3, 4, 5, 6, 7, 8, 9, 10, 13, 14, 15, 16, 66] [(0, .slice A8 ks.length c8), (3, pt b2), (4, pt b3), (5, pt b8), (6, pt b13), (7, pt b15), (8, pt b20), (9, .int .i64 i), (10, .int .u8 (((ks.getD (i / (8 : Int)).toNat 0) / 2 ^ (min (i % (8 : Int)).toNat 8)) % (2 : Int))), (13, pt b175), (14, pt b180), (15, pt b185), (16, pt b193), (66, ag .i64 zs267)] ?_
            have q_ := hD223_1 zs267 (by assumption) (by assumption)
            rw [hR_] at q_
            exact q_
          · skip
            refine ⟨(some 17), (.alloc 92), (bm 7 47), [9, 10, 5], (by kernel_rfl), (by kernel_rfl), ?_⟩
            refine (Step.al hU 32 256 z32 (fun b270 => ?_))
            have hl271 : (List.replicate 32 (0 : Int)).length = 32 := List.length_replicate
            refine orL ?_
            refine RunU.turn [blk b270 92 (nums .i64 (List.replicate 32 (0 : Int))), blk b193 92 (nums .i64 zs190), blk b185 92 (nums .i64 zs182), blk b180 92 (nums .i64 zs177), blk b175 92 (nums .i64 zs172), blk b170 92 (nums .i64 zs167), blk b165 92 (nums .i64 zs162), blk b8 92 (nums .i64 p2), blk b13 92 (nums .i64 q2), blk b15 92 (nums .i64 p3), blk b20 92 (nums .i64 q3), blk b3 92 (nums .i64 (List.replicate 32 (0 : Int))), blk b2 92 (nums .i64 us), vw A8 (nums .u8 ks)] (fun _ _ w hs => hs.pulls2 [0, 0, 0, 0, 0, 0, 0, 0, 0, 0, 0, 0, 0, 0] _ (by kernel_rfl)) ?_
            refine RunU.ev [0, 3, 4, 5, 6, 7, 8, 9, 10, 13, 14, 15, 16, 17, 64, 65] [(0, .slice A8 ks.length c8), (3, pt b2), (4, pt b3), (5, pt b8), (6, pt b13), (7, pt b15), (8, pt b20), (9, .int .i64 i), (10, .int .u8 (((ks.getD (i / (8 : Int)).toNat 0) / 2 ^ (min (i % (8 : Int)).toNat 8)) % (2 : Int))), (13, pt b175), (14, pt b180), (15, pt b185), (16, pt b193), (17, pt b270), (64, ag .i64 zs206), (65, ag .i64 zs167)] ?_
            have q_ := hD223_2 zs206 b270 (by assumption) (by assumption)
            rw [hR_] at q_
            exact q_
        have hD223_4 : ∀ (b219 : Nat), R_ 3 (bm 7 43) [(0, .slice A8 ks.length c8), (3, pt b2), (4, pt b3), (5, pt b8), (6, pt b13), (7, pt b15), (8, pt b20), (9, .int .i64 i), (10, .int .u8 (((ks.getD (i / (8 : Int)).toNat 0) / 2 ^ (min (i % (8 : Int)).toNat 8)) % (2 : Int))), (13, pt b175), (14, pt b180), (15, pt b185), (16, pt b193), (17, pt b219), (62, ag .i64 p3), (63, ag .i64 q3), (65, ag .i64 zs167)] [blk b219 92 (nums .i64 (List.replicate 32 (0 : Int))), blk b193 92 (nums .i64 zs190), blk b185 92 (nums .i64 zs182), blk b180 92 (nums .i64 zs177), blk b175 92 (nums .i64 zs172), blk b170 92 (nums .i64 zs167), blk b165 92 (nums .i64 zs162), blk b8 92 (nums .i64 p2), blk b13 92 (nums .i64 q2), blk b15 92 (nums .i64 p3), blk b20 92 (nums .i64 q3), blk b3 92 (nums .i64 (List.replicate 32 (0 : Int))), blk b2 92 (nums .i64 us), vw A8 (nums .u8 ks)] := by
          intro b219
          rw [hR_]
          refine RunU.any [2] (by kernel_rfl) rfl (all_cons (i := 2) ?_ all_nil)
          · skip
            refine ⟨(some 64), (.call { callee := .value (.func 79), args := #[.tmp 62, .tmp 63], argTypes := #[92, 92] }), (bm 7 47), [9, 10, 5], (by kernel_rfl), (by kernel_rfl), ?_⟩
            refine (Step.cn 79 [ag .i64 p3, ag .i64 q3] [] [blk b219 92 (nums .i64 (List.replicate 32 (0 : Int))), blk b193 92 (nums .i64 zs190), blk b185 92 (nums .i64 zs182), blk b180 92 (nums .i64 zs177), blk b175 92 (nums .i64 zs172), blk b170 92 (nums .i64 zs167), blk b165 92 (nums .i64 zs162), blk b8 92 (nums .i64 p2), blk b13 92 (nums .i64 q2), blk b15 92 (nums .i64 p3), blk b20 92 (nums .i64 q3), blk b3 92 (nums .i64 (List.replicate 32 (0 : Int))), blk b2 92 (nums .i64 us), vw A8 (nums .u8 ks)] (n_Add_spec p3 x3 q3 z3 (by assumption) (by assumption) (by assumption) (by assumption)) [] ?_)
            rintro _ _ ⟨zs272, rfl, rfl, hp273, hp274⟩
            refine orL ?_
            refine RunU.turn [blk b219 92 (nums .i64 (List.replicate 32 (0 : Int))), blk b193 92 (nums .i64 zs190), blk b185 92 (nums .i64 zs182), blk b180 92 (nums .i64 zs177), blk b175 92 (nums .i64 zs172), blk b170 92 (nums .i64 zs167), blk b165 92 (nums .i64 zs162), blk b8 92 (nums .i64 p2), blk b13 92 (nums .i64 q2), blk b15 92 (nums .i64 p3), blk b20 92 (nums .i64 q3), blk b3 92 (nums .i64 (List.replicate 32 (0 : Int))), blk b2 92 (nums .i64 us), vw A8 (nums .u8 ks)] (fun _ _ w hs => hs.pulls2 [0, 0, 0, 0, 0, 0, 0, 0, 0, 0, 0, 0, 0, 0] _ (by kernel_rfl)) ?_
            refine RunU.ev [0, 3, 4, 5, 6, 7, 8, 9, 10, 13, 14, 15, 16, 17, 64, 65] [(0, .slice A8 ks.length c8), (3, pt b2), (4, pt b3), (5, pt b8), (6, pt b13), (7, pt b15), (8, pt b20), (9, .int .i64 i), (10, .int .u8 (((ks.getD (i / (8 : Int)).toNat 0) / 2 ^ (min (i % (8 : Int)).toNat 8)) % (2 : Int))), (13, pt b175), (14, pt b180), (15, pt b185), (16, pt b193), (17, pt b219), (64, ag .i64 zs272), (65, ag .i64 zs167)] ?_
            have q_ := hD223_2 zs272 b219 (by assumption) (by assumption)
            rw [hR_] at q_
            exact q_
        have hD223_5 : R_ 4 (bm 7 11) [(0, .slice A8 ks.length c8), (3, pt b2), (4, pt b3), (5, pt b8), (6, pt b13), (7, pt b15), (8, pt b20), (9, .int .i64 i), (10, .int .u8 (((ks.getD (i / (8 : Int)).toNat 0) / 2 ^ (min (i % (8 : Int)).toNat 8)) % (2 : Int))), (13, pt b175), (14, pt b180), (15, pt b185), (16, pt b193), (62, ag .i64 p3), (63, ag .i64 q3), (65, ag .i64 zs167)] [blk b193 92 (nums .i64 zs190), blk b185 92 (nums .i64 zs182), blk b180 92 (nums .i64 zs177), blk b175 92 (nums .i64 zs172), blk b170 92 (nums .i64 zs167), blk b165 92 (nums .i64 zs162), blk b8 92 (nums .i64 p2), blk b13 92 (nums .i64 q2), blk b15 92 (nums .i64 p3), blk b20 92 (nums .i64 q3), blk b3 92 (nums .i64 (List.replicate 32 (0 : Int))), blk b2 92 (nums .i64 us), vw A8 (nums .u8 ks)] := by
          rw [hR_]
          refine RunU.any [2, 5] (by kernel_rfl) rfl (all_cons (i := 2) ?_ (all_cons (i := 5) ?_ all_nil))
          · skip
            refine ⟨(some 64), (.call { callee := .value (.func 79), args := #[.tmp 62, .tmp 63], argTypes := #[92, 92] }), (bm 7 15), [8, 9, 4], (by kernel_rfl), (by kernel_rfl), ?_⟩
            refine (Step.cn 79 [ag .i64 p3, ag .i64 q3] [] [blk b193 92 (nums .i64 zs190), blk b185 92 (nums .i64 zs182), blk b180 92 (nums .i64 zs177), blk b175 92 (nums .i64 zs172), blk b170 92 (nums .i64 zs167), blk b165 92 (nums .i64 zs162), blk b8 92 (nums .i64 p2), blk b13 92 (nums .i64 q2), blk b15 92 (nums .i64 p3), blk b20 92 (nums .i64 q3), blk b3 92 (nums .i64 (List.replicate 32 (0 : Int))), blk b2 92 (nums .i64 us), vw A8 (nums .u8 ks)] (n_Add_spec p3 x3 q3 z3 (by assumption) (by assumption) (by assumption) (by assumption)) [] ?_)
            rintro _ _ ⟨zs275, rfl, rfl, hp276, hp277⟩
            refine orL ?_
            refine RunU.turn [blk b193 92 (nums .i64 zs190), blk b185 92 (nums .i64 zs182), blk b180 92 (nums .i64 zs177), blk b175 92 (nums .i64 zs172), blk b170 92 (nums .i64 zs167), blk b165 92 (nums .i64 zs162), blk b8 92 (nums .i64 p2), blk b13 92 (nums .i64 q2), blk b15 92 (nums .i64 p3), blk b20 92 (nums .i64 q3), blk b3 92 (nums .i64 (List.replicate 32 (0 : Int))), blk b2 92 (nums .i64 us), vw A8 (nums .u8 ks)] (fun _ _ w hs => hs.pulls2 [0, 0, 0, 0, 0, 0, 0, 0, 0, 0, 0, 0, 0] _ (by kernel_rfl)) ?_
            refine RunU.ev [0, 3, 4, 5, 6, 7, 8, 9, 10, 13, 14, 15, 16, 64, 65] [(0, .slice A8 ks.length c8), (3, pt b2), (4, pt b3), (5, pt b8), (6, pt b13), (7, pt b15), (8, pt b20), (9, .int .i64 i), (10, .int .u8 (((ks.getD (i / (8 : Int)).toNat 0) / 2 ^ (min (i % (8 : Int)).toNat 8)) % (2 : Int))), (13, pt b175), (14, pt b180), (15, pt b185), (16, pt b193), (64, ag .i64 zs275), (65, ag .i64 zs167)] ?_
            have q_ := hD223_3 zs275 (by assumption) (by assumption)
            rw [hR_] at q_
            exact q_
          · skip
            refine ⟨(some 17), (.alloc 92), (bm 7 43), [9, 10, 5], (by kernel_rfl), (by kernel_rfl), ?_⟩
            refine (Step.al hU 32 256 z32 (fun b278 => ?_))
            have hl279 : (List.replicate 32 (0 : Int)).length = 32 := List.length_replicate
            refine orL ?_
            refine RunU.turn [blk b278 92 (nums .i64 (List.replicate 32 (0 : Int))), blk b193 92 (nums .i64 zs190), blk b185 92 (nums .i64 zs182), blk b180 92 (nums .i64 zs177), blk b175 92 (nums .i64 zs172), blk b170 92 (nums .i64 zs167), blk b165 92 (nums .i64 zs162), blk b8 92 (nums .i64 p2), blk b13 92 (nums .i64 q2), blk b15 92 (nums .i64 p3), blk b20 92 (nums .i64 q3), blk b3 92 (nums .i64 (List.replicate 32 (0 : Int))), blk b2 92 (nums .i64 us), vw A8 (nums .u8 ks)] (fun _ _ w hs => hs.pulls2 [0, 0, 0, 0, 0, 0, 0, 0, 0, 0, 0, 0, 0, 0] _ (by kernel_rfl)) ?_
            refine RunU.ev [0, 3, 4, 5, 6, 7, 8, 9, 10, 13, 14, 15, 16, 17, 62, 63, 65] [(0, .slice A8 ks.length c8), (3, pt b2), (4, pt b3), (5, pt b8), (6, pt b13), (7, pt b15), (8, pt b20), (9, .int .i64 i), (10, .int .u8 (((ks.getD (i / (8 : Int)).toNat 0) / 2 ^ (min (i % (8 : Int)).toNat 8)) % (2 : Int))), (13, pt b175), (14, pt b180), (15, pt b185), (16, pt b193), (17, pt b278), (62, ag .i64 p3), (63, ag .i64 q3), (65, ag .i64 zs167)] ?_
            have q_ := hD223_4 b278
            rw [hR_] at q_
            exact q_
        exact hD223_5
      have hD204_1 : ∀ (zs190 : List Int), Dg zs190 ((((x3 - z3) % P) * ((x2 + z2) % P)) % P) → zs190.length = 32 → R_ 2 (bm 7 31) [(0, .slice A8 ks.length c8), (3, pt b2), (4, pt b3), (5, pt b8), (6, pt b13), (7, pt b15), (8, pt b20), (9, .int .i64 i), (10, .int .u8 (((ks.getD (i / (8 : Int)).toNat 0) / 2 ^ (min (i % (8 : Int)).toNat 8)) % (2 : Int))), (12, pt b170), (13, pt b175), (14, pt b180), (15, pt b185), (61, ag .i64 zs190)] [blk b185 92 (nums .i64 zs182), blk b180 92 (nums .i64 zs177), blk b175 92 (nums .i64 zs172), blk b170 92 (nums .i64 zs167), blk b165 92 (nums .i64 zs162), blk b8 92 (nums .i64 p2), blk b13 92 (nums .i64 q2), blk b15 92 (nums .i64 p3), blk b20 92 (nums .i64 q3), blk b3 92 (nums .i64 (List.replicate 32 (0 : Int))), blk b2 92 (nums .i64 us), vw A8 (nums .u8 ks)] := by
        intro zs190 hp191 hp192
        rw [hR_]
        refine RunU.any [5] (by kernel_rfl) rfl (all_cons (i := 5) ?_ all_nil)
        · skip
          refine ⟨(some 16), (.alloc 92), (bm 7 63), [8, 9, 5], (by kernel_rfl), (by kernel_rfl), ?_⟩
          refine (Step.al hU 32 256 z32 (fun b280 => ?_))
          have hl281 : (List.replicate 32 (0 : Int)).length = 32 := List.length_replicate
          refine orL ?_
          refine RunU.turn [blk b280 92 (nums .i64 (List.replicate 32 (0 : Int))), blk b185 92 (nums .i64 zs182), blk b180 92 (nums .i64 zs177), blk b175 92 (nums .i64 zs172), blk b170 92 (nums .i64 zs167), blk b165 92 (nums .i64 zs162), blk b8 92 (nums .i64 p2), blk b13 92 (nums .i64 q2), blk b15 92 (nums .i64 p3), blk b20 92 (nums .i64 q3), blk b3 92 (nums .i64 (List.replicate 32 (0 : Int))), blk b2 92 (nums .i64 us), vw A8 (nums .u8 ks)] (fun _ _ w hs => hs.pulls2 [0, 0, 0, 0, 0, 0, 0, 0, 0, 0, 0, 0, 0] _ (by kernel_rfl)) ?_
          refine RunU.ev [0, 3, 4, 5, 6, 7, 8, 9, 10, 12, 13, 14, 15, 16, 61] [(0, .slice A8 ks.length c8), (3, pt b2), (4, pt b3), (5, pt b8), (6, pt b13), (7, pt b15), (8, pt b20), (9, .int .i64 i), (10, .int .u8 (((ks.getD (i / (8 : Int)).toNat 0) / 2 ^ (min (i % (8 : Int)).toNat 8)) % (2 : Int))), (12, pt b170), (13, pt b175), (14, pt b180), (15, pt b185), (16, pt b280), (61, ag .i64 zs190)] ?_
          have q_ := hD204_0 zs190 b280 (by assumption) (by assumption)
          rw [hR_] at q_
          exact q_
      have hD204_2 : ∀ (zs187 : List Int) (b195 : Nat), Dg zs187 ((x3 - z3) % P) → zs187.length = 32 → R_ 2 (bm 7 47) [(0, .slice A8 ks.length c8), (3, pt b2), (4, pt b3), (5, pt b8), (6, pt b13), (7, pt b15), (8, pt b20), (9, .int .i64 i), (10, .int .u8 (((ks.getD (i / (8 : Int)).toNat 0) / 2 ^ (min (i % (8 : Int)).toNat 8)) % (2 : Int))), (12, pt b170), (13, pt b175), (14, pt b180), (15, pt b185), (16, pt b195), (59, ag .i64 zs187), (60, ag .i64 zs162)] [blk b195 92 (nums .i64 (List.replicate 32 (0 : Int))), blk b185 92 (nums .i64 zs182), blk b180 92 (nums .i64 zs177), blk b175 92 (nums .i64 zs172), blk b170 92 (nums .i64 zs167), blk b165 92 (nums .i64 zs162), blk b8 92 (nums .i64 p2), blk b13 92 (nums .i64 q2), blk b15 92 (nums .i64 p3), blk b20 92 (nums .i64 q3), blk b3 92 (nums .i64 (List.replicate 32 (0 : Int))), blk b2 92 (nums .i64 us), vw A8 (nums .u8 ks)] := by
        intro zs187 b195 hp188 hp189
        rw [hR_]
        refine RunU.any [4] (by kernel_rfl) rfl (all_cons (i := 4) ?_ all_nil)
        · skip
          refine ⟨(some 61), (.call { callee := .value (.func 81), args := #[.tmp 59, .tmp 60], argTypes := #[92, 92] }), (bm 7 63), [], (by kernel_rfl), (by kernel_rfl), ?_⟩
          refine (Step.cn 81 [ag .i64 zs187, ag .i64 zs162] [] [blk b195 92 (nums .i64 (List.replicate 32 (0 : Int))), blk b185 92 (nums .i64 zs182), blk b180 92 (nums .i64 zs177), blk b175 92 (nums .i64 zs172), blk b170 92 (nums .i64 zs167), blk b165 92 (nums .i64 zs162), blk b8 92 (nums .i64 p2), blk b13 92 (nums .i64 q2), blk b15 92 (nums .i64 p3), blk b20 92 (nums .i64 q3), blk b3 92 (nums .i64 (List.replicate 32 (0 : Int))), blk b2 92 (nums .i64 us), vw A8 (nums .u8 ks)] (n_Mul_spec zs187 ((x3 - z3) % P) zs162 ((x2 + z2) % P) (by assumption) (by assumption) (by assumption) (by assumption)) [] ?_)
          rintro _ _ ⟨zs282, rfl, rfl, hp283, hp284⟩
          refine orR ?_
          refine RunU.turn [blk b195 92 (nums .i64 (List.replicate 32 (0 : Int))), blk b185 92 (nums .i64 zs182), blk b180 92 (nums .i64 zs177), blk b175 92 (nums .i64 zs172), blk b170 92 (nums .i64 zs167), blk b165 92 (nums .i64 zs162), blk b8 92 (nums .i64 p2), blk b13 92 (nums .i64 q2), blk b15 92 (nums .i64 p3), blk b20 92 (nums .i64 q3), blk b3 92 (nums .i64 (List.replicate 32 (0 : Int))), blk b2 92 (nums .i64 us), vw A8 (nums .u8 ks)] (fun _ _ w hs => hs.pulls2 [0, 0, 0, 0, 0, 0, 0, 0, 0, 0, 0, 0, 0] _ (by kernel_rfl)) ?_
          refine RunU.ev [0, 3, 4, 5, 6, 7, 8, 9, 10, 12, 13, 14, 15, 16, 61] [(0, .slice A8 ks.length c8), (3, pt b2), (4, pt b3), (5, pt b8), (6, pt b13), (7, pt b15), (8, pt b20), (9, .int .i64 i), (10, .int .u8 (((ks.getD (i / (8 : Int)).toNat 0) / 2 ^ (min (i % (8 : Int)).toNat 8)) % (2 : Int))), (12, pt b170), (13, pt b175), (14, pt b180), (15, pt b185), (16, pt b195), (61, ag .i64 zs282)] ?_
          have q_ := hD204_0 zs282 b195 (by assumption) (by assumption)
          rw [hR_] at q_
          exact q_
      have hD204_3 : ∀ (zs187 : List Int), Dg zs187 ((x3 - z3) % P) → zs187.length = 32 → R_ 3 (bm 7 15) [(0, .slice A8 ks.length c8), (3, pt b2), (4, pt b3), (5, pt b8), (6, pt b13), (7, pt b15), (8, pt b20), (9, .int .i64 i), (10, .int .u8 (((ks.getD (i / (8 : Int)).toNat 0) / 2 ^ (min (i % (8 : Int)).toNat 8)) % (2 : Int))), (12, pt b170), (13, pt b175), (14, pt b180), (15, pt b185), (59, ag .i64 zs187), (60, ag .i64 zs162)] [blk b185 92 (nums .i64 zs182), blk b180 92 (nums .i64 zs177), blk b175 92 (nums .i64 zs172), blk b170 92 (nums .i64 zs167), blk b165 92 (nums .i64 zs162), blk b8 92 (nums .i64 p2), blk b13 92 (nums .i64 q2), blk b15 92 (nums .i64 p3), blk b20 92 (nums .i64 q3), blk b3 92 (nums .i64 (List.replicate 32 (0 : Int))), blk b2 92 (nums .i64 us), vw A8 (nums .u8 ks)] := by
        intro zs187 hp188 hp189
        rw [hR_]
        refine RunU.any [4, 5] (by kernel_rfl) rfl (all_cons (i := 4) ?_ (all_cons (i := 5) ?_ all_nil))
        · skip
          refine ⟨(some 61), (.call { callee := .value (.func 81), args := #[.tmp 59, .tmp 60], argTypes := #[92, 92] }), (bm 7 31), [], (by kernel_rfl), (by kernel_rfl), ?_⟩
          refine (Step.cn 81 [ag .i64 zs187, ag .i64 zs162] [] [blk b185 92 (nums .i64 zs182), blk b180 92 (nums .i64 zs177), blk b175 92 (nums .i64 zs172), blk b170 92 (nums .i64 zs167), blk b165 92 (nums .i64 zs162), blk b8 92 (nums .i64 p2), blk b13 92 (nums .i64 q2), blk b15 92 (nums .i64 p3), blk b20 92 (nums .i64 q3), blk b3 92 (nums .i64 (List.replicate 32 (0 : Int))), blk b2 92 (nums .i64 us), vw A8 (nums .u8 ks)] (n_Mul_spec zs187 ((x3 - z3) % P) zs162 ((x2 + z2) % P) (by assumption) (by assumption) (by assumption) (by assumption)) [] ?_)
          rintro _ _ ⟨zs285, rfl, rfl, hp286, hp287⟩
          refine orR ?_
          refine RunU.turn [blk b185 92 (nums .i64 zs182), blk b180 92 (nums .i64 zs177), blk b175 92 (nums .i64 zs172), blk b170 92 (nums .i64 zs167), blk b165 92 (nums .i64 zs162), blk b8 92 (nums .i64 p2), blk b13 92 (nums .i64 q2), blk b15 92 (nums .i64 p3), blk b20 92 (nums .i64 q3), blk b3 92 (nums .i64 (List.replicate 32 (0 : Int))), blk b2 92 (nums .i64 us), vw A8 (nums .u8 ks)] (fun _ _ w hs => hs.pulls2 [0, 0, 0, 0, 0, 0, 0, 0, 0, 0, 0, 0] _ (by kernel_rfl)) ?_
          refine RunU.ev [0, 3, 4, 5, 6, 7, 8, 9, 10, 12, 13, 14, 15, 61] [(0, .slice A8 ks.length c8), (3, pt b2), (4, pt b3), (5, pt b8), (6, pt b13), (7, pt b15), (8, pt b20), (9, .int .i64 i), (10, .int .u8 (((ks.getD (i / (8 : Int)).toNat 0) / 2 ^ (min (i % (8 : Int)).toNat 8)) % (2 : Int))), (12, pt b170), (13, pt b175), (14, pt b180), (15, pt b185), (61, ag .i64 zs285)] ?_
          have q_ := hD204_1 zs285 (by assumption) (by assumption)
          rw [hR_] at q_
          exact q_
        · skip
          refine ⟨(some 16), (.alloc 92), (bm 7 47), [8, 9, 5], (by kernel_rfl), (by kernel_rfl), ?_⟩
          refine (Step.al hU 32 256 z32 (fun b288 => ?_))
          have hl289 : (List.replicate 32 (0 : Int)).length = 32 := List.length_replicate
          refine orL ?_
          refine RunU.turn [blk b288 92 (nums .i64 (List.replicate 32 (0 : Int))), blk b185 92 (nums .i64 zs182), blk b180 92 (nums .i64 zs177), blk b175 92 (nums .i64 zs172), blk b170 92 (nums .i64 zs167), blk b165 92 (nums .i64 zs162), blk b8 92 (nums .i64 p2), blk b13 92 (nums .i64 q2), blk b15 92 (nums .i64 p3), blk b20 92 (nums .i64 q3), blk b3 92 (nums .i64 (List.replicate 32 (0 : Int))), blk b2 92 (nums .i64 us), vw A8 (nums .u8 ks)] (fun _ _ w hs => hs.pulls2 [0, 0, 0, 0, 0, 0, 0, 0, 0, 0, 0, 0, 0] _ (by kernel_rfl)) ?_
          refine RunU.ev [0, 3, 4, 5, 6, 7, 8, 9, 10, 12, 13, 14, 15, 16, 59, 60] [(0, .slice A8 ks.length c8), (3, pt b2), (4, pt b3), (5, pt b8), (6, pt b13), (7, pt b15), (8, pt b20), (9, .int .i64 i), (10, .int .u8 (((ks.getD (i / (8 : Int)).toNat 0) / 2 ^ (min (i % (8 : Int)).toNat 8)) % (2 : Int))), (12, pt b170), (13, pt b175), (14, pt b180), (15, pt b185), (16, pt b288), (59, ag .i64 zs187), (60, ag .i64 zs162)] ?_
          have q_ := hD204_2 zs187 b288 (by assumption) (by assumption)
          rw [hR_] at q_
          exact q_
      have hD204_4 : ∀ (b200 : Nat), R_ 3 (bm 7 43) [(0, .slice A8 ks.length c8), (3, pt b2), (4, pt b3), (5, pt b8), (6, pt b13), (7, pt b15), (8, pt b20), (9, .int .i64 i), (10, .int .u8 (((ks.getD (i / (8 : Int)).toNat 0) / 2 ^ (min (i % (8 : Int)).toNat 8)) % (2 : Int))), (12, pt b170), (13, pt b175), (14, pt b180), (15, pt b185), (16, pt b200), (57, ag .i64 p3), (58, ag .i64 q3), (60, ag .i64 zs162)] [blk b200 92 (nums .i64 (List.replicate 32 (0 : Int))), blk b185 92 (nums .i64 zs182), blk b180 92 (nums .i64 zs177), blk b175 92 (nums .i64 zs172), blk b170 92 (nums .i64 zs167), blk b165 92 (nums .i64 zs162), blk b8 92 (nums .i64 p2), blk b13 92 (nums .i64 q2), blk b15 92 (nums .i64 p3), blk b20 92 (nums .i64 q3), blk b3 92 (nums .i64 (List.replicate 32 (0 : Int))), blk b2 92 (nums .i64 us), vw A8 (nums .u8 ks)] := by
        intro b200
        rw [hR_]
        refine RunU.any [2] (by kernel_rfl) rfl (all_cons (i := 2) ?_ all_nil)
        · skip
          refine ⟨(some 59), (.call { callee := .value (.func 80), args := #[.tmp 57, .tmp 58], argTypes := #[92, 92] }), (bm 7 47), [8, 9, 5], (by kernel_rfl), (by kernel_rfl), ?_⟩
          refine (Step.cn 80 [ag .i64 p3, ag .i64 q3] [] [blk b200 92 (nums .i64 (List.replicate 32 (0 : Int))), blk b185 92 (nums .i64 zs182), blk b180 92 (nums .i64 zs177), blk b175 92 (nums .i64 zs172), blk b170 92 (nums .i64 zs167), blk b165 92 (nums .i64 zs162), blk b8 92 (nums .i64 p2), blk b13 92 (nums .i64 q2), blk b15 92 (nums .i64 p3), blk b20 92 (nums .i64 q3), blk b3 92 (nums .i64 (List.replicate 32 (0 : Int))), blk b2 92 (nums .i64 us), vw A8 (nums .u8 ks)] (n_Sub_spec p3 x3 q3 z3 (by assumption) (by assumption) (by assumption) (by assumption) (by exact Int.le_of_lt (by assumption))) [] ?_)
          rintro _ _ ⟨zs290, rfl, rfl, hp291, hp292⟩
          refine orL ?_
          refine RunU.turn [blk b200 92 (nums .i64 (List.replicate 32 (0 : Int))), blk b185 92 (nums .i64 zs182), blk b180 92 (nums .i64 zs177), blk b175 92 (nums .i64 zs172), blk b170 92 (nums .i64 zs167), blk b165 92 (nums .i64 zs162), blk b8 92 (nums .i64 p2), blk b13 92 (nums .i64 q2), blk b15 92 (nums .i64 p3), blk b20 92 (nums .i64 q3), blk b3 92 (nums .i64 (List.replicate 32 (0 : Int))), blk b2 92 (nums .i64 us), vw A8 (nums .u8 ks)] (fun _ _ w hs => hs.pulls2 [0, 0, 0, 0, 0, 0, 0, 0, 0, 0, 0, 0, 0] _ (by kernel_rfl)) ?_
          refine RunU.ev [0, 3, 4, 5, 6, 7, 8, 9, 10, 12, 13, 14, 15, 16, 59, 60] [(0, .slice A8 ks.length c8), (3, pt b2), (4, pt b3), (5, pt b8), (6, pt b13), (7, pt b15), (8, pt b20), (9, .int .i64 i), (10, .int .u8 (((ks.getD (i / (8 : Int)).toNat 0) / 2 ^ (min (i % (8 : Int)).toNat 8)) % (2 : Int))), (12, pt b170), (13, pt b175), (14, pt b180), (15, pt b185), (16, pt b200), (59, ag .i64 zs290), (60, ag .i64 zs162)] ?_
          have q_ := hD204_2 zs290 b200 (by assumption) (by assumption)
          rw [hR_] at q_
          exact q_
      have hD204_5 : R_ 4 (bm 7 11) [(0, .slice A8 ks.length c8), (3, pt b2), (4, pt b3), (5, pt b8), (6, pt b13), (7, pt b15), (8, pt b20), (9, .int .i64 i), (10, .int .u8 (((ks.getD (i / (8 : Int)).toNat 0) / 2 ^ (min (i % (8 : Int)).toNat 8)) % (2 : Int))), (12, pt b170), (13, pt b175), (14, pt b180), (15, pt b185), (57, ag .i64 p3), (58, ag .i64 q3), (60, ag .i64 zs162)] [blk b185 92 (nums .i64 zs182), blk b180 92 (nums .i64 zs177), blk b175 92 (nums .i64 zs172), blk b170 92 (nums .i64 zs167), blk b165 92 (nums .i64 zs162), blk b8 92 (nums .i64 p2), blk b13 92 (nums .i64 q2), blk b15 92 (nums .i64 p3), blk b20 92 (nums .i64 q3), blk b3 92 (nums .i64 (List.replicate 32 (0 : Int))), blk b2 92 (nums .i64 us), vw A8 (nums .u8 ks)] := by
        rw [hR_]
        refine RunU.any [2, 5] (by kernel_rfl) rfl (all_cons (i := 2) ?_ (all_cons (i := 5) ?_ all_nil))
        · skip
          refine ⟨(some 59), (.call { callee := .value (.func 80), args := #[.tmp 57, .tmp 58], argTypes := #[92, 92] }), (bm 7 15), [7, 8, 4], (by kernel_rfl), (by kernel_rfl), ?_⟩
          refine (Step.cn 80 [ag .i64 p3, ag .i64 q3] [] [blk b185 92 (nums .i64 zs182), blk b180 92 (nums .i64 zs177), blk b175 92 (nums .i64 zs172), blk b170 92 (nums .i64 zs167), blk b165 92 (nums .i64 zs162), blk b8 92 (nums .i64 p2), blk b13 92 (nums .i64 q2), blk b15 92 (nums .i64 p3), blk b20 92 (nums .i64 q3), blk b3 92 (nums .i64 (List.replicate 32 (0 : Int))), blk b2 92 (nums .i64 us), vw A8 (nums .u8 ks)] (n_Sub_spec p3 x3 q3 z3 (by assumption) (by assumption) (by assumption) (by assumption) (by exact Int.le_of_lt (by assumption))) [] ?_)
          rintro _ _ ⟨zs293, rfl, rfl, hp294, hp295⟩
          refine orL ?_
          refine RunU.turn [blk b185 92 (nums .i64 zs182), blk b180 92 (nums .i64 zs177), blk b175 92 (nums .i64 zs172), blk b170 92 (nums .i64 zs167), blk b165 92 (nums .i64 zs162), blk b8 92 (nums .i64 p2), blk b13 92 (nums .i64 q2), blk b15 92 (nums .i64 p3), blk b20 92 (nums .i64 q3), blk b3 92 (nums .i64 (List.replicate 32 (0 : Int))), blk b2 92 (nums .i64 us), vw A8 (nums .u8 ks)] (fun _ _ w hs => hs.pulls2 [0, 0, 0, 0, 0, 0, 0, 0, 0, 0, 0, 0] _ (by kernel_rfl)) ?_
          refine RunU.ev [0, 3, 4, 5, 6, 7, 8, 9, 10, 12, 13, 14, 15, 59, 60] [(0, .slice A8 ks.length c8), (3, pt b2), (4, pt b3), (5, pt b8), (6, pt b13), (7, pt b15), (8, pt b20), (9, .int .i64 i), (10, .int .u8 (((ks.getD (i / (8 : Int)).toNat 0) / 2 ^ (min (i % (8 : Int)).toNat 8)) % (2 : Int))), (12, pt b170), (13, pt b175), (14, pt b180), (15, pt b185), (59, ag .i64 zs293), (60, ag .i64 zs162)] ?_
          have q_ := hD204_3 zs293 (by assumption) (by assumption)
          rw [hR_] at q_
          exact q_
        · skip
          refine ⟨(some 16), (.alloc 92), (bm 7 43), [8, 9, 5], (by kernel_rfl), (by kernel_rfl), ?_⟩
          refine (Step.al hU 32 256 z32 (fun b296 => ?_))
          have hl297 : (List.replicate 32 (0 : Int)).length = 32 := List.length_replicate
          refine orL ?_
          refine RunU.turn [blk b296 92 (nums .i64 (List.replicate 32 (0 : Int))), blk b185 92 (nums .i64 zs182), blk b180 92 (nums .i64 zs177), blk b175 92 (nums .i64 zs172), blk b170 92 (nums .i64 zs167), blk b165 92 (nums .i64 zs162), blk b8 92 (nums .i64 p2), blk b13 92 (nums .i64 q2), blk b15 92 (nums .i64 p3), blk b20 92 (nums .i64 q3), blk b3 92 (nums .i64 (List.replicate 32 (0 : Int))), blk b2 92 (nums .i64 us), vw A8 (nums .u8 ks)] (fun _ _ w hs => hs.pulls2 [0, 0, 0, 0, 0, 0, 0, 0, 0, 0, 0, 0, 0] _ (by kernel_rfl)) ?_
          refine RunU.ev [0, 3, 4, 5, 6, 7, 8, 9, 10, 12, 13, 14, 15, 16, 57, 58, 60] [(0, .slice A8 ks.length c8), (3, pt b2), (4, pt b3), (5, pt b8), (6, pt b13), (7, pt b15), (8, pt b20), (9, .int .i64 i), (10, .int .u8 (((ks.getD (i / (8 : Int)).toNat 0) / 2 ^ (min (i % (8 : Int)).toNat 8)) % (2 : Int))), (12, pt b170), (13, pt b175), (14, pt b180), (15, pt b185), (16, pt b296), (57, ag .i64 p3), (58, ag .i64 q3), (60, ag .i64 zs162)] ?_
          have q_ := hD204_4 b296
          rw [hR_] at q_
          exact q_
      exact hD204_5
  · skip
    refine RunC.exit ?_
    refine kseq_e ?_
    refine kloop_e ?_
    refine kblock_e ?_
    refine kseq_n ?_
    refine RunC.seq ?_
    refine RunC.regionU hU 5 [blk b8 92 (nums .i64 p2), blk b13 92 (nums .i64 q2)] [0, 1] [3, 4] (bm 5 0) (by kernel_rfl) (by kernel_rfl) (by kernel_rfl) ?_
    refine RunU.rd 0 (bm 5 1) 99 (.load 92 (.tmp 5)) (ag .i64 p2) [0, 1] (Reads.load_arr hU 0 b8 92 32 .i64 p2 (by kernel_rfl) (by kernel_rfl) (by kernel_rfl) (by kernel_rfl) (by omega)) ?_
    refine RunU.rd 1 (bm 5 3) 100 (.load 92 (.tmp 6)) (ag .i64 q2) [0, 1] (Reads.load_arr hU 1 b13 92 32 .i64 q2 (by kernel_rfl) (by kernel_rfl) (by kernel_rfl) (by kernel_rfl) (by omega)) ?_
    refine RunU.on (some 101) (.call { callee := .value (.func 82), args := #[.tmp 100], argTypes := #[92] }) 2 (bm 5 7) [0, 1] (Step.cn 82 [ag .i64 q2] [] [blk b8 92 (nums .i64 p2), blk b13 92 (nums .i64 q2), blk b15 92 (nums .i64 p3), blk b20 92 (nums .i64 q3), blk b3 92 (nums .i64 (List.replicate 32 (0 : Int))), blk b2 92 (nums .i64 us), vw A8 (nums .u8 ks)] (n_Invert_spec q2 z2 (by assumption) (by assumption) (by assumption)) [] ?_)
    rintro _ _ ⟨zs298, rfl, rfl, hp299, hp300⟩
    refine orL ?_
    refine RunU.on (some 102) (.call { callee := .value (.func 81), args := #[.tmp 99, .tmp 101], argTypes := #[92, 92] }) 3 (bm 5 15) [] (Step.cn 81 [ag .i64 p2, ag .i64 zs298] [] [blk b8 92 (nums .i64 p2), blk b13 92 (nums .i64 q2), blk b15 92 (nums .i64 p3), blk b20 92 (nums .i64 q3), blk b3 92 (nums .i64 (List.replicate 32 (0 : Int))), blk b2 92 (nums .i64 us), vw A8 (nums .u8 ks)] (n_Mul_spec p2 x2 zs298 (pw z2 EN) (by assumption) (by assumption) (by assumption) (by assumption)) [] ?_)
    rintro _ _ ⟨zs301, rfl, rfl, hp302, hp303⟩
    refine orR ?_
    refine RunU.on none (.store 92 (.tmp 4) (.tmp 102)) 4 (bm 5 31) [] (Step.store_arr hU 4 b3 92 32 .i64 (List.replicate 32 (0 : Int)) zs301 (by kernel_rfl) (by kernel_rfl) (by kernel_rfl) (by kernel_rfl) (by rfl) (by omega) ?_)
    refine orR ?_
    refine RunU.ev [4] [(4, pt b3)] ?_
    refine RunU.dn ?_
    refine kseq_n ?_
    refine RunC.ret ?_
    refine kret_r [ag .i64 zs301] [] [] ⟨⟨0, b3, 0, 92, nums .i64 zs301, rfl, rfl, (loadv_arr (U := U) (n := 32) (by kernel_rfl) (by kernel_rfl) (by omega))⟩, trivial⟩ (by kernel_rfl) rfl ⟨zs301, rfl, rfl, (by refine dg_cast (by assumption) ?_; exact ladR_of hs (by omega)), (by assumption)⟩
end Go.Proofs.Ytaaplakahkgclaa.Z6
