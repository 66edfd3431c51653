/- What these functions compute: a contract for each, walked through its code. -/
import Derived.Test.YtaaplakahkgclaaSLzh
import Derived.Test.YtaaplakahkgclaaKPure
import Derived.Test.YtaaplakahkgclaaProg
import Derived.Test.YtaaplakahkgclaaX1
import Derived.Test.YtaaplakahkgclaaX2
import Derived.Test.YtaaplakahkgclaaX3
import Derived.Test.YtaaplakahkgclaaX4
import Derived.Test.YtaaplakahkgclaaX5
import Derived.Test.YtaaplakahkgclaaX6
import Derived.Test.YtaaplakahkgclaaX7
import Derived.Test.YtaaplakahkgclaaX8
import Derived.Test.YtaaplakahkgclaaX9
import Derived.Test.YtaaplakahkgclaaY1
import Derived.Test.YtaaplakahkgclaaY2
import Derived.Test.YtaaplakahkgclaaY3
import Derived.Test.YtaaplakahkgclaaY4
import Derived.Test.YtaaplakahkgclaaY5
import Derived.Test.YtaaplakahkgclaaY6
import Derived.Test.YtaaplakahkgclaaZ1
import Derived.Test.YtaaplakahkgclaaZ2
import Derived.Test.YtaaplakahkgclaaZ3
import Derived.Test.YtaaplakahkgclaaZ4
namespace Go.Proofs.Ytaaplakahkgclaa.Z5
open Go Go.Proofs.Ytaaplakahkgclaa.SL Go.Proofs.Ytaaplakahkgclaa.SL.W Go.Proofs.Ytaaplakahkgclaa.SL.F Go.Proofs.Ytaaplakahkgclaa.SL.N Go.Proofs.Ytaaplakahkgclaa.SL.E Go.Proofs.Ytaaplakahkgclaa.SL.K Go.Proofs.Ytaaplakahkgclaa.X1 Go.Proofs.Ytaaplakahkgclaa.X2 Go.Proofs.Ytaaplakahkgclaa.X3 Go.Proofs.Ytaaplakahkgclaa.X4 Go.Proofs.Ytaaplakahkgclaa.X5 Go.Proofs.Ytaaplakahkgclaa.X6 Go.Proofs.Ytaaplakahkgclaa.X7 Go.Proofs.Ytaaplakahkgclaa.X8 Go.Proofs.Ytaaplakahkgclaa.X9 Go.Proofs.Ytaaplakahkgclaa.Y1 Go.Proofs.Ytaaplakahkgclaa.Y2 Go.Proofs.Ytaaplakahkgclaa.Y3 Go.Proofs.Ytaaplakahkgclaa.Y4 Go.Proofs.Ytaaplakahkgclaa.Y5 Go.Proofs.Ytaaplakahkgclaa.Y6 Go.Proofs.Ytaaplakahkgclaa.Z1 Go.Proofs.Ytaaplakahkgclaa.Z2 Go.Proofs.Ytaaplakahkgclaa.Z3 Go.Proofs.Ytaaplakahkgclaa.Z4
set_option linter.unusedVariables false
set_option linter.unusedSimpArgs false
set_option maxRecDepth 100000
set_option maxHeartbeats 40000000
def U : Tab where
  und := [(3, .int .i64), (5, .int .u8), (23, .slice 5), (86, .int .u64), (87, .array 5 86), (88, .struct #[{ name := "n", type := 87, offset := 0, embedded := false, tag := "", pkgPath := "orlop/field", byteOffset := 0 }]), (89, .struct #[{ name := "n", type := 87, offset := 0, embedded := false, tag := "", pkgPath := "orlop/field", byteOffset := 0 }]), (107, .struct #[{ name := "u", type := 89, offset := 0, embedded := false, tag := "", pkgPath := "orlop/curve", byteOffset := 0 }, { name := "x2", type := 89, offset := 5, embedded := false, tag := "", pkgPath := "orlop/curve", byteOffset := 40 }, { name := "z2", type := 89, offset := 10, embedded := false, tag := "", pkgPath := "orlop/curve", byteOffset := 80 }, { name := "x3", type := 89, offset := 15, embedded := false, tag := "", pkgPath := "orlop/curve", byteOffset := 120 }, { name := "z3", type := 89, offset := 20, embedded := false, tag := "", pkgPath := "orlop/curve", byteOffset := 160 }]), (108, .struct #[{ name := "u", type := 89, offset := 0, embedded := false, tag := "", pkgPath := "orlop/curve", byteOffset := 0 }, { name := "x2", type := 89, offset := 5, embedded := false, tag := "", pkgPath := "orlop/curve", byteOffset := 40 }, { name := "z2", type := 89, offset := 10, embedded := false, tag := "", pkgPath := "orlop/curve", byteOffset := 80 }, { name := "x3", type := 89, offset := 15, embedded := false, tag := "", pkgPath := "orlop/curve", byteOffset := 120 }, { name := "z3", type := 89, offset := 20, embedded := false, tag := "", pkgPath := "orlop/curve", byteOffset := 160 }])]
  fld := [((88, 0), (0, 87)), ((89, 0), (0, 87)), ((107, 0), (0, 89)), ((107, 1), (5, 89)), ((107, 2), (10, 89)), ((107, 3), (15, 89)), ((107, 4), (20, 89)), ((108, 0), (0, 89)), ((108, 1), (5, 89)), ((108, 2), (10, 89)), ((108, 3), (15, 89)), ((108, 4), (20, 89))]
  sz := [(3, 1), (5, 1), (23, 1), (86, 1), (87, 5), (88, 5), (89, 5), (107, 25), (108, 25)]
  ti := [(3, (1, 8, .int .i64 0)), (5, (1, 1, .int .u8 0)), (23, (1, 24, .slice none 0 0)), (86, (1, 8, .int .u64 0)), (87, (5, 40, z5)), (88, (5, 40, z5)), (89, (5, 40, z5)), (107, (25, 200, .agg #[.int .u64 0, .int .u64 0, .int .u64 0, .int .u64 0, .int .u64 0, .int .u64 0, .int .u64 0, .int .u64 0, .int .u64 0, .int .u64 0, .int .u64 0, .int .u64 0, .int .u64 0, .int .u64 0, .int .u64 0, .int .u64 0, .int .u64 0, .int .u64 0, .int .u64 0, .int .u64 0, .int .u64 0, .int .u64 0, .int .u64 0, .int .u64 0, .int .u64 0])), (108, (25, 200, .agg #[.int .u64 0, .int .u64 0, .int .u64 0, .int .u64 0, .int .u64 0, .int .u64 0, .int .u64 0, .int .u64 0, .int .u64 0, .int .u64 0, .int .u64 0, .int .u64 0, .int .u64 0, .int .u64 0, .int .u64 0, .int .u64 0, .int .u64 0, .int .u64 0, .int .u64 0, .int .u64 0, .int .u64 0, .int .u64 0, .int .u64 0, .int .u64 0, .int .u64 0]))]
  bld := [(88, [(0, 5)]), (89, [(0, 5)]), (107, [(0, 5), (5, 5), (10, 5), (15, 5), (20, 5)]), (108, [(0, 5), (5, 5), (10, 5), (15, 5), (20, 5)])]

theorem hU : U.OK Try.prog where
  und := by
    intro p hp
    simp only [U, List.mem_cons, List.not_mem_nil, or_false] at hp
    rcases hp with rfl | rfl | rfl | rfl | rfl | rfl | rfl | rfl | rfl
    · exact Try.underlying3
    · exact Try.underlying5
    · exact Try.underlying23
    · exact Try.underlying86
    · exact Try.underlying87
    · exact Try.underlying88
    · exact Try.underlying89
    · exact Try.underlying107
    · exact Try.underlying108
  fld := by
    intro p hp
    simp only [U, List.mem_cons, List.not_mem_nil, or_false] at hp
    rcases hp with rfl | rfl | rfl | rfl | rfl | rfl | rfl | rfl | rfl | rfl | rfl | rfl
    · exact ⟨_, _, Try.underlying88, rfl, rfl, rfl, Try.prog.types[87]!, by kernel_rfl, by decide +kernel⟩
    · exact ⟨_, _, Try.underlying89, rfl, rfl, rfl, Try.prog.types[87]!, by kernel_rfl, by decide +kernel⟩
    · exact ⟨_, _, Try.underlying107, rfl, rfl, rfl, Try.prog.types[89]!, by kernel_rfl, by decide +kernel⟩
    · exact ⟨_, _, Try.underlying107, rfl, rfl, rfl, Try.prog.types[89]!, by kernel_rfl, by decide +kernel⟩
    · exact ⟨_, _, Try.underlying107, rfl, rfl, rfl, Try.prog.types[89]!, by kernel_rfl, by decide +kernel⟩
    · exact ⟨_, _, Try.underlying107, rfl, rfl, rfl, Try.prog.types[89]!, by kernel_rfl, by decide +kernel⟩
    · exact ⟨_, _, Try.underlying107, rfl, rfl, rfl, Try.prog.types[89]!, by kernel_rfl, by decide +kernel⟩
    · exact ⟨_, _, Try.underlying108, rfl, rfl, rfl, Try.prog.types[89]!, by kernel_rfl, by decide +kernel⟩
    · exact ⟨_, _, Try.underlying108, rfl, rfl, rfl, Try.prog.types[89]!, by kernel_rfl, by decide +kernel⟩
    · exact ⟨_, _, Try.underlying108, rfl, rfl, rfl, Try.prog.types[89]!, by kernel_rfl, by decide +kernel⟩
    · exact ⟨_, _, Try.underlying108, rfl, rfl, rfl, Try.prog.types[89]!, by kernel_rfl, by decide +kernel⟩
    · exact ⟨_, _, Try.underlying108, rfl, rfl, rfl, Try.prog.types[89]!, by kernel_rfl, by decide +kernel⟩
  sz := by
    intro p hp
    simp only [U, List.mem_cons, List.not_mem_nil, or_false] at hp
    rcases hp with rfl | rfl | rfl | rfl | rfl | rfl | rfl | rfl | rfl
    · exact ⟨Try.prog.types[3]!, by kernel_rfl, by kernel_rfl⟩
    · exact ⟨Try.prog.types[5]!, by kernel_rfl, by kernel_rfl⟩
    · exact ⟨Try.prog.types[23]!, by kernel_rfl, by kernel_rfl⟩
    · exact ⟨Try.prog.types[86]!, by kernel_rfl, by kernel_rfl⟩
    · exact ⟨Try.prog.types[87]!, by kernel_rfl, by kernel_rfl⟩
    · exact ⟨Try.prog.types[88]!, by kernel_rfl, by kernel_rfl⟩
    · exact ⟨Try.prog.types[89]!, by kernel_rfl, by kernel_rfl⟩
    · exact ⟨Try.prog.types[107]!, by kernel_rfl, by kernel_rfl⟩
    · exact ⟨Try.prog.types[108]!, by kernel_rfl, by kernel_rfl⟩
  ti := by
    intro p hp
    simp only [U, List.mem_cons, List.not_mem_nil, or_false] at hp
    rcases hp with rfl | rfl | rfl | rfl | rfl | rfl | rfl | rfl | rfl
    · exact ⟨Try.prog.types[3]!, by kernel_rfl, by kernel_rfl, by kernel_rfl, by kernel_rfl⟩
    · exact ⟨Try.prog.types[5]!, by kernel_rfl, by kernel_rfl, by kernel_rfl, by kernel_rfl⟩
    · exact ⟨Try.prog.types[23]!, by kernel_rfl, by kernel_rfl, by kernel_rfl, by kernel_rfl⟩
    · exact ⟨Try.prog.types[86]!, by kernel_rfl, by kernel_rfl, by kernel_rfl, by kernel_rfl⟩
    · exact ⟨Try.prog.types[87]!, by kernel_rfl, by kernel_rfl, by kernel_rfl, by kernel_rfl⟩
    · exact ⟨Try.prog.types[88]!, by kernel_rfl, by kernel_rfl, by kernel_rfl, by kernel_rfl⟩
    · exact ⟨Try.prog.types[89]!, by kernel_rfl, by kernel_rfl, by kernel_rfl, by kernel_rfl⟩
    · exact ⟨Try.prog.types[107]!, by kernel_rfl, by kernel_rfl, by kernel_rfl, by kernel_rfl⟩
    · exact ⟨Try.prog.types[108]!, by kernel_rfl, by kernel_rfl, by kernel_rfl, by kernel_rfl⟩
  bld := by
    intro p hp
    simp only [U, List.mem_cons, List.not_mem_nil, or_false] at hp
    rcases hp with rfl | rfl | rfl | rfl
    · exact ⟨_, Try.underlying88, by kernel_rfl⟩
    · exact ⟨_, Try.underlying89, by kernel_rfl⟩
    · exact ⟨_, Try.underlying107, by kernel_rfl⟩
    · exact ⟨_, Try.underlying108, by kernel_rfl⟩
  mixed := by kernel_rfl

theorem k_climb_spec (A8 : Option Addr) (c8 : Nat) (ks : List Int) (us : List Int) (u : Int) (l_ks : Nat) (hIks : In .u8 ks) (hCks : ks.length ≤ c8) (hBks : ks.length ≤ 140737488351232) (hl : ks.length = 32) (hE : El us u) (hul : us.length = 5) (hl_ks : ks.length = l_ks) :
    CallsS Try.prog 57 [.slice A8 l_ks c8, ag .u64 us] [vw A8 (nums .u8 ks)] (fun r D => ∃ (A9 : Option Addr) (c9 : Nat) (zs : List Int), r = .slice A9 zs.length c9 ∧ D = [row 5 1 (.slice A9 zs.length c9) zs.length (nums .u8 zs)] ∧ (Dg zs (ladR ks u)) ∧ (zs.length = 32) ∧ (In .u8 zs) ∧ (zs.length ≤ c9) ∧ (0 < zs.length → Option.isSome A9 = true)) := by
  subst hl_ks
  refine CallsS.enter hU Try.f57 _ [.tmp 4] 57 Try.func57 rfl (by decide) rfl rfl (by kernel_rfl) fun w0 W => ?_
  refine RunC.know (p := 0 < ks.length → Option.isSome A8 = true) (fun _ _ w hs => vw_some hs 0 rfl (by (simp [nums_length]; done))) (fun hA1 => ?_)
  refine RunC.sr ?_
  refine RunR.st (some 3) (.box 89 (.tmp 1)) (Step.box (ag .u64 us) (by kernel_rfl) (by kernel_rfl) (fun b2 => ?_))
  refine RunR.sl hU [] 1 2 [0, 3, 4] [(0, .slice A8 ks.length c8), (3, pt b2), (4, .slice none 0 0)] 1 ?_
  refine RunR.nx ?_
  refine RunR.st (some 11) (.buildSlice 23 1 #[(0, .const (.int .u8 1))]) (Step.lit_nums hU 5 1 .u8 (.int .u8 0) ([1] : List Int) rfl rfl (by kernel_rfl) rfl rfl (by kernel_rfl) (fun b3 => ?_))
  have hl4 : (([1] : List Int)).length = 1 := rfl
  refine RunR.st (some 12) (.call { callee := .value (.func 58), args := #[.tmp 11], argTypes := #[23] }) (Step.cl 58 [.slice (some ⟨b3, 0, none⟩) 1 1] [] [vw (some ⟨b3, 0, none⟩) (nums .u8 ([1] : List Int))] [row 5 1 (.slice (some ⟨b3, 0, none⟩) 1 1) 1 (nums .u8 ([1] : List Int)), blk b2 89 (nums .u64 us), vw A8 (nums .u8 ks)] (f_From_spec (some ⟨b3, 0, none⟩) 1 ([1] : List Int) 1 (by (repeat first | (simp only [fits]; omega) | with_reducible first | exact In.nil _ | apply In.cons)) (by omega) (by rfl)) [] ((Lend.nil _).tells 0 (row 5 1 (.slice (some ⟨b3, 0, none⟩) 1 1) 1 (nums .u8 ([1] : List Int))) (some ⟨b3, 0, none⟩) (nums .u8 ([1] : List Int)) (by kernel_rfl) (tells_row _ _ _ _ _ _)) ?_)
  rintro _ _ ⟨zs5, rfl, rfl, hp6, hp7⟩
  refine RunR.st (some 5) (.alloc 89) (Step.al hU 5 40 z5 (fun b8 => ?_))
  have hl9 : (List.replicate 5 (0 : Int)).length = 5 := List.length_replicate
  refine RunR.st none (.store 89 (.tmp 5) (.tmp 12)) (Step.ss hU 0 b8 (0) 89 (nums .u64 (List.replicate 5 (0 : Int))) (nums .u64 zs5) (nums .u64 zs5) (ag .u64 zs5) 5 (by (simp only [List.length_append, nums_length, List.length_cons, List.length_nil, List.length_replicate]; omega)) (show Put _ 0 _ _ from Put.all (by simp only [List.length_append, nums_length, List.length_cons, List.length_nil, List.length_replicate] <;> omega)) ?_)
  refine RunR.nx ?_
  refine RunR.st (some 13) (.load 89 (.tmp 3)) (Step.load_blk hU 2 b2 (0) 89 (nums .u64 us) (ag .u64 us) (by kernel_rfl) (by kernel_rfl) (loadv_seg (n := 5) (by kernel_rfl) (by kernel_rfl) (Seg.all _) (by simp only [List.length_append, nums_length, List.length_cons, List.length_nil] <;> omega)) (by kernel_rfl) ?_)
  refine RunR.st (some 14) (.load 89 (.tmp 5)) (Step.load_blk hU 0 b8 (0) 89 (nums .u64 zs5) (ag .u64 zs5) (by kernel_rfl) (by kernel_rfl) (loadv_seg (n := 5) (by kernel_rfl) (by kernel_rfl) (Seg.all _) (by simp only [List.length_append, nums_length, List.length_cons, List.length_nil] <;> omega)) (by kernel_rfl) ?_)
  refine RunR.st (some 15) (.load 89 (.tmp 3)) (Step.load_blk hU 2 b2 (0) 89 (nums .u64 us) (ag .u64 us) (by kernel_rfl) (by kernel_rfl) (loadv_seg (n := 5) (by kernel_rfl) (by kernel_rfl) (Seg.all _) (by simp only [List.length_append, nums_length, List.length_cons, List.length_nil] <;> omega)) (by kernel_rfl) ?_)
  refine RunR.st (some 16) (.load 89 (.tmp 5)) (Step.load_blk hU 0 b8 (0) 89 (nums .u64 zs5) (ag .u64 zs5) (by kernel_rfl) (by kernel_rfl) (loadv_seg (n := 5) (by kernel_rfl) (by kernel_rfl) (Seg.all _) (by simp only [List.length_append, nums_length, List.length_cons, List.length_nil] <;> omega)) (by kernel_rfl) ?_)
  refine RunR.sil hU [] 1 5 [0, 4, 17] [(0, .slice A8 ks.length c8), (4, .slice none 0 0), (17, .agg (nums .u64 us ++ (nums .u64 zs5 ++ (nums .u64 (List.replicate 5 (0 : Int)) ++ (nums .u64 us ++ nums .u64 zs5)))).toArray)] ((True) ∧ True) rfl (by obtain ⟨_, _, _, _, _, rfl⟩ := five (xs := us) (by assumption); obtain ⟨_, _, _, _, _, rfl⟩ := five (xs := zs5) (by assumption); kernel_rfl) ⟨trivial, trivial⟩ ?_
  refine RunR.st (some 18) (.box 108 (.tmp 17)) (Step.box (.agg (nums .u64 us ++ (nums .u64 zs5 ++ (nums .u64 (List.replicate 5 (0 : Int)) ++ (nums .u64 us ++ nums .u64 zs5)))).toArray) (by kernel_rfl) (by kernel_rfl) (fun b10 => ?_))
  have hl11 : (List.replicate 5 (0 : Int)).length = 5 := List.length_replicate
  refine RunR.sl hU [] 1 7 [0, 4, 6] [(0, .slice A8 ks.length c8), (4, .slice none 0 0), (6, pt b10)] 1 ?_
  refine RunR.nx ?_
  refine RunR.sl hU [] 1 1 [0, 4, 6, 7] [(0, .slice A8 ks.length c8), (4, .slice none 0 0), (6, pt b10), (7, .int .u64 0)] 1 ?_
  refine RunR.nn ?_
  refine RunC.seq ?_
  refine RunC.sr ?_
  refine RunR.sl hU [] 1 1 [0, 4, 6, 7, 19] [(0, .slice A8 ks.length c8), (4, .slice none 0 0), (6, pt b10), (7, .int .u64 0), (19, .int .i64 0)] 1 ?_
  refine RunR.nn ?_
  refine RunC.block ?_
  refine RunC.env [0, 4, 6, 7, 19] [(0, .slice A8 ks.length c8), (4, .slice none 0 0), (6, pt b10), (7, .int .u64 0), (19, .int .i64 0)] (by kernel_rfl) ?_
  refine RunC.only [0, 0, 0, 0, 0] [blk b10 108 (nums .u64 us ++ (nums .u64 zs5 ++ (nums .u64 (List.replicate 5 (0 : Int)) ++ (nums .u64 us ++ nums .u64 zs5)))), blk b8 89 (nums .u64 zs5), row 5 1 (.slice (some ⟨b3, 0, none⟩) 1 1) 1 (nums .u8 ([1] : List Int)), blk b2 89 (nums .u64 us), vw A8 (nums .u8 ks)] (by kernel_rfl) ?_
  refine RunC.loop (σ := Nat) (fun n_ t_ D_ => ∃ (i : Int) (l : Int) (xs2 : List Int) (zs2 : List Int) (xs3 : List Int) (zs3 : List Int) (x2 : Int) (z2 : Int) (x3 : Int) (z3 : Int), (0 ≤ i) ∧ (i ≤ 255) ∧ (l = 0 ∨ l = 1) ∧ (El xs2 x2) ∧ (El zs2 z2) ∧ (El xs3 x3) ∧ (El zs3 z3) ∧ (xs2.length = 5) ∧ (zs2.length = 5) ∧ (xs3.length = 5) ∧ (zs3.length = 5) ∧ ((x2, z2, x3, z3) = sw4 l (lad ks u i.toNat)) ∧ n_ = ((255 - i).toNat : Nat) ∧ t_ = [(0, .slice A8 ks.length c8), (4, .slice none 0 0), (6, pt b10), (7, .int .u64 l), (19, .int .i64 i)] ∧ D_ = [blk b10 108 (nums .u64 us ++ (nums .u64 xs2 ++ (nums .u64 zs2 ++ (nums .u64 xs3 ++ nums .u64 zs3)))), blk b8 89 (nums .u64 zs5), row 5 1 (.slice (some ⟨b3, 0, none⟩) 1 1) 1 (nums .u8 ([1] : List Int)), blk b2 89 (nums .u64 us), vw A8 (nums .u8 ks)]) id _ ⟨0, 0, zs5, (List.replicate 5 (0 : Int)), us, zs5, 1, 0, u, 1, (by omega), (by omega), (by omega), (by exact el_cast (by assumption) (by decide +kernel)), (by exact small_el (n := 0) ⟨by decide, by decide⟩), (by exact hE), (by exact el_cast (by assumption) (by decide +kernel)), (by assumption), (by rfl), (by assumption), (by assumption), (by rfl), rfl, rfl, rfl⟩ ?_
  rintro n_ _ _ ⟨i, l, xs2, zs2, xs3, zs3, x2, z2, x3, z3, hi, hi2, hl01, hEx2, hEz2, hEx3, hEz3, hlx2, hlz2, hlx3, hlz3, hs, rfl, rfl, rfl⟩
  refine RunC.sr ?_
  refine RunR.sl hU [] 1 1 [0, 4, 6, 7, 19, 20] [(0, .slice A8 ks.length c8), (4, .slice none 0 0), (6, pt b10), (7, .int .u64 l), (19, .int .i64 i), (20, .bool (decide (i < 255)))] 1 ?_
  refine RunR.nn ?_
  refine RunC.seq ?_
  refine RunC.condp (i < 255) (by kernel_rfl) (fun h12 => ?_) (fun h12 => ?_)
  · skip
    refine RunC.ks ?_
    refine RunC.seq ?_
    refine RunC.block ?_
    refine RunC.sr ?_
    refine RunR.sl hU [] 2 2 [0, 4, 6, 7, 8, 19] [(0, .slice A8 ks.length c8), (4, .slice none 0 0), (6, pt b10), (7, .int .u64 l), (8, .int .i64 i), (19, .int .i64 i)] 2 ?_
    refine RunR.nx ?_
    refine RunR.sil hU [1] 3 3 [0, 4, 6, 7, 9, 19] [(0, .slice A8 ks.length c8), (4, .slice none 0 0), (6, pt b10), (7, .int .u64 l), (9, .int .i64 (254 - i)), (19, .int .i64 i)] ((True) ∧ (-9223372036854775808 ≤ (254 - i) ∧ (254 - i) < 9223372036854775808) ∧ (True) ∧ True) rfl (by kernel_rfl) ⟨trivial, (by omega), trivial, trivial⟩ ?_
    refine RunR.nx ?_
    refine RunR.sil hU [2] 4 4 [0, 4, 6, 7, 9, 19, 27] [(0, .slice A8 ks.length c8), (4, .slice none 0 0), (6, pt b10), (7, .int .u64 l), (9, .int .i64 (254 - i)), (19, .int .i64 i), (27, .pointer (elemAt A8 ((254 - i) / (8 : Int)) 1))] ((True) ∧ (True) ∧ (0 ≤ (254 - i) ∧ 0 < (8 : Int) ∧ -9223372036854775808 ≤ ((254 - i) / (8 : Int)) ∧ ((254 - i) / (8 : Int)) < 9223372036854775808) ∧ ((0 ≤ ((254 - i) / (8 : Int)) ∧ ((254 - i) / (8 : Int)) < ((ks.length : Nat) : Int)) ∧ Option.isSome A8 = true) ∧ True) rfl (by kernel_rfl) ⟨trivial, trivial, (by omega), ⟨by omega, hA1 (by omega)⟩, trivial⟩ ?_
    refine RunR.st (some 28) (.load 5 (.tmp 27)) (Step.load_num hU 4 (vw A8 (nums .u8 ks)) A8 ((254 - i) / (8 : Int)) .u8 ks rfl (by kernel_rfl) (by kernel_rfl) (tells_vw _ _) (by kernel_rfl) (by omega) ?_)
    have hb13 : 0 ≤ ks.getD (((254 - i) / (8 : Int)).toNat) 0 ∧ ks.getD (((254 - i) / (8 : Int)).toNat) 0 < 256 := hIks.at_ _
    have hm14 : 0 ≤ (ks.getD ((254 - i) / (8 : Int)).toNat 0) → 0 ≤ (ks.getD ((254 - i) / (8 : Int)).toNat 0) / 2 ^ (min ((254 - i) % (8 : Int)).toNat 8) ∧ (ks.getD ((254 - i) / (8 : Int)).toNat 0) / 2 ^ (min ((254 - i) % (8 : Int)).toNat 8) ≤ (ks.getD ((254 - i) / (8 : Int)).toNat 0) := fun h => ⟨Int.ediv_nonneg h (Int.le_of_lt (Int.pow_pos (by decide))), Int.ediv_le_self _ h⟩
    have hm15 := and_le .u64 rfl ((ks.getD ((254 - i) / (8 : Int)).toNat 0) / 2 ^ (min ((254 - i) % (8 : Int)).toNat 8)) 1 (by decide) (by decide)
    refine RunR.sil hU [6, 7, 8] 6 11 [0, 4, 6, 7, 10, 19] [(0, .slice A8 ks.length c8), (4, .slice none 0 0), (6, pt b10), (7, .int .u64 l), (10, .int .u64 (bits2 .and .u64 ((ks.getD ((254 - i) / (8 : Int)).toNat 0) / 2 ^ (min ((254 - i) % (8 : Int)).toNat 8)) 1)), (19, .int .i64 i)] ((True) ∧ (0 ≤ (254 - i) ∧ 0 < (8 : Int)) ∧ (0 ≤ ((254 - i) % (8 : Int))) ∧ (0 ≤ ((ks.getD ((254 - i) / (8 : Int)).toNat 0) / 2 ^ (min ((254 - i) % (8 : Int)).toNat 8)) ∧ ((ks.getD ((254 - i) / (8 : Int)).toNat 0) / 2 ^ (min ((254 - i) % (8 : Int)).toNat 8)) < 18446744073709551616) ∧ (True) ∧ (True) ∧ True) rfl (by kernel_rfl) ⟨trivial, (by omega), (by omega), (by omega), trivial, trivial, trivial⟩ ?_
    refine RunR.nx ?_
    refine RunR.sl hU [] 4 4 [0, 4, 6, 7, 10, 19, 34, 37] [(0, .slice A8 ks.length c8), (4, .slice none 0 0), (6, pt b10), (7, .int .u64 l), (10, .int .u64 (bits2 .and .u64 ((ks.getD ((254 - i) / (8 : Int)).toNat 0) / 2 ^ (min ((254 - i) % (8 : Int)).toNat 8)) 1)), (19, .int .i64 i), (34, pt b10), (37, .int .u64 (bits2 .xor .u64 l (bits2 .and .u64 ((ks.getD ((254 - i) / (8 : Int)).toNat 0) / 2 ^ (min ((254 - i) % (8 : Int)).toNat 8)) 1)))] 4 ?_
    refine RunR.st (some 38) (.call { callee := .value (.func 73), args := #[.tmp 34, .tmp 37], argTypes := #[106, 86] }) (Step.cn 73 [pt b10, .int .u64 (bits2 .xor .u64 l (bits2 .and .u64 ((ks.getD ((254 - i) / (8 : Int)).toNat 0) / 2 ^ (min ((254 - i) % (8 : Int)).toNat 8)) 1))] [blk b10 108 (nums .u64 us ++ (nums .u64 xs2 ++ (nums .u64 zs2 ++ (nums .u64 xs3 ++ nums .u64 zs3))))] [blk b8 89 (nums .u64 zs5), row 5 1 (.slice (some ⟨b3, 0, none⟩) 1 1) 1 (nums .u8 ([1] : List Int)), blk b2 89 (nums .u64 us), vw A8 (nums .u8 ks)] (k_swap_spec b10 us xs2 zs2 xs3 zs3 u x2 z2 x3 z3 (bits2 .xor .u64 l (bits2 .and .u64 ((ks.getD ((254 - i) / (8 : Int)).toNat 0) / 2 ^ (min ((254 - i) % (8 : Int)).toNat 8)) 1)) (by assumption) (by assumption) (by assumption) (by assumption) (by assumption) (by assumption) (by assumption) (by assumption) (by assumption) (by assumption) (by exact fits_bits2 _ _ _ _)) [0] ?_)
    rintro _ _ ⟨ya16, yb17, yc18, yd19, rfl, rfl, hp20, hp21, hp22, hp23, hp24, hp25, hp26, hp27⟩
    refine RunR.nx ?_
    refine RunR.sl hU [] 1 1 [0, 4, 6, 7, 10, 19, 39] [(0, .slice A8 ks.length c8), (4, .slice none 0 0), (6, pt b10), (7, .int .u64 l), (10, .int .u64 (bits2 .and .u64 ((ks.getD ((254 - i) / (8 : Int)).toNat 0) / 2 ^ (min ((254 - i) % (8 : Int)).toNat 8)) 1)), (19, .int .i64 i), (39, pt b10)] 1 ?_
    refine RunR.st (some 40) (.call { callee := .value (.func 74), args := #[.tmp 39], argTypes := #[106] }) (Step.cn 74 [pt b10] [blk b10 108 (nums .u64 us ++ (nums .u64 ya16 ++ (nums .u64 yb17 ++ (nums .u64 yc18 ++ nums .u64 yd19))))] [blk b8 89 (nums .u64 zs5), row 5 1 (.slice (some ⟨b3, 0, none⟩) 1 1) 1 (nums .u8 ([1] : List Int)), blk b2 89 (nums .u64 us), vw A8 (nums .u8 ks)] (k_step_spec b10 us ya16 yb17 yc18 yd19 u (swv (bits2 .xor .u64 l (bits2 .and .u64 ((ks.getD ((254 - i) / (8 : Int)).toNat 0) / 2 ^ (min ((254 - i) % (8 : Int)).toNat 8)) 1)) x2 x3) (swv (bits2 .xor .u64 l (bits2 .and .u64 ((ks.getD ((254 - i) / (8 : Int)).toNat 0) / 2 ^ (min ((254 - i) % (8 : Int)).toNat 8)) 1)) z2 z3) (swv (bits2 .xor .u64 l (bits2 .and .u64 ((ks.getD ((254 - i) / (8 : Int)).toNat 0) / 2 ^ (min ((254 - i) % (8 : Int)).toNat 8)) 1)) x3 x2) (swv (bits2 .xor .u64 l (bits2 .and .u64 ((ks.getD ((254 - i) / (8 : Int)).toNat 0) / 2 ^ (min ((254 - i) % (8 : Int)).toNat 8)) 1)) z3 z2) (by assumption) (by assumption) (by assumption) (by assumption) (by assumption) (by assumption) (by assumption) (by assumption) (by assumption) (by assumption)) [0] ?_)
    rintro _ _ ⟨ya28, yb29, yc30, yd31, rfl, rfl, hp32, hp33, hp34, hp35, hp36, hp37, hp38, hp39⟩
    refine RunR.nn ?_
    refine RunC.region ?_
    refine RunR.sl hU [] 2 2 [0, 4, 6, 7, 19] [(0, .slice A8 ks.length c8), (4, .slice none 0 0), (6, pt b10), (7, .int .u64 (bits2 .and .u64 ((ks.getD ((254 - i) / (8 : Int)).toNat 0) / 2 ^ (min ((254 - i) % (8 : Int)).toNat 8)) 1)), (19, .int .i64 i)] 2 ?_
    refine RunR.dn ?_
    refine kblock_n ?_
    refine kseq_n ?_
    refine RunC.region ?_
    refine RunR.sil hU [0] 2 2 [0, 4, 6, 7, 19] [(0, .slice A8 ks.length c8), (4, .slice none 0 0), (6, pt b10), (7, .int .u64 (bits2 .and .u64 ((ks.getD ((254 - i) / (8 : Int)).toNat 0) / 2 ^ (min ((254 - i) % (8 : Int)).toNat 8)) 1)), (19, .int .i64 (i + 1))] ((-9223372036854775808 ≤ (i + 1) ∧ (i + 1) < 9223372036854775808) ∧ (True) ∧ True) rfl (by kernel_rfl) ⟨(by omega), trivial, trivial⟩ ?_
    refine RunR.dn ?_
    refine kloop_n _ [0, 4, 6, 7, 19] [0, 0, 0, 0, 0] [(0, .slice A8 ks.length c8), (4, .slice none 0 0), (6, pt b10), (7, .int .u64 (bits2 .and .u64 ((ks.getD ((254 - i) / (8 : Int)).toNat 0) / 2 ^ (min ((254 - i) % (8 : Int)).toNat 8)) 1)), (19, .int .i64 (i + 1))] [blk b10 108 (nums .u64 us ++ (nums .u64 ya28 ++ (nums .u64 yb29 ++ (nums .u64 yc30 ++ nums .u64 yd31)))), blk b8 89 (nums .u64 zs5), row 5 1 (.slice (some ⟨b3, 0, none⟩) 1 1) 1 (nums .u8 ([1] : List Int)), blk b2 89 (nums .u64 us), vw A8 (nums .u8 ks)] (by kernel_rfl) (by kernel_rfl) ?_ ⟨(i + 1), (bits2 .and .u64 ((ks.getD ((254 - i) / (8 : Int)).toNat 0) / 2 ^ (min ((254 - i) % (8 : Int)).toNat 8)) 1), ya28, yb29, yc30, yd31, (nx2 (swv (bits2 .xor .u64 l (bits2 .and .u64 ((ks.getD ((254 - i) / (8 : Int)).toNat 0) / 2 ^ (min ((254 - i) % (8 : Int)).toNat 8)) 1)) x2 x3) (swv (bits2 .xor .u64 l (bits2 .and .u64 ((ks.getD ((254 - i) / (8 : Int)).toNat 0) / 2 ^ (min ((254 - i) % (8 : Int)).toNat 8)) 1)) z2 z3)), (nz2 (swv (bits2 .xor .u64 l (bits2 .and .u64 ((ks.getD ((254 - i) / (8 : Int)).toNat 0) / 2 ^ (min ((254 - i) % (8 : Int)).toNat 8)) 1)) x2 x3) (swv (bits2 .xor .u64 l (bits2 .and .u64 ((ks.getD ((254 - i) / (8 : Int)).toNat 0) / 2 ^ (min ((254 - i) % (8 : Int)).toNat 8)) 1)) z2 z3)), (nx3 (swv (bits2 .xor .u64 l (bits2 .and .u64 ((ks.getD ((254 - i) / (8 : Int)).toNat 0) / 2 ^ (min ((254 - i) % (8 : Int)).toNat 8)) 1)) x2 x3) (swv (bits2 .xor .u64 l (bits2 .and .u64 ((ks.getD ((254 - i) / (8 : Int)).toNat 0) / 2 ^ (min ((254 - i) % (8 : Int)).toNat 8)) 1)) z2 z3) (swv (bits2 .xor .u64 l (bits2 .and .u64 ((ks.getD ((254 - i) / (8 : Int)).toNat 0) / 2 ^ (min ((254 - i) % (8 : Int)).toNat 8)) 1)) x3 x2) (swv (bits2 .xor .u64 l (bits2 .and .u64 ((ks.getD ((254 - i) / (8 : Int)).toNat 0) / 2 ^ (min ((254 - i) % (8 : Int)).toNat 8)) 1)) z3 z2)), (nz3 u (swv (bits2 .xor .u64 l (bits2 .and .u64 ((ks.getD ((254 - i) / (8 : Int)).toNat 0) / 2 ^ (min ((254 - i) % (8 : Int)).toNat 8)) 1)) x2 x3) (swv (bits2 .xor .u64 l (bits2 .and .u64 ((ks.getD ((254 - i) / (8 : Int)).toNat 0) / 2 ^ (min ((254 - i) % (8 : Int)).toNat 8)) 1)) z2 z3) (swv (bits2 .xor .u64 l (bits2 .and .u64 ((ks.getD ((254 - i) / (8 : Int)).toNat 0) / 2 ^ (min ((254 - i) % (8 : Int)).toNat 8)) 1)) x3 x2) (swv (bits2 .xor .u64 l (bits2 .and .u64 ((ks.getD ((254 - i) / (8 : Int)).toNat 0) / 2 ^ (min ((254 - i) % (8 : Int)).toNat 8)) 1)) z3 z2)), (by omega), (by assumption), (by exact bit_01 _), (by assumption), (by assumption), (by assumption), (by assumption), (by assumption), (by assumption), (by assumption), (by assumption), (by rw [show (i + 1).toNat = i.toNat + 1 by omega]; exact climb_step hs hl01 (bit_a hIks (by omega) (by omega)) rfl rfl), rfl, (by rfl), (by rfl)⟩
    show ((255 - (i + 1)).toNat : Nat) < ((255 - i).toNat : Nat)
    omega
  · skip
    refine RunC.exit ?_
    refine kseq_e ?_
    refine kloop_e ?_
    refine kblock_e ?_
    refine kseq_n ?_
    refine RunC.sr ?_
    refine RunR.sl hU [] 2 2 [4, 6, 43, 44] [(4, .slice none 0 0), (6, pt b10), (43, pt b10), (44, .int .u64 l)] 2 ?_
    refine RunR.st (some 45) (.call { callee := .value (.func 73), args := #[.tmp 43, .tmp 44], argTypes := #[106, 86] }) (Step.cn 73 [pt b10, .int .u64 l] [blk b10 108 (nums .u64 us ++ (nums .u64 xs2 ++ (nums .u64 zs2 ++ (nums .u64 xs3 ++ nums .u64 zs3))))] [blk b8 89 (nums .u64 zs5), row 5 1 (.slice (some ⟨b3, 0, none⟩) 1 1) 1 (nums .u8 ([1] : List Int)), blk b2 89 (nums .u64 us), vw A8 (nums .u8 ks)] (k_swap_spec b10 us xs2 zs2 xs3 zs3 u x2 z2 x3 z3 l (by assumption) (by assumption) (by assumption) (by assumption) (by assumption) (by assumption) (by assumption) (by assumption) (by assumption) (by assumption) (by (refine ⟨?_, ?_⟩ <;> omega))) [0] ?_)
    rintro _ _ ⟨ya40, yb41, yc42, yd43, rfl, rfl, hp44, hp45, hp46, hp47, hp48, hp49, hp50, hp51⟩
    refine RunR.nn ?_
    refine RunC.seq ?_
    refine RunC.regionU hU 12 [blk b10 108 (nums .u64 us ++ (nums .u64 ya40 ++ (nums .u64 yb41 ++ (nums .u64 yc42 ++ nums .u64 yd43))))] [0] [9, 10, 11] (bm 12 0) (by kernel_rfl) (by kernel_rfl) (by kernel_rfl) ?_
    refine RunU.sl hU 0 (bm 12 1) 46 (pt b10) ?_
    refine RunU.sl hU 1 (bm 12 3) 47 (pt b10) ?_
    refine RunU.sl hU 2 (bm 12 7) 48 (.pointer (some ⟨b10, 5, none⟩)) ?_
    refine RunU.rd 3 (bm 12 15) 49 (.load 89 (.tmp 48)) (ag .u64 ya40) [0] (Reads.load_blk hU 0 b10 (5) 108 (nums .u64 us ++ (nums .u64 ya40 ++ (nums .u64 yb41 ++ (nums .u64 yc42 ++ nums .u64 yd43)))) (ag .u64 ya40) (by kernel_rfl) (by kernel_rfl) (loadv_seg (n := 5) (by kernel_rfl) (by kernel_rfl) (show Seg _ 5 _ from Seg.skip (n := 5) (o := 0) (by rw [nums_length]; assumption) (Seg.here _ _)) (by rw [nums_length]; assumption))) ?_
    refine RunU.sl hU 4 (bm 12 31) 50 (pt b10) ?_
    refine RunU.sl hU 5 (bm 12 63) 51 (pt b10) ?_
    refine RunU.sl hU 6 (bm 12 127) 52 (.pointer (some ⟨b10, 10, none⟩)) ?_
    refine RunU.rd 7 (bm 12 255) 53 (.load 89 (.tmp 52)) (ag .u64 yb41) [0] (Reads.load_blk hU 0 b10 (10) 108 (nums .u64 us ++ (nums .u64 ya40 ++ (nums .u64 yb41 ++ (nums .u64 yc42 ++ nums .u64 yd43)))) (ag .u64 yb41) (by kernel_rfl) (by kernel_rfl) (loadv_seg (n := 5) (by kernel_rfl) (by kernel_rfl) (show Seg _ 10 _ from Seg.skip (n := 5) (o := 5) (by rw [nums_length]; assumption) (Seg.skip (n := 5) (o := 0) (by rw [nums_length]; assumption) (Seg.here _ _))) (by rw [nums_length]; assumption))) ?_
    refine RunU.on (some 54) (.call { callee := .value (.func 76), args := #[.tmp 53], argTypes := #[89] }) 8 (bm 12 511) [0] (Step.cn 76 [ag .u64 yb41] [] [blk b10 108 (nums .u64 us ++ (nums .u64 ya40 ++ (nums .u64 yb41 ++ (nums .u64 yc42 ++ nums .u64 yd43)))), blk b8 89 (nums .u64 zs5), row 5 1 (.slice (some ⟨b3, 0, none⟩) 1 1) 1 (nums .u8 ([1] : List Int)), blk b2 89 (nums .u64 us), vw A8 (nums .u8 ks)] (f_Invert_spec yb41 (swv l z2 z3) (by assumption) (by assumption)) [] ?_)
    rintro _ _ ⟨zs52, rfl, rfl, hp53, hp54⟩
    refine orL ?_
    refine RunU.on (some 55) (.call { callee := .value (.func 75), args := #[.tmp 49, .tmp 54], argTypes := #[89, 89] }) 9 (bm 12 1023) [] (Step.cn 75 [ag .u64 ya40, ag .u64 zs52] [] [blk b10 108 (nums .u64 us ++ (nums .u64 ya40 ++ (nums .u64 yb41 ++ (nums .u64 yc42 ++ nums .u64 yd43)))), blk b8 89 (nums .u64 zs5), row 5 1 (.slice (some ⟨b3, 0, none⟩) 1 1) 1 (nums .u8 ([1] : List Int)), blk b2 89 (nums .u64 us), vw A8 (nums .u8 ks)] (f_Mul_spec ya40 (swv l x2 x3) zs52 (pw (swv l z2 z3) EN) (by assumption) (by assumption) (by assumption) (by assumption)) [] ?_)
    rintro _ _ ⟨zs55, rfl, rfl, hp56, hp57⟩
    refine orR ?_
    refine RunU.on (some 56) (.call { callee := .value (.func 77), args := #[.tmp 55], argTypes := #[89] }) 10 (bm 12 2047) [] (Step.cn 77 [ag .u64 zs55] [] [blk b10 108 (nums .u64 us ++ (nums .u64 ya40 ++ (nums .u64 yb41 ++ (nums .u64 yc42 ++ nums .u64 yd43)))), blk b8 89 (nums .u64 zs5), row 5 1 (.slice (some ⟨b3, 0, none⟩) 1 1) 1 (nums .u8 ([1] : List Int)), blk b2 89 (nums .u64 us), vw A8 (nums .u8 ks)] (f_Bytes_spec zs55 (((swv l x2 x3) * (pw (swv l z2 z3) EN)) % P) (by assumption) (by assumption)) [] ?_)
    rintro _ _ ⟨Aq58, cb59, zs60, rfl, rfl, hp61, hp62, hp63, hp64, hp65⟩
    refine orR ?_
    refine RunU.sl hU 11 (bm 12 4095) 4 (.slice Aq58 zs60.length cb59) ?_
    refine RunU.ev [4] [(4, .slice Aq58 zs60.length cb59)] ?_
    refine RunU.dn ?_
    refine kseq_n ?_
    refine RunC.ret ?_
    refine kret_r [.slice Aq58 zs60.length cb59] [0] [row 5 1 (.slice Aq58 zs60.length cb59) zs60.length (nums .u8 zs60)] ⟨rfl, trivial⟩ (by kernel_rfl) rfl ⟨Aq58, cb59, zs60, rfl, rfl, (by refine dg_cast (by assumption) ?_; exact climb_end hs hl01 (by omega)), (by assumption), hp63, (by assumption), (fun h => hp65 (by exact h))⟩
end Go.Proofs.Ytaaplakahkgclaa.Z5
