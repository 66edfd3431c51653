/- What these functions compute: a contract for each, walked through its code. -/
import Derived.Test.YtaaplakahkgclaaSLzh
import Derived.Test.YtaaplakahkgclaaKPure
import Derived.Test.YtaaplakahkgclaaProg
import Derived.Test.YtaaplakahkgclaaX1
import Derived.Test.YtaaplakahkgclaaX2
import Derived.Test.YtaaplakahkgclaaX3
import Derived.Test.YtaaplakahkgclaaX4
import Derived.Test.YtaaplakahkgclaaX5
import Derived.Test.YtaaplakahkgclaaX6
import Derived.Test.YtaaplakahkgclaaX7
import Derived.Test.YtaaplakahkgclaaX8
import Derived.Test.YtaaplakahkgclaaX9
import Derived.Test.YtaaplakahkgclaaY1
import Derived.Test.YtaaplakahkgclaaY2
import Derived.Test.YtaaplakahkgclaaY3
import Derived.Test.YtaaplakahkgclaaY4
import Derived.Test.YtaaplakahkgclaaY5
import Derived.Test.YtaaplakahkgclaaY6
namespace Go.Proofs.Ytaaplakahkgclaa.Z1
open Go Go.Proofs.Ytaaplakahkgclaa.SL Go.Proofs.Ytaaplakahkgclaa.SL.W Go.Proofs.Ytaaplakahkgclaa.SL.F Go.Proofs.Ytaaplakahkgclaa.SL.N Go.Proofs.Ytaaplakahkgclaa.SL.E Go.Proofs.Ytaaplakahkgclaa.SL.K Go.Proofs.Ytaaplakahkgclaa.X1 Go.Proofs.Ytaaplakahkgclaa.X2 Go.Proofs.Ytaaplakahkgclaa.X3 Go.Proofs.Ytaaplakahkgclaa.X4 Go.Proofs.Ytaaplakahkgclaa.X5 Go.Proofs.Ytaaplakahkgclaa.X6 Go.Proofs.Ytaaplakahkgclaa.X7 Go.Proofs.Ytaaplakahkgclaa.X8 Go.Proofs.Ytaaplakahkgclaa.X9 Go.Proofs.Ytaaplakahkgclaa.Y1 Go.Proofs.Ytaaplakahkgclaa.Y2 Go.Proofs.Ytaaplakahkgclaa.Y3 Go.Proofs.Ytaaplakahkgclaa.Y4 Go.Proofs.Ytaaplakahkgclaa.Y5 Go.Proofs.Ytaaplakahkgclaa.Y6
set_option linter.unusedVariables false
set_option linter.unusedSimpArgs false
set_option maxRecDepth 100000
set_option maxHeartbeats 40000000
def U : Tab where
  und := [(86, .int .u64), (87, .array 5 86), (88, .struct #[{ name := "n", type := 87, offset := 0, embedded := false, tag := "", pkgPath := "orlop/field", byteOffset := 0 }]), (89, .struct #[{ name := "n", type := 87, offset := 0, embedded := false, tag := "", pkgPath := "orlop/field", byteOffset := 0 }])]
  fld := [((88, 0), (0, 87)), ((89, 0), (0, 87))]
  sz := [(86, 1), (87, 5), (88, 5), (89, 5)]
  ti := [(86, (1, 8, .int .u64 0)), (87, (5, 40, z5)), (88, (5, 40, z5)), (89, (5, 40, z5))]
  bld := [(88, [(0, 5)]), (89, [(0, 5)])]

theorem hU : U.OK Try.prog where
  und := by
    intro p hp
    simp only [U, List.mem_cons, List.not_mem_nil, or_false] at hp
    rcases hp with rfl | rfl | rfl | rfl
    · exact Try.underlying86
    · exact Try.underlying87
    · exact Try.underlying88
    · exact Try.underlying89
  fld := by
    intro p hp
    simp only [U, List.mem_cons, List.not_mem_nil, or_false] at hp
    rcases hp with rfl | rfl
    · exact ⟨_, _, Try.underlying88, rfl, rfl, rfl, Try.prog.types[87]!, by kernel_rfl, by decide +kernel⟩
    · exact ⟨_, _, Try.underlying89, rfl, rfl, rfl, Try.prog.types[87]!, by kernel_rfl, by decide +kernel⟩
  sz := by
    intro p hp
    simp only [U, List.mem_cons, List.not_mem_nil, or_false] at hp
    rcases hp with rfl | rfl | rfl | rfl
    · exact ⟨Try.prog.types[86]!, by kernel_rfl, by kernel_rfl⟩
    · exact ⟨Try.prog.types[87]!, by kernel_rfl, by kernel_rfl⟩
    · exact ⟨Try.prog.types[88]!, by kernel_rfl, by kernel_rfl⟩
    · exact ⟨Try.prog.types[89]!, by kernel_rfl, by kernel_rfl⟩
  ti := by
    intro p hp
    simp only [U, List.mem_cons, List.not_mem_nil, or_false] at hp
    rcases hp with rfl | rfl | rfl | rfl
    · exact ⟨Try.prog.types[86]!, by kernel_rfl, by kernel_rfl, by kernel_rfl, by kernel_rfl⟩
    · exact ⟨Try.prog.types[87]!, by kernel_rfl, by kernel_rfl, by kernel_rfl, by kernel_rfl⟩
    · exact ⟨Try.prog.types[88]!, by kernel_rfl, by kernel_rfl, by kernel_rfl, by kernel_rfl⟩
    · exact ⟨Try.prog.types[89]!, by kernel_rfl, by kernel_rfl, by kernel_rfl, by kernel_rfl⟩
  bld := by
    intro p hp
    simp only [U, List.mem_cons, List.not_mem_nil, or_false] at hp
    rcases hp with rfl | rfl
    · exact ⟨_, Try.underlying88, by kernel_rfl⟩
    · exact ⟨_, Try.underlying89, by kernel_rfl⟩
  mixed := by kernel_rfl

theorem f_Invert_spec (xs : List Int) (v : Int) (hE : El xs v) (hl : xs.length = 5) :
    CallsS Try.prog 76 [ag .u64 xs] [] (fun r D => ∃ (zs : List Int), r = ag .u64 zs ∧ D = [] ∧ (El zs (pw v EN)) ∧ (zs.length = 5)) := by
  refine CallsS.enter hU Try.f76 _ [.cell 2 89] 59 Try.func76 rfl (by decide) rfl rfl (by kernel_rfl) fun w0 W => ?_
  refine RunC.sr ?_
  refine RunR.st (some 1) (.box 89 (.tmp 0)) (Step.box (ag .u64 xs) (by kernel_rfl) (by kernel_rfl) (fun b1 => ?_))
  refine RunR.st (some 2) (.alloc 89) (Step.al hU 5 40 z5 (fun b2 => ?_))
  have hl3 : (List.replicate 5 (0 : Int)).length = 5 := List.length_replicate
  refine RunR.nx ?_
  refine RunR.st (some 14) (.load 89 (.tmp 1)) (Step.load_blk hU 1 b1 (0) 89 (nums .u64 xs) (ag .u64 xs) (by kernel_rfl) (by kernel_rfl) (loadv_seg (n := 5) (by kernel_rfl) (by kernel_rfl) (Seg.all _) (by simp only [List.length_append, nums_length, List.length_cons, List.length_nil] <;> omega)) (by kernel_rfl) ?_)
  refine RunR.st (some 15) (.call { callee := .value (.func 91), args := #[.tmp 14], argTypes := #[89] }) (Step.cn 91 [ag .u64 xs] [] [blk b2 89 (nums .u64 (List.replicate 5 (0 : Int))), blk b1 89 (nums .u64 xs)] (f_Square_spec xs v (by assumption) (by assumption)) [] ?_)
  rintro _ _ ⟨zs4, rfl, rfl, hp5, hp6⟩
  refine RunR.st (some 3) (.alloc 89) (Step.al hU 5 40 z5 (fun b7 => ?_))
  have hl8 : (List.replicate 5 (0 : Int)).length = 5 := List.length_replicate
  refine RunR.st none (.store 89 (.tmp 3) (.tmp 15)) (Step.ss hU 0 b7 (0) 89 (nums .u64 (List.replicate 5 (0 : Int))) (nums .u64 zs4) (nums .u64 zs4) (ag .u64 zs4) 5 (by (simp only [List.length_append, nums_length, List.length_cons, List.length_nil, List.length_replicate]; omega)) (show Put _ 0 _ _ from Put.all (by simp only [List.length_append, nums_length, List.length_cons, List.length_nil, List.length_replicate] <;> omega)) ?_)
  refine RunR.nn ?_
  refine RunC.cut (fun t_ D_ => ∃ (b_ : Nat) (z_ : List Int), (El z_ (pw v 9)) ∧ (z_.length = 5) ∧ t_ = [(2, pt b2), (3, pt b7), (4, pt b_)] ∧ D_ = [blk b_ 89 (nums .u64 z_), blk b7 89 (nums .u64 zs4), blk b2 89 (nums .u64 (List.replicate 5 (0 : Int))), blk b1 89 (nums .u64 xs)]) ?_ ?_
  · skip
    refine RunC.regionU hU 6 [blk b7 89 (nums .u64 zs4), blk b1 89 (nums .u64 xs)] [0, 2] [3, 5] (bm 6 0) (by kernel_rfl) (by kernel_rfl) (by kernel_rfl) ?_
    refine RunU.rd 0 (bm 6 1) 16 (.load 89 (.tmp 3)) (ag .u64 zs4) [0, 2] (Reads.load_blk hU 0 b7 (0) 89 (nums .u64 zs4) (ag .u64 zs4) (by kernel_rfl) (by kernel_rfl) (loadv_seg (n := 5) (by kernel_rfl) (by kernel_rfl) (Seg.all _) (by simp only [List.length_append, nums_length, List.length_cons, List.length_nil] <;> omega))) ?_
    refine RunU.rd 2 (bm 6 5) 18 (.load 89 (.tmp 1)) (ag .u64 xs) [0, 2] (Reads.load_blk hU 1 b1 (0) 89 (nums .u64 xs) (ag .u64 xs) (by kernel_rfl) (by kernel_rfl) (loadv_seg (n := 5) (by kernel_rfl) (by kernel_rfl) (Seg.all _) (by simp only [List.length_append, nums_length, List.length_cons, List.length_nil] <;> omega))) ?_
    refine RunU.two (d1 := some 17) (o1 := .call { callee := .value (.func 97), args := #[.tmp 16, .const (.int .i64 2)], argTypes := #[89, 3] }) (d2 := some 4) (o2 := .alloc 89) 1 4 (bm 6 7) (bm 6 21) [0, 2] [1, 3] (by kernel_rfl) (by kernel_rfl) (by kernel_rfl) (by kernel_rfl) (by kernel_rfl) ?_ ?_
    · skip
      refine (Step.cn 97 [ag .u64 zs4, .int .i64 2] [] [blk b7 89 (nums .u64 zs4), blk b2 89 (nums .u64 (List.replicate 5 (0 : Int))), blk b1 89 (nums .u64 xs)] (f_squares_spec zs4 ((v * v) % P) 2 (by assumption) (by assumption) (by omega) (by omega)) [] ?_)
      rintro _ _ ⟨zs9, rfl, rfl, hp10, hp11⟩
      refine orL ?_
      refine RunU.two (d1 := some 19) (o1 := .call { callee := .value (.func 75), args := #[.tmp 17, .tmp 18], argTypes := #[89, 89] }) (d2 := some 4) (o2 := .alloc 89) 3 4 (bm 6 15) (bm 6 23) [] [1, 3] (by kernel_rfl) (by kernel_rfl) (by kernel_rfl) (by kernel_rfl) (by kernel_rfl) ?_ ?_
      · skip
        refine (Step.cn 75 [ag .u64 zs9, ag .u64 xs] [] [blk b7 89 (nums .u64 zs4), blk b2 89 (nums .u64 (List.replicate 5 (0 : Int))), blk b1 89 (nums .u64 xs)] (f_Mul_spec zs9 (pw ((v * v) % P) (2 ^ (2 : Int).toNat)) xs v (by assumption) (by assumption) (by assumption) (by assumption)) [] ?_)
        rintro _ _ ⟨zs12, rfl, rfl, hp13, hp14⟩
        refine orR ?_
        refine RunU.on (some 4) (.alloc 89) 4 (bm 6 31) [1, 3] (Step.al hU 5 40 z5 (fun b15 => ?_))
        have hl16 : (List.replicate 5 (0 : Int)).length = 5 := List.length_replicate
        refine orL ?_
        refine RunU.on none (.store 89 (.tmp 4) (.tmp 19)) 5 (bm 6 63) [] (Step.ss hU 0 b15 (0) 89 (nums .u64 (List.replicate 5 (0 : Int))) (nums .u64 zs12) (nums .u64 zs12) (ag .u64 zs12) 5 (by (simp only [List.length_append, nums_length, List.length_cons, List.length_nil, List.length_replicate]; omega)) (show Put _ 0 _ _ from Put.all (by simp only [List.length_append, nums_length, List.length_cons, List.length_nil, List.length_replicate] <;> omega)) ?_)
        refine orR ?_
        refine RunU.ev [2, 3, 4] [(2, pt b2), (3, pt b7), (4, pt b15)] ?_
        refine RunU.dn ?_
        exact kcut_n [2, 3, 4] [0, 0, 0, 0] [(2, pt b2), (3, pt b7), (4, pt b15)] [blk b15 89 (nums .u64 zs12), blk b7 89 (nums .u64 zs4), blk b2 89 (nums .u64 (List.replicate 5 (0 : Int))), blk b1 89 (nums .u64 xs)] (by kernel_rfl) (by kernel_rfl) ⟨b15, zs12, (by refine el_cast (by assumption) ?_; simp only [pw_sq, pw_pow, pw_mul, pw_by]; (refine congrArg (pw v) ?_; decide +kernel)), (by assumption), rfl, rfl⟩
      · skip
        refine (Step.al hU 5 40 z5 (fun b17 => ?_))
        have hl18 : (List.replicate 5 (0 : Int)).length = 5 := List.length_replicate
        refine orL ?_
        refine RunU.on (some 19) (.call { callee := .value (.func 75), args := #[.tmp 17, .tmp 18], argTypes := #[89, 89] }) 3 (bm 6 31) [] (Step.cn 75 [ag .u64 zs9, ag .u64 xs] [] [blk b17 89 (nums .u64 (List.replicate 5 (0 : Int))), blk b7 89 (nums .u64 zs4), blk b2 89 (nums .u64 (List.replicate 5 (0 : Int))), blk b1 89 (nums .u64 xs)] (f_Mul_spec zs9 (pw ((v * v) % P) (2 ^ (2 : Int).toNat)) xs v (by assumption) (by assumption) (by assumption) (by assumption)) [] ?_)
        rintro _ _ ⟨zs19, rfl, rfl, hp20, hp21⟩
        refine orR ?_
        refine RunU.on none (.store 89 (.tmp 4) (.tmp 19)) 5 (bm 6 63) [] (Step.ss hU 0 b17 (0) 89 (nums .u64 (List.replicate 5 (0 : Int))) (nums .u64 zs19) (nums .u64 zs19) (ag .u64 zs19) 5 (by (simp only [List.length_append, nums_length, List.length_cons, List.length_nil, List.length_replicate]; omega)) (show Put _ 0 _ _ from Put.all (by simp only [List.length_append, nums_length, List.length_cons, List.length_nil, List.length_replicate] <;> omega)) ?_)
        refine orR ?_
        refine RunU.ev [2, 3, 4] [(2, pt b2), (3, pt b7), (4, pt b17)] ?_
        refine RunU.dn ?_
        exact kcut_n [2, 3, 4] [0, 0, 0, 0] [(2, pt b2), (3, pt b7), (4, pt b17)] [blk b17 89 (nums .u64 zs19), blk b7 89 (nums .u64 zs4), blk b2 89 (nums .u64 (List.replicate 5 (0 : Int))), blk b1 89 (nums .u64 xs)] (by kernel_rfl) (by kernel_rfl) ⟨b17, zs19, (by refine el_cast (by assumption) ?_; simp only [pw_sq, pw_pow, pw_mul, pw_by]; (refine congrArg (pw v) ?_; decide +kernel)), (by assumption), rfl, rfl⟩
    · skip
      refine (Step.al hU 5 40 z5 (fun b22 => ?_))
      have hl23 : (List.replicate 5 (0 : Int)).length = 5 := List.length_replicate
      refine orL ?_
      refine RunU.on (some 17) (.call { callee := .value (.func 97), args := #[.tmp 16, .const (.int .i64 2)], argTypes := #[89, 3] }) 1 (bm 6 23) [1, 3] (Step.cn 97 [ag .u64 zs4, .int .i64 2] [] [blk b22 89 (nums .u64 (List.replicate 5 (0 : Int))), blk b7 89 (nums .u64 zs4), blk b2 89 (nums .u64 (List.replicate 5 (0 : Int))), blk b1 89 (nums .u64 xs)] (f_squares_spec zs4 ((v * v) % P) 2 (by assumption) (by assumption) (by omega) (by omega)) [] ?_)
      rintro _ _ ⟨zs24, rfl, rfl, hp25, hp26⟩
      refine orL ?_
      refine RunU.on (some 19) (.call { callee := .value (.func 75), args := #[.tmp 17, .tmp 18], argTypes := #[89, 89] }) 3 (bm 6 31) [] (Step.cn 75 [ag .u64 zs24, ag .u64 xs] [] [blk b22 89 (nums .u64 (List.replicate 5 (0 : Int))), blk b7 89 (nums .u64 zs4), blk b2 89 (nums .u64 (List.replicate 5 (0 : Int))), blk b1 89 (nums .u64 xs)] (f_Mul_spec zs24 (pw ((v * v) % P) (2 ^ (2 : Int).toNat)) xs v (by assumption) (by assumption) (by assumption) (by assumption)) [] ?_)
      rintro _ _ ⟨zs27, rfl, rfl, hp28, hp29⟩
      refine orR ?_
      refine RunU.on none (.store 89 (.tmp 4) (.tmp 19)) 5 (bm 6 63) [] (Step.ss hU 0 b22 (0) 89 (nums .u64 (List.replicate 5 (0 : Int))) (nums .u64 zs27) (nums .u64 zs27) (ag .u64 zs27) 5 (by (simp only [List.length_append, nums_length, List.length_cons, List.length_nil, List.length_replicate]; omega)) (show Put _ 0 _ _ from Put.all (by simp only [List.length_append, nums_length, List.length_cons, List.length_nil, List.length_replicate] <;> omega)) ?_)
      refine orR ?_
      refine RunU.ev [2, 3, 4] [(2, pt b2), (3, pt b7), (4, pt b22)] ?_
      refine RunU.dn ?_
      exact kcut_n [2, 3, 4] [0, 0, 0, 0] [(2, pt b2), (3, pt b7), (4, pt b22)] [blk b22 89 (nums .u64 zs27), blk b7 89 (nums .u64 zs4), blk b2 89 (nums .u64 (List.replicate 5 (0 : Int))), blk b1 89 (nums .u64 xs)] (by kernel_rfl) (by kernel_rfl) ⟨b22, zs27, (by refine el_cast (by assumption) ?_; simp only [pw_sq, pw_pow, pw_mul, pw_by]; (refine congrArg (pw v) ?_; decide +kernel)), (by assumption), rfl, rfl⟩
  · rintro _ _ ⟨b30, zs31, hp32, hp33, rfl, rfl⟩
    refine RunC.sr ?_
    refine RunR.st (some 20) (.load 89 (.tmp 4)) (Step.load_blk hU 0 b30 (0) 89 (nums .u64 zs31) (ag .u64 zs31) (by kernel_rfl) (by kernel_rfl) (loadv_seg (n := 5) (by kernel_rfl) (by kernel_rfl) (Seg.all _) (by simp only [List.length_append, nums_length, List.length_cons, List.length_nil] <;> omega)) (by kernel_rfl) ?_)
    refine RunR.st (some 21) (.load 89 (.tmp 3)) (Step.load_blk hU 1 b7 (0) 89 (nums .u64 zs4) (ag .u64 zs4) (by kernel_rfl) (by kernel_rfl) (loadv_seg (n := 5) (by kernel_rfl) (by kernel_rfl) (Seg.all _) (by simp only [List.length_append, nums_length, List.length_cons, List.length_nil] <;> omega)) (by kernel_rfl) ?_)
    refine RunR.st (some 22) (.call { callee := .value (.func 75), args := #[.tmp 20, .tmp 21], argTypes := #[89, 89] }) (Step.cn 75 [ag .u64 zs31, ag .u64 zs4] [] [blk b30 89 (nums .u64 zs31), blk b7 89 (nums .u64 zs4), blk b2 89 (nums .u64 (List.replicate 5 (0 : Int))), blk b1 89 (nums .u64 xs)] (f_Mul_spec zs31 (pw v 9) zs4 ((v * v) % P) (by assumption) (by assumption) (by assumption) (by assumption)) [] ?_)
    rintro _ _ ⟨zs34, rfl, rfl, hp35, hp36⟩
    refine RunR.st (some 5) (.alloc 89) (Step.al hU 5 40 z5 (fun b37 => ?_))
    have hl38 : (List.replicate 5 (0 : Int)).length = 5 := List.length_replicate
    refine RunR.st none (.store 89 (.tmp 5) (.tmp 22)) (Step.ss hU 0 b37 (0) 89 (nums .u64 (List.replicate 5 (0 : Int))) (nums .u64 zs34) (nums .u64 zs34) (ag .u64 zs34) 5 (by (simp only [List.length_append, nums_length, List.length_cons, List.length_nil, List.length_replicate]; omega)) (show Put _ 0 _ _ from Put.all (by simp only [List.length_append, nums_length, List.length_cons, List.length_nil, List.length_replicate] <;> omega)) ?_)
    refine RunR.nn ?_
    refine RunC.cut (fun t_ D_ => ∃ (b_ : Nat) (z_ : List Int), (El z_ (pw v 31)) ∧ (z_.length = 5) ∧ t_ = [(2, pt b2), (5, pt b37), (6, pt b_)] ∧ D_ = [blk b_ 89 (nums .u64 z_), blk b37 89 (nums .u64 zs34), blk b30 89 (nums .u64 zs31), blk b7 89 (nums .u64 zs4), blk b2 89 (nums .u64 (List.replicate 5 (0 : Int))), blk b1 89 (nums .u64 xs)]) ?_ ?_
    · skip
      refine RunC.regionU hU 6 [blk b37 89 (nums .u64 zs34), blk b30 89 (nums .u64 zs31)] [0, 1] [3, 5] (bm 6 0) (by kernel_rfl) (by kernel_rfl) (by kernel_rfl) ?_
      refine RunU.rd 0 (bm 6 1) 23 (.load 89 (.tmp 5)) (ag .u64 zs34) [0, 1] (Reads.load_blk hU 0 b37 (0) 89 (nums .u64 zs34) (ag .u64 zs34) (by kernel_rfl) (by kernel_rfl) (loadv_seg (n := 5) (by kernel_rfl) (by kernel_rfl) (Seg.all _) (by simp only [List.length_append, nums_length, List.length_cons, List.length_nil] <;> omega))) ?_
      refine RunU.rd 2 (bm 6 5) 25 (.load 89 (.tmp 4)) (ag .u64 zs31) [0, 1] (Reads.load_blk hU 1 b30 (0) 89 (nums .u64 zs31) (ag .u64 zs31) (by kernel_rfl) (by kernel_rfl) (loadv_seg (n := 5) (by kernel_rfl) (by kernel_rfl) (Seg.all _) (by simp only [List.length_append, nums_length, List.length_cons, List.length_nil] <;> omega))) ?_
      refine RunU.two (d1 := some 24) (o1 := .call { callee := .value (.func 91), args := #[.tmp 23], argTypes := #[89] }) (d2 := some 6) (o2 := .alloc 89) 1 4 (bm 6 7) (bm 6 21) [0, 1] [1, 2] (by kernel_rfl) (by kernel_rfl) (by kernel_rfl) (by kernel_rfl) (by kernel_rfl) ?_ ?_
      · skip
        refine (Step.cn 91 [ag .u64 zs34] [] [blk b37 89 (nums .u64 zs34), blk b30 89 (nums .u64 zs31), blk b7 89 (nums .u64 zs4), blk b2 89 (nums .u64 (List.replicate 5 (0 : Int))), blk b1 89 (nums .u64 xs)] (f_Square_spec zs34 (((pw v 9) * ((v * v) % P)) % P) (by assumption) (by assumption)) [] ?_)
        rintro _ _ ⟨zs39, rfl, rfl, hp40, hp41⟩
        refine orL ?_
        refine RunU.two (d1 := some 26) (o1 := .call { callee := .value (.func 75), args := #[.tmp 24, .tmp 25], argTypes := #[89, 89] }) (d2 := some 6) (o2 := .alloc 89) 3 4 (bm 6 15) (bm 6 23) [] [1, 2] (by kernel_rfl) (by kernel_rfl) (by kernel_rfl) (by kernel_rfl) (by kernel_rfl) ?_ ?_
        · skip
          refine (Step.cn 75 [ag .u64 zs39, ag .u64 zs31] [] [blk b37 89 (nums .u64 zs34), blk b30 89 (nums .u64 zs31), blk b7 89 (nums .u64 zs4), blk b2 89 (nums .u64 (List.replicate 5 (0 : Int))), blk b1 89 (nums .u64 xs)] (f_Mul_spec zs39 (((((pw v 9) * ((v * v) % P)) % P) * (((pw v 9) * ((v * v) % P)) % P)) % P) zs31 (pw v 9) (by assumption) (by assumption) (by assumption) (by assumption)) [] ?_)
          rintro _ _ ⟨zs42, rfl, rfl, hp43, hp44⟩
          refine orR ?_
          refine RunU.on (some 6) (.alloc 89) 4 (bm 6 31) [1, 2] (Step.al hU 5 40 z5 (fun b45 => ?_))
          have hl46 : (List.replicate 5 (0 : Int)).length = 5 := List.length_replicate
          refine orL ?_
          refine RunU.on none (.store 89 (.tmp 6) (.tmp 26)) 5 (bm 6 63) [] (Step.ss hU 0 b45 (0) 89 (nums .u64 (List.replicate 5 (0 : Int))) (nums .u64 zs42) (nums .u64 zs42) (ag .u64 zs42) 5 (by (simp only [List.length_append, nums_length, List.length_cons, List.length_nil, List.length_replicate]; omega)) (show Put _ 0 _ _ from Put.all (by simp only [List.length_append, nums_length, List.length_cons, List.length_nil, List.length_replicate] <;> omega)) ?_)
          refine orR ?_
          refine RunU.ev [2, 5, 6] [(2, pt b2), (5, pt b37), (6, pt b45)] ?_
          refine RunU.dn ?_
          exact kcut_n [2, 5, 6] [0, 0, 0, 0, 0, 0] [(2, pt b2), (5, pt b37), (6, pt b45)] [blk b45 89 (nums .u64 zs42), blk b37 89 (nums .u64 zs34), blk b30 89 (nums .u64 zs31), blk b7 89 (nums .u64 zs4), blk b2 89 (nums .u64 (List.replicate 5 (0 : Int))), blk b1 89 (nums .u64 xs)] (by kernel_rfl) (by kernel_rfl) ⟨b45, zs42, (by refine el_cast (by assumption) ?_; simp only [pw_sq, pw_pow, pw_mul, pw_by]; done), (by assumption), rfl, rfl⟩
        · skip
          refine (Step.al hU 5 40 z5 (fun b47 => ?_))
          have hl48 : (List.replicate 5 (0 : Int)).length = 5 := List.length_replicate
          refine orL ?_
          refine RunU.on (some 26) (.call { callee := .value (.func 75), args := #[.tmp 24, .tmp 25], argTypes := #[89, 89] }) 3 (bm 6 31) [] (Step.cn 75 [ag .u64 zs39, ag .u64 zs31] [] [blk b47 89 (nums .u64 (List.replicate 5 (0 : Int))), blk b37 89 (nums .u64 zs34), blk b30 89 (nums .u64 zs31), blk b7 89 (nums .u64 zs4), blk b2 89 (nums .u64 (List.replicate 5 (0 : Int))), blk b1 89 (nums .u64 xs)] (f_Mul_spec zs39 (((((pw v 9) * ((v * v) % P)) % P) * (((pw v 9) * ((v * v) % P)) % P)) % P) zs31 (pw v 9) (by assumption) (by assumption) (by assumption) (by assumption)) [] ?_)
          rintro _ _ ⟨zs49, rfl, rfl, hp50, hp51⟩
          refine orR ?_
          refine RunU.on none (.store 89 (.tmp 6) (.tmp 26)) 5 (bm 6 63) [] (Step.ss hU 0 b47 (0) 89 (nums .u64 (List.replicate 5 (0 : Int))) (nums .u64 zs49) (nums .u64 zs49) (ag .u64 zs49) 5 (by (simp only [List.length_append, nums_length, List.length_cons, List.length_nil, List.length_replicate]; omega)) (show Put _ 0 _ _ from Put.all (by simp only [List.length_append, nums_length, List.length_cons, List.length_nil, List.length_replicate] <;> omega)) ?_)
          refine orR ?_
          refine RunU.ev [2, 5, 6] [(2, pt b2), (5, pt b37), (6, pt b47)] ?_
          refine RunU.dn ?_
          exact kcut_n [2, 5, 6] [0, 0, 0, 0, 0, 0] [(2, pt b2), (5, pt b37), (6, pt b47)] [blk b47 89 (nums .u64 zs49), blk b37 89 (nums .u64 zs34), blk b30 89 (nums .u64 zs31), blk b7 89 (nums .u64 zs4), blk b2 89 (nums .u64 (List.replicate 5 (0 : Int))), blk b1 89 (nums .u64 xs)] (by kernel_rfl) (by kernel_rfl) ⟨b47, zs49, (by refine el_cast (by assumption) ?_; simp only [pw_sq, pw_pow, pw_mul, pw_by]; done), (by assumption), rfl, rfl⟩
      · skip
        refine (Step.al hU 5 40 z5 (fun b52 => ?_))
        have hl53 : (List.replicate 5 (0 : Int)).length = 5 := List.length_replicate
        refine orL ?_
        refine RunU.on (some 24) (.call { callee := .value (.func 91), args := #[.tmp 23], argTypes := #[89] }) 1 (bm 6 23) [1, 2] (Step.cn 91 [ag .u64 zs34] [] [blk b52 89 (nums .u64 (List.replicate 5 (0 : Int))), blk b37 89 (nums .u64 zs34), blk b30 89 (nums .u64 zs31), blk b7 89 (nums .u64 zs4), blk b2 89 (nums .u64 (List.replicate 5 (0 : Int))), blk b1 89 (nums .u64 xs)] (f_Square_spec zs34 (((pw v 9) * ((v * v) % P)) % P) (by assumption) (by assumption)) [] ?_)
        rintro _ _ ⟨zs54, rfl, rfl, hp55, hp56⟩
        refine orL ?_
        refine RunU.on (some 26) (.call { callee := .value (.func 75), args := #[.tmp 24, .tmp 25], argTypes := #[89, 89] }) 3 (bm 6 31) [] (Step.cn 75 [ag .u64 zs54, ag .u64 zs31] [] [blk b52 89 (nums .u64 (List.replicate 5 (0 : Int))), blk b37 89 (nums .u64 zs34), blk b30 89 (nums .u64 zs31), blk b7 89 (nums .u64 zs4), blk b2 89 (nums .u64 (List.replicate 5 (0 : Int))), blk b1 89 (nums .u64 xs)] (f_Mul_spec zs54 (((((pw v 9) * ((v * v) % P)) % P) * (((pw v 9) * ((v * v) % P)) % P)) % P) zs31 (pw v 9) (by assumption) (by assumption) (by assumption) (by assumption)) [] ?_)
        rintro _ _ ⟨zs57, rfl, rfl, hp58, hp59⟩
        refine orR ?_
        refine RunU.on none (.store 89 (.tmp 6) (.tmp 26)) 5 (bm 6 63) [] (Step.ss hU 0 b52 (0) 89 (nums .u64 (List.replicate 5 (0 : Int))) (nums .u64 zs57) (nums .u64 zs57) (ag .u64 zs57) 5 (by (simp only [List.length_append, nums_length, List.length_cons, List.length_nil, List.length_replicate]; omega)) (show Put _ 0 _ _ from Put.all (by simp only [List.length_append, nums_length, List.length_cons, List.length_nil, List.length_replicate] <;> omega)) ?_)
        refine orR ?_
        refine RunU.ev [2, 5, 6] [(2, pt b2), (5, pt b37), (6, pt b52)] ?_
        refine RunU.dn ?_
        exact kcut_n [2, 5, 6] [0, 0, 0, 0, 0, 0] [(2, pt b2), (5, pt b37), (6, pt b52)] [blk b52 89 (nums .u64 zs57), blk b37 89 (nums .u64 zs34), blk b30 89 (nums .u64 zs31), blk b7 89 (nums .u64 zs4), blk b2 89 (nums .u64 (List.replicate 5 (0 : Int))), blk b1 89 (nums .u64 xs)] (by kernel_rfl) (by kernel_rfl) ⟨b52, zs57, (by refine el_cast (by assumption) ?_; simp only [pw_sq, pw_pow, pw_mul, pw_by]; done), (by assumption), rfl, rfl⟩
    · rintro _ _ ⟨b60, zs61, hp62, hp63, rfl, rfl⟩
      refine RunC.cut (fun t_ D_ => ∃ (b_ : Nat) (z_ : List Int), (El z_ (pw v 1023)) ∧ (z_.length = 5) ∧ t_ = [(2, pt b2), (5, pt b37), (7, pt b_)] ∧ D_ = [blk b_ 89 (nums .u64 z_), blk b60 89 (nums .u64 zs61), blk b37 89 (nums .u64 zs34), blk b30 89 (nums .u64 zs31), blk b7 89 (nums .u64 zs4), blk b2 89 (nums .u64 (List.replicate 5 (0 : Int))), blk b1 89 (nums .u64 xs)]) ?_ ?_
      · skip
        refine RunC.regionU hU 6 [blk b60 89 (nums .u64 zs61)] [0] [3, 5] (bm 6 0) (by kernel_rfl) (by kernel_rfl) (by kernel_rfl) ?_
        refine RunU.rd 0 (bm 6 1) 27 (.load 89 (.tmp 6)) (ag .u64 zs61) [0] (Reads.load_blk hU 0 b60 (0) 89 (nums .u64 zs61) (ag .u64 zs61) (by kernel_rfl) (by kernel_rfl) (loadv_seg (n := 5) (by kernel_rfl) (by kernel_rfl) (Seg.all _) (by simp only [List.length_append, nums_length, List.length_cons, List.length_nil] <;> omega))) ?_
        refine RunU.rd 2 (bm 6 5) 29 (.load 89 (.tmp 6)) (ag .u64 zs61) [0] (Reads.load_blk hU 0 b60 (0) 89 (nums .u64 zs61) (ag .u64 zs61) (by kernel_rfl) (by kernel_rfl) (loadv_seg (n := 5) (by kernel_rfl) (by kernel_rfl) (Seg.all _) (by simp only [List.length_append, nums_length, List.length_cons, List.length_nil] <;> omega))) ?_
        refine RunU.two (d1 := some 28) (o1 := .call { callee := .value (.func 97), args := #[.tmp 27, .const (.int .i64 5)], argTypes := #[89, 3] }) (d2 := some 7) (o2 := .alloc 89) 1 4 (bm 6 7) (bm 6 21) [0] [1] (by kernel_rfl) (by kernel_rfl) (by kernel_rfl) (by kernel_rfl) (by kernel_rfl) ?_ ?_
        · skip
          refine (Step.cn 97 [ag .u64 zs61, .int .i64 5] [] [blk b60 89 (nums .u64 zs61), blk b37 89 (nums .u64 zs34), blk b30 89 (nums .u64 zs31), blk b7 89 (nums .u64 zs4), blk b2 89 (nums .u64 (List.replicate 5 (0 : Int))), blk b1 89 (nums .u64 xs)] (f_squares_spec zs61 (pw v 31) 5 (by assumption) (by assumption) (by omega) (by omega)) [] ?_)
          rintro _ _ ⟨zs64, rfl, rfl, hp65, hp66⟩
          refine orL ?_
          refine RunU.two (d1 := some 30) (o1 := .call { callee := .value (.func 75), args := #[.tmp 28, .tmp 29], argTypes := #[89, 89] }) (d2 := some 7) (o2 := .alloc 89) 3 4 (bm 6 15) (bm 6 23) [] [1] (by kernel_rfl) (by kernel_rfl) (by kernel_rfl) (by kernel_rfl) (by kernel_rfl) ?_ ?_
          · skip
            refine (Step.cn 75 [ag .u64 zs64, ag .u64 zs61] [] [blk b60 89 (nums .u64 zs61), blk b37 89 (nums .u64 zs34), blk b30 89 (nums .u64 zs31), blk b7 89 (nums .u64 zs4), blk b2 89 (nums .u64 (List.replicate 5 (0 : Int))), blk b1 89 (nums .u64 xs)] (f_Mul_spec zs64 (pw (pw v 31) (2 ^ (5 : Int).toNat)) zs61 (pw v 31) (by assumption) (by assumption) (by assumption) (by assumption)) [] ?_)
            rintro _ _ ⟨zs67, rfl, rfl, hp68, hp69⟩
            refine orR ?_
            refine RunU.on (some 7) (.alloc 89) 4 (bm 6 31) [1] (Step.al hU 5 40 z5 (fun b70 => ?_))
            have hl71 : (List.replicate 5 (0 : Int)).length = 5 := List.length_replicate
            refine orL ?_
            refine RunU.on none (.store 89 (.tmp 7) (.tmp 30)) 5 (bm 6 63) [] (Step.ss hU 0 b70 (0) 89 (nums .u64 (List.replicate 5 (0 : Int))) (nums .u64 zs67) (nums .u64 zs67) (ag .u64 zs67) 5 (by (simp only [List.length_append, nums_length, List.length_cons, List.length_nil, List.length_replicate]; omega)) (show Put _ 0 _ _ from Put.all (by simp only [List.length_append, nums_length, List.length_cons, List.length_nil, List.length_replicate] <;> omega)) ?_)
            refine orR ?_
            refine RunU.ev [2, 5, 7] [(2, pt b2), (5, pt b37), (7, pt b70)] ?_
            refine RunU.dn ?_
            exact kcut_n [2, 5, 7] [0, 0, 0, 0, 0, 0, 0] [(2, pt b2), (5, pt b37), (7, pt b70)] [blk b70 89 (nums .u64 zs67), blk b60 89 (nums .u64 zs61), blk b37 89 (nums .u64 zs34), blk b30 89 (nums .u64 zs31), blk b7 89 (nums .u64 zs4), blk b2 89 (nums .u64 (List.replicate 5 (0 : Int))), blk b1 89 (nums .u64 xs)] (by kernel_rfl) (by kernel_rfl) ⟨b70, zs67, (by refine el_cast (by assumption) ?_; simp only [pw_sq, pw_pow, pw_mul, pw_by]; (refine congrArg (pw v) ?_; decide +kernel)), (by assumption), rfl, rfl⟩
          · skip
            refine (Step.al hU 5 40 z5 (fun b72 => ?_))
            have hl73 : (List.replicate 5 (0 : Int)).length = 5 := List.length_replicate
            refine orL ?_
            refine RunU.on (some 30) (.call { callee := .value (.func 75), args := #[.tmp 28, .tmp 29], argTypes := #[89, 89] }) 3 (bm 6 31) [] (Step.cn 75 [ag .u64 zs64, ag .u64 zs61] [] [blk b72 89 (nums .u64 (List.replicate 5 (0 : Int))), blk b60 89 (nums .u64 zs61), blk b37 89 (nums .u64 zs34), blk b30 89 (nums .u64 zs31), blk b7 89 (nums .u64 zs4), blk b2 89 (nums .u64 (List.replicate 5 (0 : Int))), blk b1 89 (nums .u64 xs)] (f_Mul_spec zs64 (pw (pw v 31) (2 ^ (5 : Int).toNat)) zs61 (pw v 31) (by assumption) (by assumption) (by assumption) (by assumption)) [] ?_)
            rintro _ _ ⟨zs74, rfl, rfl, hp75, hp76⟩
            refine orR ?_
            refine RunU.on none (.store 89 (.tmp 7) (.tmp 30)) 5 (bm 6 63) [] (Step.ss hU 0 b72 (0) 89 (nums .u64 (List.replicate 5 (0 : Int))) (nums .u64 zs74) (nums .u64 zs74) (ag .u64 zs74) 5 (by (simp only [List.length_append, nums_length, List.length_cons, List.length_nil, List.length_replicate]; omega)) (show Put _ 0 _ _ from Put.all (by simp only [List.length_append, nums_length, List.length_cons, List.length_nil, List.length_replicate] <;> omega)) ?_)
            refine orR ?_
            refine RunU.ev [2, 5, 7] [(2, pt b2), (5, pt b37), (7, pt b72)] ?_
            refine RunU.dn ?_
            exact kcut_n [2, 5, 7] [0, 0, 0, 0, 0, 0, 0] [(2, pt b2), (5, pt b37), (7, pt b72)] [blk b72 89 (nums .u64 zs74), blk b60 89 (nums .u64 zs61), blk b37 89 (nums .u64 zs34), blk b30 89 (nums .u64 zs31), blk b7 89 (nums .u64 zs4), blk b2 89 (nums .u64 (List.replicate 5 (0 : Int))), blk b1 89 (nums .u64 xs)] (by kernel_rfl) (by kernel_rfl) ⟨b72, zs74, (by refine el_cast (by assumption) ?_; simp only [pw_sq, pw_pow, pw_mul, pw_by]; (refine congrArg (pw v) ?_; decide +kernel)), (by assumption), rfl, rfl⟩
        · skip
          refine (Step.al hU 5 40 z5 (fun b77 => ?_))
          have hl78 : (List.replicate 5 (0 : Int)).length = 5 := List.length_replicate
          refine orL ?_
          refine RunU.on (some 28) (.call { callee := .value (.func 97), args := #[.tmp 27, .const (.int .i64 5)], argTypes := #[89, 3] }) 1 (bm 6 23) [1] (Step.cn 97 [ag .u64 zs61, .int .i64 5] [] [blk b77 89 (nums .u64 (List.replicate 5 (0 : Int))), blk b60 89 (nums .u64 zs61), blk b37 89 (nums .u64 zs34), blk b30 89 (nums .u64 zs31), blk b7 89 (nums .u64 zs4), blk b2 89 (nums .u64 (List.replicate 5 (0 : Int))), blk b1 89 (nums .u64 xs)] (f_squares_spec zs61 (pw v 31) 5 (by assumption) (by assumption) (by omega) (by omega)) [] ?_)
          rintro _ _ ⟨zs79, rfl, rfl, hp80, hp81⟩
          refine orL ?_
          refine RunU.on (some 30) (.call { callee := .value (.func 75), args := #[.tmp 28, .tmp 29], argTypes := #[89, 89] }) 3 (bm 6 31) [] (Step.cn 75 [ag .u64 zs79, ag .u64 zs61] [] [blk b77 89 (nums .u64 (List.replicate 5 (0 : Int))), blk b60 89 (nums .u64 zs61), blk b37 89 (nums .u64 zs34), blk b30 89 (nums .u64 zs31), blk b7 89 (nums .u64 zs4), blk b2 89 (nums .u64 (List.replicate 5 (0 : Int))), blk b1 89 (nums .u64 xs)] (f_Mul_spec zs79 (pw (pw v 31) (2 ^ (5 : Int).toNat)) zs61 (pw v 31) (by assumption) (by assumption) (by assumption) (by assumption)) [] ?_)
          rintro _ _ ⟨zs82, rfl, rfl, hp83, hp84⟩
          refine orR ?_
          refine RunU.on none (.store 89 (.tmp 7) (.tmp 30)) 5 (bm 6 63) [] (Step.ss hU 0 b77 (0) 89 (nums .u64 (List.replicate 5 (0 : Int))) (nums .u64 zs82) (nums .u64 zs82) (ag .u64 zs82) 5 (by (simp only [List.length_append, nums_length, List.length_cons, List.length_nil, List.length_replicate]; omega)) (show Put _ 0 _ _ from Put.all (by simp only [List.length_append, nums_length, List.length_cons, List.length_nil, List.length_replicate] <;> omega)) ?_)
          refine orR ?_
          refine RunU.ev [2, 5, 7] [(2, pt b2), (5, pt b37), (7, pt b77)] ?_
          refine RunU.dn ?_
          exact kcut_n [2, 5, 7] [0, 0, 0, 0, 0, 0, 0] [(2, pt b2), (5, pt b37), (7, pt b77)] [blk b77 89 (nums .u64 zs82), blk b60 89 (nums .u64 zs61), blk b37 89 (nums .u64 zs34), blk b30 89 (nums .u64 zs31), blk b7 89 (nums .u64 zs4), blk b2 89 (nums .u64 (List.replicate 5 (0 : Int))), blk b1 89 (nums .u64 xs)] (by kernel_rfl) (by kernel_rfl) ⟨b77, zs82, (by refine el_cast (by assumption) ?_; simp only [pw_sq, pw_pow, pw_mul, pw_by]; (refine congrArg (pw v) ?_; decide +kernel)), (by assumption), rfl, rfl⟩
      · rintro _ _ ⟨b85, zs86, hp87, hp88, rfl, rfl⟩
        refine RunC.cut (fun t_ D_ => ∃ (b_ : Nat) (z_ : List Int), (El z_ (pw v 1048575)) ∧ (z_.length = 5) ∧ t_ = [(2, pt b2), (5, pt b37), (7, pt b85), (8, pt b_)] ∧ D_ = [blk b_ 89 (nums .u64 z_), blk b85 89 (nums .u64 zs86), blk b60 89 (nums .u64 zs61), blk b37 89 (nums .u64 zs34), blk b30 89 (nums .u64 zs31), blk b7 89 (nums .u64 zs4), blk b2 89 (nums .u64 (List.replicate 5 (0 : Int))), blk b1 89 (nums .u64 xs)]) ?_ ?_
        · skip
          refine RunC.regionU hU 6 [blk b85 89 (nums .u64 zs86)] [0] [3, 5] (bm 6 0) (by kernel_rfl) (by kernel_rfl) (by kernel_rfl) ?_
          refine RunU.rd 0 (bm 6 1) 31 (.load 89 (.tmp 7)) (ag .u64 zs86) [0] (Reads.load_blk hU 0 b85 (0) 89 (nums .u64 zs86) (ag .u64 zs86) (by kernel_rfl) (by kernel_rfl) (loadv_seg (n := 5) (by kernel_rfl) (by kernel_rfl) (Seg.all _) (by simp only [List.length_append, nums_length, List.length_cons, List.length_nil] <;> omega))) ?_
          refine RunU.rd 2 (bm 6 5) 33 (.load 89 (.tmp 7)) (ag .u64 zs86) [0] (Reads.load_blk hU 0 b85 (0) 89 (nums .u64 zs86) (ag .u64 zs86) (by kernel_rfl) (by kernel_rfl) (loadv_seg (n := 5) (by kernel_rfl) (by kernel_rfl) (Seg.all _) (by simp only [List.length_append, nums_length, List.length_cons, List.length_nil] <;> omega))) ?_
          refine RunU.two (d1 := some 32) (o1 := .call { callee := .value (.func 97), args := #[.tmp 31, .const (.int .i64 10)], argTypes := #[89, 3] }) (d2 := some 8) (o2 := .alloc 89) 1 4 (bm 6 7) (bm 6 21) [0] [1] (by kernel_rfl) (by kernel_rfl) (by kernel_rfl) (by kernel_rfl) (by kernel_rfl) ?_ ?_
          · skip
            refine (Step.cn 97 [ag .u64 zs86, .int .i64 10] [] [blk b85 89 (nums .u64 zs86), blk b60 89 (nums .u64 zs61), blk b37 89 (nums .u64 zs34), blk b30 89 (nums .u64 zs31), blk b7 89 (nums .u64 zs4), blk b2 89 (nums .u64 (List.replicate 5 (0 : Int))), blk b1 89 (nums .u64 xs)] (f_squares_spec zs86 (pw v 1023) 10 (by assumption) (by assumption) (by omega) (by omega)) [] ?_)
            rintro _ _ ⟨zs89, rfl, rfl, hp90, hp91⟩
            refine orL ?_
            refine RunU.two (d1 := some 34) (o1 := .call { callee := .value (.func 75), args := #[.tmp 32, .tmp 33], argTypes := #[89, 89] }) (d2 := some 8) (o2 := .alloc 89) 3 4 (bm 6 15) (bm 6 23) [] [1] (by kernel_rfl) (by kernel_rfl) (by kernel_rfl) (by kernel_rfl) (by kernel_rfl) ?_ ?_
            · skip
              refine (Step.cn 75 [ag .u64 zs89, ag .u64 zs86] [] [blk b85 89 (nums .u64 zs86), blk b60 89 (nums .u64 zs61), blk b37 89 (nums .u64 zs34), blk b30 89 (nums .u64 zs31), blk b7 89 (nums .u64 zs4), blk b2 89 (nums .u64 (List.replicate 5 (0 : Int))), blk b1 89 (nums .u64 xs)] (f_Mul_spec zs89 (pw (pw v 1023) (2 ^ (10 : Int).toNat)) zs86 (pw v 1023) (by assumption) (by assumption) (by assumption) (by assumption)) [] ?_)
              rintro _ _ ⟨zs92, rfl, rfl, hp93, hp94⟩
              refine orR ?_
              refine RunU.on (some 8) (.alloc 89) 4 (bm 6 31) [1] (Step.al hU 5 40 z5 (fun b95 => ?_))
              have hl96 : (List.replicate 5 (0 : Int)).length = 5 := List.length_replicate
              refine orL ?_
              refine RunU.on none (.store 89 (.tmp 8) (.tmp 34)) 5 (bm 6 63) [] (Step.ss hU 0 b95 (0) 89 (nums .u64 (List.replicate 5 (0 : Int))) (nums .u64 zs92) (nums .u64 zs92) (ag .u64 zs92) 5 (by (simp only [List.length_append, nums_length, List.length_cons, List.length_nil, List.length_replicate]; omega)) (show Put _ 0 _ _ from Put.all (by simp only [List.length_append, nums_length, List.length_cons, List.length_nil, List.length_replicate] <;> omega)) ?_)
              refine orR ?_
              refine RunU.ev [2, 5, 7, 8] [(2, pt b2), (5, pt b37), (7, pt b85), (8, pt b95)] ?_
              refine RunU.dn ?_
              exact kcut_n [2, 5, 7, 8] [0, 0, 0, 0, 0, 0, 0, 0] [(2, pt b2), (5, pt b37), (7, pt b85), (8, pt b95)] [blk b95 89 (nums .u64 zs92), blk b85 89 (nums .u64 zs86), blk b60 89 (nums .u64 zs61), blk b37 89 (nums .u64 zs34), blk b30 89 (nums .u64 zs31), blk b7 89 (nums .u64 zs4), blk b2 89 (nums .u64 (List.replicate 5 (0 : Int))), blk b1 89 (nums .u64 xs)] (by kernel_rfl) (by kernel_rfl) ⟨b95, zs92, (by refine el_cast (by assumption) ?_; simp only [pw_sq, pw_pow, pw_mul, pw_by]; (refine congrArg (pw v) ?_; decide +kernel)), (by assumption), rfl, rfl⟩
            · skip
              refine (Step.al hU 5 40 z5 (fun b97 => ?_))
              have hl98 : (List.replicate 5 (0 : Int)).length = 5 := List.length_replicate
              refine orL ?_
              refine RunU.on (some 34) (.call { callee := .value (.func 75), args := #[.tmp 32, .tmp 33], argTypes := #[89, 89] }) 3 (bm 6 31) [] (Step.cn 75 [ag .u64 zs89, ag .u64 zs86] [] [blk b97 89 (nums .u64 (List.replicate 5 (0 : Int))), blk b85 89 (nums .u64 zs86), blk b60 89 (nums .u64 zs61), blk b37 89 (nums .u64 zs34), blk b30 89 (nums .u64 zs31), blk b7 89 (nums .u64 zs4), blk b2 89 (nums .u64 (List.replicate 5 (0 : Int))), blk b1 89 (nums .u64 xs)] (f_Mul_spec zs89 (pw (pw v 1023) (2 ^ (10 : Int).toNat)) zs86 (pw v 1023) (by assumption) (by assumption) (by assumption) (by assumption)) [] ?_)
              rintro _ _ ⟨zs99, rfl, rfl, hp100, hp101⟩
              refine orR ?_
              refine RunU.on none (.store 89 (.tmp 8) (.tmp 34)) 5 (bm 6 63) [] (Step.ss hU 0 b97 (0) 89 (nums .u64 (List.replicate 5 (0 : Int))) (nums .u64 zs99) (nums .u64 zs99) (ag .u64 zs99) 5 (by (simp only [List.length_append, nums_length, List.length_cons, List.length_nil, List.length_replicate]; omega)) (show Put _ 0 _ _ from Put.all (by simp only [List.length_append, nums_length, List.length_cons, List.length_nil, List.length_replicate] <;> omega)) ?_)
              refine orR ?_
              refine RunU.ev [2, 5, 7, 8] [(2, pt b2), (5, pt b37), (7, pt b85), (8, pt b97)] ?_
              refine RunU.dn ?_
              exact kcut_n [2, 5, 7, 8] [0, 0, 0, 0, 0, 0, 0, 0] [(2, pt b2), (5, pt b37), (7, pt b85), (8, pt b97)] [blk b97 89 (nums .u64 zs99), blk b85 89 (nums .u64 zs86), blk b60 89 (nums .u64 zs61), blk b37 89 (nums .u64 zs34), blk b30 89 (nums .u64 zs31), blk b7 89 (nums .u64 zs4), blk b2 89 (nums .u64 (List.replicate 5 (0 : Int))), blk b1 89 (nums .u64 xs)] (by kernel_rfl) (by kernel_rfl) ⟨b97, zs99, (by refine el_cast (by assumption) ?_; simp only [pw_sq, pw_pow, pw_mul, pw_by]; (refine congrArg (pw v) ?_; decide +kernel)), (by assumption), rfl, rfl⟩
          · skip
            refine (Step.al hU 5 40 z5 (fun b102 => ?_))
            have hl103 : (List.replicate 5 (0 : Int)).length = 5 := List.length_replicate
            refine orL ?_
            refine RunU.on (some 32) (.call { callee := .value (.func 97), args := #[.tmp 31, .const (.int .i64 10)], argTypes := #[89, 3] }) 1 (bm 6 23) [1] (Step.cn 97 [ag .u64 zs86, .int .i64 10] [] [blk b102 89 (nums .u64 (List.replicate 5 (0 : Int))), blk b85 89 (nums .u64 zs86), blk b60 89 (nums .u64 zs61), blk b37 89 (nums .u64 zs34), blk b30 89 (nums .u64 zs31), blk b7 89 (nums .u64 zs4), blk b2 89 (nums .u64 (List.replicate 5 (0 : Int))), blk b1 89 (nums .u64 xs)] (f_squares_spec zs86 (pw v 1023) 10 (by assumption) (by assumption) (by omega) (by omega)) [] ?_)
            rintro _ _ ⟨zs104, rfl, rfl, hp105, hp106⟩
            refine orL ?_
            refine RunU.on (some 34) (.call { callee := .value (.func 75), args := #[.tmp 32, .tmp 33], argTypes := #[89, 89] }) 3 (bm 6 31) [] (Step.cn 75 [ag .u64 zs104, ag .u64 zs86] [] [blk b102 89 (nums .u64 (List.replicate 5 (0 : Int))), blk b85 89 (nums .u64 zs86), blk b60 89 (nums .u64 zs61), blk b37 89 (nums .u64 zs34), blk b30 89 (nums .u64 zs31), blk b7 89 (nums .u64 zs4), blk b2 89 (nums .u64 (List.replicate 5 (0 : Int))), blk b1 89 (nums .u64 xs)] (f_Mul_spec zs104 (pw (pw v 1023) (2 ^ (10 : Int).toNat)) zs86 (pw v 1023) (by assumption) (by assumption) (by assumption) (by assumption)) [] ?_)
            rintro _ _ ⟨zs107, rfl, rfl, hp108, hp109⟩
            refine orR ?_
            refine RunU.on none (.store 89 (.tmp 8) (.tmp 34)) 5 (bm 6 63) [] (Step.ss hU 0 b102 (0) 89 (nums .u64 (List.replicate 5 (0 : Int))) (nums .u64 zs107) (nums .u64 zs107) (ag .u64 zs107) 5 (by (simp only [List.length_append, nums_length, List.length_cons, List.length_nil, List.length_replicate]; omega)) (show Put _ 0 _ _ from Put.all (by simp only [List.length_append, nums_length, List.length_cons, List.length_nil, List.length_replicate] <;> omega)) ?_)
            refine orR ?_
            refine RunU.ev [2, 5, 7, 8] [(2, pt b2), (5, pt b37), (7, pt b85), (8, pt b102)] ?_
            refine RunU.dn ?_
            exact kcut_n [2, 5, 7, 8] [0, 0, 0, 0, 0, 0, 0, 0] [(2, pt b2), (5, pt b37), (7, pt b85), (8, pt b102)] [blk b102 89 (nums .u64 zs107), blk b85 89 (nums .u64 zs86), blk b60 89 (nums .u64 zs61), blk b37 89 (nums .u64 zs34), blk b30 89 (nums .u64 zs31), blk b7 89 (nums .u64 zs4), blk b2 89 (nums .u64 (List.replicate 5 (0 : Int))), blk b1 89 (nums .u64 xs)] (by kernel_rfl) (by kernel_rfl) ⟨b102, zs107, (by refine el_cast (by assumption) ?_; simp only [pw_sq, pw_pow, pw_mul, pw_by]; (refine congrArg (pw v) ?_; decide +kernel)), (by assumption), rfl, rfl⟩
        · rintro _ _ ⟨b110, zs111, hp112, hp113, rfl, rfl⟩
          refine RunC.cut (fun t_ D_ => ∃ (b_ : Nat) (z_ : List Int), (El z_ (pw v 1099511627775)) ∧ (z_.length = 5) ∧ t_ = [(2, pt b2), (5, pt b37), (7, pt b85), (9, pt b_)] ∧ D_ = [blk b_ 89 (nums .u64 z_), blk b110 89 (nums .u64 zs111), blk b85 89 (nums .u64 zs86), blk b60 89 (nums .u64 zs61), blk b37 89 (nums .u64 zs34), blk b30 89 (nums .u64 zs31), blk b7 89 (nums .u64 zs4), blk b2 89 (nums .u64 (List.replicate 5 (0 : Int))), blk b1 89 (nums .u64 xs)]) ?_ ?_
          · skip
            refine RunC.regionU hU 6 [blk b110 89 (nums .u64 zs111)] [0] [3, 5] (bm 6 0) (by kernel_rfl) (by kernel_rfl) (by kernel_rfl) ?_
            refine RunU.rd 0 (bm 6 1) 35 (.load 89 (.tmp 8)) (ag .u64 zs111) [0] (Reads.load_blk hU 0 b110 (0) 89 (nums .u64 zs111) (ag .u64 zs111) (by kernel_rfl) (by kernel_rfl) (loadv_seg (n := 5) (by kernel_rfl) (by kernel_rfl) (Seg.all _) (by simp only [List.length_append, nums_length, List.length_cons, List.length_nil] <;> omega))) ?_
            refine RunU.rd 2 (bm 6 5) 37 (.load 89 (.tmp 8)) (ag .u64 zs111) [0] (Reads.load_blk hU 0 b110 (0) 89 (nums .u64 zs111) (ag .u64 zs111) (by kernel_rfl) (by kernel_rfl) (loadv_seg (n := 5) (by kernel_rfl) (by kernel_rfl) (Seg.all _) (by simp only [List.length_append, nums_length, List.length_cons, List.length_nil] <;> omega))) ?_
            refine RunU.two (d1 := some 36) (o1 := .call { callee := .value (.func 97), args := #[.tmp 35, .const (.int .i64 20)], argTypes := #[89, 3] }) (d2 := some 9) (o2 := .alloc 89) 1 4 (bm 6 7) (bm 6 21) [0] [1] (by kernel_rfl) (by kernel_rfl) (by kernel_rfl) (by kernel_rfl) (by kernel_rfl) ?_ ?_
            · skip
              refine (Step.cn 97 [ag .u64 zs111, .int .i64 20] [] [blk b110 89 (nums .u64 zs111), blk b85 89 (nums .u64 zs86), blk b60 89 (nums .u64 zs61), blk b37 89 (nums .u64 zs34), blk b30 89 (nums .u64 zs31), blk b7 89 (nums .u64 zs4), blk b2 89 (nums .u64 (List.replicate 5 (0 : Int))), blk b1 89 (nums .u64 xs)] (f_squares_spec zs111 (pw v 1048575) 20 (by assumption) (by assumption) (by omega) (by omega)) [] ?_)
              rintro _ _ ⟨zs114, rfl, rfl, hp115, hp116⟩
              refine orL ?_
              refine RunU.two (d1 := some 38) (o1 := .call { callee := .value (.func 75), args := #[.tmp 36, .tmp 37], argTypes := #[89, 89] }) (d2 := some 9) (o2 := .alloc 89) 3 4 (bm 6 15) (bm 6 23) [] [1] (by kernel_rfl) (by kernel_rfl) (by kernel_rfl) (by kernel_rfl) (by kernel_rfl) ?_ ?_
              · skip
                refine (Step.cn 75 [ag .u64 zs114, ag .u64 zs111] [] [blk b110 89 (nums .u64 zs111), blk b85 89 (nums .u64 zs86), blk b60 89 (nums .u64 zs61), blk b37 89 (nums .u64 zs34), blk b30 89 (nums .u64 zs31), blk b7 89 (nums .u64 zs4), blk b2 89 (nums .u64 (List.replicate 5 (0 : Int))), blk b1 89 (nums .u64 xs)] (f_Mul_spec zs114 (pw (pw v 1048575) (2 ^ (20 : Int).toNat)) zs111 (pw v 1048575) (by assumption) (by assumption) (by assumption) (by assumption)) [] ?_)
                rintro _ _ ⟨zs117, rfl, rfl, hp118, hp119⟩
                refine orR ?_
                refine RunU.on (some 9) (.alloc 89) 4 (bm 6 31) [1] (Step.al hU 5 40 z5 (fun b120 => ?_))
                have hl121 : (List.replicate 5 (0 : Int)).length = 5 := List.length_replicate
                refine orL ?_
                refine RunU.on none (.store 89 (.tmp 9) (.tmp 38)) 5 (bm 6 63) [] (Step.ss hU 0 b120 (0) 89 (nums .u64 (List.replicate 5 (0 : Int))) (nums .u64 zs117) (nums .u64 zs117) (ag .u64 zs117) 5 (by (simp only [List.length_append, nums_length, List.length_cons, List.length_nil, List.length_replicate]; omega)) (show Put _ 0 _ _ from Put.all (by simp only [List.length_append, nums_length, List.length_cons, List.length_nil, List.length_replicate] <;> omega)) ?_)
                refine orR ?_
                refine RunU.ev [2, 5, 7, 9] [(2, pt b2), (5, pt b37), (7, pt b85), (9, pt b120)] ?_
                refine RunU.dn ?_
                exact kcut_n [2, 5, 7, 9] [0, 0, 0, 0, 0, 0, 0, 0, 0] [(2, pt b2), (5, pt b37), (7, pt b85), (9, pt b120)] [blk b120 89 (nums .u64 zs117), blk b110 89 (nums .u64 zs111), blk b85 89 (nums .u64 zs86), blk b60 89 (nums .u64 zs61), blk b37 89 (nums .u64 zs34), blk b30 89 (nums .u64 zs31), blk b7 89 (nums .u64 zs4), blk b2 89 (nums .u64 (List.replicate 5 (0 : Int))), blk b1 89 (nums .u64 xs)] (by kernel_rfl) (by kernel_rfl) ⟨b120, zs117, (by refine el_cast (by assumption) ?_; simp only [pw_sq, pw_pow, pw_mul, pw_by]; (refine congrArg (pw v) ?_; decide +kernel)), (by assumption), rfl, rfl⟩
              · skip
                refine (Step.al hU 5 40 z5 (fun b122 => ?_))
                have hl123 : (List.replicate 5 (0 : Int)).length = 5 := List.length_replicate
                refine orL ?_
                refine RunU.on (some 38) (.call { callee := .value (.func 75), args := #[.tmp 36, .tmp 37], argTypes := #[89, 89] }) 3 (bm 6 31) [] (Step.cn 75 [ag .u64 zs114, ag .u64 zs111] [] [blk b122 89 (nums .u64 (List.replicate 5 (0 : Int))), blk b110 89 (nums .u64 zs111), blk b85 89 (nums .u64 zs86), blk b60 89 (nums .u64 zs61), blk b37 89 (nums .u64 zs34), blk b30 89 (nums .u64 zs31), blk b7 89 (nums .u64 zs4), blk b2 89 (nums .u64 (List.replicate 5 (0 : Int))), blk b1 89 (nums .u64 xs)] (f_Mul_spec zs114 (pw (pw v 1048575) (2 ^ (20 : Int).toNat)) zs111 (pw v 1048575) (by assumption) (by assumption) (by assumption) (by assumption)) [] ?_)
                rintro _ _ ⟨zs124, rfl, rfl, hp125, hp126⟩
                refine orR ?_
                refine RunU.on none (.store 89 (.tmp 9) (.tmp 38)) 5 (bm 6 63) [] (Step.ss hU 0 b122 (0) 89 (nums .u64 (List.replicate 5 (0 : Int))) (nums .u64 zs124) (nums .u64 zs124) (ag .u64 zs124) 5 (by (simp only [List.length_append, nums_length, List.length_cons, List.length_nil, List.length_replicate]; omega)) (show Put _ 0 _ _ from Put.all (by simp only [List.length_append, nums_length, List.length_cons, List.length_nil, List.length_replicate] <;> omega)) ?_)
                refine orR ?_
                refine RunU.ev [2, 5, 7, 9] [(2, pt b2), (5, pt b37), (7, pt b85), (9, pt b122)] ?_
                refine RunU.dn ?_
                exact kcut_n [2, 5, 7, 9] [0, 0, 0, 0, 0, 0, 0, 0, 0] [(2, pt b2), (5, pt b37), (7, pt b85), (9, pt b122)] [blk b122 89 (nums .u64 zs124), blk b110 89 (nums .u64 zs111), blk b85 89 (nums .u64 zs86), blk b60 89 (nums .u64 zs61), blk b37 89 (nums .u64 zs34), blk b30 89 (nums .u64 zs31), blk b7 89 (nums .u64 zs4), blk b2 89 (nums .u64 (List.replicate 5 (0 : Int))), blk b1 89 (nums .u64 xs)] (by kernel_rfl) (by kernel_rfl) ⟨b122, zs124, (by refine el_cast (by assumption) ?_; simp only [pw_sq, pw_pow, pw_mul, pw_by]; (refine congrArg (pw v) ?_; decide +kernel)), (by assumption), rfl, rfl⟩
            · skip
              refine (Step.al hU 5 40 z5 (fun b127 => ?_))
              have hl128 : (List.replicate 5 (0 : Int)).length = 5 := List.length_replicate
              refine orL ?_
              refine RunU.on (some 36) (.call { callee := .value (.func 97), args := #[.tmp 35, .const (.int .i64 20)], argTypes := #[89, 3] }) 1 (bm 6 23) [1] (Step.cn 97 [ag .u64 zs111, .int .i64 20] [] [blk b127 89 (nums .u64 (List.replicate 5 (0 : Int))), blk b110 89 (nums .u64 zs111), blk b85 89 (nums .u64 zs86), blk b60 89 (nums .u64 zs61), blk b37 89 (nums .u64 zs34), blk b30 89 (nums .u64 zs31), blk b7 89 (nums .u64 zs4), blk b2 89 (nums .u64 (List.replicate 5 (0 : Int))), blk b1 89 (nums .u64 xs)] (f_squares_spec zs111 (pw v 1048575) 20 (by assumption) (by assumption) (by omega) (by omega)) [] ?_)
              rintro _ _ ⟨zs129, rfl, rfl, hp130, hp131⟩
              refine orL ?_
              refine RunU.on (some 38) (.call { callee := .value (.func 75), args := #[.tmp 36, .tmp 37], argTypes := #[89, 89] }) 3 (bm 6 31) [] (Step.cn 75 [ag .u64 zs129, ag .u64 zs111] [] [blk b127 89 (nums .u64 (List.replicate 5 (0 : Int))), blk b110 89 (nums .u64 zs111), blk b85 89 (nums .u64 zs86), blk b60 89 (nums .u64 zs61), blk b37 89 (nums .u64 zs34), blk b30 89 (nums .u64 zs31), blk b7 89 (nums .u64 zs4), blk b2 89 (nums .u64 (List.replicate 5 (0 : Int))), blk b1 89 (nums .u64 xs)] (f_Mul_spec zs129 (pw (pw v 1048575) (2 ^ (20 : Int).toNat)) zs111 (pw v 1048575) (by assumption) (by assumption) (by assumption) (by assumption)) [] ?_)
              rintro _ _ ⟨zs132, rfl, rfl, hp133, hp134⟩
              refine orR ?_
              refine RunU.on none (.store 89 (.tmp 9) (.tmp 38)) 5 (bm 6 63) [] (Step.ss hU 0 b127 (0) 89 (nums .u64 (List.replicate 5 (0 : Int))) (nums .u64 zs132) (nums .u64 zs132) (ag .u64 zs132) 5 (by (simp only [List.length_append, nums_length, List.length_cons, List.length_nil, List.length_replicate]; omega)) (show Put _ 0 _ _ from Put.all (by simp only [List.length_append, nums_length, List.length_cons, List.length_nil, List.length_replicate] <;> omega)) ?_)
              refine orR ?_
              refine RunU.ev [2, 5, 7, 9] [(2, pt b2), (5, pt b37), (7, pt b85), (9, pt b127)] ?_
              refine RunU.dn ?_
              exact kcut_n [2, 5, 7, 9] [0, 0, 0, 0, 0, 0, 0, 0, 0] [(2, pt b2), (5, pt b37), (7, pt b85), (9, pt b127)] [blk b127 89 (nums .u64 zs132), blk b110 89 (nums .u64 zs111), blk b85 89 (nums .u64 zs86), blk b60 89 (nums .u64 zs61), blk b37 89 (nums .u64 zs34), blk b30 89 (nums .u64 zs31), blk b7 89 (nums .u64 zs4), blk b2 89 (nums .u64 (List.replicate 5 (0 : Int))), blk b1 89 (nums .u64 xs)] (by kernel_rfl) (by kernel_rfl) ⟨b127, zs132, (by refine el_cast (by assumption) ?_; simp only [pw_sq, pw_pow, pw_mul, pw_by]; (refine congrArg (pw v) ?_; decide +kernel)), (by assumption), rfl, rfl⟩
          · rintro _ _ ⟨b135, zs136, hp137, hp138, rfl, rfl⟩
            refine RunC.cut (fun t_ D_ => ∃ (b_ : Nat) (z_ : List Int), (El z_ (pw v 1125899906842623)) ∧ (z_.length = 5) ∧ t_ = [(2, pt b2), (5, pt b37), (10, pt b_)] ∧ D_ = [blk b_ 89 (nums .u64 z_), blk b135 89 (nums .u64 zs136), blk b110 89 (nums .u64 zs111), blk b85 89 (nums .u64 zs86), blk b60 89 (nums .u64 zs61), blk b37 89 (nums .u64 zs34), blk b30 89 (nums .u64 zs31), blk b7 89 (nums .u64 zs4), blk b2 89 (nums .u64 (List.replicate 5 (0 : Int))), blk b1 89 (nums .u64 xs)]) ?_ ?_
            · skip
              refine RunC.regionU hU 6 [blk b135 89 (nums .u64 zs136), blk b85 89 (nums .u64 zs86)] [0, 2] [3, 5] (bm 6 0) (by kernel_rfl) (by kernel_rfl) (by kernel_rfl) ?_
              refine RunU.rd 0 (bm 6 1) 39 (.load 89 (.tmp 9)) (ag .u64 zs136) [0, 2] (Reads.load_blk hU 0 b135 (0) 89 (nums .u64 zs136) (ag .u64 zs136) (by kernel_rfl) (by kernel_rfl) (loadv_seg (n := 5) (by kernel_rfl) (by kernel_rfl) (Seg.all _) (by simp only [List.length_append, nums_length, List.length_cons, List.length_nil] <;> omega))) ?_
              refine RunU.rd 2 (bm 6 5) 41 (.load 89 (.tmp 7)) (ag .u64 zs86) [0, 2] (Reads.load_blk hU 1 b85 (0) 89 (nums .u64 zs86) (ag .u64 zs86) (by kernel_rfl) (by kernel_rfl) (loadv_seg (n := 5) (by kernel_rfl) (by kernel_rfl) (Seg.all _) (by simp only [List.length_append, nums_length, List.length_cons, List.length_nil] <;> omega))) ?_
              refine RunU.two (d1 := some 40) (o1 := .call { callee := .value (.func 97), args := #[.tmp 39, .const (.int .i64 10)], argTypes := #[89, 3] }) (d2 := some 10) (o2 := .alloc 89) 1 4 (bm 6 7) (bm 6 21) [0, 2] [1, 3] (by kernel_rfl) (by kernel_rfl) (by kernel_rfl) (by kernel_rfl) (by kernel_rfl) ?_ ?_
              · skip
                refine (Step.cn 97 [ag .u64 zs136, .int .i64 10] [] [blk b135 89 (nums .u64 zs136), blk b110 89 (nums .u64 zs111), blk b85 89 (nums .u64 zs86), blk b60 89 (nums .u64 zs61), blk b37 89 (nums .u64 zs34), blk b30 89 (nums .u64 zs31), blk b7 89 (nums .u64 zs4), blk b2 89 (nums .u64 (List.replicate 5 (0 : Int))), blk b1 89 (nums .u64 xs)] (f_squares_spec zs136 (pw v 1099511627775) 10 (by assumption) (by assumption) (by omega) (by omega)) [] ?_)
                rintro _ _ ⟨zs139, rfl, rfl, hp140, hp141⟩
                refine orL ?_
                refine RunU.two (d1 := some 42) (o1 := .call { callee := .value (.func 75), args := #[.tmp 40, .tmp 41], argTypes := #[89, 89] }) (d2 := some 10) (o2 := .alloc 89) 3 4 (bm 6 15) (bm 6 23) [] [1, 3] (by kernel_rfl) (by kernel_rfl) (by kernel_rfl) (by kernel_rfl) (by kernel_rfl) ?_ ?_
                · skip
                  refine (Step.cn 75 [ag .u64 zs139, ag .u64 zs86] [] [blk b135 89 (nums .u64 zs136), blk b110 89 (nums .u64 zs111), blk b85 89 (nums .u64 zs86), blk b60 89 (nums .u64 zs61), blk b37 89 (nums .u64 zs34), blk b30 89 (nums .u64 zs31), blk b7 89 (nums .u64 zs4), blk b2 89 (nums .u64 (List.replicate 5 (0 : Int))), blk b1 89 (nums .u64 xs)] (f_Mul_spec zs139 (pw (pw v 1099511627775) (2 ^ (10 : Int).toNat)) zs86 (pw v 1023) (by assumption) (by assumption) (by assumption) (by assumption)) [] ?_)
                  rintro _ _ ⟨zs142, rfl, rfl, hp143, hp144⟩
                  refine orR ?_
                  refine RunU.on (some 10) (.alloc 89) 4 (bm 6 31) [1, 3] (Step.al hU 5 40 z5 (fun b145 => ?_))
                  have hl146 : (List.replicate 5 (0 : Int)).length = 5 := List.length_replicate
                  refine orL ?_
                  refine RunU.on none (.store 89 (.tmp 10) (.tmp 42)) 5 (bm 6 63) [] (Step.ss hU 0 b145 (0) 89 (nums .u64 (List.replicate 5 (0 : Int))) (nums .u64 zs142) (nums .u64 zs142) (ag .u64 zs142) 5 (by (simp only [List.length_append, nums_length, List.length_cons, List.length_nil, List.length_replicate]; omega)) (show Put _ 0 _ _ from Put.all (by simp only [List.length_append, nums_length, List.length_cons, List.length_nil, List.length_replicate] <;> omega)) ?_)
                  refine orR ?_
                  refine RunU.ev [2, 5, 10] [(2, pt b2), (5, pt b37), (10, pt b145)] ?_
                  refine RunU.dn ?_
                  exact kcut_n [2, 5, 10] [0, 0, 0, 0, 0, 0, 0, 0, 0, 0] [(2, pt b2), (5, pt b37), (10, pt b145)] [blk b145 89 (nums .u64 zs142), blk b135 89 (nums .u64 zs136), blk b110 89 (nums .u64 zs111), blk b85 89 (nums .u64 zs86), blk b60 89 (nums .u64 zs61), blk b37 89 (nums .u64 zs34), blk b30 89 (nums .u64 zs31), blk b7 89 (nums .u64 zs4), blk b2 89 (nums .u64 (List.replicate 5 (0 : Int))), blk b1 89 (nums .u64 xs)] (by kernel_rfl) (by kernel_rfl) ⟨b145, zs142, (by refine el_cast (by assumption) ?_; simp only [pw_sq, pw_pow, pw_mul, pw_by]; (refine congrArg (pw v) ?_; decide +kernel)), (by assumption), rfl, rfl⟩
                · skip
                  refine (Step.al hU 5 40 z5 (fun b147 => ?_))
                  have hl148 : (List.replicate 5 (0 : Int)).length = 5 := List.length_replicate
                  refine orL ?_
                  refine RunU.on (some 42) (.call { callee := .value (.func 75), args := #[.tmp 40, .tmp 41], argTypes := #[89, 89] }) 3 (bm 6 31) [] (Step.cn 75 [ag .u64 zs139, ag .u64 zs86] [] [blk b147 89 (nums .u64 (List.replicate 5 (0 : Int))), blk b135 89 (nums .u64 zs136), blk b110 89 (nums .u64 zs111), blk b85 89 (nums .u64 zs86), blk b60 89 (nums .u64 zs61), blk b37 89 (nums .u64 zs34), blk b30 89 (nums .u64 zs31), blk b7 89 (nums .u64 zs4), blk b2 89 (nums .u64 (List.replicate 5 (0 : Int))), blk b1 89 (nums .u64 xs)] (f_Mul_spec zs139 (pw (pw v 1099511627775) (2 ^ (10 : Int).toNat)) zs86 (pw v 1023) (by assumption) (by assumption) (by assumption) (by assumption)) [] ?_)
                  rintro _ _ ⟨zs149, rfl, rfl, hp150, hp151⟩
                  refine orR ?_
                  refine RunU.on none (.store 89 (.tmp 10) (.tmp 42)) 5 (bm 6 63) [] (Step.ss hU 0 b147 (0) 89 (nums .u64 (List.replicate 5 (0 : Int))) (nums .u64 zs149) (nums .u64 zs149) (ag .u64 zs149) 5 (by (simp only [List.length_append, nums_length, List.length_cons, List.length_nil, List.length_replicate]; omega)) (show Put _ 0 _ _ from Put.all (by simp only [List.length_append, nums_length, List.length_cons, List.length_nil, List.length_replicate] <;> omega)) ?_)
                  refine orR ?_
                  refine RunU.ev [2, 5, 10] [(2, pt b2), (5, pt b37), (10, pt b147)] ?_
                  refine RunU.dn ?_
                  exact kcut_n [2, 5, 10] [0, 0, 0, 0, 0, 0, 0, 0, 0, 0] [(2, pt b2), (5, pt b37), (10, pt b147)] [blk b147 89 (nums .u64 zs149), blk b135 89 (nums .u64 zs136), blk b110 89 (nums .u64 zs111), blk b85 89 (nums .u64 zs86), blk b60 89 (nums .u64 zs61), blk b37 89 (nums .u64 zs34), blk b30 89 (nums .u64 zs31), blk b7 89 (nums .u64 zs4), blk b2 89 (nums .u64 (List.replicate 5 (0 : Int))), blk b1 89 (nums .u64 xs)] (by kernel_rfl) (by kernel_rfl) ⟨b147, zs149, (by refine el_cast (by assumption) ?_; simp only [pw_sq, pw_pow, pw_mul, pw_by]; (refine congrArg (pw v) ?_; decide +kernel)), (by assumption), rfl, rfl⟩
              · skip
                refine (Step.al hU 5 40 z5 (fun b152 => ?_))
                have hl153 : (List.replicate 5 (0 : Int)).length = 5 := List.length_replicate
                refine orL ?_
                refine RunU.on (some 40) (.call { callee := .value (.func 97), args := #[.tmp 39, .const (.int .i64 10)], argTypes := #[89, 3] }) 1 (bm 6 23) [1, 3] (Step.cn 97 [ag .u64 zs136, .int .i64 10] [] [blk b152 89 (nums .u64 (List.replicate 5 (0 : Int))), blk b135 89 (nums .u64 zs136), blk b110 89 (nums .u64 zs111), blk b85 89 (nums .u64 zs86), blk b60 89 (nums .u64 zs61), blk b37 89 (nums .u64 zs34), blk b30 89 (nums .u64 zs31), blk b7 89 (nums .u64 zs4), blk b2 89 (nums .u64 (List.replicate 5 (0 : Int))), blk b1 89 (nums .u64 xs)] (f_squares_spec zs136 (pw v 1099511627775) 10 (by assumption) (by assumption) (by omega) (by omega)) [] ?_)
                rintro _ _ ⟨zs154, rfl, rfl, hp155, hp156⟩
                refine orL ?_
                refine RunU.on (some 42) (.call { callee := .value (.func 75), args := #[.tmp 40, .tmp 41], argTypes := #[89, 89] }) 3 (bm 6 31) [] (Step.cn 75 [ag .u64 zs154, ag .u64 zs86] [] [blk b152 89 (nums .u64 (List.replicate 5 (0 : Int))), blk b135 89 (nums .u64 zs136), blk b110 89 (nums .u64 zs111), blk b85 89 (nums .u64 zs86), blk b60 89 (nums .u64 zs61), blk b37 89 (nums .u64 zs34), blk b30 89 (nums .u64 zs31), blk b7 89 (nums .u64 zs4), blk b2 89 (nums .u64 (List.replicate 5 (0 : Int))), blk b1 89 (nums .u64 xs)] (f_Mul_spec zs154 (pw (pw v 1099511627775) (2 ^ (10 : Int).toNat)) zs86 (pw v 1023) (by assumption) (by assumption) (by assumption) (by assumption)) [] ?_)
                rintro _ _ ⟨zs157, rfl, rfl, hp158, hp159⟩
                refine orR ?_
                refine RunU.on none (.store 89 (.tmp 10) (.tmp 42)) 5 (bm 6 63) [] (Step.ss hU 0 b152 (0) 89 (nums .u64 (List.replicate 5 (0 : Int))) (nums .u64 zs157) (nums .u64 zs157) (ag .u64 zs157) 5 (by (simp only [List.length_append, nums_length, List.length_cons, List.length_nil, List.length_replicate]; omega)) (show Put _ 0 _ _ from Put.all (by simp only [List.length_append, nums_length, List.length_cons, List.length_nil, List.length_replicate] <;> omega)) ?_)
                refine orR ?_
                refine RunU.ev [2, 5, 10] [(2, pt b2), (5, pt b37), (10, pt b152)] ?_
                refine RunU.dn ?_
                exact kcut_n [2, 5, 10] [0, 0, 0, 0, 0, 0, 0, 0, 0, 0] [(2, pt b2), (5, pt b37), (10, pt b152)] [blk b152 89 (nums .u64 zs157), blk b135 89 (nums .u64 zs136), blk b110 89 (nums .u64 zs111), blk b85 89 (nums .u64 zs86), blk b60 89 (nums .u64 zs61), blk b37 89 (nums .u64 zs34), blk b30 89 (nums .u64 zs31), blk b7 89 (nums .u64 zs4), blk b2 89 (nums .u64 (List.replicate 5 (0 : Int))), blk b1 89 (nums .u64 xs)] (by kernel_rfl) (by kernel_rfl) ⟨b152, zs157, (by refine el_cast (by assumption) ?_; simp only [pw_sq, pw_pow, pw_mul, pw_by]; (refine congrArg (pw v) ?_; decide +kernel)), (by assumption), rfl, rfl⟩
            · rintro _ _ ⟨b160, zs161, hp162, hp163, rfl, rfl⟩
              refine RunC.cut (fun t_ D_ => ∃ (b_ : Nat) (z_ : List Int), (El z_ (pw v 1267650600228229401496703205375)) ∧ (z_.length = 5) ∧ t_ = [(2, pt b2), (5, pt b37), (10, pt b160), (11, pt b_)] ∧ D_ = [blk b_ 89 (nums .u64 z_), blk b160 89 (nums .u64 zs161), blk b135 89 (nums .u64 zs136), blk b110 89 (nums .u64 zs111), blk b85 89 (nums .u64 zs86), blk b60 89 (nums .u64 zs61), blk b37 89 (nums .u64 zs34), blk b30 89 (nums .u64 zs31), blk b7 89 (nums .u64 zs4), blk b2 89 (nums .u64 (List.replicate 5 (0 : Int))), blk b1 89 (nums .u64 xs)]) ?_ ?_
              · skip
                refine RunC.regionU hU 6 [blk b160 89 (nums .u64 zs161)] [0] [3, 5] (bm 6 0) (by kernel_rfl) (by kernel_rfl) (by kernel_rfl) ?_
                refine RunU.rd 0 (bm 6 1) 43 (.load 89 (.tmp 10)) (ag .u64 zs161) [0] (Reads.load_blk hU 0 b160 (0) 89 (nums .u64 zs161) (ag .u64 zs161) (by kernel_rfl) (by kernel_rfl) (loadv_seg (n := 5) (by kernel_rfl) (by kernel_rfl) (Seg.all _) (by simp only [List.length_append, nums_length, List.length_cons, List.length_nil] <;> omega))) ?_
                refine RunU.rd 2 (bm 6 5) 45 (.load 89 (.tmp 10)) (ag .u64 zs161) [0] (Reads.load_blk hU 0 b160 (0) 89 (nums .u64 zs161) (ag .u64 zs161) (by kernel_rfl) (by kernel_rfl) (loadv_seg (n := 5) (by kernel_rfl) (by kernel_rfl) (Seg.all _) (by simp only [List.length_append, nums_length, List.length_cons, List.length_nil] <;> omega))) ?_
                refine RunU.two (d1 := some 44) (o1 := .call { callee := .value (.func 97), args := #[.tmp 43, .const (.int .i64 50)], argTypes := #[89, 3] }) (d2 := some 11) (o2 := .alloc 89) 1 4 (bm 6 7) (bm 6 21) [0] [1] (by kernel_rfl) (by kernel_rfl) (by kernel_rfl) (by kernel_rfl) (by kernel_rfl) ?_ ?_
                · skip
                  refine (Step.cn 97 [ag .u64 zs161, .int .i64 50] [] [blk b160 89 (nums .u64 zs161), blk b135 89 (nums .u64 zs136), blk b110 89 (nums .u64 zs111), blk b85 89 (nums .u64 zs86), blk b60 89 (nums .u64 zs61), blk b37 89 (nums .u64 zs34), blk b30 89 (nums .u64 zs31), blk b7 89 (nums .u64 zs4), blk b2 89 (nums .u64 (List.replicate 5 (0 : Int))), blk b1 89 (nums .u64 xs)] (f_squares_spec zs161 (pw v 1125899906842623) 50 (by assumption) (by assumption) (by omega) (by omega)) [] ?_)
                  rintro _ _ ⟨zs164, rfl, rfl, hp165, hp166⟩
                  refine orL ?_
                  refine RunU.two (d1 := some 46) (o1 := .call { callee := .value (.func 75), args := #[.tmp 44, .tmp 45], argTypes := #[89, 89] }) (d2 := some 11) (o2 := .alloc 89) 3 4 (bm 6 15) (bm 6 23) [] [1] (by kernel_rfl) (by kernel_rfl) (by kernel_rfl) (by kernel_rfl) (by kernel_rfl) ?_ ?_
                  · skip
                    refine (Step.cn 75 [ag .u64 zs164, ag .u64 zs161] [] [blk b160 89 (nums .u64 zs161), blk b135 89 (nums .u64 zs136), blk b110 89 (nums .u64 zs111), blk b85 89 (nums .u64 zs86), blk b60 89 (nums .u64 zs61), blk b37 89 (nums .u64 zs34), blk b30 89 (nums .u64 zs31), blk b7 89 (nums .u64 zs4), blk b2 89 (nums .u64 (List.replicate 5 (0 : Int))), blk b1 89 (nums .u64 xs)] (f_Mul_spec zs164 (pw (pw v 1125899906842623) (2 ^ (50 : Int).toNat)) zs161 (pw v 1125899906842623) (by assumption) (by assumption) (by assumption) (by assumption)) [] ?_)
                    rintro _ _ ⟨zs167, rfl, rfl, hp168, hp169⟩
                    refine orR ?_
                    refine RunU.on (some 11) (.alloc 89) 4 (bm 6 31) [1] (Step.al hU 5 40 z5 (fun b170 => ?_))
                    have hl171 : (List.replicate 5 (0 : Int)).length = 5 := List.length_replicate
                    refine orL ?_
                    refine RunU.on none (.store 89 (.tmp 11) (.tmp 46)) 5 (bm 6 63) [] (Step.ss hU 0 b170 (0) 89 (nums .u64 (List.replicate 5 (0 : Int))) (nums .u64 zs167) (nums .u64 zs167) (ag .u64 zs167) 5 (by (simp only [List.length_append, nums_length, List.length_cons, List.length_nil, List.length_replicate]; omega)) (show Put _ 0 _ _ from Put.all (by simp only [List.length_append, nums_length, List.length_cons, List.length_nil, List.length_replicate] <;> omega)) ?_)
                    refine orR ?_
                    refine RunU.ev [2, 5, 10, 11] [(2, pt b2), (5, pt b37), (10, pt b160), (11, pt b170)] ?_
                    refine RunU.dn ?_
                    exact kcut_n [2, 5, 10, 11] [0, 0, 0, 0, 0, 0, 0, 0, 0, 0, 0] [(2, pt b2), (5, pt b37), (10, pt b160), (11, pt b170)] [blk b170 89 (nums .u64 zs167), blk b160 89 (nums .u64 zs161), blk b135 89 (nums .u64 zs136), blk b110 89 (nums .u64 zs111), blk b85 89 (nums .u64 zs86), blk b60 89 (nums .u64 zs61), blk b37 89 (nums .u64 zs34), blk b30 89 (nums .u64 zs31), blk b7 89 (nums .u64 zs4), blk b2 89 (nums .u64 (List.replicate 5 (0 : Int))), blk b1 89 (nums .u64 xs)] (by kernel_rfl) (by kernel_rfl) ⟨b170, zs167, (by refine el_cast (by assumption) ?_; simp only [pw_sq, pw_pow, pw_mul, pw_by]; (refine congrArg (pw v) ?_; decide +kernel)), (by assumption), rfl, rfl⟩
                  · skip
                    refine (Step.al hU 5 40 z5 (fun b172 => ?_))
                    have hl173 : (List.replicate 5 (0 : Int)).length = 5 := List.length_replicate
                    refine orL ?_
                    refine RunU.on (some 46) (.call { callee := .value (.func 75), args := #[.tmp 44, .tmp 45], argTypes := #[89, 89] }) 3 (bm 6 31) [] (Step.cn 75 [ag .u64 zs164, ag .u64 zs161] [] [blk b172 89 (nums .u64 (List.replicate 5 (0 : Int))), blk b160 89 (nums .u64 zs161), blk b135 89 (nums .u64 zs136), blk b110 89 (nums .u64 zs111), blk b85 89 (nums .u64 zs86), blk b60 89 (nums .u64 zs61), blk b37 89 (nums .u64 zs34), blk b30 89 (nums .u64 zs31), blk b7 89 (nums .u64 zs4), blk b2 89 (nums .u64 (List.replicate 5 (0 : Int))), blk b1 89 (nums .u64 xs)] (f_Mul_spec zs164 (pw (pw v 1125899906842623) (2 ^ (50 : Int).toNat)) zs161 (pw v 1125899906842623) (by assumption) (by assumption) (by assumption) (by assumption)) [] ?_)
                    rintro _ _ ⟨zs174, rfl, rfl, hp175, hp176⟩
                    refine orR ?_
                    refine RunU.on none (.store 89 (.tmp 11) (.tmp 46)) 5 (bm 6 63) [] (Step.ss hU 0 b172 (0) 89 (nums .u64 (List.replicate 5 (0 : Int))) (nums .u64 zs174) (nums .u64 zs174) (ag .u64 zs174) 5 (by (simp only [List.length_append, nums_length, List.length_cons, List.length_nil, List.length_replicate]; omega)) (show Put _ 0 _ _ from Put.all (by simp only [List.length_append, nums_length, List.length_cons, List.length_nil, List.length_replicate] <;> omega)) ?_)
                    refine orR ?_
                    refine RunU.ev [2, 5, 10, 11] [(2, pt b2), (5, pt b37), (10, pt b160), (11, pt b172)] ?_
                    refine RunU.dn ?_
                    exact kcut_n [2, 5, 10, 11] [0, 0, 0, 0, 0, 0, 0, 0, 0, 0, 0] [(2, pt b2), (5, pt b37), (10, pt b160), (11, pt b172)] [blk b172 89 (nums .u64 zs174), blk b160 89 (nums .u64 zs161), blk b135 89 (nums .u64 zs136), blk b110 89 (nums .u64 zs111), blk b85 89 (nums .u64 zs86), blk b60 89 (nums .u64 zs61), blk b37 89 (nums .u64 zs34), blk b30 89 (nums .u64 zs31), blk b7 89 (nums .u64 zs4), blk b2 89 (nums .u64 (List.replicate 5 (0 : Int))), blk b1 89 (nums .u64 xs)] (by kernel_rfl) (by kernel_rfl) ⟨b172, zs174, (by refine el_cast (by assumption) ?_; simp only [pw_sq, pw_pow, pw_mul, pw_by]; (refine congrArg (pw v) ?_; decide +kernel)), (by assumption), rfl, rfl⟩
                · skip
                  refine (Step.al hU 5 40 z5 (fun b177 => ?_))
                  have hl178 : (List.replicate 5 (0 : Int)).length = 5 := List.length_replicate
                  refine orL ?_
                  refine RunU.on (some 44) (.call { callee := .value (.func 97), args := #[.tmp 43, .const (.int .i64 50)], argTypes := #[89, 3] }) 1 (bm 6 23) [1] (Step.cn 97 [ag .u64 zs161, .int .i64 50] [] [blk b177 89 (nums .u64 (List.replicate 5 (0 : Int))), blk b160 89 (nums .u64 zs161), blk b135 89 (nums .u64 zs136), blk b110 89 (nums .u64 zs111), blk b85 89 (nums .u64 zs86), blk b60 89 (nums .u64 zs61), blk b37 89 (nums .u64 zs34), blk b30 89 (nums .u64 zs31), blk b7 89 (nums .u64 zs4), blk b2 89 (nums .u64 (List.replicate 5 (0 : Int))), blk b1 89 (nums .u64 xs)] (f_squares_spec zs161 (pw v 1125899906842623) 50 (by assumption) (by assumption) (by omega) (by omega)) [] ?_)
                  rintro _ _ ⟨zs179, rfl, rfl, hp180, hp181⟩
                  refine orL ?_
                  refine RunU.on (some 46) (.call { callee := .value (.func 75), args := #[.tmp 44, .tmp 45], argTypes := #[89, 89] }) 3 (bm 6 31) [] (Step.cn 75 [ag .u64 zs179, ag .u64 zs161] [] [blk b177 89 (nums .u64 (List.replicate 5 (0 : Int))), blk b160 89 (nums .u64 zs161), blk b135 89 (nums .u64 zs136), blk b110 89 (nums .u64 zs111), blk b85 89 (nums .u64 zs86), blk b60 89 (nums .u64 zs61), blk b37 89 (nums .u64 zs34), blk b30 89 (nums .u64 zs31), blk b7 89 (nums .u64 zs4), blk b2 89 (nums .u64 (List.replicate 5 (0 : Int))), blk b1 89 (nums .u64 xs)] (f_Mul_spec zs179 (pw (pw v 1125899906842623) (2 ^ (50 : Int).toNat)) zs161 (pw v 1125899906842623) (by assumption) (by assumption) (by assumption) (by assumption)) [] ?_)
                  rintro _ _ ⟨zs182, rfl, rfl, hp183, hp184⟩
                  refine orR ?_
                  refine RunU.on none (.store 89 (.tmp 11) (.tmp 46)) 5 (bm 6 63) [] (Step.ss hU 0 b177 (0) 89 (nums .u64 (List.replicate 5 (0 : Int))) (nums .u64 zs182) (nums .u64 zs182) (ag .u64 zs182) 5 (by (simp only [List.length_append, nums_length, List.length_cons, List.length_nil, List.length_replicate]; omega)) (show Put _ 0 _ _ from Put.all (by simp only [List.length_append, nums_length, List.length_cons, List.length_nil, List.length_replicate] <;> omega)) ?_)
                  refine orR ?_
                  refine RunU.ev [2, 5, 10, 11] [(2, pt b2), (5, pt b37), (10, pt b160), (11, pt b177)] ?_
                  refine RunU.dn ?_
                  exact kcut_n [2, 5, 10, 11] [0, 0, 0, 0, 0, 0, 0, 0, 0, 0, 0] [(2, pt b2), (5, pt b37), (10, pt b160), (11, pt b177)] [blk b177 89 (nums .u64 zs182), blk b160 89 (nums .u64 zs161), blk b135 89 (nums .u64 zs136), blk b110 89 (nums .u64 zs111), blk b85 89 (nums .u64 zs86), blk b60 89 (nums .u64 zs61), blk b37 89 (nums .u64 zs34), blk b30 89 (nums .u64 zs31), blk b7 89 (nums .u64 zs4), blk b2 89 (nums .u64 (List.replicate 5 (0 : Int))), blk b1 89 (nums .u64 xs)] (by kernel_rfl) (by kernel_rfl) ⟨b177, zs182, (by refine el_cast (by assumption) ?_; simp only [pw_sq, pw_pow, pw_mul, pw_by]; (refine congrArg (pw v) ?_; decide +kernel)), (by assumption), rfl, rfl⟩
              · rintro _ _ ⟨b185, zs186, hp187, hp188, rfl, rfl⟩
                refine RunC.cut (fun t_ D_ => ∃ (b_ : Nat) (z_ : List Int), (El z_ (pw v 1606938044258990275541962092341162602522202993782792835301375)) ∧ (z_.length = 5) ∧ t_ = [(2, pt b2), (5, pt b37), (10, pt b160), (12, pt b_)] ∧ D_ = [blk b_ 89 (nums .u64 z_), blk b185 89 (nums .u64 zs186), blk b160 89 (nums .u64 zs161), blk b135 89 (nums .u64 zs136), blk b110 89 (nums .u64 zs111), blk b85 89 (nums .u64 zs86), blk b60 89 (nums .u64 zs61), blk b37 89 (nums .u64 zs34), blk b30 89 (nums .u64 zs31), blk b7 89 (nums .u64 zs4), blk b2 89 (nums .u64 (List.replicate 5 (0 : Int))), blk b1 89 (nums .u64 xs)]) ?_ ?_
                · skip
                  refine RunC.regionU hU 6 [blk b185 89 (nums .u64 zs186)] [0] [3, 5] (bm 6 0) (by kernel_rfl) (by kernel_rfl) (by kernel_rfl) ?_
                  refine RunU.rd 0 (bm 6 1) 47 (.load 89 (.tmp 11)) (ag .u64 zs186) [0] (Reads.load_blk hU 0 b185 (0) 89 (nums .u64 zs186) (ag .u64 zs186) (by kernel_rfl) (by kernel_rfl) (loadv_seg (n := 5) (by kernel_rfl) (by kernel_rfl) (Seg.all _) (by simp only [List.length_append, nums_length, List.length_cons, List.length_nil] <;> omega))) ?_
                  refine RunU.rd 2 (bm 6 5) 49 (.load 89 (.tmp 11)) (ag .u64 zs186) [0] (Reads.load_blk hU 0 b185 (0) 89 (nums .u64 zs186) (ag .u64 zs186) (by kernel_rfl) (by kernel_rfl) (loadv_seg (n := 5) (by kernel_rfl) (by kernel_rfl) (Seg.all _) (by simp only [List.length_append, nums_length, List.length_cons, List.length_nil] <;> omega))) ?_
                  refine RunU.two (d1 := some 48) (o1 := .call { callee := .value (.func 97), args := #[.tmp 47, .const (.int .i64 100)], argTypes := #[89, 3] }) (d2 := some 12) (o2 := .alloc 89) 1 4 (bm 6 7) (bm 6 21) [0] [1] (by kernel_rfl) (by kernel_rfl) (by kernel_rfl) (by kernel_rfl) (by kernel_rfl) ?_ ?_
                  · skip
                    refine (Step.cn 97 [ag .u64 zs186, .int .i64 100] [] [blk b185 89 (nums .u64 zs186), blk b160 89 (nums .u64 zs161), blk b135 89 (nums .u64 zs136), blk b110 89 (nums .u64 zs111), blk b85 89 (nums .u64 zs86), blk b60 89 (nums .u64 zs61), blk b37 89 (nums .u64 zs34), blk b30 89 (nums .u64 zs31), blk b7 89 (nums .u64 zs4), blk b2 89 (nums .u64 (List.replicate 5 (0 : Int))), blk b1 89 (nums .u64 xs)] (f_squares_spec zs186 (pw v 1267650600228229401496703205375) 100 (by assumption) (by assumption) (by omega) (by omega)) [] ?_)
                    rintro _ _ ⟨zs189, rfl, rfl, hp190, hp191⟩
                    refine orL ?_
                    refine RunU.two (d1 := some 50) (o1 := .call { callee := .value (.func 75), args := #[.tmp 48, .tmp 49], argTypes := #[89, 89] }) (d2 := some 12) (o2 := .alloc 89) 3 4 (bm 6 15) (bm 6 23) [] [1] (by kernel_rfl) (by kernel_rfl) (by kernel_rfl) (by kernel_rfl) (by kernel_rfl) ?_ ?_
                    · skip
                      refine (Step.cn 75 [ag .u64 zs189, ag .u64 zs186] [] [blk b185 89 (nums .u64 zs186), blk b160 89 (nums .u64 zs161), blk b135 89 (nums .u64 zs136), blk b110 89 (nums .u64 zs111), blk b85 89 (nums .u64 zs86), blk b60 89 (nums .u64 zs61), blk b37 89 (nums .u64 zs34), blk b30 89 (nums .u64 zs31), blk b7 89 (nums .u64 zs4), blk b2 89 (nums .u64 (List.replicate 5 (0 : Int))), blk b1 89 (nums .u64 xs)] (f_Mul_spec zs189 (pw (pw v 1267650600228229401496703205375) (2 ^ (100 : Int).toNat)) zs186 (pw v 1267650600228229401496703205375) (by assumption) (by assumption) (by assumption) (by assumption)) [] ?_)
                      rintro _ _ ⟨zs192, rfl, rfl, hp193, hp194⟩
                      refine orR ?_
                      refine RunU.on (some 12) (.alloc 89) 4 (bm 6 31) [1] (Step.al hU 5 40 z5 (fun b195 => ?_))
                      have hl196 : (List.replicate 5 (0 : Int)).length = 5 := List.length_replicate
                      refine orL ?_
                      refine RunU.on none (.store 89 (.tmp 12) (.tmp 50)) 5 (bm 6 63) [] (Step.ss hU 0 b195 (0) 89 (nums .u64 (List.replicate 5 (0 : Int))) (nums .u64 zs192) (nums .u64 zs192) (ag .u64 zs192) 5 (by (simp only [List.length_append, nums_length, List.length_cons, List.length_nil, List.length_replicate]; omega)) (show Put _ 0 _ _ from Put.all (by simp only [List.length_append, nums_length, List.length_cons, List.length_nil, List.length_replicate] <;> omega)) ?_)
                      refine orR ?_
                      refine RunU.ev [2, 5, 10, 12] [(2, pt b2), (5, pt b37), (10, pt b160), (12, pt b195)] ?_
                      refine RunU.dn ?_
                      exact kcut_n [2, 5, 10, 12] [0, 0, 0, 0, 0, 0, 0, 0, 0, 0, 0, 0] [(2, pt b2), (5, pt b37), (10, pt b160), (12, pt b195)] [blk b195 89 (nums .u64 zs192), blk b185 89 (nums .u64 zs186), blk b160 89 (nums .u64 zs161), blk b135 89 (nums .u64 zs136), blk b110 89 (nums .u64 zs111), blk b85 89 (nums .u64 zs86), blk b60 89 (nums .u64 zs61), blk b37 89 (nums .u64 zs34), blk b30 89 (nums .u64 zs31), blk b7 89 (nums .u64 zs4), blk b2 89 (nums .u64 (List.replicate 5 (0 : Int))), blk b1 89 (nums .u64 xs)] (by kernel_rfl) (by kernel_rfl) ⟨b195, zs192, (by refine el_cast (by assumption) ?_; simp only [pw_sq, pw_pow, pw_mul, pw_by]; (refine congrArg (pw v) ?_; decide +kernel)), (by assumption), rfl, rfl⟩
                    · skip
                      refine (Step.al hU 5 40 z5 (fun b197 => ?_))
                      have hl198 : (List.replicate 5 (0 : Int)).length = 5 := List.length_replicate
                      refine orL ?_
                      refine RunU.on (some 50) (.call { callee := .value (.func 75), args := #[.tmp 48, .tmp 49], argTypes := #[89, 89] }) 3 (bm 6 31) [] (Step.cn 75 [ag .u64 zs189, ag .u64 zs186] [] [blk b197 89 (nums .u64 (List.replicate 5 (0 : Int))), blk b185 89 (nums .u64 zs186), blk b160 89 (nums .u64 zs161), blk b135 89 (nums .u64 zs136), blk b110 89 (nums .u64 zs111), blk b85 89 (nums .u64 zs86), blk b60 89 (nums .u64 zs61), blk b37 89 (nums .u64 zs34), blk b30 89 (nums .u64 zs31), blk b7 89 (nums .u64 zs4), blk b2 89 (nums .u64 (List.replicate 5 (0 : Int))), blk b1 89 (nums .u64 xs)] (f_Mul_spec zs189 (pw (pw v 1267650600228229401496703205375) (2 ^ (100 : Int).toNat)) zs186 (pw v 1267650600228229401496703205375) (by assumption) (by assumption) (by assumption) (by assumption)) [] ?_)
                      rintro _ _ ⟨zs199, rfl, rfl, hp200, hp201⟩
                      refine orR ?_
                      refine RunU.on none (.store 89 (.tmp 12) (.tmp 50)) 5 (bm 6 63) [] (Step.ss hU 0 b197 (0) 89 (nums .u64 (List.replicate 5 (0 : Int))) (nums .u64 zs199) (nums .u64 zs199) (ag .u64 zs199) 5 (by (simp only [List.length_append, nums_length, List.length_cons, List.length_nil, List.length_replicate]; omega)) (show Put _ 0 _ _ from Put.all (by simp only [List.length_append, nums_length, List.length_cons, List.length_nil, List.length_replicate] <;> omega)) ?_)
                      refine orR ?_
                      refine RunU.ev [2, 5, 10, 12] [(2, pt b2), (5, pt b37), (10, pt b160), (12, pt b197)] ?_
                      refine RunU.dn ?_
                      exact kcut_n [2, 5, 10, 12] [0, 0, 0, 0, 0, 0, 0, 0, 0, 0, 0, 0] [(2, pt b2), (5, pt b37), (10, pt b160), (12, pt b197)] [blk b197 89 (nums .u64 zs199), blk b185 89 (nums .u64 zs186), blk b160 89 (nums .u64 zs161), blk b135 89 (nums .u64 zs136), blk b110 89 (nums .u64 zs111), blk b85 89 (nums .u64 zs86), blk b60 89 (nums .u64 zs61), blk b37 89 (nums .u64 zs34), blk b30 89 (nums .u64 zs31), blk b7 89 (nums .u64 zs4), blk b2 89 (nums .u64 (List.replicate 5 (0 : Int))), blk b1 89 (nums .u64 xs)] (by kernel_rfl) (by kernel_rfl) ⟨b197, zs199, (by refine el_cast (by assumption) ?_; simp only [pw_sq, pw_pow, pw_mul, pw_by]; (refine congrArg (pw v) ?_; decide +kernel)), (by assumption), rfl, rfl⟩
                  · skip
                    refine (Step.al hU 5 40 z5 (fun b202 => ?_))
                    have hl203 : (List.replicate 5 (0 : Int)).length = 5 := List.length_replicate
                    refine orL ?_
                    refine RunU.on (some 48) (.call { callee := .value (.func 97), args := #[.tmp 47, .const (.int .i64 100)], argTypes := #[89, 3] }) 1 (bm 6 23) [1] (Step.cn 97 [ag .u64 zs186, .int .i64 100] [] [blk b202 89 (nums .u64 (List.replicate 5 (0 : Int))), blk b185 89 (nums .u64 zs186), blk b160 89 (nums .u64 zs161), blk b135 89 (nums .u64 zs136), blk b110 89 (nums .u64 zs111), blk b85 89 (nums .u64 zs86), blk b60 89 (nums .u64 zs61), blk b37 89 (nums .u64 zs34), blk b30 89 (nums .u64 zs31), blk b7 89 (nums .u64 zs4), blk b2 89 (nums .u64 (List.replicate 5 (0 : Int))), blk b1 89 (nums .u64 xs)] (f_squares_spec zs186 (pw v 1267650600228229401496703205375) 100 (by assumption) (by assumption) (by omega) (by omega)) [] ?_)
                    rintro _ _ ⟨zs204, rfl, rfl, hp205, hp206⟩
                    refine orL ?_
                    refine RunU.on (some 50) (.call { callee := .value (.func 75), args := #[.tmp 48, .tmp 49], argTypes := #[89, 89] }) 3 (bm 6 31) [] (Step.cn 75 [ag .u64 zs204, ag .u64 zs186] [] [blk b202 89 (nums .u64 (List.replicate 5 (0 : Int))), blk b185 89 (nums .u64 zs186), blk b160 89 (nums .u64 zs161), blk b135 89 (nums .u64 zs136), blk b110 89 (nums .u64 zs111), blk b85 89 (nums .u64 zs86), blk b60 89 (nums .u64 zs61), blk b37 89 (nums .u64 zs34), blk b30 89 (nums .u64 zs31), blk b7 89 (nums .u64 zs4), blk b2 89 (nums .u64 (List.replicate 5 (0 : Int))), blk b1 89 (nums .u64 xs)] (f_Mul_spec zs204 (pw (pw v 1267650600228229401496703205375) (2 ^ (100 : Int).toNat)) zs186 (pw v 1267650600228229401496703205375) (by assumption) (by assumption) (by assumption) (by assumption)) [] ?_)
                    rintro _ _ ⟨zs207, rfl, rfl, hp208, hp209⟩
                    refine orR ?_
                    refine RunU.on none (.store 89 (.tmp 12) (.tmp 50)) 5 (bm 6 63) [] (Step.ss hU 0 b202 (0) 89 (nums .u64 (List.replicate 5 (0 : Int))) (nums .u64 zs207) (nums .u64 zs207) (ag .u64 zs207) 5 (by (simp only [List.length_append, nums_length, List.length_cons, List.length_nil, List.length_replicate]; omega)) (show Put _ 0 _ _ from Put.all (by simp only [List.length_append, nums_length, List.length_cons, List.length_nil, List.length_replicate] <;> omega)) ?_)
                    refine orR ?_
                    refine RunU.ev [2, 5, 10, 12] [(2, pt b2), (5, pt b37), (10, pt b160), (12, pt b202)] ?_
                    refine RunU.dn ?_
                    exact kcut_n [2, 5, 10, 12] [0, 0, 0, 0, 0, 0, 0, 0, 0, 0, 0, 0] [(2, pt b2), (5, pt b37), (10, pt b160), (12, pt b202)] [blk b202 89 (nums .u64 zs207), blk b185 89 (nums .u64 zs186), blk b160 89 (nums .u64 zs161), blk b135 89 (nums .u64 zs136), blk b110 89 (nums .u64 zs111), blk b85 89 (nums .u64 zs86), blk b60 89 (nums .u64 zs61), blk b37 89 (nums .u64 zs34), blk b30 89 (nums .u64 zs31), blk b7 89 (nums .u64 zs4), blk b2 89 (nums .u64 (List.replicate 5 (0 : Int))), blk b1 89 (nums .u64 xs)] (by kernel_rfl) (by kernel_rfl) ⟨b202, zs207, (by refine el_cast (by assumption) ?_; simp only [pw_sq, pw_pow, pw_mul, pw_by]; (refine congrArg (pw v) ?_; decide +kernel)), (by assumption), rfl, rfl⟩
                · rintro _ _ ⟨b210, zs211, hp212, hp213, rfl, rfl⟩
                  refine RunC.cut (fun t_ D_ => ∃ (b_ : Nat) (z_ : List Int), (El z_ (pw v 1809251394333065553493296640760748560207343510400633813116524750123642650623)) ∧ (z_.length = 5) ∧ t_ = [(2, pt b2), (5, pt b37), (13, pt b_)] ∧ D_ = [blk b_ 89 (nums .u64 z_), blk b210 89 (nums .u64 zs211), blk b185 89 (nums .u64 zs186), blk b160 89 (nums .u64 zs161), blk b135 89 (nums .u64 zs136), blk b110 89 (nums .u64 zs111), blk b85 89 (nums .u64 zs86), blk b60 89 (nums .u64 zs61), blk b37 89 (nums .u64 zs34), blk b30 89 (nums .u64 zs31), blk b7 89 (nums .u64 zs4), blk b2 89 (nums .u64 (List.replicate 5 (0 : Int))), blk b1 89 (nums .u64 xs)]) ?_ ?_
                  · skip
                    refine RunC.regionU hU 6 [blk b210 89 (nums .u64 zs211), blk b160 89 (nums .u64 zs161)] [0, 2] [3, 5] (bm 6 0) (by kernel_rfl) (by kernel_rfl) (by kernel_rfl) ?_
                    refine RunU.rd 0 (bm 6 1) 51 (.load 89 (.tmp 12)) (ag .u64 zs211) [0, 2] (Reads.load_blk hU 0 b210 (0) 89 (nums .u64 zs211) (ag .u64 zs211) (by kernel_rfl) (by kernel_rfl) (loadv_seg (n := 5) (by kernel_rfl) (by kernel_rfl) (Seg.all _) (by simp only [List.length_append, nums_length, List.length_cons, List.length_nil] <;> omega))) ?_
                    refine RunU.rd 2 (bm 6 5) 53 (.load 89 (.tmp 10)) (ag .u64 zs161) [0, 2] (Reads.load_blk hU 1 b160 (0) 89 (nums .u64 zs161) (ag .u64 zs161) (by kernel_rfl) (by kernel_rfl) (loadv_seg (n := 5) (by kernel_rfl) (by kernel_rfl) (Seg.all _) (by simp only [List.length_append, nums_length, List.length_cons, List.length_nil] <;> omega))) ?_
                    refine RunU.two (d1 := some 52) (o1 := .call { callee := .value (.func 97), args := #[.tmp 51, .const (.int .i64 50)], argTypes := #[89, 3] }) (d2 := some 13) (o2 := .alloc 89) 1 4 (bm 6 7) (bm 6 21) [0, 2] [1, 3] (by kernel_rfl) (by kernel_rfl) (by kernel_rfl) (by kernel_rfl) (by kernel_rfl) ?_ ?_
                    · skip
                      refine (Step.cn 97 [ag .u64 zs211, .int .i64 50] [] [blk b210 89 (nums .u64 zs211), blk b185 89 (nums .u64 zs186), blk b160 89 (nums .u64 zs161), blk b135 89 (nums .u64 zs136), blk b110 89 (nums .u64 zs111), blk b85 89 (nums .u64 zs86), blk b60 89 (nums .u64 zs61), blk b37 89 (nums .u64 zs34), blk b30 89 (nums .u64 zs31), blk b7 89 (nums .u64 zs4), blk b2 89 (nums .u64 (List.replicate 5 (0 : Int))), blk b1 89 (nums .u64 xs)] (f_squares_spec zs211 (pw v 1606938044258990275541962092341162602522202993782792835301375) 50 (by assumption) (by assumption) (by omega) (by omega)) [] ?_)
                      rintro _ _ ⟨zs214, rfl, rfl, hp215, hp216⟩
                      refine orL ?_
                      refine RunU.two (d1 := some 54) (o1 := .call { callee := .value (.func 75), args := #[.tmp 52, .tmp 53], argTypes := #[89, 89] }) (d2 := some 13) (o2 := .alloc 89) 3 4 (bm 6 15) (bm 6 23) [] [1, 3] (by kernel_rfl) (by kernel_rfl) (by kernel_rfl) (by kernel_rfl) (by kernel_rfl) ?_ ?_
                      · skip
                        refine (Step.cn 75 [ag .u64 zs214, ag .u64 zs161] [] [blk b210 89 (nums .u64 zs211), blk b185 89 (nums .u64 zs186), blk b160 89 (nums .u64 zs161), blk b135 89 (nums .u64 zs136), blk b110 89 (nums .u64 zs111), blk b85 89 (nums .u64 zs86), blk b60 89 (nums .u64 zs61), blk b37 89 (nums .u64 zs34), blk b30 89 (nums .u64 zs31), blk b7 89 (nums .u64 zs4), blk b2 89 (nums .u64 (List.replicate 5 (0 : Int))), blk b1 89 (nums .u64 xs)] (f_Mul_spec zs214 (pw (pw v 1606938044258990275541962092341162602522202993782792835301375) (2 ^ (50 : Int).toNat)) zs161 (pw v 1125899906842623) (by assumption) (by assumption) (by assumption) (by assumption)) [] ?_)
                        rintro _ _ ⟨zs217, rfl, rfl, hp218, hp219⟩
                        refine orR ?_
                        refine RunU.on (some 13) (.alloc 89) 4 (bm 6 31) [1, 3] (Step.al hU 5 40 z5 (fun b220 => ?_))
                        have hl221 : (List.replicate 5 (0 : Int)).length = 5 := List.length_replicate
                        refine orL ?_
                        refine RunU.on none (.store 89 (.tmp 13) (.tmp 54)) 5 (bm 6 63) [] (Step.ss hU 0 b220 (0) 89 (nums .u64 (List.replicate 5 (0 : Int))) (nums .u64 zs217) (nums .u64 zs217) (ag .u64 zs217) 5 (by (simp only [List.length_append, nums_length, List.length_cons, List.length_nil, List.length_replicate]; omega)) (show Put _ 0 _ _ from Put.all (by simp only [List.length_append, nums_length, List.length_cons, List.length_nil, List.length_replicate] <;> omega)) ?_)
                        refine orR ?_
                        refine RunU.ev [2, 5, 13] [(2, pt b2), (5, pt b37), (13, pt b220)] ?_
                        refine RunU.dn ?_
                        exact kcut_n [2, 5, 13] [0, 0, 0, 0, 0, 0, 0, 0, 0, 0, 0, 0, 0] [(2, pt b2), (5, pt b37), (13, pt b220)] [blk b220 89 (nums .u64 zs217), blk b210 89 (nums .u64 zs211), blk b185 89 (nums .u64 zs186), blk b160 89 (nums .u64 zs161), blk b135 89 (nums .u64 zs136), blk b110 89 (nums .u64 zs111), blk b85 89 (nums .u64 zs86), blk b60 89 (nums .u64 zs61), blk b37 89 (nums .u64 zs34), blk b30 89 (nums .u64 zs31), blk b7 89 (nums .u64 zs4), blk b2 89 (nums .u64 (List.replicate 5 (0 : Int))), blk b1 89 (nums .u64 xs)] (by kernel_rfl) (by kernel_rfl) ⟨b220, zs217, (by refine el_cast (by assumption) ?_; simp only [pw_sq, pw_pow, pw_mul, pw_by]; (refine congrArg (pw v) ?_; decide +kernel)), (by assumption), rfl, rfl⟩
                      · skip
                        refine (Step.al hU 5 40 z5 (fun b222 => ?_))
                        have hl223 : (List.replicate 5 (0 : Int)).length = 5 := List.length_replicate
                        refine orL ?_
                        refine RunU.on (some 54) (.call { callee := .value (.func 75), args := #[.tmp 52, .tmp 53], argTypes := #[89, 89] }) 3 (bm 6 31) [] (Step.cn 75 [ag .u64 zs214, ag .u64 zs161] [] [blk b222 89 (nums .u64 (List.replicate 5 (0 : Int))), blk b210 89 (nums .u64 zs211), blk b185 89 (nums .u64 zs186), blk b160 89 (nums .u64 zs161), blk b135 89 (nums .u64 zs136), blk b110 89 (nums .u64 zs111), blk b85 89 (nums .u64 zs86), blk b60 89 (nums .u64 zs61), blk b37 89 (nums .u64 zs34), blk b30 89 (nums .u64 zs31), blk b7 89 (nums .u64 zs4), blk b2 89 (nums .u64 (List.replicate 5 (0 : Int))), blk b1 89 (nums .u64 xs)] (f_Mul_spec zs214 (pw (pw v 1606938044258990275541962092341162602522202993782792835301375) (2 ^ (50 : Int).toNat)) zs161 (pw v 1125899906842623) (by assumption) (by assumption) (by assumption) (by assumption)) [] ?_)
                        rintro _ _ ⟨zs224, rfl, rfl, hp225, hp226⟩
                        refine orR ?_
                        refine RunU.on none (.store 89 (.tmp 13) (.tmp 54)) 5 (bm 6 63) [] (Step.ss hU 0 b222 (0) 89 (nums .u64 (List.replicate 5 (0 : Int))) (nums .u64 zs224) (nums .u64 zs224) (ag .u64 zs224) 5 (by (simp only [List.length_append, nums_length, List.length_cons, List.length_nil, List.length_replicate]; omega)) (show Put _ 0 _ _ from Put.all (by simp only [List.length_append, nums_length, List.length_cons, List.length_nil, List.length_replicate] <;> omega)) ?_)
                        refine orR ?_
                        refine RunU.ev [2, 5, 13] [(2, pt b2), (5, pt b37), (13, pt b222)] ?_
                        refine RunU.dn ?_
                        exact kcut_n [2, 5, 13] [0, 0, 0, 0, 0, 0, 0, 0, 0, 0, 0, 0, 0] [(2, pt b2), (5, pt b37), (13, pt b222)] [blk b222 89 (nums .u64 zs224), blk b210 89 (nums .u64 zs211), blk b185 89 (nums .u64 zs186), blk b160 89 (nums .u64 zs161), blk b135 89 (nums .u64 zs136), blk b110 89 (nums .u64 zs111), blk b85 89 (nums .u64 zs86), blk b60 89 (nums .u64 zs61), blk b37 89 (nums .u64 zs34), blk b30 89 (nums .u64 zs31), blk b7 89 (nums .u64 zs4), blk b2 89 (nums .u64 (List.replicate 5 (0 : Int))), blk b1 89 (nums .u64 xs)] (by kernel_rfl) (by kernel_rfl) ⟨b222, zs224, (by refine el_cast (by assumption) ?_; simp only [pw_sq, pw_pow, pw_mul, pw_by]; (refine congrArg (pw v) ?_; decide +kernel)), (by assumption), rfl, rfl⟩
                    · skip
                      refine (Step.al hU 5 40 z5 (fun b227 => ?_))
                      have hl228 : (List.replicate 5 (0 : Int)).length = 5 := List.length_replicate
                      refine orL ?_
                      refine RunU.on (some 52) (.call { callee := .value (.func 97), args := #[.tmp 51, .const (.int .i64 50)], argTypes := #[89, 3] }) 1 (bm 6 23) [1, 3] (Step.cn 97 [ag .u64 zs211, .int .i64 50] [] [blk b227 89 (nums .u64 (List.replicate 5 (0 : Int))), blk b210 89 (nums .u64 zs211), blk b185 89 (nums .u64 zs186), blk b160 89 (nums .u64 zs161), blk b135 89 (nums .u64 zs136), blk b110 89 (nums .u64 zs111), blk b85 89 (nums .u64 zs86), blk b60 89 (nums .u64 zs61), blk b37 89 (nums .u64 zs34), blk b30 89 (nums .u64 zs31), blk b7 89 (nums .u64 zs4), blk b2 89 (nums .u64 (List.replicate 5 (0 : Int))), blk b1 89 (nums .u64 xs)] (f_squares_spec zs211 (pw v 1606938044258990275541962092341162602522202993782792835301375) 50 (by assumption) (by assumption) (by omega) (by omega)) [] ?_)
                      rintro _ _ ⟨zs229, rfl, rfl, hp230, hp231⟩
                      refine orL ?_
                      refine RunU.on (some 54) (.call { callee := .value (.func 75), args := #[.tmp 52, .tmp 53], argTypes := #[89, 89] }) 3 (bm 6 31) [] (Step.cn 75 [ag .u64 zs229, ag .u64 zs161] [] [blk b227 89 (nums .u64 (List.replicate 5 (0 : Int))), blk b210 89 (nums .u64 zs211), blk b185 89 (nums .u64 zs186), blk b160 89 (nums .u64 zs161), blk b135 89 (nums .u64 zs136), blk b110 89 (nums .u64 zs111), blk b85 89 (nums .u64 zs86), blk b60 89 (nums .u64 zs61), blk b37 89 (nums .u64 zs34), blk b30 89 (nums .u64 zs31), blk b7 89 (nums .u64 zs4), blk b2 89 (nums .u64 (List.replicate 5 (0 : Int))), blk b1 89 (nums .u64 xs)] (f_Mul_spec zs229 (pw (pw v 1606938044258990275541962092341162602522202993782792835301375) (2 ^ (50 : Int).toNat)) zs161 (pw v 1125899906842623) (by assumption) (by assumption) (by assumption) (by assumption)) [] ?_)
                      rintro _ _ ⟨zs232, rfl, rfl, hp233, hp234⟩
                      refine orR ?_
                      refine RunU.on none (.store 89 (.tmp 13) (.tmp 54)) 5 (bm 6 63) [] (Step.ss hU 0 b227 (0) 89 (nums .u64 (List.replicate 5 (0 : Int))) (nums .u64 zs232) (nums .u64 zs232) (ag .u64 zs232) 5 (by (simp only [List.length_append, nums_length, List.length_cons, List.length_nil, List.length_replicate]; omega)) (show Put _ 0 _ _ from Put.all (by simp only [List.length_append, nums_length, List.length_cons, List.length_nil, List.length_replicate] <;> omega)) ?_)
                      refine orR ?_
                      refine RunU.ev [2, 5, 13] [(2, pt b2), (5, pt b37), (13, pt b227)] ?_
                      refine RunU.dn ?_
                      exact kcut_n [2, 5, 13] [0, 0, 0, 0, 0, 0, 0, 0, 0, 0, 0, 0, 0] [(2, pt b2), (5, pt b37), (13, pt b227)] [blk b227 89 (nums .u64 zs232), blk b210 89 (nums .u64 zs211), blk b185 89 (nums .u64 zs186), blk b160 89 (nums .u64 zs161), blk b135 89 (nums .u64 zs136), blk b110 89 (nums .u64 zs111), blk b85 89 (nums .u64 zs86), blk b60 89 (nums .u64 zs61), blk b37 89 (nums .u64 zs34), blk b30 89 (nums .u64 zs31), blk b7 89 (nums .u64 zs4), blk b2 89 (nums .u64 (List.replicate 5 (0 : Int))), blk b1 89 (nums .u64 xs)] (by kernel_rfl) (by kernel_rfl) ⟨b227, zs232, (by refine el_cast (by assumption) ?_; simp only [pw_sq, pw_pow, pw_mul, pw_by]; (refine congrArg (pw v) ?_; decide +kernel)), (by assumption), rfl, rfl⟩
                  · rintro _ _ ⟨b235, zs236, hp237, hp238, rfl, rfl⟩
                    refine RunC.seq ?_
                    refine RunC.regionU hU 5 [blk b235 89 (nums .u64 zs236), blk b37 89 (nums .u64 zs34)] [0, 8] [3, 4] (bm 5 0) (by kernel_rfl) (by kernel_rfl) (by kernel_rfl) ?_
                    refine RunU.rd 0 (bm 5 1) 55 (.load 89 (.tmp 13)) (ag .u64 zs236) [0, 8] (Reads.load_blk hU 0 b235 (0) 89 (nums .u64 zs236) (ag .u64 zs236) (by kernel_rfl) (by kernel_rfl) (loadv_seg (n := 5) (by kernel_rfl) (by kernel_rfl) (Seg.all _) (by simp only [List.length_append, nums_length, List.length_cons, List.length_nil] <;> omega))) ?_
                    refine RunU.rd 2 (bm 5 5) 57 (.load 89 (.tmp 5)) (ag .u64 zs34) [0, 8] (Reads.load_blk hU 1 b37 (0) 89 (nums .u64 zs34) (ag .u64 zs34) (by kernel_rfl) (by kernel_rfl) (loadv_seg (n := 5) (by kernel_rfl) (by kernel_rfl) (Seg.all _) (by simp only [List.length_append, nums_length, List.length_cons, List.length_nil] <;> omega))) ?_
                    refine RunU.on (some 56) (.call { callee := .value (.func 97), args := #[.tmp 55, .const (.int .i64 5)], argTypes := #[89, 3] }) 1 (bm 5 7) [0, 8] (Step.cn 97 [ag .u64 zs236, .int .i64 5] [] [blk b235 89 (nums .u64 zs236), blk b210 89 (nums .u64 zs211), blk b185 89 (nums .u64 zs186), blk b160 89 (nums .u64 zs161), blk b135 89 (nums .u64 zs136), blk b110 89 (nums .u64 zs111), blk b85 89 (nums .u64 zs86), blk b60 89 (nums .u64 zs61), blk b37 89 (nums .u64 zs34), blk b30 89 (nums .u64 zs31), blk b7 89 (nums .u64 zs4), blk b2 89 (nums .u64 (List.replicate 5 (0 : Int))), blk b1 89 (nums .u64 xs)] (f_squares_spec zs236 (pw v 1809251394333065553493296640760748560207343510400633813116524750123642650623) 5 (by assumption) (by assumption) (by omega) (by omega)) [] ?_)
                    rintro _ _ ⟨zs239, rfl, rfl, hp240, hp241⟩
                    refine orL ?_
                    refine RunU.on (some 58) (.call { callee := .value (.func 75), args := #[.tmp 56, .tmp 57], argTypes := #[89, 89] }) 3 (bm 5 15) [] (Step.cn 75 [ag .u64 zs239, ag .u64 zs34] [] [blk b235 89 (nums .u64 zs236), blk b210 89 (nums .u64 zs211), blk b185 89 (nums .u64 zs186), blk b160 89 (nums .u64 zs161), blk b135 89 (nums .u64 zs136), blk b110 89 (nums .u64 zs111), blk b85 89 (nums .u64 zs86), blk b60 89 (nums .u64 zs61), blk b37 89 (nums .u64 zs34), blk b30 89 (nums .u64 zs31), blk b7 89 (nums .u64 zs4), blk b2 89 (nums .u64 (List.replicate 5 (0 : Int))), blk b1 89 (nums .u64 xs)] (f_Mul_spec zs239 (pw (pw v 1809251394333065553493296640760748560207343510400633813116524750123642650623) (2 ^ (5 : Int).toNat)) zs34 (((pw v 9) * ((v * v) % P)) % P) (by assumption) (by assumption) (by assumption) (by assumption)) [] ?_)
                    rintro _ _ ⟨zs242, rfl, rfl, hp243, hp244⟩
                    refine orR ?_
                    refine RunU.on none (.store 89 (.tmp 2) (.tmp 58)) 4 (bm 5 31) [] (Step.ss hU 11 b2 (0) 89 (nums .u64 (List.replicate 5 (0 : Int))) (nums .u64 zs242) (nums .u64 zs242) (ag .u64 zs242) 5 (by (simp only [List.length_append, nums_length, List.length_cons, List.length_nil, List.length_replicate]; omega)) (show Put _ 0 _ _ from Put.all (by simp only [List.length_append, nums_length, List.length_cons, List.length_nil, List.length_replicate] <;> omega)) ?_)
                    refine orR ?_
                    refine RunU.ev [2] [(2, pt b2)] ?_
                    refine RunU.dn ?_
                    refine kseq_n ?_
                    refine RunC.ret ?_
                    refine kret_r [ag .u64 zs242] [] [] ⟨⟨0, b2, 0, 89, nums .u64 zs242, rfl, rfl, (loadv_seg (U := U) (n := 5) (by kernel_rfl) (by kernel_rfl) (Seg.all _) (by simp only [List.length_append, nums_length, List.length_cons, List.length_nil] <;> omega))⟩, trivial⟩ (by kernel_rfl) rfl ⟨zs242, rfl, rfl, (by refine el_cast (by assumption) ?_; simp only [pw_sq, pw_pow, pw_mul, pw_by]; (refine congrArg (pw v) ?_; decide +kernel)), (by assumption)⟩
end Go.Proofs.Ytaaplakahkgclaa.Z1
