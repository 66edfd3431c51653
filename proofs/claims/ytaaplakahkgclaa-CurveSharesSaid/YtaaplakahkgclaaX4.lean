/- What these functions compute: a contract for each, walked through its code. -/
import Derived.Test.YtaaplakahkgclaaSLzh
import Derived.Test.YtaaplakahkgclaaKPure
import Derived.Test.YtaaplakahkgclaaProg
import Derived.Test.YtaaplakahkgclaaX1
import Derived.Test.YtaaplakahkgclaaX2
import Derived.Test.YtaaplakahkgclaaX3
namespace Go.Proofs.Ytaaplakahkgclaa.X4
open Go Go.Proofs.Ytaaplakahkgclaa.SL Go.Proofs.Ytaaplakahkgclaa.SL.W Go.Proofs.Ytaaplakahkgclaa.SL.F Go.Proofs.Ytaaplakahkgclaa.SL.N Go.Proofs.Ytaaplakahkgclaa.SL.E Go.Proofs.Ytaaplakahkgclaa.SL.K Go.Proofs.Ytaaplakahkgclaa.X1 Go.Proofs.Ytaaplakahkgclaa.X2 Go.Proofs.Ytaaplakahkgclaa.X3
set_option linter.unusedVariables false
set_option linter.unusedSimpArgs false
set_option maxRecDepth 100000
set_option maxHeartbeats 40000000
def U : Tab where
  und := [(86, .int .u64), (123, .struct #[{ name := "high", type := 86, offset := 0, embedded := false, tag := "", pkgPath := "orlop/field", byteOffset := 0 }, { name := "low", type := 86, offset := 1, embedded := false, tag := "", pkgPath := "orlop/field", byteOffset := 8 }]), (124, .struct #[{ name := "high", type := 86, offset := 0, embedded := false, tag := "", pkgPath := "orlop/field", byteOffset := 0 }, { name := "low", type := 86, offset := 1, embedded := false, tag := "", pkgPath := "orlop/field", byteOffset := 8 }])]
  fld := [((123, 0), (0, 86)), ((123, 1), (1, 86)), ((124, 0), (0, 86)), ((124, 1), (1, 86))]
  sz := [(86, 1), (123, 2), (124, 2)]
  ti := [(86, (1, 8, .int .u64 0)), (123, (2, 16, .agg #[.int .u64 0, .int .u64 0])), (124, (2, 16, .agg #[.int .u64 0, .int .u64 0]))]
  bld := [(123, [(0, 1), (1, 1)]), (124, [(0, 1), (1, 1)])]

theorem hU : U.OK Try.prog where
  und := by
    intro p hp
    simp only [U, List.mem_cons, List.not_mem_nil, or_false] at hp
    rcases hp with rfl | rfl | rfl
    · exact Try.underlying86
    · exact Try.underlying123
    · exact Try.underlying124
  fld := by
    intro p hp
    simp only [U, List.mem_cons, List.not_mem_nil, or_false] at hp
    rcases hp with rfl | rfl | rfl | rfl
    · exact ⟨_, _, Try.underlying123, rfl, rfl, rfl, Try.prog.types[86]!, by kernel_rfl, by decide +kernel⟩
    · exact ⟨_, _, Try.underlying123, rfl, rfl, rfl, Try.prog.types[86]!, by kernel_rfl, by decide +kernel⟩
    · exact ⟨_, _, Try.underlying124, rfl, rfl, rfl, Try.prog.types[86]!, by kernel_rfl, by decide +kernel⟩
    · exact ⟨_, _, Try.underlying124, rfl, rfl, rfl, Try.prog.types[86]!, by kernel_rfl, by decide +kernel⟩
  sz := by
    intro p hp
    simp only [U, List.mem_cons, List.not_mem_nil, or_false] at hp
    rcases hp with rfl | rfl | rfl
    · exact ⟨Try.prog.types[86]!, by kernel_rfl, by kernel_rfl⟩
    · exact ⟨Try.prog.types[123]!, by kernel_rfl, by kernel_rfl⟩
    · exact ⟨Try.prog.types[124]!, by kernel_rfl, by kernel_rfl⟩
  ti := by
    intro p hp
    simp only [U, List.mem_cons, List.not_mem_nil, or_false] at hp
    rcases hp with rfl | rfl | rfl
    · exact ⟨Try.prog.types[86]!, by kernel_rfl, by kernel_rfl, by kernel_rfl, by kernel_rfl⟩
    · exact ⟨Try.prog.types[123]!, by kernel_rfl, by kernel_rfl, by kernel_rfl, by kernel_rfl⟩
    · exact ⟨Try.prog.types[124]!, by kernel_rfl, by kernel_rfl, by kernel_rfl, by kernel_rfl⟩
  bld := by
    intro p hp
    simp only [U, List.mem_cons, List.not_mem_nil, or_false] at hp
    rcases hp with rfl | rfl
    · exact ⟨_, Try.underlying123, by kernel_rfl⟩
    · exact ⟨_, Try.underlying124, by kernel_rfl⟩
  mixed := by kernel_rfl

theorem f_Mul64_spec (x : Int) (y : Int) (hx : fits .u64 x) (hy : fits .u64 y) :
    CallsS Try.prog 95 [.int .u64 x, .int .u64 y] [] (fun r D => r = .tuple #[.int .u64 (x * y / 18446744073709551616), .int .u64 (x * y % 18446744073709551616)] ∧ D = []) := by
  refine CallsS.enter hU Try.f95 _ [.tmp 4, .tmp 5] 51 Try.func95 rfl (by decide) rfl rfl (by kernel_rfl) fun w0 W => ?_
  have hx2 := hx; have hy2 := hy; simp only [fits] at hx2 hy2
  refine RunC.sr ?_
  refine RunR.sl hU [] 2 2 [0, 1, 4, 5] [(0, .int .u64 x), (1, .int .u64 y), (4, .int .u64 0), (5, .int .u64 0)] 2 ?_
  refine RunR.nx ?_
  have hm1 := and_le .u64 rfl x 4294967295 (by decide) (by decide)
  refine RunR.sl hU [] 3 3 [0, 1, 4, 5, 6] [(0, .int .u64 x), (1, .int .u64 y), (4, .int .u64 0), (5, .int .u64 0), (6, .int .u64 (bits2 .and .u64 x 4294967295))] 3 ?_
  refine RunR.nx ?_
  refine RunR.sil hU [1] 3 3 [0, 1, 4, 5, 6, 7] [(0, .int .u64 x), (1, .int .u64 y), (4, .int .u64 0), (5, .int .u64 0), (6, .int .u64 (bits2 .and .u64 x 4294967295)), (7, .int .u64 (x / 2 ^ 32))] ((True) ∧ (0 ≤ (32 : Int)) ∧ (True) ∧ True) rfl (by kernel_rfl) ⟨trivial, (by omega), trivial, trivial⟩ ?_
  refine RunR.nx ?_
  have hm2 := and_le .u64 rfl y 4294967295 (by decide) (by decide)
  refine RunR.sl hU [] 3 3 [0, 1, 4, 5, 6, 7, 8] [(0, .int .u64 x), (1, .int .u64 y), (4, .int .u64 0), (5, .int .u64 0), (6, .int .u64 (bits2 .and .u64 x 4294967295)), (7, .int .u64 (x / 2 ^ 32)), (8, .int .u64 (bits2 .and .u64 y 4294967295))] 3 ?_
  refine RunR.nx ?_
  refine RunR.sil hU [1] 3 3 [0, 1, 4, 5, 6, 7, 8, 9] [(0, .int .u64 x), (1, .int .u64 y), (4, .int .u64 0), (5, .int .u64 0), (6, .int .u64 (bits2 .and .u64 x 4294967295)), (7, .int .u64 (x / 2 ^ 32)), (8, .int .u64 (bits2 .and .u64 y 4294967295)), (9, .int .u64 (y / 2 ^ 32))] ((True) ∧ (0 ≤ (32 : Int)) ∧ (True) ∧ True) rfl (by kernel_rfl) ⟨trivial, (by omega), trivial, trivial⟩ ?_
  refine RunR.nx ?_
  refine RunR.sl hU [] 4 4 [0, 1, 4, 5, 6, 7, 8, 9, 10] [(0, .int .u64 x), (1, .int .u64 y), (4, .int .u64 0), (5, .int .u64 0), (6, .int .u64 (bits2 .and .u64 x 4294967295)), (7, .int .u64 (x / 2 ^ 32)), (8, .int .u64 (bits2 .and .u64 y 4294967295)), (9, .int .u64 (y / 2 ^ 32)), (10, .int .u64 (IntKind.wrap .u64 ((bits2 .and .u64 x 4294967295) * (bits2 .and .u64 y 4294967295))))] 4 ?_
  refine RunR.nx ?_
  refine RunR.sil hU [4] 7 7 [0, 1, 4, 5, 6, 7, 9, 11] [(0, .int .u64 x), (1, .int .u64 y), (4, .int .u64 0), (5, .int .u64 0), (6, .int .u64 (bits2 .and .u64 x 4294967295)), (7, .int .u64 (x / 2 ^ 32)), (9, .int .u64 (y / 2 ^ 32)), (11, .int .u64 (IntKind.wrap .u64 ((IntKind.wrap .u64 ((x / 2 ^ 32) * (bits2 .and .u64 y 4294967295))) + ((IntKind.wrap .u64 ((bits2 .and .u64 x 4294967295) * (bits2 .and .u64 y 4294967295))) / 2 ^ 32))))] ((True) ∧ (True) ∧ (True) ∧ (True) ∧ (0 ≤ (32 : Int)) ∧ (True) ∧ (True) ∧ True) rfl (by kernel_rfl) ⟨trivial, trivial, trivial, trivial, (by omega), trivial, trivial, trivial⟩ ?_
  refine RunR.nx ?_
  have hm3 := and_le .u64 rfl (IntKind.wrap .u64 ((IntKind.wrap .u64 ((x / 2 ^ 32) * (bits2 .and .u64 y 4294967295))) + ((IntKind.wrap .u64 ((bits2 .and .u64 x 4294967295) * (bits2 .and .u64 y 4294967295))) / 2 ^ 32))) 4294967295 (by decide) (by decide)
  refine RunR.sl hU [] 3 3 [0, 1, 4, 5, 6, 7, 9, 11, 12] [(0, .int .u64 x), (1, .int .u64 y), (4, .int .u64 0), (5, .int .u64 0), (6, .int .u64 (bits2 .and .u64 x 4294967295)), (7, .int .u64 (x / 2 ^ 32)), (9, .int .u64 (y / 2 ^ 32)), (11, .int .u64 (IntKind.wrap .u64 ((IntKind.wrap .u64 ((x / 2 ^ 32) * (bits2 .and .u64 y 4294967295))) + ((IntKind.wrap .u64 ((bits2 .and .u64 x 4294967295) * (bits2 .and .u64 y 4294967295))) / 2 ^ 32)))), (12, .int .u64 (bits2 .and .u64 (IntKind.wrap .u64 ((IntKind.wrap .u64 ((x / 2 ^ 32) * (bits2 .and .u64 y 4294967295))) + ((IntKind.wrap .u64 ((bits2 .and .u64 x 4294967295) * (bits2 .and .u64 y 4294967295))) / 2 ^ 32))) 4294967295))] 3 ?_
  refine RunR.nx ?_
  refine RunR.sil hU [1] 3 3 [0, 1, 4, 5, 6, 7, 9, 12, 13] [(0, .int .u64 x), (1, .int .u64 y), (4, .int .u64 0), (5, .int .u64 0), (6, .int .u64 (bits2 .and .u64 x 4294967295)), (7, .int .u64 (x / 2 ^ 32)), (9, .int .u64 (y / 2 ^ 32)), (12, .int .u64 (bits2 .and .u64 (IntKind.wrap .u64 ((IntKind.wrap .u64 ((x / 2 ^ 32) * (bits2 .and .u64 y 4294967295))) + ((IntKind.wrap .u64 ((bits2 .and .u64 x 4294967295) * (bits2 .and .u64 y 4294967295))) / 2 ^ 32))) 4294967295)), (13, .int .u64 ((IntKind.wrap .u64 ((IntKind.wrap .u64 ((x / 2 ^ 32) * (bits2 .and .u64 y 4294967295))) + ((IntKind.wrap .u64 ((bits2 .and .u64 x 4294967295) * (bits2 .and .u64 y 4294967295))) / 2 ^ 32))) / 2 ^ 32))] ((True) ∧ (0 ≤ (32 : Int)) ∧ (True) ∧ True) rfl (by kernel_rfl) ⟨trivial, (by omega), trivial, trivial⟩ ?_
  refine RunR.nx ?_
  refine RunR.sl hU [] 6 6 [0, 1, 4, 5, 7, 9, 12, 13] [(0, .int .u64 x), (1, .int .u64 y), (4, .int .u64 0), (5, .int .u64 0), (7, .int .u64 (x / 2 ^ 32)), (9, .int .u64 (y / 2 ^ 32)), (12, .int .u64 (IntKind.wrap .u64 ((bits2 .and .u64 (IntKind.wrap .u64 ((IntKind.wrap .u64 ((x / 2 ^ 32) * (bits2 .and .u64 y 4294967295))) + ((IntKind.wrap .u64 ((bits2 .and .u64 x 4294967295) * (bits2 .and .u64 y 4294967295))) / 2 ^ 32))) 4294967295) + (IntKind.wrap .u64 ((bits2 .and .u64 x 4294967295) * (y / 2 ^ 32)))))), (13, .int .u64 ((IntKind.wrap .u64 ((IntKind.wrap .u64 ((x / 2 ^ 32) * (bits2 .and .u64 y 4294967295))) + ((IntKind.wrap .u64 ((bits2 .and .u64 x 4294967295) * (bits2 .and .u64 y 4294967295))) / 2 ^ 32))) / 2 ^ 32))] 6 ?_
  refine RunR.nx ?_
  refine RunR.sil hU [6] 9 9 [0, 1, 4, 5] [(0, .int .u64 x), (1, .int .u64 y), (4, .int .u64 (IntKind.wrap .u64 ((IntKind.wrap .u64 ((IntKind.wrap .u64 ((x / 2 ^ 32) * (y / 2 ^ 32))) + ((IntKind.wrap .u64 ((IntKind.wrap .u64 ((x / 2 ^ 32) * (bits2 .and .u64 y 4294967295))) + ((IntKind.wrap .u64 ((bits2 .and .u64 x 4294967295) * (bits2 .and .u64 y 4294967295))) / 2 ^ 32))) / 2 ^ 32))) + ((IntKind.wrap .u64 ((bits2 .and .u64 (IntKind.wrap .u64 ((IntKind.wrap .u64 ((x / 2 ^ 32) * (bits2 .and .u64 y 4294967295))) + ((IntKind.wrap .u64 ((bits2 .and .u64 x 4294967295) * (bits2 .and .u64 y 4294967295))) / 2 ^ 32))) 4294967295) + (IntKind.wrap .u64 ((bits2 .and .u64 x 4294967295) * (y / 2 ^ 32))))) / 2 ^ 32)))), (5, .int .u64 0)] ((True) ∧ (True) ∧ (True) ∧ (True) ∧ (True) ∧ (True) ∧ (0 ≤ (32 : Int)) ∧ (True) ∧ (True) ∧ True) rfl (by kernel_rfl) ⟨trivial, trivial, trivial, trivial, trivial, trivial, (by omega), trivial, trivial, trivial⟩ ?_
  refine RunR.nx ?_
  refine RunR.sl hU [] 4 4 [4, 5] [(4, .int .u64 (IntKind.wrap .u64 ((IntKind.wrap .u64 ((IntKind.wrap .u64 ((x / 2 ^ 32) * (y / 2 ^ 32))) + ((IntKind.wrap .u64 ((IntKind.wrap .u64 ((x / 2 ^ 32) * (bits2 .and .u64 y 4294967295))) + ((IntKind.wrap .u64 ((bits2 .and .u64 x 4294967295) * (bits2 .and .u64 y 4294967295))) / 2 ^ 32))) / 2 ^ 32))) + ((IntKind.wrap .u64 ((bits2 .and .u64 (IntKind.wrap .u64 ((IntKind.wrap .u64 ((x / 2 ^ 32) * (bits2 .and .u64 y 4294967295))) + ((IntKind.wrap .u64 ((bits2 .and .u64 x 4294967295) * (bits2 .and .u64 y 4294967295))) / 2 ^ 32))) 4294967295) + (IntKind.wrap .u64 ((bits2 .and .u64 x 4294967295) * (y / 2 ^ 32))))) / 2 ^ 32)))), (5, .int .u64 (IntKind.wrap .u64 (x * y)))] 4 ?_
  refine RunR.nn ?_
  refine RunC.ret ?_
  refine kret_r [.int .u64 (IntKind.wrap .u64 ((IntKind.wrap .u64 ((IntKind.wrap .u64 ((x / 2 ^ 32) * (y / 2 ^ 32))) + ((IntKind.wrap .u64 ((IntKind.wrap .u64 ((x / 2 ^ 32) * (bits2 .and .u64 y 4294967295))) + ((IntKind.wrap .u64 ((bits2 .and .u64 x 4294967295) * (bits2 .and .u64 y 4294967295))) / 2 ^ 32))) / 2 ^ 32))) + ((IntKind.wrap .u64 ((bits2 .and .u64 (IntKind.wrap .u64 ((IntKind.wrap .u64 ((x / 2 ^ 32) * (bits2 .and .u64 y 4294967295))) + ((IntKind.wrap .u64 ((bits2 .and .u64 x 4294967295) * (bits2 .and .u64 y 4294967295))) / 2 ^ 32))) 4294967295) + (IntKind.wrap .u64 ((bits2 .and .u64 x 4294967295) * (y / 2 ^ 32))))) / 2 ^ 32))), .int .u64 (IntKind.wrap .u64 (x * y))] [] [] ⟨rfl, rfl, trivial⟩ (by kernel_rfl) rfl ⟨(by (exact mul64_eq hx2 hy2)), (by rfl)⟩

theorem f_plus_spec (h : Int) (l : Int) (a : Int) (b : Int) (hh : fits .u64 h) (hl : fits .u64 l) (ha : fits .u64 a) (hb : fits .u64 b) (hs : h * 18446744073709551616 + l + a * b < 340282366920938463463374607431768211456) (hp : 0 ≤ a * b) :
    CallsS Try.prog 93 [.agg #[.int .u64 h, .int .u64 l], .int .u64 a, .int .u64 b] [] (fun r D => ∃ (k : Int) (m : Int), r = .agg #[.int .u64 k, .int .u64 m] ∧ D = [] ∧ (k * 18446744073709551616 + m = h * 18446744073709551616 + l + a * b) ∧ (0 ≤ k ∧ k < 18446744073709551616) ∧ (0 ≤ m ∧ m < 18446744073709551616)) := by
  refine CallsS.enter hU Try.f93 _ [.cell 6 124] 34 Try.func93 rfl (by decide) rfl rfl (by kernel_rfl) fun w0 W => ?_
  have hh2 := hh; have hl2 := hl; simp only [fits] at hh2 hl2
  refine RunC.sr ?_
  refine RunR.st (some 3) (.box 124 (.tmp 0)) (Step.box (.agg #[.int .u64 h, .int .u64 l]) (by kernel_rfl) (by kernel_rfl) (fun b1 => ?_))
  refine RunR.st (some 6) (.alloc 124) (Step.al hU 2 16 (.agg #[.int .u64 0, .int .u64 0]) (fun b2 => ?_))
  refine RunR.nx ?_
  refine RunR.sl hU [] 2 2 [3, 6, 11, 12] [(3, pt b1), (6, pt b2), (11, .int .u64 a), (12, .int .u64 b)] 2 ?_
  refine RunR.st (some 13) (.call { callee := .value (.func 95), args := #[.tmp 11, .tmp 12], argTypes := #[86, 86] }) (Step.cn 95 [.int .u64 a, .int .u64 b] [] [blk b2 124 [.int .u64 0, .int .u64 0], blk b1 124 [.int .u64 h, .int .u64 l]] (f_Mul64_spec a b (by assumption) (by assumption)) [] ?_)
  rintro _ _ ⟨rfl, rfl⟩
  refine RunR.sl hU [] 5 8 [3, 6, 7, 8] [(3, pt b1), (6, pt b2), (7, .int .u64 (a * b / 18446744073709551616)), (8, .int .u64 (a * b % 18446744073709551616))] 5 ?_
  refine RunR.nx ?_
  refine RunR.sl hU [] 1 1 [3, 6, 7, 8] [(3, pt b1), (6, pt b2), (7, .int .u64 (a * b / 18446744073709551616)), (8, .int .u64 (a * b % 18446744073709551616))] 1 ?_
  refine RunR.nx ?_
  refine RunR.sl hU [] 1 1 [3, 6, 7, 8, 17] [(3, pt b1), (6, pt b2), (7, .int .u64 (a * b / 18446744073709551616)), (8, .int .u64 (a * b % 18446744073709551616)), (17, .pointer (some ⟨b1, 1, none⟩))] 1 ?_
  refine RunR.st (some 18) (.load 86 (.tmp 17)) (Step.load_blk hU 1 b1 (1) 124 [.int .u64 h, .int .u64 l] (.int .u64 l) (by kernel_rfl) (by kernel_rfl) (by kernel_rfl) (by kernel_rfl) ?_)
  refine RunR.sl hU [] 1 3 [3, 6, 7, 18, 19] [(3, pt b1), (6, pt b2), (7, .int .u64 (a * b / 18446744073709551616)), (18, .int .u64 l), (19, .int .u64 (a * b % 18446744073709551616))] 1 ?_
  refine RunR.st (some 20) (.call { callee := .value (.func 94), args := #[.tmp 18, .tmp 19, .const (.int .u64 0)], argTypes := #[86, 86, 86] }) (Step.extern 94 [.int .u64 l, .int .u64 (a * b % 18446744073709551616), .int .u64 0] Try.f94 add64e (.tuple #[.int .u64 ((l + (a * b % 18446744073709551616) + (0 : Int)) % 18446744073709551616), .int .u64 ((l + (a * b % 18446744073709551616) + (0 : Int)) / 18446744073709551616)]) (by kernel_rfl) Try.func94 (by kernel_rfl) (by kernel_rfl) (by kernel_rfl) (by kernel_rfl) (fun w => run_add64e (by omega) (by omega) (by omega)) (by kernel_rfl) ?_)
  refine RunR.sl hU [] 4 8 [3, 6, 7, 21, 22, 23] [(3, pt b1), (6, pt b2), (7, .int .u64 (a * b / 18446744073709551616)), (21, .int .u64 ((l + (a * b % 18446744073709551616) + (0 : Int)) % 18446744073709551616)), (22, .int .u64 ((l + (a * b % 18446744073709551616) + (0 : Int)) / 18446744073709551616)), (23, .pointer (some ⟨b1, 1, none⟩))] 4 ?_
  refine RunR.st none (.store 86 (.tmp 23) (.tmp 21)) (Step.store_blk hU 1 b1 1 124 [.int .u64 h, .int .u64 l] (.int .u64 ((l + (a * b % 18446744073709551616) + (0 : Int)) % 18446744073709551616)) (by kernel_rfl) (by kernel_rfl) (by kernel_rfl) 1 rfl [.int .u64 ((l + (a * b % 18446744073709551616) + (0 : Int)) % 18446744073709551616)] (by kernel_rfl) rfl (by kernel_rfl) (by simp) ?_)
  refine RunR.sl hU [] 1 10 [3, 6, 7, 9] [(3, pt b1), (6, pt b2), (7, .int .u64 (a * b / 18446744073709551616)), (9, .int .u64 ((l + (a * b % 18446744073709551616) + (0 : Int)) / 18446744073709551616))] 1 ?_
  refine RunR.nx ?_
  refine RunR.sl hU [] 1 1 [3, 6, 7, 9, 25] [(3, pt b1), (6, pt b2), (7, .int .u64 (a * b / 18446744073709551616)), (9, .int .u64 ((l + (a * b % 18446744073709551616) + (0 : Int)) / 18446744073709551616)), (25, pt b1)] 1 ?_
  refine RunR.st (some 26) (.load 86 (.tmp 25)) (Step.load_blk hU 0 b1 (0) 124 [.int .u64 h, .int .u64 ((l + (a * b % 18446744073709551616) + (0 : Int)) % 18446744073709551616)] (.int .u64 h) (by kernel_rfl) (by kernel_rfl) (by kernel_rfl) (by kernel_rfl) ?_)
  refine RunR.sl hU [] 2 4 [3, 6, 26, 27, 28] [(3, pt b1), (6, pt b2), (26, .int .u64 h), (27, .int .u64 (a * b / 18446744073709551616)), (28, .int .u64 ((l + (a * b % 18446744073709551616) + (0 : Int)) / 18446744073709551616))] 2 ?_
  refine RunR.st (some 29) (.call { callee := .value (.func 94), args := #[.tmp 26, .tmp 27, .tmp 28], argTypes := #[86, 86, 86] }) (Step.extern 94 [.int .u64 h, .int .u64 (a * b / 18446744073709551616), .int .u64 ((l + (a * b % 18446744073709551616) + (0 : Int)) / 18446744073709551616)] Try.f94 add64e (.tuple #[.int .u64 ((h + (a * b / 18446744073709551616) + ((l + (a * b % 18446744073709551616) + (0 : Int)) / 18446744073709551616)) % 18446744073709551616), .int .u64 ((h + (a * b / 18446744073709551616) + ((l + (a * b % 18446744073709551616) + (0 : Int)) / 18446744073709551616)) / 18446744073709551616)]) (by kernel_rfl) Try.func94 (by kernel_rfl) (by kernel_rfl) (by kernel_rfl) (by kernel_rfl) (fun w => run_add64e (by omega) (by omega) (by omega)) (by kernel_rfl) ?_)
  refine RunR.sl hU [] 4 9 [3, 6, 30, 32] [(3, pt b1), (6, pt b2), (30, .int .u64 ((h + (a * b / 18446744073709551616) + ((l + (a * b % 18446744073709551616) + (0 : Int)) / 18446744073709551616)) % 18446744073709551616)), (32, pt b1)] 4 ?_
  refine RunR.st none (.store 86 (.tmp 32) (.tmp 30)) (Step.store_blk hU 0 b1 0 124 [.int .u64 h, .int .u64 ((l + (a * b % 18446744073709551616) + (0 : Int)) % 18446744073709551616)] (.int .u64 ((h + (a * b / 18446744073709551616) + ((l + (a * b % 18446744073709551616) + (0 : Int)) / 18446744073709551616)) % 18446744073709551616)) (by kernel_rfl) (by kernel_rfl) (by kernel_rfl) 1 rfl [.int .u64 ((h + (a * b / 18446744073709551616) + ((l + (a * b % 18446744073709551616) + (0 : Int)) / 18446744073709551616)) % 18446744073709551616)] (by kernel_rfl) rfl (by kernel_rfl) (by simp) ?_)
  refine RunR.nx ?_
  refine RunR.st (some 33) (.load 124 (.tmp 3)) (Step.load_blk hU 0 b1 (0) 124 [.int .u64 ((h + (a * b / 18446744073709551616) + ((l + (a * b % 18446744073709551616) + (0 : Int)) / 18446744073709551616)) % 18446744073709551616), .int .u64 ((l + (a * b % 18446744073709551616) + (0 : Int)) % 18446744073709551616)] (.agg #[.int .u64 ((h + (a * b / 18446744073709551616) + ((l + (a * b % 18446744073709551616) + (0 : Int)) / 18446744073709551616)) % 18446744073709551616), .int .u64 ((l + (a * b % 18446744073709551616) + (0 : Int)) % 18446744073709551616)]) (by kernel_rfl) (by kernel_rfl) (by kernel_rfl) (by kernel_rfl) ?_)
  refine RunR.st none (.store 124 (.tmp 6) (.tmp 33)) (Step.store_blk hU 1 b2 0 124 [.int .u64 0, .int .u64 0] (.agg #[.int .u64 ((h + (a * b / 18446744073709551616) + ((l + (a * b % 18446744073709551616) + (0 : Int)) / 18446744073709551616)) % 18446744073709551616), .int .u64 ((l + (a * b % 18446744073709551616) + (0 : Int)) % 18446744073709551616)]) (by kernel_rfl) (by kernel_rfl) (by kernel_rfl) 2 rfl [.int .u64 ((h + (a * b / 18446744073709551616) + ((l + (a * b % 18446744073709551616) + (0 : Int)) / 18446744073709551616)) % 18446744073709551616), .int .u64 ((l + (a * b % 18446744073709551616) + (0 : Int)) % 18446744073709551616)] (by kernel_rfl) rfl (by kernel_rfl) (by decide) ?_)
  refine RunR.nn ?_
  refine RunC.ret ?_
  refine kret_r [.agg #[.int .u64 ((h + (a * b / 18446744073709551616) + ((l + (a * b % 18446744073709551616) + (0 : Int)) / 18446744073709551616)) % 18446744073709551616), .int .u64 ((l + (a * b % 18446744073709551616) + (0 : Int)) % 18446744073709551616)]] [] [] ⟨⟨0, b2, 0, 124, [.int .u64 ((h + (a * b / 18446744073709551616) + ((l + (a * b % 18446744073709551616) + (0 : Int)) / 18446744073709551616)) % 18446744073709551616), .int .u64 ((l + (a * b % 18446744073709551616) + (0 : Int)) % 18446744073709551616)], rfl, rfl, by kernel_rfl⟩, trivial⟩ (by kernel_rfl) rfl ⟨((h + (a * b / 18446744073709551616) + ((l + (a * b % 18446744073709551616) + (0 : Int)) / 18446744073709551616)) % 18446744073709551616), ((l + (a * b % 18446744073709551616) + (0 : Int)) % 18446744073709551616), rfl, rfl, (by omega), (by omega), (by omega)⟩
end Go.Proofs.Ytaaplakahkgclaa.X4
