/- What these functions compute: a contract for each, walked through its code. -/
import Derived.Test.YtbnjcfhnbjaoiaaMPure
import Derived.Test.YtbnjcfhnbjaoiaaProg
import Derived.Test.YtbnjcfhnbjaoiaaX1
import Derived.Test.YtbnjcfhnbjaoiaaX2
import Derived.Test.YtbnjcfhnbjaoiaaX3
import Derived.Test.YtbnjcfhnbjaoiaaX4
namespace Go.Proofs.Ytbnjcfhnbjaoiaa.X5
open Go Go.Proofs.Ytbnjcfhnbjaoiaa.SL Go.Proofs.Ytbnjcfhnbjaoiaa.SL.W Go.Proofs.Ytbnjcfhnbjaoiaa.SL.C Go.Proofs.Ytbnjcfhnbjaoiaa.SL.H Go.Proofs.Ytbnjcfhnbjaoiaa.SL.M Go.Proofs.Ytbnjcfhnbjaoiaa.X1 Go.Proofs.Ytbnjcfhnbjaoiaa.X2 Go.Proofs.Ytbnjcfhnbjaoiaa.X3 Go.Proofs.Ytbnjcfhnbjaoiaa.X4
set_option linter.unusedVariables false
set_option linter.unusedSimpArgs false
set_option maxRecDepth 100000
set_option maxHeartbeats 40000000
def U : Tab where
  und := [(3, .int .i64), (5, .int .u8), (22, .slice 5), (24, .int .u64), (49, .int .u32), (97, .array 8 49), (99, .array 64 49), (101, .array 64 5), (102, .struct #[{ name := "state", type := 97, offset := 0, embedded := false, tag := "", pkgPath := "orlop/sha", byteOffset := 0 }, { name := "k", type := 99, offset := 8, embedded := false, tag := "", pkgPath := "orlop/sha", byteOffset := 32 }, { name := "wait", type := 101, offset := 72, embedded := false, tag := "", pkgPath := "orlop/sha", byteOffset := 288 }, { name := "many", type := 3, offset := 136, embedded := false, tag := "", pkgPath := "orlop/sha", byteOffset := 352 }, { name := "all", type := 24, offset := 137, embedded := false, tag := "", pkgPath := "orlop/sha", byteOffset := 360 }]), (103, .struct #[{ name := "state", type := 97, offset := 0, embedded := false, tag := "", pkgPath := "orlop/sha", byteOffset := 0 }, { name := "k", type := 99, offset := 8, embedded := false, tag := "", pkgPath := "orlop/sha", byteOffset := 32 }, { name := "wait", type := 101, offset := 72, embedded := false, tag := "", pkgPath := "orlop/sha", byteOffset := 288 }, { name := "many", type := 3, offset := 136, embedded := false, tag := "", pkgPath := "orlop/sha", byteOffset := 352 }, { name := "all", type := 24, offset := 137, embedded := false, tag := "", pkgPath := "orlop/sha", byteOffset := 360 }])]
  fld := [((102, 0), (0, 97)), ((102, 1), (8, 99)), ((102, 2), (72, 101)), ((102, 3), (136, 3)), ((102, 4), (137, 24)), ((103, 0), (0, 97)), ((103, 1), (8, 99)), ((103, 2), (72, 101)), ((103, 3), (136, 3)), ((103, 4), (137, 24))]
  sz := [(3, 1), (5, 1), (22, 1), (24, 1), (49, 1), (97, 8), (99, 64), (101, 64), (102, 138), (103, 138)]
  ti := [(3, (1, 8, .int .i64 0)), (5, (1, 1, .int .u8 0)), (22, (1, 24, .slice none 0 0)), (24, (1, 8, .int .u64 0)), (49, (1, 4, .int .u32 0)), (97, (8, 32, .agg #[.int .u32 0, .int .u32 0, .int .u32 0, .int .u32 0, .int .u32 0, .int .u32 0, .int .u32 0, .int .u32 0])), (99, (64, 256, .agg #[.int .u32 0, .int .u32 0, .int .u32 0, .int .u32 0, .int .u32 0, .int .u32 0, .int .u32 0, .int .u32 0, .int .u32 0, .int .u32 0, .int .u32 0, .int .u32 0, .int .u32 0, .int .u32 0, .int .u32 0, .int .u32 0, .int .u32 0, .int .u32 0, .int .u32 0, .int .u32 0, .int .u32 0, .int .u32 0, .int .u32 0, .int .u32 0, .int .u32 0, .int .u32 0, .int .u32 0, .int .u32 0, .int .u32 0, .int .u32 0, .int .u32 0, .int .u32 0, .int .u32 0, .int .u32 0, .int .u32 0, .int .u32 0, .int .u32 0, .int .u32 0, .int .u32 0, .int .u32 0, .int .u32 0, .int .u32 0, .int .u32 0, .int .u32 0, .int .u32 0, .int .u32 0, .int .u32 0, .int .u32 0, .int .u32 0, .int .u32 0, .int .u32 0, .int .u32 0, .int .u32 0, .int .u32 0, .int .u32 0, .int .u32 0, .int .u32 0, .int .u32 0, .int .u32 0, .int .u32 0, .int .u32 0, .int .u32 0, .int .u32 0, .int .u32 0])), (101, (64, 64, .agg #[.int .u8 0, .int .u8 0, .int .u8 0, .int .u8 0, .int .u8 0, .int .u8 0, .int .u8 0, .int .u8 0, .int .u8 0, .int .u8 0, .int .u8 0, .int .u8 0, .int .u8 0, .int .u8 0, .int .u8 0, .int .u8 0, .int .u8 0, .int .u8 0, .int .u8 0, .int .u8 0, .int .u8 0, .int .u8 0, .int .u8 0, .int .u8 0, .int .u8 0, .int .u8 0, .int .u8 0, .int .u8 0, .int .u8 0, .int .u8 0, .int .u8 0, .int .u8 0, .int .u8 0, .int .u8 0, .int .u8 0, .int .u8 0, .int .u8 0, .int .u8 0, .int .u8 0, .int .u8 0, .int .u8 0, .int .u8 0, .int .u8 0, .int .u8 0, .int .u8 0, .int .u8 0, .int .u8 0, .int .u8 0, .int .u8 0, .int .u8 0, .int .u8 0, .int .u8 0, .int .u8 0, .int .u8 0, .int .u8 0, .int .u8 0, .int .u8 0, .int .u8 0, .int .u8 0, .int .u8 0, .int .u8 0, .int .u8 0, .int .u8 0, .int .u8 0])), (102, (138, 368, .agg #[.int .u32 0, .int .u32 0, .int .u32 0, .int .u32 0, .int .u32 0, .int .u32 0, .int .u32 0, .int .u32 0, .int .u32 0, .int .u32 0, .int .u32 0, .int .u32 0, .int .u32 0, .int .u32 0, .int .u32 0, .int .u32 0, .int .u32 0, .int .u32 0, .int .u32 0, .int .u32 0, .int .u32 0, .int .u32 0, .int .u32 0, .int .u32 0, .int .u32 0, .int .u32 0, .int .u32 0, .int .u32 0, .int .u32 0, .int .u32 0, .int .u32 0, .int .u32 0, .int .u32 0, .int .u32 0, .int .u32 0, .int .u32 0, .int .u32 0, .int .u32 0, .int .u32 0, .int .u32 0, .int .u32 0, .int .u32 0, .int .u32 0, .int .u32 0, .int .u32 0, .int .u32 0, .int .u32 0, .int .u32 0, .int .u32 0, .int .u32 0, .int .u32 0, .int .u32 0, .int .u32 0, .int .u32 0, .int .u32 0, .int .u32 0, .int .u32 0, .int .u32 0, .int .u32 0, .int .u32 0, .int .u32 0, .int .u32 0, .int .u32 0, .int .u32 0, .int .u32 0, .int .u32 0, .int .u32 0, .int .u32 0, .int .u32 0, .int .u32 0, .int .u32 0, .int .u32 0, .int .u8 0, .int .u8 0, .int .u8 0, .int .u8 0, .int .u8 0, .int .u8 0, .int .u8 0, .int .u8 0, .int .u8 0, .int .u8 0, .int .u8 0, .int .u8 0, .int .u8 0, .int .u8 0, .int .u8 0, .int .u8 0, .int .u8 0, .int .u8 0, .int .u8 0, .int .u8 0, .int .u8 0, .int .u8 0, .int .u8 0, .int .u8 0, .int .u8 0, .int .u8 0, .int .u8 0, .int .u8 0, .int .u8 0, .int .u8 0, .int .u8 0, .int .u8 0, .int .u8 0, .int .u8 0, .int .u8 0, .int .u8 0, .int .u8 0, .int .u8 0, .int .u8 0, .int .u8 0, .int .u8 0, .int .u8 0, .int .u8 0, .int .u8 0, .int .u8 0, .int .u8 0, .int .u8 0, .int .u8 0, .int .u8 0, .int .u8 0, .int .u8 0, .int .u8 0, .int .u8 0, .int .u8 0, .int .u8 0, .int .u8 0, .int .u8 0, .int .u8 0, .int .u8 0, .int .u8 0, .int .u8 0, .int .u8 0, .int .u8 0, .int .u8 0, .int .i64 0, .int .u64 0])), (103, (138, 368, .agg #[.int .u32 0, .int .u32 0, .int .u32 0, .int .u32 0, .int .u32 0, .int .u32 0, .int .u32 0, .int .u32 0, .int .u32 0, .int .u32 0, .int .u32 0, .int .u32 0, .int .u32 0, .int .u32 0, .int .u32 0, .int .u32 0, .int .u32 0, .int .u32 0, .int .u32 0, .int .u32 0, .int .u32 0, .int .u32 0, .int .u32 0, .int .u32 0, .int .u32 0, .int .u32 0, .int .u32 0, .int .u32 0, .int .u32 0, .int .u32 0, .int .u32 0, .int .u32 0, .int .u32 0, .int .u32 0, .int .u32 0, .int .u32 0, .int .u32 0, .int .u32 0, .int .u32 0, .int .u32 0, .int .u32 0, .int .u32 0, .int .u32 0, .int .u32 0, .int .u32 0, .int .u32 0, .int .u32 0, .int .u32 0, .int .u32 0, .int .u32 0, .int .u32 0, .int .u32 0, .int .u32 0, .int .u32 0, .int .u32 0, .int .u32 0, .int .u32 0, .int .u32 0, .int .u32 0, .int .u32 0, .int .u32 0, .int .u32 0, .int .u32 0, .int .u32 0, .int .u32 0, .int .u32 0, .int .u32 0, .int .u32 0, .int .u32 0, .int .u32 0, .int .u32 0, .int .u32 0, .int .u8 0, .int .u8 0, .int .u8 0, .int .u8 0, .int .u8 0, .int .u8 0, .int .u8 0, .int .u8 0, .int .u8 0, .int .u8 0, .int .u8 0, .int .u8 0, .int .u8 0, .int .u8 0, .int .u8 0, .int .u8 0, .int .u8 0, .int .u8 0, .int .u8 0, .int .u8 0, .int .u8 0, .int .u8 0, .int .u8 0, .int .u8 0, .int .u8 0, .int .u8 0, .int .u8 0, .int .u8 0, .int .u8 0, .int .u8 0, .int .u8 0, .int .u8 0, .int .u8 0, .int .u8 0, .int .u8 0, .int .u8 0, .int .u8 0, .int .u8 0, .int .u8 0, .int .u8 0, .int .u8 0, .int .u8 0, .int .u8 0, .int .u8 0, .int .u8 0, .int .u8 0, .int .u8 0, .int .u8 0, .int .u8 0, .int .u8 0, .int .u8 0, .int .u8 0, .int .u8 0, .int .u8 0, .int .u8 0, .int .u8 0, .int .u8 0, .int .u8 0, .int .u8 0, .int .u8 0, .int .u8 0, .int .u8 0, .int .u8 0, .int .u8 0, .int .i64 0, .int .u64 0]))]
  bld := [(102, [(0, 8), (8, 64), (72, 64), (136, 1), (137, 1)]), (103, [(0, 8), (8, 64), (72, 64), (136, 1), (137, 1)])]

theorem hU : U.OK Try.prog where
  und := by
    intro p hp
    simp only [U, List.mem_cons, List.not_mem_nil, or_false] at hp
    rcases hp with rfl | rfl | rfl | rfl | rfl | rfl | rfl | rfl | rfl | rfl
    · exact Try.underlying3
    · exact Try.underlying5
    · exact Try.underlying22
    · exact Try.underlying24
    · exact Try.underlying49
    · exact Try.underlying97
    · exact Try.underlying99
    · exact Try.underlying101
    · exact Try.underlying102
    · exact Try.underlying103
  fld := by
    intro p hp
    simp only [U, List.mem_cons, List.not_mem_nil, or_false] at hp
    rcases hp with rfl | rfl | rfl | rfl | rfl | rfl | rfl | rfl | rfl | rfl
    · exact ⟨_, _, Try.underlying102, rfl, rfl, rfl, Try.prog.types[97]!, by kernel_rfl, by decide +kernel⟩
    · exact ⟨_, _, Try.underlying102, rfl, rfl, rfl, Try.prog.types[99]!, by kernel_rfl, by decide +kernel⟩
    · exact ⟨_, _, Try.underlying102, rfl, rfl, rfl, Try.prog.types[101]!, by kernel_rfl, by decide +kernel⟩
    · exact ⟨_, _, Try.underlying102, rfl, rfl, rfl, Try.prog.types[3]!, by kernel_rfl, by decide +kernel⟩
    · exact ⟨_, _, Try.underlying102, rfl, rfl, rfl, Try.prog.types[24]!, by kernel_rfl, by decide +kernel⟩
    · exact ⟨_, _, Try.underlying103, rfl, rfl, rfl, Try.prog.types[97]!, by kernel_rfl, by decide +kernel⟩
    · exact ⟨_, _, Try.underlying103, rfl, rfl, rfl, Try.prog.types[99]!, by kernel_rfl, by decide +kernel⟩
    · exact ⟨_, _, Try.underlying103, rfl, rfl, rfl, Try.prog.types[101]!, by kernel_rfl, by decide +kernel⟩
    · exact ⟨_, _, Try.underlying103, rfl, rfl, rfl, Try.prog.types[3]!, by kernel_rfl, by decide +kernel⟩
    · exact ⟨_, _, Try.underlying103, rfl, rfl, rfl, Try.prog.types[24]!, by kernel_rfl, by decide +kernel⟩
  sz := by
    intro p hp
    simp only [U, List.mem_cons, List.not_mem_nil, or_false] at hp
    rcases hp with rfl | rfl | rfl | rfl | rfl | rfl | rfl | rfl | rfl | rfl
    · exact ⟨Try.prog.types[3]!, by kernel_rfl, by kernel_rfl⟩
    · exact ⟨Try.prog.types[5]!, by kernel_rfl, by kernel_rfl⟩
    · exact ⟨Try.prog.types[22]!, by kernel_rfl, by kernel_rfl⟩
    · exact ⟨Try.prog.types[24]!, by kernel_rfl, by kernel_rfl⟩
    · exact ⟨Try.prog.types[49]!, by kernel_rfl, by kernel_rfl⟩
    · exact ⟨Try.prog.types[97]!, by kernel_rfl, by kernel_rfl⟩
    · exact ⟨Try.prog.types[99]!, by kernel_rfl, by kernel_rfl⟩
    · exact ⟨Try.prog.types[101]!, by kernel_rfl, by kernel_rfl⟩
    · exact ⟨Try.prog.types[102]!, by kernel_rfl, by kernel_rfl⟩
    · exact ⟨Try.prog.types[103]!, by kernel_rfl, by kernel_rfl⟩
  ti := by
    intro p hp
    simp only [U, List.mem_cons, List.not_mem_nil, or_false] at hp
    rcases hp with rfl | rfl | rfl | rfl | rfl | rfl | rfl | rfl | rfl | rfl
    · exact ⟨Try.prog.types[3]!, by kernel_rfl, by kernel_rfl, by kernel_rfl, by kernel_rfl⟩
    · exact ⟨Try.prog.types[5]!, by kernel_rfl, by kernel_rfl, by kernel_rfl, by kernel_rfl⟩
    · exact ⟨Try.prog.types[22]!, by kernel_rfl, by kernel_rfl, by kernel_rfl, by kernel_rfl⟩
    · exact ⟨Try.prog.types[24]!, by kernel_rfl, by kernel_rfl, by kernel_rfl, by kernel_rfl⟩
    · exact ⟨Try.prog.types[49]!, by kernel_rfl, by kernel_rfl, by kernel_rfl, by kernel_rfl⟩
    · exact ⟨Try.prog.types[97]!, by kernel_rfl, by kernel_rfl, by kernel_rfl, by kernel_rfl⟩
    · exact ⟨Try.prog.types[99]!, by kernel_rfl, by kernel_rfl, by kernel_rfl, by kernel_rfl⟩
    · exact ⟨Try.prog.types[101]!, by kernel_rfl, by kernel_rfl, by kernel_rfl, by kernel_rfl⟩
    · exact ⟨Try.prog.types[102]!, by kernel_rfl, by kernel_rfl, by kernel_rfl, by kernel_rfl⟩
    · exact ⟨Try.prog.types[103]!, by kernel_rfl, by kernel_rfl, by kernel_rfl, by kernel_rfl⟩
  bld := by
    intro p hp
    simp only [U, List.mem_cons, List.not_mem_nil, or_false] at hp
    rcases hp with rfl | rfl
    · exact ⟨_, Try.underlying102, by kernel_rfl⟩
    · exact ⟨_, Try.underlying103, by kernel_rfl⟩
  mixed := by kernel_rfl

theorem h_Sum_spec (p : Nat) (st : List Int) (wt : List Int) (m : Int) (n : Int) (M : List Int) (hHH : Hash M st wt m n) (hml : M.length ≤ 140737488351232) :
    CallsS Try.prog 50 [.pointer (some ⟨p, 0, none⟩)] [blk p 103 (nums .u32 st ++ (nums .u32 ks ++ (nums .u8 wt ++ (([.int .i64 m] : List Value) ++ ([.int .u64 n] : List Value)))))] (fun r D => ∃ (A2 : Option Addr) (c2 : Nat) (zs : List Int), r = .slice A2 zs.length c2 ∧ D = [row 5 1 (.slice A2 zs.length c2) zs.length (nums .u8 zs), blk p 103 (nums .u32 st ++ (nums .u32 ks ++ (nums .u8 wt ++ (([.int .i64 m] : List Value) ++ ([.int .u64 n] : List Value)))))] ∧ (zs = digest M) ∧ (zs.length = 32) ∧ (In .u8 zs) ∧ (zs.length ≤ c2) ∧ (0 < zs.length → Option.isSome A2 = true)) := by
  refine CallsS.enter hU Try.f50 _ [.tmp 2] 41 Try.func50 rfl (by decide) rfl rfl (by kernel_rfl) fun w0 W => ?_
  have hH := hHH.held
  have hkl : ks.length = 64 := rfl
  have hstl : st.length = 8 := by rw [hH.st]; exact sta_len _ _
  have hwl := hH.wl
  have hnn := hHH.n_eq (by omega)
  have hmm := hH.many
  refine RunC.seq ?_
  refine RunC.region ?_
  refine RunR.sil hU [] 1 1 [0, 2] [(0, .pointer (some ⟨p, 0, none⟩)), (2, .slice none 0 0)] ((True) ∧ True) rfl (by kernel_rfl) ⟨trivial, trivial⟩ ?_
  refine RunR.done (by kernel_rfl) ?_
  refine kseq_n ?_
  refine RunC.seq ?_
  refine RunC.region ?_
  refine RunR.sil hU [] 2 2 [0, 2, 9] [(0, .pointer (some ⟨p, 0, none⟩)), (2, .slice none 0 0), (9, .pointer (some ⟨p, 0, none⟩))] ((True) ∧ (True) ∧ True) rfl (by kernel_rfl) ⟨trivial, trivial, trivial⟩ ?_
  refine RunR.step (dst := some 10) (op := .load 103 (.tmp 9)) (by kernel_rfl) (Step.load_blk hU 0 p (0) 103 (nums .u32 st ++ (nums .u32 ks ++ (nums .u8 wt ++ (([.int .i64 m] : List Value) ++ ([.int .u64 n] : List Value))))) (.agg (nums .u32 st ++ (nums .u32 ks ++ (nums .u8 wt ++ (([.int .i64 m] : List Value) ++ ([.int .u64 n] : List Value))))).toArray) (by kernel_rfl) (by kernel_rfl) (loadv_seg (n := 138) (by kernel_rfl) (by kernel_rfl) (Seg.all _) (by simp only [List.length_append, nums_length, List.length_cons, List.length_nil]; omega)) (by kernel_rfl) ?_)
  refine RunR.step (dst := some 3) (op := .alloc 103) (by kernel_rfl) (Step.alloc hU 138 368 (.agg #[.int .u32 0, .int .u32 0, .int .u32 0, .int .u32 0, .int .u32 0, .int .u32 0, .int .u32 0, .int .u32 0, .int .u32 0, .int .u32 0, .int .u32 0, .int .u32 0, .int .u32 0, .int .u32 0, .int .u32 0, .int .u32 0, .int .u32 0, .int .u32 0, .int .u32 0, .int .u32 0, .int .u32 0, .int .u32 0, .int .u32 0, .int .u32 0, .int .u32 0, .int .u32 0, .int .u32 0, .int .u32 0, .int .u32 0, .int .u32 0, .int .u32 0, .int .u32 0, .int .u32 0, .int .u32 0, .int .u32 0, .int .u32 0, .int .u32 0, .int .u32 0, .int .u32 0, .int .u32 0, .int .u32 0, .int .u32 0, .int .u32 0, .int .u32 0, .int .u32 0, .int .u32 0, .int .u32 0, .int .u32 0, .int .u32 0, .int .u32 0, .int .u32 0, .int .u32 0, .int .u32 0, .int .u32 0, .int .u32 0, .int .u32 0, .int .u32 0, .int .u32 0, .int .u32 0, .int .u32 0, .int .u32 0, .int .u32 0, .int .u32 0, .int .u32 0, .int .u32 0, .int .u32 0, .int .u32 0, .int .u32 0, .int .u32 0, .int .u32 0, .int .u32 0, .int .u32 0, .int .u8 0, .int .u8 0, .int .u8 0, .int .u8 0, .int .u8 0, .int .u8 0, .int .u8 0, .int .u8 0, .int .u8 0, .int .u8 0, .int .u8 0, .int .u8 0, .int .u8 0, .int .u8 0, .int .u8 0, .int .u8 0, .int .u8 0, .int .u8 0, .int .u8 0, .int .u8 0, .int .u8 0, .int .u8 0, .int .u8 0, .int .u8 0, .int .u8 0, .int .u8 0, .int .u8 0, .int .u8 0, .int .u8 0, .int .u8 0, .int .u8 0, .int .u8 0, .int .u8 0, .int .u8 0, .int .u8 0, .int .u8 0, .int .u8 0, .int .u8 0, .int .u8 0, .int .u8 0, .int .u8 0, .int .u8 0, .int .u8 0, .int .u8 0, .int .u8 0, .int .u8 0, .int .u8 0, .int .u8 0, .int .u8 0, .int .u8 0, .int .u8 0, .int .u8 0, .int .u8 0, .int .u8 0, .int .u8 0, .int .u8 0, .int .u8 0, .int .u8 0, .int .u8 0, .int .u8 0, .int .u8 0, .int .u8 0, .int .u8 0, .int .u8 0, .int .i64 0, .int .u64 0]) rfl (by kernel_rfl) (fun b1 => ?_))
  refine RunR.step (dst := none) (op := .store 103 (.tmp 3) (.tmp 10)) (by kernel_rfl) (Step.store_seg hU 0 b1 (0) 103 (nums .u32 (List.replicate 8 (0 : Int)) ++ (nums .u32 (List.replicate 64 (0 : Int)) ++ (nums .u8 (List.replicate 64 (0 : Int)) ++ (([.int .i64 0] : List Value) ++ ([.int .u64 0] : List Value))))) (nums .u32 st ++ (nums .u32 ks ++ (nums .u8 wt ++ (([.int .i64 m] : List Value) ++ ([.int .u64 n] : List Value))))) (nums .u32 st ++ (nums .u32 ks ++ (nums .u8 wt ++ (([.int .i64 m] : List Value) ++ ([.int .u64 n] : List Value))))) (.agg (nums .u32 st ++ (nums .u32 ks ++ (nums .u8 wt ++ (([.int .i64 m] : List Value) ++ ([.int .u64 n] : List Value))))).toArray) (by kernel_rfl) (by kernel_rfl) (by kernel_rfl) 138 (by kernel_rfl) (by kernel_rfl) (by first | rfl | (simp only [List.length_append, nums_length, List.length_cons, List.length_nil, List.length_replicate]; omega) | (simp [nums_length, *])) (by simp only [List.all_append, all_one_nums, Bool.true_and, Bool.and_true]; rfl) (show Put _ 0 _ _ from Put.all (by simp only [List.length_append, nums_length, List.length_cons, List.length_nil, List.length_replicate]; omega)) ?_)
  refine RunR.done (by kernel_rfl) ?_
  refine kseq_n ?_
  refine RunC.seq ?_
  refine RunC.region ?_
  refine RunR.sil hU [] 3 3 [0, 2, 3, 13] [(0, .pointer (some ⟨p, 0, none⟩)), (2, .slice none 0 0), (3, .pointer (some ⟨b1, 0, none⟩)), (13, .pointer (some ⟨p, 136, none⟩))] ((True) ∧ (True) ∧ (True) ∧ True) rfl (by kernel_rfl) ⟨trivial, trivial, trivial, trivial⟩ ?_
  refine RunR.step (dst := some 14) (op := .load 3 (.tmp 13)) (by kernel_rfl) (Step.load_blk hU 1 p (136) 103 (nums .u32 st ++ (nums .u32 ks ++ (nums .u8 wt ++ (([.int .i64 m] : List Value) ++ ([.int .u64 n] : List Value))))) (.int .i64 m) (by kernel_rfl) (by kernel_rfl) (loadv_one (by kernel_rfl) (show Seg _ 136 _ from Seg.skip (n := 8) (o := 128) (by rw [nums_length]; first | assumption | omega | rfl | (simp; done) | (simp; omega)) (Seg.skip (n := 64) (o := 64) (by rw [nums_length]; first | assumption | omega | rfl | (simp; done) | (simp; omega)) (Seg.skip (n := 64) (o := 0) (by rw [nums_length]; first | assumption | omega | rfl | (simp; done) | (simp; omega)) (Seg.here _ _))))) (by kernel_rfl) ?_)
  refine RunR.sil hU [4, 5, 6] 3 7 [0, 2, 3, 17] [(0, .pointer (some ⟨p, 0, none⟩)), (2, .slice none 0 0), (3, .pointer (some ⟨b1, 0, none⟩)), (17, .int .i64 (1 + ((119 - m) % (64 : Int))))] ((-9223372036854775808 ≤ (119 - m) ∧ (119 - m) < 9223372036854775808) ∧ (0 ≤ (119 - m) ∧ 0 < (64 : Int)) ∧ (-9223372036854775808 ≤ (1 + ((119 - m) % (64 : Int))) ∧ (1 + ((119 - m) % (64 : Int))) < 9223372036854775808) ∧ True) rfl (by kernel_rfl) ⟨(by omega), (by omega), (by omega), trivial⟩ ?_
  refine RunR.step (dst := some 18) (op := .makeSlice 22 (.tmp 17) (.tmp 17)) (by kernel_rfl) (Step.make_nums hU 5 1 .u8 .i64 .i64 (1 + ((119 - m) % (64 : Int))) rfl rfl (by kernel_rfl) (by kernel_rfl) (by omega) (by omega) (by kernel_rfl) (fun b2 => ?_))
  have hl3 : (List.replicate ((1 + ((119 - m) % (64 : Int))).toNat) (0 : Int)).length = (1 + ((119 - m) % (64 : Int))).toNat := List.length_replicate
  refine RunR.sil hU [] 1 9 [0, 2, 3, 4] [(0, .pointer (some ⟨p, 0, none⟩)), (2, .slice none 0 0), (3, .pointer (some ⟨b1, 0, none⟩)), (4, .slice (some ⟨b2, 0, none⟩) ((1 + ((119 - m) % (64 : Int))).toNat) ((1 + ((119 - m) % (64 : Int))).toNat))] ((True) ∧ True) rfl (by kernel_rfl) ⟨trivial, trivial⟩ ?_
  refine RunR.done (by kernel_rfl) ?_
  refine kseq_n ?_
  refine RunC.seq ?_
  refine RunC.region ?_
  refine RunR.sil hU [] 2 2 [0, 2, 3, 4, 20] [(0, .pointer (some ⟨p, 0, none⟩)), (2, .slice none 0 0), (3, .pointer (some ⟨b1, 0, none⟩)), (4, .slice (some ⟨b2, 0, none⟩) ((1 + ((119 - m) % (64 : Int))).toNat) ((1 + ((119 - m) % (64 : Int))).toNat)), (20, .pointer (elemAt (some ⟨b2, 0, none⟩) 0 1))] ((True) ∧ ((0 ≤ (0 : Int) ∧ (0 : Int) < (((1 + ((119 - m) % (64 : Int))).toNat : Nat) : Int)) ∧ Option.isSome (some ⟨b2, 0, none⟩ : Option Addr) = true) ∧ True) rfl (by kernel_rfl) ⟨trivial, ⟨by omega, rfl⟩, trivial⟩ ?_
  refine RunR.step (dst := none) (op := .store 5 (.tmp 20) (.const (.int .u8 128))) (by kernel_rfl) (Step.store_num hU 0 5 ((1 + ((119 - m) % (64 : Int))).toNat) ((1 + ((119 - m) % (64 : Int))).toNat) (some ⟨b2, 0, none⟩) .u8 (List.replicate ((1 + ((119 - m) % (64 : Int))).toNat) (0 : Int)) 0 128 (by kernel_rfl) (by kernel_rfl) (by kernel_rfl) rfl (by omega) ?_)
  have hl4 : ((List.replicate ((1 + ((119 - m) % (64 : Int))).toNat) (0 : Int)).set (0 : Int).toNat 128).length = (List.replicate ((1 + ((119 - m) % (64 : Int))).toNat) (0 : Int)).length := List.length_set
  refine RunR.done (by kernel_rfl) ?_
  refine kseq_n ?_
  refine RunC.seq ?_
  refine RunC.region ?_
  refine RunR.sil hU [] 1 1 [0, 2, 3, 21] [(0, .pointer (some ⟨p, 0, none⟩)), (2, .slice none 0 0), (3, .pointer (some ⟨b1, 0, none⟩)), (21, .slice (some ⟨b2, 0, none⟩) ((1 + ((119 - m) % (64 : Int))).toNat) ((1 + ((119 - m) % (64 : Int))).toNat))] ((True) ∧ True) rfl (by kernel_rfl) ⟨trivial, trivial⟩ ?_
  refine RunR.step (dst := some 22) (op := .call { callee := .value (.func 49), args := #[.tmp 3, .tmp 21], argTypes := #[103, 22] }) (by kernel_rfl) (Step.call 49 [.pointer (some ⟨b1, 0, none⟩), .slice (some ⟨b2, 0, none⟩) ((1 + ((119 - m) % (64 : Int))).toNat) ((1 + ((119 - m) % (64 : Int))).toNat)] (by kernel_rfl) (by kernel_rfl) [blk b1 103 (nums .u32 st ++ (nums .u32 ks ++ (nums .u8 wt ++ (([.int .i64 m] : List Value) ++ ([.int .u64 n] : List Value)))))] [vw (some ⟨b2, 0, none⟩) (nums .u8 ((List.replicate ((1 + ((119 - m) % (64 : Int))).toNat) (0 : Int)).set (0 : Int).toNat 128))] [row 5 1 (.slice (some ⟨b2, 0, none⟩) ((1 + ((119 - m) % (64 : Int))).toNat) ((1 + ((119 - m) % (64 : Int))).toNat)) ((1 + ((119 - m) % (64 : Int))).toNat) (nums .u8 ((List.replicate ((1 + ((119 - m) % (64 : Int))).toNat) (0 : Int)).set (0 : Int).toNat 128)), blk p 103 (nums .u32 st ++ (nums .u32 ks ++ (nums .u8 wt ++ (([.int .i64 m] : List Value) ++ ([.int .u64 n] : List Value)))))] (h_Add_spec b1 st wt m n M (some ⟨b2, 0, none⟩) ((1 + ((119 - m) % (64 : Int))).toNat) ((List.replicate ((1 + ((119 - m) % (64 : Int))).toNat) (0 : Int)).set (0 : Int).toNat 128) ((1 + ((119 - m) % (64 : Int))).toNat) (by first | assumption | omega | (simp only [List.length_append, List.length_cons, List.length_nil, List.length_set, List.length_replicate, List.length_take, List.length_drop]; omega) | (simp only [fits] at *; omega) | (simp only [List.length_append, List.length_cons, List.length_nil, List.length_set, List.length_replicate, List.length_take, List.length_drop] at *; omega) | (simp; done) | decide) (by (repeat first | assumption | (simp only [fits]; omega) | with_reducible first | exact fits_wrap _ _ | exact fits_bits2 _ _ _ _ | exact In.nil _ | exact In.sb _ | exact In.replicate _ _ | apply In.append | apply In.cons | apply In.set | apply In.take | apply In.drop | apply In.rev)) (by first | assumption | omega | (simp only [List.length_append, List.length_cons, List.length_nil, List.length_set, List.length_replicate, List.length_take, List.length_drop]; omega) | (simp only [fits] at *; omega) | (simp only [List.length_append, List.length_cons, List.length_nil, List.length_set, List.length_replicate, List.length_take, List.length_drop] at *; omega) | (simp; done) | decide) (by first | assumption | omega | (simp only [List.length_append, List.length_cons, List.length_nil, List.length_set, List.length_replicate, List.length_take, List.length_drop]; omega) | (simp only [fits] at *; omega) | (simp only [List.length_append, List.length_cons, List.length_nil, List.length_set, List.length_replicate, List.length_take, List.length_drop] at *; omega) | (simp; done) | decide) (by first | rfl | assumption | omega | (simp only [List.length_append, List.length_cons, List.length_nil, List.length_set, List.length_replicate, List.length_take, List.length_drop]; omega) | (simp; done))) [1] (by kernel_rfl) ((Lend.nil _).tells 0 (row 5 1 (.slice (some ⟨b2, 0, none⟩) ((1 + ((119 - m) % (64 : Int))).toNat) ((1 + ((119 - m) % (64 : Int))).toNat)) ((1 + ((119 - m) % (64 : Int))).toNat) (nums .u8 ((List.replicate ((1 + ((119 - m) % (64 : Int))).toNat) (0 : Int)).set (0 : Int).toNat 128))) (some ⟨b2, 0, none⟩) (nums .u8 ((List.replicate ((1 + ((119 - m) % (64 : Int))).toNat) (0 : Int)).set (0 : Int).toNat 128)) (by kernel_rfl) (tells_row _ _ _ _ _ _)) ?_)
  rintro _ _ ⟨s25, w26, m27, n28, rfl, rfl, hp9, hp10, hp11, hp12⟩
  refine RunR.done (by kernel_rfl) ?_
  refine kseq_n ?_
  refine RunC.seq ?_
  refine RunC.region ?_
  refine RunR.sil hU [] 3 3 [2, 3, 25] [(2, .slice none 0 0), (3, .pointer (some ⟨b1, 0, none⟩)), (25, .pointer (some ⟨p, 137, none⟩))] ((True) ∧ (True) ∧ (True) ∧ True) rfl (by kernel_rfl) ⟨trivial, trivial, trivial, trivial⟩ ?_
  refine RunR.step (dst := some 26) (op := .load 24 (.tmp 25)) (by kernel_rfl) (Step.load_blk hU 2 p (137) 103 (nums .u32 st ++ (nums .u32 ks ++ (nums .u8 wt ++ (([.int .i64 m] : List Value) ++ ([.int .u64 n] : List Value))))) (.int .u64 n) (by kernel_rfl) (by kernel_rfl) (loadv_one (by kernel_rfl) (show Seg _ 137 _ from Seg.skip (n := 8) (o := 129) (by rw [nums_length]; first | assumption | omega | rfl | (simp; done) | (simp; omega)) (Seg.skip (n := 64) (o := 65) (by rw [nums_length]; first | assumption | omega | rfl | (simp; done) | (simp; omega)) (Seg.skip (n := 64) (o := 1) (by rw [nums_length]; first | assumption | omega | rfl | (simp; done) | (simp; omega)) (Seg.skip (n := 1) (o := 0) rfl (Seg.all _)))))) (by kernel_rfl) ?_)
  refine RunR.sil hU [4] 1 5 [2, 3, 27] [(2, .slice none 0 0), (3, .pointer (some ⟨b1, 0, none⟩)), (27, .int .u64 (8 * n))] ((0 ≤ (8 * n) ∧ (8 * n) < 18446744073709551616) ∧ True) rfl (by kernel_rfl) ⟨(by omega), trivial⟩ ?_
  refine RunR.step (dst := some 28) (op := .call { callee := .value (.func 73), args := #[.tmp 27], argTypes := #[24] }) (by kernel_rfl) (Step.call 73 [.int .u64 (8 * n)] (by kernel_rfl) (by kernel_rfl) [] [] [blk b1 103 (nums .u32 s25 ++ (nums .u32 ks ++ (nums .u8 w26 ++ (([.int .i64 m27] : List Value) ++ ([.int .u64 n28] : List Value))))), row 5 1 (.slice (some ⟨b2, 0, none⟩) ((1 + ((119 - m) % (64 : Int))).toNat) ((1 + ((119 - m) % (64 : Int))).toNat)) ((1 + ((119 - m) % (64 : Int))).toNat) (nums .u8 ((List.replicate ((1 + ((119 - m) % (64 : Int))).toNat) (0 : Int)).set (0 : Int).toNat 128)), blk p 103 (nums .u32 st ++ (nums .u32 ks ++ (nums .u8 wt ++ (([.int .i64 m] : List Value) ++ ([.int .u64 n] : List Value)))))] (w_Big64_spec (8 * n) (by first | assumption | exact fits_wrap _ _ | exact fits_bits2 _ _ _ _ | (refine ⟨?_, ?_⟩ <;> omega))) [] (by kernel_rfl) (Lend.nil _) ?_)
  rintro _ _ ⟨Aq13, cq14, zs15, rfl, rfl, hp16, hp17, hp18, hp19, hp20⟩
  refine RunR.step (dst := some 29) (op := .call { callee := .value (.func 49), args := #[.tmp 3, .tmp 28], argTypes := #[103, 22] }) (by kernel_rfl) (Step.call 49 [.pointer (some ⟨b1, 0, none⟩), .slice Aq13 zs15.length cq14] (by kernel_rfl) (by kernel_rfl) [blk b1 103 (nums .u32 s25 ++ (nums .u32 ks ++ (nums .u8 w26 ++ (([.int .i64 m27] : List Value) ++ ([.int .u64 n28] : List Value)))))] [vw Aq13 (nums .u8 zs15)] [row 5 1 (.slice Aq13 zs15.length cq14) zs15.length (nums .u8 zs15), row 5 1 (.slice (some ⟨b2, 0, none⟩) ((1 + ((119 - m) % (64 : Int))).toNat) ((1 + ((119 - m) % (64 : Int))).toNat)) ((1 + ((119 - m) % (64 : Int))).toNat) (nums .u8 ((List.replicate ((1 + ((119 - m) % (64 : Int))).toNat) (0 : Int)).set (0 : Int).toNat 128)), blk p 103 (nums .u32 st ++ (nums .u32 ks ++ (nums .u8 wt ++ (([.int .i64 m] : List Value) ++ ([.int .u64 n] : List Value)))))] (h_Add_spec b1 s25 w26 m27 n28 (M ++ ((List.replicate ((1 + ((119 - m) % (64 : Int))).toNat) (0 : Int)).set (0 : Int).toNat 128)) Aq13 cq14 zs15 zs15.length (by first | assumption | omega | (simp only [List.length_append, List.length_cons, List.length_nil, List.length_set, List.length_replicate, List.length_take, List.length_drop]; omega) | (simp only [fits] at *; omega) | (simp only [List.length_append, List.length_cons, List.length_nil, List.length_set, List.length_replicate, List.length_take, List.length_drop] at *; omega) | (simp; done) | decide) hp18 (by first | assumption | omega | (simp only [List.length_append, List.length_cons, List.length_nil, List.length_set, List.length_replicate, List.length_take, List.length_drop]; omega) | (simp only [fits] at *; omega) | (simp only [List.length_append, List.length_cons, List.length_nil, List.length_set, List.length_replicate, List.length_take, List.length_drop] at *; omega) | (simp; done) | decide) (by first | assumption | omega | (simp only [List.length_append, List.length_cons, List.length_nil, List.length_set, List.length_replicate, List.length_take, List.length_drop]; omega) | (simp only [fits] at *; omega) | (simp only [List.length_append, List.length_cons, List.length_nil, List.length_set, List.length_replicate, List.length_take, List.length_drop] at *; omega) | (simp; done) | decide) (by first | rfl | assumption | omega | (simp only [List.length_append, List.length_cons, List.length_nil, List.length_set, List.length_replicate, List.length_take, List.length_drop]; omega) | (simp; done))) [1] (by kernel_rfl) ((Lend.nil _).tells 0 (row 5 1 (.slice Aq13 zs15.length cq14) zs15.length (nums .u8 zs15)) Aq13 (nums .u8 zs15) (by kernel_rfl) (tells_row _ _ _ _ _ _)) ?_)
  rintro _ _ ⟨s221, w222, m223, n224, rfl, rfl, hp25, hp26, hp27, hp28⟩
  refine RunR.done (by kernel_rfl) ?_
  refine kseq_n ?_
  refine RunC.seq ?_
  refine RunC.region ?_
  refine RunR.sil hU [] 1 1 [2, 3, 5] [(2, .slice none 0 0), (3, .pointer (some ⟨b1, 0, none⟩)), (5, .slice none 0 0)] ((True) ∧ True) rfl (by kernel_rfl) ⟨trivial, trivial⟩ ?_
  refine RunR.done (by kernel_rfl) ?_
  refine kseq_n ?_
  refine RunC.seq ?_
  refine RunC.seq ?_
  refine RunC.region ?_
  refine RunR.sil hU [] 1 1 [2, 5, 30] [(2, .slice none 0 0), (5, .slice none 0 0), (30, .pointer (some ⟨b1, 0, none⟩))] ((True) ∧ True) rfl (by kernel_rfl) ⟨trivial, trivial⟩ ?_
  refine RunR.step (dst := some 31) (op := .load 97 (.tmp 30)) (by kernel_rfl) (Step.load_blk hU 0 b1 (0) 103 (nums .u32 s221 ++ (nums .u32 ks ++ (nums .u8 w222 ++ (([.int .i64 m223] : List Value) ++ ([.int .u64 n224] : List Value))))) (.agg (nums .u32 s221).toArray) (by kernel_rfl) (by kernel_rfl) (loadv_seg (n := 8) (by kernel_rfl) (by kernel_rfl) (show Seg _ 0 _ from Seg.here _ _) (by rw [nums_length]; first | assumption | omega | rfl | (simp; done) | (simp; omega))) (by kernel_rfl) ?_)
  refine RunR.sil hU [] 1 3 [2, 5, 31, 32] [(2, .slice none 0 0), (5, .slice none 0 0), (31, .agg (nums .u32 s221).toArray), (32, .int .i64 0)] ((True) ∧ True) rfl (by kernel_rfl) ⟨trivial, trivial⟩ ?_
  refine RunR.done (by kernel_rfl) ?_
  refine kseq_n ?_
  refine RunC.block ?_
  refine RunC.turn ([row 5 1 (.slice none 0 0) 0 (nums .u8 ([] : List Int)), blk b1 103 (nums .u32 s221 ++ (nums .u32 ks ++ (nums .u8 w222 ++ (([.int .i64 m223] : List Value) ++ ([.int .u64 n224] : List Value))))), row 5 1 (.slice Aq13 zs15.length cq14) zs15.length (nums .u8 zs15), row 5 1 (.slice (some ⟨b2, 0, none⟩) ((1 + ((119 - m) % (64 : Int))).toNat) ((1 + ((119 - m) % (64 : Int))).toNat)) ((1 + ((119 - m) % (64 : Int))).toNat) (nums .u8 ((List.replicate ((1 + ((119 - m) % (64 : Int))).toNat) (0 : Int)).set (0 : Int).toNat 128)), blk p 103 (nums .u32 st ++ (nums .u32 ks ++ (nums .u8 wt ++ (([.int .i64 m] : List Value) ++ ([.int .u64 n] : List Value)))))]) (fun w hs => hs.nil_row 5 1) ?_
  refine RunC.env [2, 5, 31, 32] [(2, .slice none 0 0), (5, .slice none 0 0), (31, .agg (nums .u32 s221).toArray), (32, .int .i64 0)] (by kernel_rfl) ?_
  refine RunC.only [0, 0, 0, 0, 0] [row 5 1 (.slice none 0 0) 0 (nums .u8 ([] : List Int)), blk b1 103 (nums .u32 s221 ++ (nums .u32 ks ++ (nums .u8 w222 ++ (([.int .i64 m223] : List Value) ++ ([.int .u64 n224] : List Value))))), row 5 1 (.slice Aq13 zs15.length cq14) zs15.length (nums .u8 zs15), row 5 1 (.slice (some ⟨b2, 0, none⟩) ((1 + ((119 - m) % (64 : Int))).toNat) ((1 + ((119 - m) % (64 : Int))).toNat)) ((1 + ((119 - m) % (64 : Int))).toNat) (nums .u8 ((List.replicate ((1 + ((119 - m) % (64 : Int))).toNat) (0 : Int)).set (0 : Int).toNat 128)), blk p 103 (nums .u32 st ++ (nums .u32 ks ++ (nums .u8 wt ++ (([.int .i64 m] : List Value) ++ ([.int .u64 n] : List Value)))))] (by kernel_rfl) ?_
  refine RunC.loop (σ := Nat) (fun n_ t_ D_ => ∃ (i : Int) (os : List Int) (A2 : Option Addr) (c2 : Nat), (0 ≤ i) ∧ (i ≤ 8) ∧ (os = outB s221 i.toNat) ∧ (os.length = 4 * i.toNat) ∧ (In .u8 os) ∧ (os.length ≤ c2) ∧ (0 < os.length → Option.isSome A2 = true) ∧ n_ = ((8 - i).toNat : Nat) ∧ t_ = [(2, .slice none 0 0), (5, .slice A2 os.length c2), (31, .agg (nums .u32 s221).toArray), (32, .int .i64 i)] ∧ D_ = [row 5 1 (.slice A2 os.length c2) os.length (nums .u8 os), blk b1 103 (nums .u32 s221 ++ (nums .u32 ks ++ (nums .u8 w222 ++ (([.int .i64 m223] : List Value) ++ ([.int .u64 n224] : List Value))))), row 5 1 (.slice Aq13 zs15.length cq14) zs15.length (nums .u8 zs15), row 5 1 (.slice (some ⟨b2, 0, none⟩) ((1 + ((119 - m) % (64 : Int))).toNat) ((1 + ((119 - m) % (64 : Int))).toNat)) ((1 + ((119 - m) % (64 : Int))).toNat) (nums .u8 ((List.replicate ((1 + ((119 - m) % (64 : Int))).toNat) (0 : Int)).set (0 : Int).toNat 128)), blk p 103 (nums .u32 st ++ (nums .u32 ks ++ (nums .u8 wt ++ (([.int .i64 m] : List Value) ++ ([.int .u64 n] : List Value)))))]) id _ ⟨0, ([] : List Int), none, 0, (by first | assumption | omega | (simp only [List.length_append, List.length_cons, List.length_nil, List.length_set, List.length_replicate, List.length_take, List.length_drop]; omega) | (simp only [fits] at *; omega) | (simp only [List.length_append, List.length_cons, List.length_nil, List.length_set, List.length_replicate, List.length_take, List.length_drop] at *; omega) | (simp; done) | decide), (by first | assumption | omega | (simp only [List.length_append, List.length_cons, List.length_nil, List.length_set, List.length_replicate, List.length_take, List.length_drop]; omega) | (simp only [fits] at *; omega) | (simp only [List.length_append, List.length_cons, List.length_nil, List.length_set, List.length_replicate, List.length_take, List.length_drop] at *; omega) | (simp; done) | decide), (by rfl), (by rfl), (by exact In.nil _), (by exact Nat.zero_le _), (by intro h; simp at h), rfl, rfl, rfl⟩ ?_
  rintro n_ _ _ ⟨i, os, A2, c2, hi, hi2, ho, hol, hoi, hoc, hoA, rfl, rfl, rfl⟩
  refine RunC.seq ?_
  refine RunC.region ?_
  refine RunR.sil hU [] 1 1 [2, 5, 31, 32, 33] [(2, .slice none 0 0), (5, .slice A2 os.length c2), (31, .agg (nums .u32 s221).toArray), (32, .int .i64 i), (33, .bool (decide (i < 8)))] ((True) ∧ True) rfl (by kernel_rfl) ⟨trivial, trivial⟩ ?_
  refine RunR.done (by kernel_rfl) ?_
  refine kseq_n ?_
  refine RunC.seq ?_
  refine RunC.condp (i < 8) (by kernel_rfl) (fun h29 => ?_) (fun h29 => ?_)
  · skip
    refine RunC.skip ?_
    refine kseq_n ?_
    refine RunC.seq ?_
    refine RunC.block ?_
    refine RunC.seq ?_
    refine RunC.region ?_
    refine RunR.sil hU [] 2 2 [2, 5, 7, 31, 32] [(2, .slice none 0 0), (5, .slice A2 os.length c2), (7, (nums .u32 s221).toArray.getD (i).toNat undef), (31, .agg (nums .u32 s221).toArray), (32, .int .i64 i)] (((0 ≤ i ∧ i < ((8 : Nat) : Int)) ∧ (i).toNat < (nums .u32 s221).toArray.size) ∧ (True) ∧ True) rfl (by kernel_rfl) ⟨(by (refine ⟨by omega, by simp only [List.size_toArray, nums_length]; omega⟩)), trivial, trivial⟩ ?_
    refine RunR.env [2, 5, 7, 31, 32] [(2, .slice none 0 0), (5, .slice A2 os.length c2), (7, (nums .u32 s221).toArray.getD (i).toNat undef), (31, .agg (nums .u32 s221).toArray), (32, .int .i64 i)] (by kernel_rfl) ?_
    refine RunR.enveq [(2, .slice none 0 0), (5, .slice A2 os.length c2), (7, .int .u32 (s221.getD (i).toNat 0)), (31, .agg (nums .u32 s221).toArray), (32, .int .i64 i)] (by rw [nums_getD _ _ _ (by omega)]) ?_
    have hb30 : 0 ≤ s221.getD ((i).toNat) 0 ∧ s221.getD ((i).toNat) 0 < 4294967296 := hp27.at_ _
    refine RunR.done (by kernel_rfl) ?_
    refine kseq_n ?_
    refine RunC.region ?_
    refine RunR.sil hU [] 2 2 [2, 5, 31, 32, 35, 36] [(2, .slice none 0 0), (5, .slice A2 os.length c2), (31, .agg (nums .u32 s221).toArray), (32, .int .i64 i), (35, .slice A2 os.length c2), (36, .int .u32 (s221.getD (i).toNat 0))] ((True) ∧ (True) ∧ True) rfl (by kernel_rfl) ⟨trivial, trivial, trivial⟩ ?_
    refine RunR.step (dst := some 37) (op := .call { callee := .value (.func 74), args := #[.tmp 36], argTypes := #[49] }) (by kernel_rfl) (Step.call 74 [.int .u32 (s221.getD (i).toNat 0)] (by kernel_rfl) (by kernel_rfl) [] [] [row 5 1 (.slice A2 os.length c2) os.length (nums .u8 os), blk b1 103 (nums .u32 s221 ++ (nums .u32 ks ++ (nums .u8 w222 ++ (([.int .i64 m223] : List Value) ++ ([.int .u64 n224] : List Value))))), row 5 1 (.slice Aq13 zs15.length cq14) zs15.length (nums .u8 zs15), row 5 1 (.slice (some ⟨b2, 0, none⟩) ((1 + ((119 - m) % (64 : Int))).toNat) ((1 + ((119 - m) % (64 : Int))).toNat)) ((1 + ((119 - m) % (64 : Int))).toNat) (nums .u8 ((List.replicate ((1 + ((119 - m) % (64 : Int))).toNat) (0 : Int)).set (0 : Int).toNat 128)), blk p 103 (nums .u32 st ++ (nums .u32 ks ++ (nums .u8 wt ++ (([.int .i64 m] : List Value) ++ ([.int .u64 n] : List Value)))))] (w_Big32_spec (s221.getD (i).toNat 0) (by first | assumption | exact fits_wrap _ _ | exact fits_bits2 _ _ _ _ | (refine ⟨?_, ?_⟩ <;> omega))) [] (by kernel_rfl) (Lend.nil _) ?_)
    rintro _ _ ⟨Aq31, cq32, zs33, rfl, rfl, hp34, hp35, hp36, hp37, hp38⟩
    refine RunR.step (dst := some 38) (op := .call { callee := .builtin .append, args := #[.tmp 35, .tmp 37], argTypes := #[22, 22] }) (by kernel_rfl) (Step.append_nums hU 5 1 (.int .u8 0) .u8 1 0 A2 os.length c2 os Aq31 zs33.length cq32 (row 5 1 (.slice Aq31 zs33.length cq32) zs33.length (nums .u8 zs33)) zs33 rfl rfl rfl (by kernel_rfl) (by kernel_rfl) (by kernel_rfl) (by kernel_rfl) (tells_row _ _ _ _ _ _) (by first | rfl | omega | (simp; omega)) (by first | rfl | omega | (simp; omega)) (by omega) (by omega) (by kernel_rfl) (fun Aq39 cq40 hc41 hA42 => ?_))
    have hl43 : (os ++ zs33).length = os.length + zs33.length := List.length_append
    refine RunR.sil hU [] 1 5 [2, 5, 31, 32] [(2, .slice none 0 0), (5, .slice Aq39 ((os ++ zs33).length) cq40), (31, .agg (nums .u32 s221).toArray), (32, .int .i64 i)] ((True) ∧ True) rfl (by kernel_rfl) ⟨trivial, trivial⟩ ?_
    refine RunR.done (by kernel_rfl) ?_
    refine kblock_n ?_
    refine kseq_n ?_
    refine RunC.region ?_
    refine RunR.sil hU [0] 2 2 [2, 5, 31, 32] [(2, .slice none 0 0), (5, .slice Aq39 ((os ++ zs33).length) cq40), (31, .agg (nums .u32 s221).toArray), (32, .int .i64 (i + 1))] ((-9223372036854775808 ≤ (i + 1) ∧ (i + 1) < 9223372036854775808) ∧ (True) ∧ True) rfl (by kernel_rfl) ⟨(by omega), trivial, trivial⟩ ?_
    refine RunR.done (by kernel_rfl) ?_
    refine kloop_n _ [2, 5, 31, 32] [0, 1, 1, 1, 1] [(2, .slice none 0 0), (5, .slice Aq39 ((os ++ zs33).length) cq40), (31, .agg (nums .u32 s221).toArray), (32, .int .i64 (i + 1))] [row 5 1 (.slice Aq39 ((os ++ zs33).length) cq40) ((os ++ zs33).length) (nums .u8 (os ++ zs33)), blk b1 103 (nums .u32 s221 ++ (nums .u32 ks ++ (nums .u8 w222 ++ (([.int .i64 m223] : List Value) ++ ([.int .u64 n224] : List Value))))), row 5 1 (.slice Aq13 zs15.length cq14) zs15.length (nums .u8 zs15), row 5 1 (.slice (some ⟨b2, 0, none⟩) ((1 + ((119 - m) % (64 : Int))).toNat) ((1 + ((119 - m) % (64 : Int))).toNat)) ((1 + ((119 - m) % (64 : Int))).toNat) (nums .u8 ((List.replicate ((1 + ((119 - m) % (64 : Int))).toNat) (0 : Int)).set (0 : Int).toNat 128)), blk p 103 (nums .u32 st ++ (nums .u32 ks ++ (nums .u8 wt ++ (([.int .i64 m] : List Value) ++ ([.int .u64 n] : List Value)))))] (by kernel_rfl) (by kernel_rfl) ?_ ⟨(i + 1), (os ++ zs33), Aq39, cq40, (by first | assumption | omega | (simp only [List.length_append, List.length_cons, List.length_nil, List.length_set, List.length_replicate, List.length_take, List.length_drop]; omega) | (simp only [fits] at *; omega) | (simp only [List.length_append, List.length_cons, List.length_nil, List.length_set, List.length_replicate, List.length_take, List.length_drop] at *; omega) | (simp; done) | decide), (by first | assumption | omega | (simp only [List.length_append, List.length_cons, List.length_nil, List.length_set, List.length_replicate, List.length_take, List.length_drop]; omega) | (simp only [fits] at *; omega) | (simp only [List.length_append, List.length_cons, List.length_nil, List.length_set, List.length_replicate, List.length_take, List.length_drop] at *; omega) | (simp; done) | decide), (by exact outB_step hi ho (by assumption)), (by first | rfl | assumption | omega | (simp only [List.length_append, List.length_cons, List.length_nil, List.length_set, List.length_replicate, List.length_take, List.length_drop]; omega) | (simp; done)), (by (repeat first | assumption | (simp only [fits]; omega) | with_reducible first | exact fits_wrap _ _ | exact fits_bits2 _ _ _ _ | exact In.nil _ | exact In.sb _ | exact In.replicate _ _ | apply In.append | apply In.cons | apply In.set | apply In.take | apply In.drop | apply In.rev)), (by first | assumption | omega | (simp only [List.length_append, List.length_cons, List.length_nil, List.length_set, List.length_replicate, List.length_take, List.length_drop]; omega) | (simp only [fits] at *; omega) | (simp only [List.length_append, List.length_cons, List.length_nil, List.length_set, List.length_replicate, List.length_take, List.length_drop] at *; omega) | (simp; done) | decide), (fun h => hA42 (by first | exact h | (simp at h ⊢; omega))), rfl, (by rfl), (by rfl)⟩
    show ((8 - (i + 1)).toNat : Nat) < ((8 - i).toNat : Nat)
    omega
  · skip
    refine RunC.exit ?_
    refine kseq_e ?_
    refine kloop_e ?_
    refine kblock_e ?_
    refine kseq_n ?_
    refine RunC.seq ?_
    refine RunC.region ?_
    refine RunR.sil hU [] 2 2 [2] [(2, .slice A2 os.length c2)] ((True) ∧ (True) ∧ True) rfl (by kernel_rfl) ⟨trivial, trivial, trivial⟩ ?_
    refine RunR.done (by kernel_rfl) ?_
    refine kseq_n ?_
    refine RunC.ret ?_
    refine kret_r [.slice A2 os.length c2] [0, 3] [row 5 1 (.slice A2 os.length c2) os.length (nums .u8 os), blk p 103 (nums .u32 st ++ (nums .u32 ks ++ (nums .u8 wt ++ (([.int .i64 m] : List Value) ++ ([.int .u64 n] : List Value)))))] ⟨rfl, trivial⟩ (by kernel_rfl) rfl ⟨A2, c2, os, rfl, rfl, (by rw [ho, show i = 8 by omega, digest]; exact congrArg (fun s => outB s 8) (held_st (Hash.held (by assumption)) (by simp only [hp16]; exact padded_eq hHH hnn))), (by omega), (by assumption), (by assumption), (by assumption)⟩

theorem h_Of_spec (A : Option Addr) (c : Nat) (bs : List Int) (l_bs : Nat) (hb : In .u8 bs) (hbc : bs.length ≤ c) (hbl : bs.length ≤ 140737488351232) (hl_bs : bs.length = l_bs) :
    CallsS Try.prog 25 [.slice A l_bs c] [vw A (nums .u8 bs)] (fun r D => ∃ (A2 : Option Addr) (c2 : Nat) (zs : List Int), r = .slice A2 zs.length c2 ∧ D = [row 5 1 (.slice A2 zs.length c2) zs.length (nums .u8 zs)] ∧ (zs = digest bs) ∧ (zs.length = 32) ∧ (In .u8 zs) ∧ (zs.length ≤ c2) ∧ (0 < zs.length → Option.isSome A2 = true)) := by
  subst hl_bs
  refine CallsS.enter hU Try.f25 _ [.tmp 2] 10 Try.func25 rfl (by decide) rfl rfl (by kernel_rfl) fun w0 W => ?_
  refine RunC.know (p := 0 < bs.length → Option.isSome A = true) (fun w hs => vw_some hs 0 rfl (by simp [nums_length])) (fun hA1 => ?_)
  refine RunC.seq ?_
  refine RunC.region ?_
  refine RunR.sil hU [] 1 1 [0, 2] [(0, .slice A bs.length c), (2, .slice none 0 0)] ((True) ∧ True) rfl (by kernel_rfl) ⟨trivial, trivial⟩ ?_
  refine RunR.done (by kernel_rfl) ?_
  refine kseq_n ?_
  refine RunC.seq ?_
  refine RunC.region ?_
  refine RunR.step (dst := some 4) (op := .call { callee := .value (.func 48), args := #[], argTypes := #[] }) (by kernel_rfl) (Step.call 48 [] (by kernel_rfl) (by kernel_rfl) [] [] [vw A (nums .u8 bs)] (h_New_spec) [] (by kernel_rfl) (Lend.nil _) ?_)
  rintro _ _ ⟨b2, rfl, rfl⟩
  refine RunR.sil hU [] 1 2 [0, 2, 3] [(0, .slice A bs.length c), (2, .slice none 0 0), (3, .pointer (some ⟨b2, 0, none⟩))] ((True) ∧ True) rfl (by kernel_rfl) ⟨trivial, trivial⟩ ?_
  refine RunR.done (by kernel_rfl) ?_
  refine kseq_n ?_
  refine RunC.seq ?_
  refine RunC.region ?_
  refine RunR.sil hU [] 2 2 [2, 3, 5, 6] [(2, .slice none 0 0), (3, .pointer (some ⟨b2, 0, none⟩)), (5, .pointer (some ⟨b2, 0, none⟩)), (6, .slice A bs.length c)] ((True) ∧ (True) ∧ True) rfl (by kernel_rfl) ⟨trivial, trivial, trivial⟩ ?_
  refine RunR.step (dst := some 7) (op := .call { callee := .value (.func 49), args := #[.tmp 5, .tmp 6], argTypes := #[73, 22] }) (by kernel_rfl) (Step.call 49 [.pointer (some ⟨b2, 0, none⟩), .slice A bs.length c] (by kernel_rfl) (by kernel_rfl) [blk b2 103 (nums .u32 h0 ++ (nums .u32 ks ++ (nums .u8 (List.replicate 64 (0 : Int)) ++ (([.int .i64 0] : List Value) ++ ([.int .u64 0] : List Value)))))] [vw A (nums .u8 bs)] [vw A (nums .u8 bs)] (h_Add_spec b2 h0 (List.replicate 64 (0 : Int)) 0 0 ([] : List Int) A c bs bs.length (by exact hash0) hb (by first | assumption | omega | (simp only [List.length_append, List.length_cons, List.length_nil, List.length_set, List.length_replicate, List.length_take, List.length_drop]; omega) | (simp only [fits] at *; omega) | (simp only [List.length_append, List.length_cons, List.length_nil, List.length_set, List.length_replicate, List.length_take, List.length_drop] at *; omega) | (simp; done) | decide) (by first | assumption | omega | (simp only [List.length_append, List.length_cons, List.length_nil, List.length_set, List.length_replicate, List.length_take, List.length_drop]; omega) | (simp only [fits] at *; omega) | (simp only [List.length_append, List.length_cons, List.length_nil, List.length_set, List.length_replicate, List.length_take, List.length_drop] at *; omega) | (simp; done) | decide) (by first | rfl | assumption | omega | (simp only [List.length_append, List.length_cons, List.length_nil, List.length_set, List.length_replicate, List.length_take, List.length_drop]; omega) | (simp; done))) [0] (by kernel_rfl) ((Lend.nil _).tells 0 (vw A (nums .u8 bs)) A (nums .u8 bs) (by kernel_rfl) (tells_vw _ _)) ?_)
  rintro _ _ ⟨s23, w24, m25, n26, rfl, rfl, hp7, hp8, hp9, hp10⟩
  refine RunR.done (by kernel_rfl) ?_
  refine kseq_n ?_
  refine RunC.seq ?_
  refine RunC.region ?_
  refine RunR.sil hU [] 1 1 [2, 8] [(2, .slice none 0 0), (8, .pointer (some ⟨b2, 0, none⟩))] ((True) ∧ True) rfl (by kernel_rfl) ⟨trivial, trivial⟩ ?_
  refine RunR.step (dst := some 9) (op := .call { callee := .value (.func 50), args := #[.tmp 8], argTypes := #[73] }) (by kernel_rfl) (Step.call 50 [.pointer (some ⟨b2, 0, none⟩)] (by kernel_rfl) (by kernel_rfl) [blk b2 103 (nums .u32 s23 ++ (nums .u32 ks ++ (nums .u8 w24 ++ (([.int .i64 m25] : List Value) ++ ([.int .u64 n26] : List Value)))))] [] [vw A (nums .u8 bs)] (h_Sum_spec b2 s23 w24 m25 n26 (([] : List Int) ++ bs) (by first | assumption | omega | (simp only [List.length_append, List.length_cons, List.length_nil, List.length_set, List.length_replicate, List.length_take, List.length_drop]; omega) | (simp only [fits] at *; omega) | (simp only [List.length_append, List.length_cons, List.length_nil, List.length_set, List.length_replicate, List.length_take, List.length_drop] at *; omega) | (simp; done) | decide) (by first | assumption | omega | (simp only [List.length_append, List.length_cons, List.length_nil, List.length_set, List.length_replicate, List.length_take, List.length_drop]; omega) | (simp only [fits] at *; omega) | (simp only [List.length_append, List.length_cons, List.length_nil, List.length_set, List.length_replicate, List.length_take, List.length_drop] at *; omega) | (simp; done) | decide)) [0] (by kernel_rfl) (Lend.nil _) ?_)
  rintro _ _ ⟨A211, c212, zs13, rfl, rfl, hp14, hp15, hp16, hp17, hp18⟩
  refine RunR.sil hU [] 1 3 [2] [(2, .slice A211 zs13.length c212)] ((True) ∧ True) rfl (by kernel_rfl) ⟨trivial, trivial⟩ ?_
  refine RunR.done (by kernel_rfl) ?_
  refine kseq_n ?_
  refine RunC.ret ?_
  refine kret_r [.slice A211 zs13.length c212] [0] [row 5 1 (.slice A211 zs13.length c212) zs13.length (nums .u8 zs13)] ⟨rfl, trivial⟩ (by kernel_rfl) rfl ⟨A211, c212, zs13, rfl, rfl, (by assumption), (by assumption), (by assumption), (by assumption), (by assumption)⟩
end Go.Proofs.Ytbnjcfhnbjaoiaa.X5
