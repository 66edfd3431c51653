/- The law TopStreams returns true whatever it is handed: its walk, on the contracts of what it calls. -/
import Derived.Test.YtkehpipialmneaaSLzn
import Derived.Test.YtkehpipialmneaaBPure
import Derived.Test.YtkehpipialmneaaProg
import Derived.Test.YtkehpipialmneaaX1
import Derived.Test.YtkehpipialmneaaX2
import Derived.Test.YtkehpipialmneaaX3
import Derived.Test.YtkehpipialmneaaX4
import Derived.Test.YtkehpipialmneaaX5
import Derived.Test.YtkehpipialmneaaX6
import Derived.Test.YtkehpipialmneaaX7
import Derived.Test.YtkehpipialmneaaX8
import Derived.Test.YtkehpipialmneaaX9
import Derived.Test.YtkehpipialmneaaZ1
import Derived.Test.YtkehpipialmneaaZ2
import Derived.Test.YtkehpipialmneaaS1
import Derived.Test.YtkehpipialmneaaS2
import Derived.Test.YtkehpipialmneaaS3
import Derived.Test.YtkehpipialmneaaS4
import Derived.Test.YtkehpipialmneaaS5
import Derived.Test.YtkehpipialmneaaS6
import Derived.Test.YtkehpipialmneaaS7
import Derived.Test.YtkehpipialmneaaS8
import Derived.Test.YtkehpipialmneaaS9
namespace Go.Proofs.Ytkehpipialmneaa.LTopStreams
open Go Go.Proofs.Ytkehpipialmneaa.SL Go.Proofs.Ytkehpipialmneaa.SL.W Go.Proofs.Ytkehpipialmneaa.SL.C Go.Proofs.Ytkehpipialmneaa.SL.H Go.Proofs.Ytkehpipialmneaa.SL.M Go.Proofs.Ytkehpipialmneaa.SL.Y Go.Proofs.Ytkehpipialmneaa.SL.A Go.Proofs.Ytkehpipialmneaa.SL.B Go.Proofs.Ytkehpipialmneaa.X1 Go.Proofs.Ytkehpipialmneaa.X2 Go.Proofs.Ytkehpipialmneaa.X3 Go.Proofs.Ytkehpipialmneaa.X4 Go.Proofs.Ytkehpipialmneaa.X5 Go.Proofs.Ytkehpipialmneaa.X6 Go.Proofs.Ytkehpipialmneaa.X7 Go.Proofs.Ytkehpipialmneaa.X8 Go.Proofs.Ytkehpipialmneaa.X9 Go.Proofs.Ytkehpipialmneaa.Z1 Go.Proofs.Ytkehpipialmneaa.Z2 Go.Proofs.Ytkehpipialmneaa.S1 Go.Proofs.Ytkehpipialmneaa.S2 Go.Proofs.Ytkehpipialmneaa.S3 Go.Proofs.Ytkehpipialmneaa.S4 Go.Proofs.Ytkehpipialmneaa.S5 Go.Proofs.Ytkehpipialmneaa.S6 Go.Proofs.Ytkehpipialmneaa.S7 Go.Proofs.Ytkehpipialmneaa.S8 Go.Proofs.Ytkehpipialmneaa.S9
set_option linter.unusedVariables false
set_option linter.unusedSimpArgs false
set_option maxRecDepth 100000
set_option maxHeartbeats 40000000
def U : Tab where
  und := [(3, .int .i64), (5, .int .u8), (22, .array 32 5), (24, .slice 5), (28, .int .i64), (36, .array 7 5), (37, .int .u16), (38, .struct #[{ name := "Key", type := 22, offset := 0, embedded := false, tag := "", pkgPath := "", byteOffset := 0 }, { name := "Prefix", type := 36, offset := 32, embedded := false, tag := "", pkgPath := "", byteOffset := 32 }, { name := "Context", type := 24, offset := 39, embedded := false, tag := "", pkgPath := "", byteOffset := 40 }, { name := "Bytes", type := 24, offset := 40, embedded := false, tag := "", pkgPath := "", byteOffset := 64 }, { name := "Size", type := 37, offset := 41, embedded := false, tag := "", pkgPath := "", byteOffset := 88 }]), (39, .struct #[{ name := "Key", type := 22, offset := 0, embedded := false, tag := "", pkgPath := "", byteOffset := 0 }, { name := "Prefix", type := 36, offset := 32, embedded := false, tag := "", pkgPath := "", byteOffset := 32 }, { name := "Context", type := 24, offset := 39, embedded := false, tag := "", pkgPath := "", byteOffset := 40 }, { name := "Bytes", type := 24, offset := 40, embedded := false, tag := "", pkgPath := "", byteOffset := 64 }, { name := "Size", type := 37, offset := 41, embedded := false, tag := "", pkgPath := "", byteOffset := 88 }])]
  fld := [((38, 0), (0, 22)), ((38, 1), (32, 36)), ((38, 2), (39, 24)), ((38, 3), (40, 24)), ((38, 4), (41, 37)), ((39, 0), (0, 22)), ((39, 1), (32, 36)), ((39, 2), (39, 24)), ((39, 3), (40, 24)), ((39, 4), (41, 37))]
  sz := [(3, 1), (5, 1), (22, 32), (24, 1), (28, 1), (36, 7), (37, 1), (38, 42), (39, 42)]
  ti := [(3, (1, 8, .int .i64 0)), (5, (1, 1, .int .u8 0)), (22, (32, 32, .agg #[.int .u8 0, .int .u8 0, .int .u8 0, .int .u8 0, .int .u8 0, .int .u8 0, .int .u8 0, .int .u8 0, .int .u8 0, .int .u8 0, .int .u8 0, .int .u8 0, .int .u8 0, .int .u8 0, .int .u8 0, .int .u8 0, .int .u8 0, .int .u8 0, .int .u8 0, .int .u8 0, .int .u8 0, .int .u8 0, .int .u8 0, .int .u8 0, .int .u8 0, .int .u8 0, .int .u8 0, .int .u8 0, .int .u8 0, .int .u8 0, .int .u8 0, .int .u8 0])), (24, (1, 24, .slice none 0 0)), (28, (1, 8, .int .i64 0)), (36, (7, 7, .agg #[.int .u8 0, .int .u8 0, .int .u8 0, .int .u8 0, .int .u8 0, .int .u8 0, .int .u8 0])), (37, (1, 2, .int .u16 0)), (38, (42, 96, .agg #[.int .u8 0, .int .u8 0, .int .u8 0, .int .u8 0, .int .u8 0, .int .u8 0, .int .u8 0, .int .u8 0, .int .u8 0, .int .u8 0, .int .u8 0, .int .u8 0, .int .u8 0, .int .u8 0, .int .u8 0, .int .u8 0, .int .u8 0, .int .u8 0, .int .u8 0, .int .u8 0, .int .u8 0, .int .u8 0, .int .u8 0, .int .u8 0, .int .u8 0, .int .u8 0, .int .u8 0, .int .u8 0, .int .u8 0, .int .u8 0, .int .u8 0, .int .u8 0, .int .u8 0, .int .u8 0, .int .u8 0, .int .u8 0, .int .u8 0, .int .u8 0, .int .u8 0, .slice none 0 0, .slice none 0 0, .int .u16 0])), (39, (42, 96, .agg #[.int .u8 0, .int .u8 0, .int .u8 0, .int .u8 0, .int .u8 0, .int .u8 0, .int .u8 0, .int .u8 0, .int .u8 0, .int .u8 0, .int .u8 0, .int .u8 0, .int .u8 0, .int .u8 0, .int .u8 0, .int .u8 0, .int .u8 0, .int .u8 0, .int .u8 0, .int .u8 0, .int .u8 0, .int .u8 0, .int .u8 0, .int .u8 0, .int .u8 0, .int .u8 0, .int .u8 0, .int .u8 0, .int .u8 0, .int .u8 0, .int .u8 0, .int .u8 0, .int .u8 0, .int .u8 0, .int .u8 0, .int .u8 0, .int .u8 0, .int .u8 0, .int .u8 0, .slice none 0 0, .slice none 0 0, .int .u16 0]))]
  bld := [(38, [(0, 32), (32, 7), (39, 1), (40, 1), (41, 1)]), (39, [(0, 32), (32, 7), (39, 1), (40, 1), (41, 1)])]

theorem hU : U.OK Try.prog where
  und := by
    intro p hp
    simp only [U, List.mem_cons, List.not_mem_nil, or_false] at hp
    rcases hp with rfl | rfl | rfl | rfl | rfl | rfl | rfl | rfl | rfl
    · exact Try.underlying3
    · exact Try.underlying5
    · exact Try.underlying22
    · exact Try.underlying24
    · exact Try.underlying28
    · exact Try.underlying36
    · exact Try.underlying37
    · exact Try.underlying38
    · exact Try.underlying39
  fld := by
    intro p hp
    simp only [U, List.mem_cons, List.not_mem_nil, or_false] at hp
    rcases hp with rfl | rfl | rfl | rfl | rfl | rfl | rfl | rfl | rfl | rfl
    · exact ⟨_, _, Try.underlying38, rfl, rfl, rfl, Try.prog.types[22]!, by kernel_rfl, by decide +kernel⟩
    · exact ⟨_, _, Try.underlying38, rfl, rfl, rfl, Try.prog.types[36]!, by kernel_rfl, by decide +kernel⟩
    · exact ⟨_, _, Try.underlying38, rfl, rfl, rfl, Try.prog.types[24]!, by kernel_rfl, by decide +kernel⟩
    · exact ⟨_, _, Try.underlying38, rfl, rfl, rfl, Try.prog.types[24]!, by kernel_rfl, by decide +kernel⟩
    · exact ⟨_, _, Try.underlying38, rfl, rfl, rfl, Try.prog.types[37]!, by kernel_rfl, by decide +kernel⟩
    · exact ⟨_, _, Try.underlying39, rfl, rfl, rfl, Try.prog.types[22]!, by kernel_rfl, by decide +kernel⟩
    · exact ⟨_, _, Try.underlying39, rfl, rfl, rfl, Try.prog.types[36]!, by kernel_rfl, by decide +kernel⟩
    · exact ⟨_, _, Try.underlying39, rfl, rfl, rfl, Try.prog.types[24]!, by kernel_rfl, by decide +kernel⟩
    · exact ⟨_, _, Try.underlying39, rfl, rfl, rfl, Try.prog.types[24]!, by kernel_rfl, by decide +kernel⟩
    · exact ⟨_, _, Try.underlying39, rfl, rfl, rfl, Try.prog.types[37]!, by kernel_rfl, by decide +kernel⟩
  sz := by
    intro p hp
    simp only [U, List.mem_cons, List.not_mem_nil, or_false] at hp
    rcases hp with rfl | rfl | rfl | rfl | rfl | rfl | rfl | rfl | rfl
    · exact ⟨Try.prog.types[3]!, by kernel_rfl, by kernel_rfl⟩
    · exact ⟨Try.prog.types[5]!, by kernel_rfl, by kernel_rfl⟩
    · exact ⟨Try.prog.types[22]!, by kernel_rfl, by kernel_rfl⟩
    · exact ⟨Try.prog.types[24]!, by kernel_rfl, by kernel_rfl⟩
    · exact ⟨Try.prog.types[28]!, by kernel_rfl, by kernel_rfl⟩
    · exact ⟨Try.prog.types[36]!, by kernel_rfl, by kernel_rfl⟩
    · exact ⟨Try.prog.types[37]!, by kernel_rfl, by kernel_rfl⟩
    · exact ⟨Try.prog.types[38]!, by kernel_rfl, by kernel_rfl⟩
    · exact ⟨Try.prog.types[39]!, by kernel_rfl, by kernel_rfl⟩
  ti := by
    intro p hp
    simp only [U, List.mem_cons, List.not_mem_nil, or_false] at hp
    rcases hp with rfl | rfl | rfl | rfl | rfl | rfl | rfl | rfl | rfl
    · exact ⟨Try.prog.types[3]!, by kernel_rfl, by kernel_rfl, by kernel_rfl, by kernel_rfl⟩
    · exact ⟨Try.prog.types[5]!, by kernel_rfl, by kernel_rfl, by kernel_rfl, by kernel_rfl⟩
    · exact ⟨Try.prog.types[22]!, by kernel_rfl, by kernel_rfl, by kernel_rfl, by kernel_rfl⟩
    · exact ⟨Try.prog.types[24]!, by kernel_rfl, by kernel_rfl, by kernel_rfl, by kernel_rfl⟩
    · exact ⟨Try.prog.types[28]!, by kernel_rfl, by kernel_rfl, by kernel_rfl, by kernel_rfl⟩
    · exact ⟨Try.prog.types[36]!, by kernel_rfl, by kernel_rfl, by kernel_rfl, by kernel_rfl⟩
    · exact ⟨Try.prog.types[37]!, by kernel_rfl, by kernel_rfl, by kernel_rfl, by kernel_rfl⟩
    · exact ⟨Try.prog.types[38]!, by kernel_rfl, by kernel_rfl, by kernel_rfl, by kernel_rfl⟩
    · exact ⟨Try.prog.types[39]!, by kernel_rfl, by kernel_rfl, by kernel_rfl, by kernel_rfl⟩
  bld := by
    intro p hp
    simp only [U, List.mem_cons, List.not_mem_nil, or_false] at hp
    rcases hp with rfl | rfl
    · exact ⟨_, Try.underlying38, by kernel_rfl⟩
    · exact ⟨_, Try.underlying39, by kernel_rfl⟩
  mixed := by kernel_rfl

theorem t_TopStreams_spec (ks : List Int) (ps : List Int) (A3 : Option Addr) (c3 : Nat) (cs : List Int) (A4 : Option Addr) (c4 : Nat) (xs : List Int) (sz : Int) (cut : Int) (l_cs : Nat) (l_xs : Nat) (hkl : ks.length = 32) (hpl : ps.length = 7) (hki : In .u8 ks) (hpi : In .u8 ps) (hIcs : In .u8 cs) (hCcs : cs.length ≤ c3) (hIxs : In .u8 xs) (hCxs : xs.length ≤ c4) (hsz : fits .u16 sz) (hcut : fits .u16 cut) (hl_cs : cs.length = l_cs) (hl_xs : xs.length = l_xs) :
    CallsS Try.prog 5 [.agg (nums .u8 ks ++ (nums .u8 ps ++ (([.slice A3 l_cs c3] : List Value) ++ (([.slice A4 l_xs c4] : List Value) ++ ([.int .u16 sz] : List Value))))).toArray, .int .u16 cut] [vw A3 (nums .u8 cs), vw A4 (nums .u8 xs)] (fun r D => r = .bool true ∧ D = []) := by
  subst hl_cs
  subst hl_xs
  refine CallsS.enter hU Try.f5 _ [.tmp 4] 102 Try.func5 rfl (by decide) rfl rfl (by kernel_rfl) fun w0 W => ?_
  have hsz2 := hsz; have hcut2 := hcut; simp only [fits] at hsz2 hcut2
  refine RunC.know (p := 0 < cs.length → Option.isSome A3 = true) (fun _ _ w hs => vw_some hs 0 rfl (by (simp [nums_length]; done))) (fun hA1 => ?_)
  refine RunC.know (p := 0 < xs.length → Option.isSome A4 = true) (fun _ _ w hs => vw_some hs 1 rfl (by (simp [nums_length]; done))) (fun hA2 => ?_)
  refine RunC.sr ?_
  refine RunR.st (some 2) (.box 39 (.tmp 0)) (Step.box (.agg (nums .u8 ks ++ (nums .u8 ps ++ (([.slice A3 cs.length c3] : List Value) ++ (([.slice A4 xs.length c4] : List Value) ++ ([.int .u16 sz] : List Value))))).toArray) (by kernel_rfl) (by kernel_rfl) (fun b3 => ?_))
  refine RunR.sl hU [] 1 2 [1, 2, 4] [(1, .int .u16 cut), (2, pt b3), (4, .bool false)] 1 ?_
  refine RunR.nn ?_
  refine RunC.seq ?_
  refine RunC.sr ?_
  refine RunR.st (some 13) (.call { callee := .value (.func 7), args := #[], argTypes := #[] }) (Step.cn 7 [] [] [blk b3 39 (nums .u8 ks ++ (nums .u8 ps ++ (([.slice A3 cs.length c3] : List Value) ++ (([.slice A4 xs.length c4] : List Value) ++ ([.int .u16 sz] : List Value))))), vw A3 (nums .u8 cs), vw A4 (nums .u8 xs)] (t_sealing_spec) [] ?_)
  rintro _ _ ⟨rfl, rfl⟩
  refine RunR.sl hU [] 1 2 [1, 2, 4, 14] [(1, .int .u16 cut), (2, pt b3), (4, .bool false), (14, .bool false)] 1 ?_
  refine RunR.nn ?_
  refine RunC.cond (b := false) (by kernel_rfl) (fun h => by cases h) (fun _ => ?_)
  refine RunC.ksr ?_
  refine RunR.sl hU [] 1 1 [1, 2, 4, 15] [(1, .int .u16 cut), (2, pt b3), (4, .bool false), (15, .pointer (some ⟨b3, 41, none⟩))] 1 ?_
  refine RunR.st (some 16) (.load 37 (.tmp 15)) (Step.load_blk hU 0 b3 (41) 39 (nums .u8 ks ++ (nums .u8 ps ++ (([.slice A3 cs.length c3] : List Value) ++ (([.slice A4 xs.length c4] : List Value) ++ ([.int .u16 sz] : List Value))))) (.int .u16 sz) (by kernel_rfl) (by kernel_rfl) (loadv_one (by kernel_rfl) (show Seg _ 41 _ from Seg.skip (n := 32) (o := 9) (by rw [nums_length]; assumption) (Seg.skip (n := 7) (o := 2) (by rw [nums_length]; assumption) (Seg.skip (n := 1) (o := 1) rfl (Seg.skip (n := 1) (o := 0) rfl (Seg.all _)))))) (by kernel_rfl) ?_)
  refine RunR.sil hU [2, 3] 3 5 [1, 2, 4, 5] [(1, .int .u16 cut), (2, pt b3), (4, .bool false), (5, .int .i64 (1 + sz))] ((-9223372036854775808 ≤ sz ∧ sz < 9223372036854775808) ∧ (-9223372036854775808 ≤ (1 + sz) ∧ (1 + sz) < 9223372036854775808) ∧ (True) ∧ True) rfl (by kernel_rfl) ⟨(by omega), (by omega), trivial, trivial⟩ ?_
  refine RunR.nn ?_
  refine RunC.seq ?_
  refine RunC.sr ?_
  refine RunR.sl hU [] 1 1 [1, 2, 4, 5, 19] [(1, .int .u16 cut), (2, pt b3), (4, .bool false), (5, .int .i64 (1 + sz)), (19, .pointer (some ⟨b3, 40, none⟩))] 1 ?_
  refine RunR.st (some 20) (.load 24 (.tmp 19)) (Step.load_blk hU 0 b3 (40) 39 (nums .u8 ks ++ (nums .u8 ps ++ (([.slice A3 cs.length c3] : List Value) ++ (([.slice A4 xs.length c4] : List Value) ++ ([.int .u16 sz] : List Value))))) (.slice A4 xs.length c4) (by kernel_rfl) (by kernel_rfl) (loadv_one (by kernel_rfl) (show Seg _ 40 _ from Seg.skip (n := 32) (o := 8) (by rw [nums_length]; assumption) (Seg.skip (n := 7) (o := 1) (by rw [nums_length]; assumption) (Seg.skip (n := 1) (o := 0) rfl (Seg.here _ _))))) (by kernel_rfl) ?_)
  refine RunR.sl hU [] 3 5 [1, 2, 4, 5, 23] [(1, .int .u16 cut), (2, pt b3), (4, .bool false), (5, .int .i64 (1 + sz)), (23, .bool (decide (((xs.length : Nat) : Int) > 1200)))] 3 ?_
  refine RunR.ev [1, 2, 4, 5, 23] [(1, .int .u16 cut), (2, pt b3), (4, .bool false), (5, .int .i64 (1 + sz)), (23, .bool (decide (((xs.length : Nat) : Int) > 1200)))] ?_
  by_cases h4 : ((xs.length : Nat) : Int) > 1200
  · skip
    refine RunR.enveq [(1, .int .u16 cut), (2, pt b3), (4, .bool false), (5, .int .i64 (1 + sz)), (23, .bool true)] (by rw [decide_eq_true h4]; try rfl) ?_
    refine RunR.sl hU [] 13 18 [1, 2, 4, 5, 36] [(1, .int .u16 cut), (2, pt b3), (4, .bool false), (5, .int .i64 (1 + sz)), (36, .bool true)] 3 ?_
    refine RunR.nn ?_
    refine RunC.cond (b := true) (by kernel_rfl) (fun _ => ?_) (fun h => by cases h)
    refine RunC.sr ?_
    refine RunR.sl hU [] 1 1 [1, 2, 4, 5] [(1, .int .u16 cut), (2, pt b3), (4, .bool true), (5, .int .i64 (1 + sz))] 1 ?_
    refine RunR.nn ?_
    refine RunC.ret ?_
    refine kseq_r ?_
    refine kret_r [.bool true] [] [] ⟨rfl, trivial⟩ (by kernel_rfl) rfl ⟨rfl, rfl⟩
  · skip
    refine RunR.enveq [(1, .int .u16 cut), (2, pt b3), (4, .bool false), (5, .int .i64 (1 + sz)), (23, .bool false)] (by rw [decide_eq_false h4]; try rfl) ?_
    refine RunR.sl hU [] 1 6 [1, 2, 4, 5, 23, 24] [(1, .int .u16 cut), (2, pt b3), (4, .bool false), (5, .int .i64 (1 + sz)), (23, .bool false), (24, .pointer (some ⟨b3, 39, none⟩))] 1 ?_
    refine RunR.st (some 25) (.load 24 (.tmp 24)) (Step.load_blk hU 0 b3 (39) 39 (nums .u8 ks ++ (nums .u8 ps ++ (([.slice A3 cs.length c3] : List Value) ++ (([.slice A4 xs.length c4] : List Value) ++ ([.int .u16 sz] : List Value))))) (.slice A3 cs.length c3) (by kernel_rfl) (by kernel_rfl) (loadv_one (by kernel_rfl) (show Seg _ 39 _ from Seg.skip (n := 32) (o := 7) (by rw [nums_length]; assumption) (Seg.skip (n := 7) (o := 0) (by rw [nums_length]; assumption) (Seg.here _ _)))) (by kernel_rfl) ?_)
    refine RunR.sl hU [] 4 11 [1, 2, 4, 5, 29] [(1, .int .u16 cut), (2, pt b3), (4, .bool false), (5, .int .i64 (1 + sz)), (29, .bool (decide (((cs.length : Nat) : Int) > 300)))] 4 ?_
    refine RunR.ev [1, 2, 4, 5, 29] [(1, .int .u16 cut), (2, pt b3), (4, .bool false), (5, .int .i64 (1 + sz)), (29, .bool (decide (((cs.length : Nat) : Int) > 300)))] ?_
    by_cases h5 : ((cs.length : Nat) : Int) > 300
    · skip
      refine RunR.enveq [(1, .int .u16 cut), (2, pt b3), (4, .bool false), (5, .int .i64 (1 + sz)), (29, .bool true)] (by rw [decide_eq_true h5]; try rfl) ?_
      refine RunR.sl hU [] 7 18 [1, 2, 4, 5, 36] [(1, .int .u16 cut), (2, pt b3), (4, .bool false), (5, .int .i64 (1 + sz)), (36, .bool true)] 1 ?_
      refine RunR.nn ?_
      refine RunC.cond (b := true) (by kernel_rfl) (fun _ => ?_) (fun h => by cases h)
      refine RunC.sr ?_
      refine RunR.sl hU [] 1 1 [1, 2, 4, 5] [(1, .int .u16 cut), (2, pt b3), (4, .bool true), (5, .int .i64 (1 + sz))] 1 ?_
      refine RunR.nn ?_
      refine RunC.ret ?_
      refine kseq_r ?_
      refine kret_r [.bool true] [] [] ⟨rfl, trivial⟩ (by kernel_rfl) rfl ⟨rfl, rfl⟩
    · skip
      refine RunR.enveq [(1, .int .u16 cut), (2, pt b3), (4, .bool false), (5, .int .i64 (1 + sz)), (29, .bool false)] (by rw [decide_eq_false h5]; try rfl) ?_
      refine RunR.sl hU [] 1 12 [1, 2, 4, 5, 29, 30] [(1, .int .u16 cut), (2, pt b3), (4, .bool false), (5, .int .i64 (1 + sz)), (29, .bool false), (30, .pointer (some ⟨b3, 40, none⟩))] 1 ?_
      refine RunR.st (some 31) (.load 24 (.tmp 30)) (Step.load_blk hU 0 b3 (40) 39 (nums .u8 ks ++ (nums .u8 ps ++ (([.slice A3 cs.length c3] : List Value) ++ (([.slice A4 xs.length c4] : List Value) ++ ([.int .u16 sz] : List Value))))) (.slice A4 xs.length c4) (by kernel_rfl) (by kernel_rfl) (loadv_one (by kernel_rfl) (show Seg _ 40 _ from Seg.skip (n := 32) (o := 8) (by rw [nums_length]; assumption) (Seg.skip (n := 7) (o := 1) (by rw [nums_length]; assumption) (Seg.skip (n := 1) (o := 0) rfl (Seg.here _ _))))) (by kernel_rfl) ?_)
      refine RunR.sil hU [15] 5 18 [1, 2, 4, 5, 36] [(1, .int .u16 cut), (2, pt b3), (4, .bool false), (5, .int .i64 (1 + sz)), (36, .bool (decide ((((xs.length : Nat) : Int) / (1 + sz)) > 60)))] ((True) ∧ (True) ∧ (0 ≤ ((xs.length : Nat) : Int) ∧ 0 < (1 + sz) ∧ -9223372036854775808 ≤ (((xs.length : Nat) : Int) / (1 + sz)) ∧ (((xs.length : Nat) : Int) / (1 + sz)) < 9223372036854775808) ∧ (True) ∧ (True) ∧ True) rfl (by kernel_rfl) ⟨trivial, trivial, (by exact quo_ok (by omega) (by omega) (by omega)), trivial, trivial, trivial⟩ ?_
      refine RunR.nn ?_
      refine RunC.condp ((((xs.length : Nat) : Int) / (1 + sz)) > 60) (by kernel_rfl) (fun h6 => ?_) (fun h6 => ?_)
      · skip
        refine RunC.sr ?_
        refine RunR.sl hU [] 1 1 [1, 2, 4, 5] [(1, .int .u16 cut), (2, pt b3), (4, .bool true), (5, .int .i64 (1 + sz))] 1 ?_
        refine RunR.nn ?_
        refine RunC.ret ?_
        refine kseq_r ?_
        refine kret_r [.bool true] [] [] ⟨rfl, trivial⟩ (by kernel_rfl) rfl ⟨rfl, rfl⟩
      · skip
        refine RunC.ksr ?_
        refine RunR.st (some 37) (.call { callee := .value (.func 12), args := #[], argTypes := #[] }) (Step.cn 12 [] [] [blk b3 39 (nums .u8 ks ++ (nums .u8 ps ++ (([.slice A3 cs.length c3] : List Value) ++ (([.slice A4 xs.length c4] : List Value) ++ ([.int .u16 sz] : List Value))))), vw A3 (nums .u8 cs), vw A4 (nums .u8 xs)] (k_Book_spec) [] ?_)
        rintro _ _ ⟨bk7, mv8, rfl, rfl⟩
        refine RunR.sl hU [] 1 2 [1, 2, 4, 5, 6] [(1, .int .u16 cut), (2, pt b3), (4, .bool false), (5, .int .i64 (1 + sz)), (6, .iface 57 (pt bk7))] 1 ?_
        refine RunR.nn ?_
        refine RunC.seq ?_
        refine RunC.regionU hU 16 [blk b3 39 (nums .u8 ks ++ (nums .u8 ps ++ (([.slice A3 cs.length c3] : List Value) ++ (([.slice A4 xs.length c4] : List Value) ++ ([.int .u16 sz] : List Value)))))] [3] [10, 15] (bm 16 0) (by kernel_rfl) (by kernel_rfl) (by kernel_rfl) ?_
        refine RunU.sl hU 0 (bm 16 1) 39 (.iface 57 (pt bk7)) ?_
        refine RunU.sl hU 1 (bm 16 3) 40 (pt b3) ?_
        refine RunU.sl hU 2 (bm 16 7) 41 (.slice (some ⟨b3, 0, none⟩) 32 32) ?_
        refine RunU.sl hU 3 (bm 16 15) 42 (.pointer (some ⟨b3, 32, none⟩)) ?_
        refine RunU.sl hU 4 (bm 16 31) 43 (.slice (some ⟨b3, 32, none⟩) 7 7) ?_
        refine RunU.sl hU 5 (bm 16 63) 44 (.pointer (some ⟨b3, 39, none⟩)) ?_
        refine RunU.rd 6 (bm 16 127) 45 (.load 24 (.tmp 44)) (.slice A3 cs.length c3) [3] (Reads.load_blk hU 0 b3 (39) 39 (nums .u8 ks ++ (nums .u8 ps ++ (([.slice A3 cs.length c3] : List Value) ++ (([.slice A4 xs.length c4] : List Value) ++ ([.int .u16 sz] : List Value))))) (.slice A3 cs.length c3) (by kernel_rfl) (by kernel_rfl) (loadv_one (by kernel_rfl) (show Seg _ 39 _ from Seg.skip (n := 32) (o := 7) (by rw [nums_length]; assumption) (Seg.skip (n := 7) (o := 0) (by rw [nums_length]; assumption) (Seg.here _ _))))) ?_
        refine RunU.sl hU 7 (bm 16 255) 46 (.pointer (some ⟨b3, 40, none⟩)) ?_
        refine RunU.rd 8 (bm 16 511) 47 (.load 24 (.tmp 46)) (.slice A4 xs.length c4) [3] (Reads.load_blk hU 0 b3 (40) 39 (nums .u8 ks ++ (nums .u8 ps ++ (([.slice A3 cs.length c3] : List Value) ++ (([.slice A4 xs.length c4] : List Value) ++ ([.int .u16 sz] : List Value))))) (.slice A4 xs.length c4) (by kernel_rfl) (by kernel_rfl) (loadv_one (by kernel_rfl) (show Seg _ 40 _ from Seg.skip (n := 32) (o := 8) (by rw [nums_length]; assumption) (Seg.skip (n := 7) (o := 1) (by rw [nums_length]; assumption) (Seg.skip (n := 1) (o := 0) rfl (Seg.here _ _)))))) ?_
        refine RunU.sl hU 9 (bm 16 1023) 48 (.int .i64 (1 + sz)) ?_
        refine RunU.on (some 49) (.call { callee := .value (.func 13), args := #[.tmp 39, .tmp 41, .tmp 43, .tmp 45, .tmp 47, .tmp 48], argTypes := #[41, 24, 24, 24, 24, 3] }) 10 (bm 16 2047) [] (Step.cl 13 [.iface 57 (pt bk7), .slice (some ⟨b3, 0, none⟩) 32 32, .slice (some ⟨b3, 32, none⟩) 7 7, .slice A3 cs.length c3, .slice A4 xs.length c4, .int .i64 (1 + sz)] [blk bk7 61 [mv8, .slice none 0 0], row 164 4 (.slice none 0 0) 0 (bxV ([] : List Bx)), rws .u8 (bxR ([] : List Bx))] [vw (some ⟨b3, 0, none⟩) (nums .u8 ks), vw (some ⟨b3, 32, none⟩) (nums .u8 ps), vw A3 (nums .u8 cs), vw A4 (nums .u8 xs)] [blk b3 39 (nums .u8 ks ++ (nums .u8 ps ++ (([.slice A3 cs.length c3] : List Value) ++ (([.slice A4 xs.length c4] : List Value) ++ ([.int .u16 sz] : List Value))))), vw A3 (nums .u8 cs), vw A4 (nums .u8 xs)] (s_Seal_spec bk7 mv8 none 0 ([] : List Bx) (some ⟨b3, 0, none⟩) 32 ks (some ⟨b3, 32, none⟩) 7 ps A3 c3 cs A4 c4 xs (1 + sz) 32 7 cs.length xs.length (by exact fun _ h => by cases h) hki (by omega) (by omega) hpi (by omega) (by omega) hIcs (by assumption) (by omega) hIxs (by assumption) (by omega) (by omega) (by assumption) (by assumption) (by (simp; done)) (by assumption) (by assumption) (by rfl) (by rfl)) [0, 0, 0] (((((Lend.nil _).tells 2 (vw A4 (nums .u8 xs)) A4 (nums .u8 xs) (by kernel_rfl) (tells_vw _ _)).tells 1 (vw A3 (nums .u8 cs)) A3 (nums .u8 cs) (by kernel_rfl) (tells_vw _ _)).tells 0 (blk b3 39 (nums .u8 ks ++ (nums .u8 ps ++ (([.slice A3 cs.length c3] : List Value) ++ (([.slice A4 xs.length c4] : List Value) ++ ([.int .u16 sz] : List Value)))))) (some ⟨b3, 32, none⟩) (nums .u8 ps) (by kernel_rfl) (tells_seg (show Seg _ 32 _ from Seg.skip (n := 32) (o := 0) (by rw [nums_length]; assumption) (Seg.here _ _)))).tells 0 (blk b3 39 (nums .u8 ks ++ (nums .u8 ps ++ (([.slice A3 cs.length c3] : List Value) ++ (([.slice A4 xs.length c4] : List Value) ++ ([.int .u16 sz] : List Value)))))) (some ⟨b3, 0, none⟩) (nums .u8 ks) (by kernel_rfl) (tells_seg (show Seg _ 0 _ from Seg.here _ _))) ?_)
        rintro _ _ ⟨A99, c910, zs11, BA912, bc913, M14, nb915, rfl, rfl, hp16, hp17, hp18, hp19, hp20, hp21, hp22, hp23, hp24, hp25, hp26, hp27⟩
        refine orR ?_
        refine RunU.sl hU 11 (bm 16 4095) 38 (.tuple #[.slice A99 zs11.length c910, .int .i64 0]) ?_
        refine RunU.sl hU 12 (bm 16 8191) 50 (.slice A99 zs11.length c910) ?_
        refine RunU.sl hU 13 (bm 16 16383) 51 (.int .i64 0) ?_
        refine RunU.sl hU 14 (bm 16 32767) 7 (.slice A99 zs11.length c910) ?_
        refine RunU.sl hU 15 (bm 16 65535) 8 (.int .i64 0) ?_
        refine RunU.ev [1, 2, 4, 6, 7, 8] [(1, .int .u16 cut), (2, pt b3), (4, .bool false), (6, .iface 57 (pt bk7)), (7, .slice A99 zs11.length c910), (8, .int .i64 0)] ?_
        refine RunU.dn ?_
        refine kseq_n ?_
        refine RunC.seq ?_
        refine RunC.regionU hU 12 [blk b3 39 (nums .u8 ks ++ (nums .u8 ps ++ (([.slice A3 cs.length c3] : List Value) ++ (([.slice A4 xs.length c4] : List Value) ++ ([.int .u16 sz] : List Value)))))] [4] [6, 11] (bm 12 0) (by kernel_rfl) (by kernel_rfl) (by kernel_rfl) ?_
        refine RunU.sl hU 0 (bm 12 1) 53 (.iface 57 (pt bk7)) ?_
        refine RunU.sl hU 1 (bm 12 3) 54 (pt b3) ?_
        refine RunU.sl hU 2 (bm 12 7) 55 (.slice (some ⟨b3, 0, none⟩) 32 32) ?_
        refine RunU.sl hU 3 (bm 12 15) 56 (.pointer (some ⟨b3, 39, none⟩)) ?_
        refine RunU.rd 4 (bm 12 31) 57 (.load 24 (.tmp 56)) (.slice A3 cs.length c3) [4] (Reads.load_blk hU 0 b3 (39) 39 (nums .u8 ks ++ (nums .u8 ps ++ (([.slice A3 cs.length c3] : List Value) ++ (([.slice A4 xs.length c4] : List Value) ++ ([.int .u16 sz] : List Value))))) (.slice A3 cs.length c3) (by kernel_rfl) (by kernel_rfl) (loadv_one (by kernel_rfl) (show Seg _ 39 _ from Seg.skip (n := 32) (o := 7) (by rw [nums_length]; assumption) (Seg.skip (n := 7) (o := 0) (by rw [nums_length]; assumption) (Seg.here _ _))))) ?_
        refine RunU.sl hU 5 (bm 12 63) 58 (.slice A99 zs11.length c910) ?_
        refine RunU.on (some 59) (.call { callee := .value (.func 14), args := #[.tmp 53, .tmp 55, .tmp 57, .tmp 58], argTypes := #[41, 24, 24, 24] }) 6 (bm 12 127) [] (Step.cl 14 [.iface 57 (pt bk7), .slice (some ⟨b3, 0, none⟩) 32 32, .slice A3 cs.length c3, .slice A99 zs11.length c910] [blk bk7 61 [mv8, .slice BA912 nb915 bc913], row 164 4 (.slice BA912 nb915 bc913) nb915 (bxV M14), rws .u8 (bxR M14)] [vw (some ⟨b3, 0, none⟩) (nums .u8 ks), vw A3 (nums .u8 cs), vw A99 (nums .u8 zs11)] [row 5 1 (.slice A99 zs11.length c910) zs11.length (nums .u8 zs11), blk b3 39 (nums .u8 ks ++ (nums .u8 ps ++ (([.slice A3 cs.length c3] : List Value) ++ (([.slice A4 xs.length c4] : List Value) ++ ([.int .u16 sz] : List Value))))), vw A3 (nums .u8 cs), vw A4 (nums .u8 xs)] (s_Open_spec bk7 mv8 BA912 bc913 nb915 M14 (some ⟨b3, 0, none⟩) 32 ks A3 c3 cs A99 c910 zs11 32 cs.length zs11.length (by assumption) (by assumption) (by omega) (by assumption) (fun h => hp25 (by exact h)) hki (by omega) (by omega) hIcs (by assumption) (by omega) hp18 (by assumption) (by omega) (by assumption) (by assumption) (by rfl) (by rfl)) [1, 1, 1] ((((Lend.nil _).tells 0 (row 5 1 (.slice A99 zs11.length c910) zs11.length (nums .u8 zs11)) A99 (nums .u8 zs11) (by kernel_rfl) (tells_row _ _ _ _ _ _)).tells 2 (vw A3 (nums .u8 cs)) A3 (nums .u8 cs) (by kernel_rfl) (tells_vw _ _)).tells 1 (blk b3 39 (nums .u8 ks ++ (nums .u8 ps ++ (([.slice A3 cs.length c3] : List Value) ++ (([.slice A4 xs.length c4] : List Value) ++ ([.int .u16 sz] : List Value)))))) (some ⟨b3, 0, none⟩) (nums .u8 ks) (by kernel_rfl) (tells_seg (show Seg _ 0 _ from Seg.here _ _))) ?_)
        rintro _ _ ⟨A928, c929, zs30, e31, rfl, rfl, hp32, hp33, hp34, hp35, hp36⟩
        refine orR ?_
        refine RunU.sl hU 7 (bm 12 255) 52 (.tuple #[.slice A928 zs30.length c929, .int .i64 e31]) ?_
        refine RunU.sl hU 8 (bm 12 511) 60 (.slice A928 zs30.length c929) ?_
        refine RunU.sl hU 9 (bm 12 1023) 61 (.int .i64 e31) ?_
        refine RunU.sl hU 10 (bm 12 2047) 9 (.slice A928 zs30.length c929) ?_
        refine RunU.sl hU 11 (bm 12 4095) 10 (.int .i64 e31) ?_
        refine RunU.ev [1, 2, 4, 6, 7, 8, 9, 10] [(1, .int .u16 cut), (2, pt b3), (4, .bool false), (6, .iface 57 (pt bk7)), (7, .slice A99 zs11.length c910), (8, .int .i64 0), (9, .slice A928 zs30.length c929), (10, .int .i64 e31)] ?_
        refine RunU.dn ?_
        refine kseq_n ?_
        refine RunC.seq ?_
        refine RunC.sr ?_
        refine RunR.sl hU [] 7 7 [1, 2, 4, 6, 7, 9, 68] [(1, .int .u16 cut), (2, pt b3), (4, .bool false), (6, .iface 57 (pt bk7)), (7, .slice A99 zs11.length c910), (9, .slice A928 zs30.length c929), (68, .bool (!decide (e31 = 0)))] 7 ?_
        refine RunR.ev [1, 2, 4, 6, 7, 9, 68] [(1, .int .u16 cut), (2, pt b3), (4, .bool false), (6, .iface 57 (pt bk7)), (7, .slice A99 zs11.length c910), (9, .slice A928 zs30.length c929), (68, .bool (!decide (e31 = 0)))] ?_
        have hk37 : (e31 = 0) := by exact st_e hp32 hp16 hp21 hkl hpl (by omega) (by omega)
        refine RunR.enveq [(1, .int .u16 cut), (2, pt b3), (4, .bool false), (6, .iface 57 (pt bk7)), (7, .slice A99 zs11.length c910), (9, .slice A928 zs30.length c929), (68, .bool false)] (by rw [decide_eq_true hk37]; try rfl) ?_
        refine RunR.sl hU [] 2 9 [1, 2, 4, 6, 7, 68, 69, 70] [(1, .int .u16 cut), (2, pt b3), (4, .bool false), (6, .iface 57 (pt bk7)), (7, .slice A99 zs11.length c910), (68, .bool false), (69, .slice A928 zs30.length c929), (70, .pointer (some ⟨b3, 40, none⟩))] 2 ?_
        refine RunR.st (some 71) (.load 24 (.tmp 70)) (Step.load_blk hU 5 b3 (40) 39 (nums .u8 ks ++ (nums .u8 ps ++ (([.slice A3 cs.length c3] : List Value) ++ (([.slice A4 xs.length c4] : List Value) ++ ([.int .u16 sz] : List Value))))) (.slice A4 xs.length c4) (by kernel_rfl) (by kernel_rfl) (loadv_one (by kernel_rfl) (show Seg _ 40 _ from Seg.skip (n := 32) (o := 8) (by rw [nums_length]; assumption) (Seg.skip (n := 7) (o := 1) (by rw [nums_length]; assumption) (Seg.skip (n := 1) (o := 0) rfl (Seg.here _ _))))) (by kernel_rfl) ?_)
        refine RunR.st (some 72) (.call { callee := .value (.func 10), args := #[.tmp 69, .tmp 71], argTypes := #[24, 24] }) (Step.cl 10 [.slice A928 zs30.length c929, .slice A4 xs.length c4] [] [vw A928 (nums .u8 zs30), vw A4 (nums .u8 xs)] [row 5 1 (.slice A928 zs30.length c929) zs30.length (nums .u8 zs30), blk bk7 61 [mv8, .slice BA912 nb915 bc913], row 164 4 (.slice BA912 nb915 bc913) nb915 (bxV M14), rws .u8 (bxR M14), row 5 1 (.slice A99 zs11.length c910) zs11.length (nums .u8 zs11), blk b3 39 (nums .u8 ks ++ (nums .u8 ps ++ (([.slice A3 cs.length c3] : List Value) ++ (([.slice A4 xs.length c4] : List Value) ++ ([.int .u16 sz] : List Value))))), vw A3 (nums .u8 cs), vw A4 (nums .u8 xs)] (r_Equal_spec A928 c929 zs30 A4 c4 xs zs30.length xs.length hp34 (by rw [st_x hp33 hp16 hp21 hkl hpl (by omega) (by omega)]; omega) hIxs (by omega) (by rfl) (by rfl)) [] (((Lend.nil _).tells 7 (vw A4 (nums .u8 xs)) A4 (nums .u8 xs) (by kernel_rfl) (tells_vw _ _)).tells 0 (row 5 1 (.slice A928 zs30.length c929) zs30.length (nums .u8 zs30)) A928 (nums .u8 zs30) (by kernel_rfl) (tells_row _ _ _ _ _ _)) ?_)
        rintro _ _ ⟨rfl, rfl⟩
        refine RunR.sl hU [] 2 13 [1, 2, 4, 6, 7, 74] [(1, .int .u16 cut), (2, pt b3), (4, .bool false), (6, .iface 57 (pt bk7)), (7, .slice A99 zs11.length c910), (74, .bool (!decide (zs30 = xs)))] 2 ?_
        refine RunR.ev [1, 2, 4, 6, 7, 74] [(1, .int .u16 cut), (2, pt b3), (4, .bool false), (6, .iface 57 (pt bk7)), (7, .slice A99 zs11.length c910), (74, .bool (!decide (zs30 = xs)))] ?_
        have hk38 : (zs30 = xs) := by exact st_x hp33 hp16 hp21 hkl hpl (by omega) (by omega)
        refine RunR.enveq [(1, .int .u16 cut), (2, pt b3), (4, .bool false), (6, .iface 57 (pt bk7)), (7, .slice A99 zs11.length c910), (74, .bool false)] (by rw [decide_eq_true hk38]; try rfl) ?_
        refine RunR.nn ?_
        refine RunC.cond (b := false) (by kernel_rfl) (fun h => by cases h) (fun _ => ?_)
        refine RunC.ks ?_
        refine RunC.seq ?_
        refine RunC.regionU hU 18 [blk b3 39 (nums .u8 ks ++ (nums .u8 ps ++ (([.slice A3 cs.length c3] : List Value) ++ (([.slice A4 xs.length c4] : List Value) ++ ([.int .u16 sz] : List Value)))))] [5] [12, 17] (bm 18 0) (by kernel_rfl) (by kernel_rfl) (by kernel_rfl) ?_
        refine RunU.sl hU 0 (bm 18 1) 76 (.iface 57 (pt bk7)) ?_
        refine RunU.sl hU 1 (bm 18 3) 77 (pt b3) ?_
        refine RunU.sl hU 2 (bm 18 7) 78 (.slice (some ⟨b3, 0, none⟩) 32 32) ?_
        refine RunU.sl hU 3 (bm 18 15) 79 (.pointer (some ⟨b3, 39, none⟩)) ?_
        refine RunU.rd 4 (bm 18 31) 80 (.load 24 (.tmp 79)) (.slice A3 cs.length c3) [5] (Reads.load_blk hU 0 b3 (39) 39 (nums .u8 ks ++ (nums .u8 ps ++ (([.slice A3 cs.length c3] : List Value) ++ (([.slice A4 xs.length c4] : List Value) ++ ([.int .u16 sz] : List Value))))) (.slice A3 cs.length c3) (by kernel_rfl) (by kernel_rfl) (loadv_one (by kernel_rfl) (show Seg _ 39 _ from Seg.skip (n := 32) (o := 7) (by rw [nums_length]; assumption) (Seg.skip (n := 7) (o := 0) (by rw [nums_length]; assumption) (Seg.here _ _))))) ?_
        refine RunU.sl hU 5 (bm 18 63) 81 (.slice A99 zs11.length c910) ?_
        refine RunU.sl hU 6 (bm 18 127) 82 (.int .u16 cut) ?_
        refine RunU.sil hU true 7 (bm 18 255) 83 (.int .i64 cut) (-9223372036854775808 ≤ cut ∧ cut < 9223372036854775808) (by kernel_rfl) (by omega) (by kernel_rfl) (by kernel_rfl) (fun _ _ _ h => h) ?_
        refine RunU.sl hU 8 (bm 18 511) 84 (.slice A99 zs11.length c910) ?_
        refine RunU.sl hU 9 (bm 18 1023) 85 (.int .i64 ((zs11.length : Nat) : Int)) ?_
        have hm39 : 0 ≤ cut % ((zs11.length : Nat) : Int) ∧ cut % ((zs11.length : Nat) : Int) < ((zs11.length : Nat) : Int) := ⟨Int.emod_nonneg _ (by omega), Int.emod_lt_of_pos _ (by omega)⟩
        refine RunU.sil hU true 10 (bm 18 2047) 86 (.int .i64 (cut % ((zs11.length : Nat) : Int))) (0 ≤ cut ∧ 0 < ((zs11.length : Nat) : Int)) (by kernel_rfl) (by omega) (by kernel_rfl) (by kernel_rfl) (fun _ _ _ h => h) ?_
        refine RunU.sil hU false 11 (bm 18 4095) 87 (.slice A99 ((cut % ((zs11.length : Nat) : Int)).toNat) c910) (0 ≤ (cut % ((zs11.length : Nat) : Int)) ∧ (cut % ((zs11.length : Nat) : Int)) ≤ ((c910 : Nat) : Int)) (by kernel_rfl) (by omega) (by kernel_rfl) (by kernel_rfl) (fun _ _ _ h => h) ?_
        obtain ⟨zs40, hz41⟩ : ∃ z : List Int, z = zs11.take ((cut % ((zs11.length : Nat) : Int)).toNat) := ⟨_, rfl⟩
        have hl42 : zs40.length = ((cut % ((zs11.length : Nat) : Int)).toNat) := by rw [hz41, List.length_take]; omega
        have hB43_t : Tells (row 5 1 (.slice A99 zs11.length c910) zs11.length (nums .u8 zs11)) (A99) (nums .u8 zs40) := by rw [hz41]; exact tells_take_nums (tells_row _ _ _ _ _ _) _
        refine RunU.ev [1, 2, 4, 6, 7, 74, 76, 77, 78, 79, 80, 81, 82, 83, 84, 85, 86, 87] [(1, .int .u16 cut), (2, pt b3), (4, .bool false), (6, .iface 57 (pt bk7)), (7, .slice A99 zs11.length c910), (74, .bool false), (76, .iface 57 (pt bk7)), (77, pt b3), (78, .slice (some ⟨b3, 0, none⟩) 32 32), (79, .pointer (some ⟨b3, 39, none⟩)), (80, .slice A3 cs.length c3), (81, .slice A99 zs11.length c910), (82, .int .u16 cut), (83, .int .i64 cut), (84, .slice A99 zs11.length c910), (85, .int .i64 ((zs11.length : Nat) : Int)), (86, .int .i64 (cut % ((zs11.length : Nat) : Int))), (87, .slice A99 ((cut % ((zs11.length : Nat) : Int)).toNat) c910)] ?_
        refine RunU.enveq [(1, .int .u16 cut), (2, pt b3), (4, .bool false), (6, .iface 57 (pt bk7)), (7, .slice A99 zs11.length c910), (74, .bool false), (76, .iface 57 (pt bk7)), (77, pt b3), (78, .slice (some ⟨b3, 0, none⟩) 32 32), (79, .pointer (some ⟨b3, 39, none⟩)), (80, .slice A3 cs.length c3), (81, .slice A99 zs11.length c910), (82, .int .u16 cut), (83, .int .i64 cut), (84, .slice A99 zs11.length c910), (85, .int .i64 ((zs11.length : Nat) : Int)), (86, .int .i64 (cut % ((zs11.length : Nat) : Int))), (87, .slice A99 zs40.length c910)] (by rw [hl42]) ?_
        have hr44 : In .u8 zs40 := by rw [hz41]; exact hp18.take _
        refine RunU.on (some 88) (.call { callee := .value (.func 14), args := #[.tmp 76, .tmp 78, .tmp 80, .tmp 87], argTypes := #[41, 24, 24, 24] }) 12 (bm 18 8191) [] (Step.cl 14 [.iface 57 (pt bk7), .slice (some ⟨b3, 0, none⟩) 32 32, .slice A3 cs.length c3, .slice A99 zs40.length c910] [blk bk7 61 [mv8, .slice BA912 nb915 bc913], row 164 4 (.slice BA912 nb915 bc913) nb915 (bxV M14), rws .u8 (bxR M14)] [vw (some ⟨b3, 0, none⟩) (nums .u8 ks), vw A3 (nums .u8 cs), vw A99 (nums .u8 zs40)] [row 5 1 (.slice A928 zs30.length c929) zs30.length (nums .u8 zs30), row 5 1 (.slice A99 zs11.length c910) zs11.length (nums .u8 zs11), blk b3 39 (nums .u8 ks ++ (nums .u8 ps ++ (([.slice A3 cs.length c3] : List Value) ++ (([.slice A4 xs.length c4] : List Value) ++ ([.int .u16 sz] : List Value))))), vw A3 (nums .u8 cs), vw A4 (nums .u8 xs)] (s_Open_spec bk7 mv8 BA912 bc913 nb915 M14 (some ⟨b3, 0, none⟩) 32 ks A3 c3 cs A99 c910 zs40 32 cs.length zs40.length (by assumption) (by assumption) (by omega) (by assumption) (fun h => hp25 (by exact h)) hki (by omega) (by omega) hIcs (by assumption) (by omega) hr44 (by omega) (by omega) (by assumption) (by assumption) (by rfl) (by rfl)) [1, 1, 1] ((((Lend.nil _).tells 1 (row 5 1 (.slice A99 zs11.length c910) zs11.length (nums .u8 zs11)) A99 (nums .u8 zs40) (by kernel_rfl) (hB43_t)).tells 3 (vw A3 (nums .u8 cs)) A3 (nums .u8 cs) (by kernel_rfl) (tells_vw _ _)).tells 2 (blk b3 39 (nums .u8 ks ++ (nums .u8 ps ++ (([.slice A3 cs.length c3] : List Value) ++ (([.slice A4 xs.length c4] : List Value) ++ ([.int .u16 sz] : List Value)))))) (some ⟨b3, 0, none⟩) (nums .u8 ks) (by kernel_rfl) (tells_seg (show Seg _ 0 _ from Seg.here _ _))) ?_)
        rintro _ _ ⟨A945, c946, zs47, e48, rfl, rfl, hp49, hp50, hp51, hp52, hp53⟩
        refine orR ?_
        refine RunU.sl hU 13 (bm 18 16383) 75 (.tuple #[.slice A945 zs47.length c946, .int .i64 e48]) ?_
        refine RunU.sl hU 14 (bm 18 32767) 89 (.slice A945 zs47.length c946) ?_
        refine RunU.sl hU 15 (bm 18 65535) 90 (.int .i64 e48) ?_
        refine RunU.sl hU 16 (bm 18 131071) 11 (.slice A945 zs47.length c946) ?_
        refine RunU.sl hU 17 (bm 18 262143) 12 (.int .i64 e48) ?_
        refine RunU.ev [4, 11, 12] [(4, .bool false), (11, .slice A945 zs47.length c946), (12, .int .i64 e48)] ?_
        refine RunU.dn ?_
        refine kseq_n ?_
        refine RunC.sr ?_
        refine RunR.sl hU [] 4 4 [4, 12, 94] [(4, .bool false), (12, .int .i64 e48), (94, .bool (decide (((zs47.length : Nat) : Int) = 0)))] 4 ?_
        refine RunR.ev [4, 12, 94] [(4, .bool false), (12, .int .i64 e48), (94, .bool (decide (((zs47.length : Nat) : Int) = 0)))] ?_
        have hk54 : (((zs47.length : Nat) : Int) = 0) := by rw [st_y hp50 (by assumption) (by omega) hp16 hp21 hkl hpl (by omega) (by omega)]; rfl
        refine RunR.enveq [(4, .bool false), (12, .int .i64 e48), (94, .bool true)] (by rw [decide_eq_true hk54]; try rfl) ?_
        refine RunR.sl hU [] 3 7 [4, 12, 94, 97] [(4, .bool false), (12, .int .i64 e48), (94, .bool true), (97, .bool (decide (e48 = 7)))] 3 ?_
        refine RunR.ev [4, 12, 94, 97] [(4, .bool false), (12, .int .i64 e48), (94, .bool true), (97, .bool (decide (e48 = 7)))] ?_
        by_cases h55 : e48 = 7
        · skip
          refine RunR.enveq [(4, .bool false), (12, .int .i64 e48), (94, .bool true), (97, .bool true)] (by rw [decide_eq_true h55]; try rfl) ?_
          refine RunR.sl hU [] 5 12 [4] [(4, .bool true)] 3 ?_
          refine RunR.nn ?_
          refine RunC.ret ?_
          refine kret_r [.bool true] [] [] ⟨rfl, trivial⟩ (by kernel_rfl) rfl ⟨rfl, rfl⟩
        · skip
          refine RunR.enveq [(4, .bool false), (12, .int .i64 e48), (94, .bool true), (97, .bool false)] (by rw [decide_eq_false h55]; try rfl) ?_
          refine RunR.sl hU [] 5 12 [4] [(4, .bool (decide (e48 = 8)))] 5 ?_
          refine RunR.ev [4] [(4, .bool (decide (e48 = 8)))] ?_
          have hk56 : (e48 = 8) := by exact (st_g hp49 (by assumption) (by omega) hp16 hp21 hkl hpl (by omega) (by omega)).resolve_left (by assumption)
          refine RunR.enveq [(4, .bool true)] (by rw [decide_eq_true hk56]; try rfl) ?_
          refine RunR.nn ?_
          refine RunC.ret ?_
          refine kret_r [.bool true] [] [] ⟨rfl, trivial⟩ (by kernel_rfl) rfl ⟨rfl, rfl⟩
end Go.Proofs.Ytkehpipialmneaa.LTopStreams
