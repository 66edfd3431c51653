/- What these functions compute: a contract for each, walked through its code. -/
import Derived.Test.YtcpohiegijpghaaNPure
import Derived.Test.YtcpohiegijpghaaProg
import Derived.Test.YtcpohiegijpghaaX1
import Derived.Test.YtcpohiegijpghaaX2
import Derived.Test.YtcpohiegijpghaaX3
import Derived.Test.YtcpohiegijpghaaX4
import Derived.Test.YtcpohiegijpghaaX5
import Derived.Test.YtcpohiegijpghaaX6
namespace Go.Proofs.Ytcpohiegijpghaa.X7
open Go Go.Proofs.Ytcpohiegijpghaa.SL Go.Proofs.Ytcpohiegijpghaa.SL.W Go.Proofs.Ytcpohiegijpghaa.SL.D Go.Proofs.Ytcpohiegijpghaa.X1 Go.Proofs.Ytcpohiegijpghaa.X2 Go.Proofs.Ytcpohiegijpghaa.X3 Go.Proofs.Ytcpohiegijpghaa.X4 Go.Proofs.Ytcpohiegijpghaa.X5 Go.Proofs.Ytcpohiegijpghaa.X6
set_option linter.unusedVariables false
set_option linter.unusedSimpArgs false
set_option maxRecDepth 100000
set_option maxHeartbeats 40000000
def U : Tab where
  und := [(3, .int .i64), (4, .bool), (5, .int .u8), (22, .slice 5), (73, .slice 22), (74, .slice 84), (75, .struct #[{ name := "Safe", type := 73, offset := 0, embedded := false, tag := "", pkgPath := "", byteOffset := 0 }, { name := "Wait", type := 74, offset := 1, embedded := false, tag := "", pkgPath := "", byteOffset := 24 }, { name := "Left", type := 3, offset := 2, embedded := false, tag := "", pkgPath := "", byteOffset := 48 }, { name := "Down", type := 4, offset := 3, embedded := false, tag := "", pkgPath := "", byteOffset := 56 }]), (76, .struct #[{ name := "Safe", type := 73, offset := 0, embedded := false, tag := "", pkgPath := "", byteOffset := 0 }, { name := "Wait", type := 74, offset := 1, embedded := false, tag := "", pkgPath := "", byteOffset := 24 }, { name := "Left", type := 3, offset := 2, embedded := false, tag := "", pkgPath := "", byteOffset := 48 }, { name := "Down", type := 4, offset := 3, embedded := false, tag := "", pkgPath := "", byteOffset := 56 }]), (83, .struct #[{ name := "Block", type := 3, offset := 0, embedded := false, tag := "", pkgPath := "", byteOffset := 0 }, { name := "Data", type := 22, offset := 1, embedded := false, tag := "", pkgPath := "", byteOffset := 8 }]), (84, .struct #[{ name := "Block", type := 3, offset := 0, embedded := false, tag := "", pkgPath := "", byteOffset := 0 }, { name := "Data", type := 22, offset := 1, embedded := false, tag := "", pkgPath := "", byteOffset := 8 }])]
  fld := [((75, 0), (0, 73)), ((75, 1), (1, 74)), ((75, 2), (2, 3)), ((75, 3), (3, 4)), ((76, 0), (0, 73)), ((76, 1), (1, 74)), ((76, 2), (2, 3)), ((76, 3), (3, 4)), ((83, 0), (0, 3)), ((83, 1), (1, 22)), ((84, 0), (0, 3)), ((84, 1), (1, 22))]
  sz := [(3, 1), (4, 1), (5, 1), (22, 1), (73, 1), (74, 1), (75, 4), (76, 4), (83, 2), (84, 2)]
  ti := [(3, (1, 8, .int .i64 0)), (4, (1, 1, .bool false)), (5, (1, 1, .int .u8 0)), (22, (1, 24, .slice none 0 0)), (73, (1, 24, .slice none 0 0)), (74, (1, 24, .slice none 0 0)), (75, (4, 64, .agg #[.slice none 0 0, .slice none 0 0, .int .i64 0, .bool false])), (76, (4, 64, .agg #[.slice none 0 0, .slice none 0 0, .int .i64 0, .bool false])), (83, (2, 32, .agg #[.int .i64 0, .slice none 0 0])), (84, (2, 32, .agg #[.int .i64 0, .slice none 0 0]))]
  bld := [(75, [(0, 1), (1, 1), (2, 1), (3, 1)]), (76, [(0, 1), (1, 1), (2, 1), (3, 1)]), (83, [(0, 1), (1, 1)]), (84, [(0, 1), (1, 1)])]

theorem hU : U.OK Try.prog where
  und := by
    intro p hp
    simp only [U, List.mem_cons, List.not_mem_nil, or_false] at hp
    rcases hp with rfl | rfl | rfl | rfl | rfl | rfl | rfl | rfl | rfl | rfl
    · exact Try.underlying3
    · exact Try.underlying4
    · exact Try.underlying5
    · exact Try.underlying22
    · exact Try.underlying73
    · exact Try.underlying74
    · exact Try.underlying75
    · exact Try.underlying76
    · exact Try.underlying83
    · exact Try.underlying84
  fld := by
    intro p hp
    simp only [U, List.mem_cons, List.not_mem_nil, or_false] at hp
    rcases hp with rfl | rfl | rfl | rfl | rfl | rfl | rfl | rfl | rfl | rfl | rfl | rfl
    · exact ⟨_, _, Try.underlying75, rfl, rfl, rfl, Try.prog.types[73]!, by kernel_rfl, by decide +kernel⟩
    · exact ⟨_, _, Try.underlying75, rfl, rfl, rfl, Try.prog.types[74]!, by kernel_rfl, by decide +kernel⟩
    · exact ⟨_, _, Try.underlying75, rfl, rfl, rfl, Try.prog.types[3]!, by kernel_rfl, by decide +kernel⟩
    · exact ⟨_, _, Try.underlying75, rfl, rfl, rfl, Try.prog.types[4]!, by kernel_rfl, by decide +kernel⟩
    · exact ⟨_, _, Try.underlying76, rfl, rfl, rfl, Try.prog.types[73]!, by kernel_rfl, by decide +kernel⟩
    · exact ⟨_, _, Try.underlying76, rfl, rfl, rfl, Try.prog.types[74]!, by kernel_rfl, by decide +kernel⟩
    · exact ⟨_, _, Try.underlying76, rfl, rfl, rfl, Try.prog.types[3]!, by kernel_rfl, by decide +kernel⟩
    · exact ⟨_, _, Try.underlying76, rfl, rfl, rfl, Try.prog.types[4]!, by kernel_rfl, by decide +kernel⟩
    · exact ⟨_, _, Try.underlying83, rfl, rfl, rfl, Try.prog.types[3]!, by kernel_rfl, by decide +kernel⟩
    · exact ⟨_, _, Try.underlying83, rfl, rfl, rfl, Try.prog.types[22]!, by kernel_rfl, by decide +kernel⟩
    · exact ⟨_, _, Try.underlying84, rfl, rfl, rfl, Try.prog.types[3]!, by kernel_rfl, by decide +kernel⟩
    · exact ⟨_, _, Try.underlying84, rfl, rfl, rfl, Try.prog.types[22]!, by kernel_rfl, by decide +kernel⟩
  sz := by
    intro p hp
    simp only [U, List.mem_cons, List.not_mem_nil, or_false] at hp
    rcases hp with rfl | rfl | rfl | rfl | rfl | rfl | rfl | rfl | rfl | rfl
    · exact ⟨Try.prog.types[3]!, by kernel_rfl, by kernel_rfl⟩
    · exact ⟨Try.prog.types[4]!, by kernel_rfl, by kernel_rfl⟩
    · exact ⟨Try.prog.types[5]!, by kernel_rfl, by kernel_rfl⟩
    · exact ⟨Try.prog.types[22]!, by kernel_rfl, by kernel_rfl⟩
    · exact ⟨Try.prog.types[73]!, by kernel_rfl, by kernel_rfl⟩
    · exact ⟨Try.prog.types[74]!, by kernel_rfl, by kernel_rfl⟩
    · exact ⟨Try.prog.types[75]!, by kernel_rfl, by kernel_rfl⟩
    · exact ⟨Try.prog.types[76]!, by kernel_rfl, by kernel_rfl⟩
    · exact ⟨Try.prog.types[83]!, by kernel_rfl, by kernel_rfl⟩
    · exact ⟨Try.prog.types[84]!, by kernel_rfl, by kernel_rfl⟩
  ti := by
    intro p hp
    simp only [U, List.mem_cons, List.not_mem_nil, or_false] at hp
    rcases hp with rfl | rfl | rfl | rfl | rfl | rfl | rfl | rfl | rfl | rfl
    · exact ⟨Try.prog.types[3]!, by kernel_rfl, by kernel_rfl, by kernel_rfl, by kernel_rfl⟩
    · exact ⟨Try.prog.types[4]!, by kernel_rfl, by kernel_rfl, by kernel_rfl, by kernel_rfl⟩
    · exact ⟨Try.prog.types[5]!, by kernel_rfl, by kernel_rfl, by kernel_rfl, by kernel_rfl⟩
    · exact ⟨Try.prog.types[22]!, by kernel_rfl, by kernel_rfl, by kernel_rfl, by kernel_rfl⟩
    · exact ⟨Try.prog.types[73]!, by kernel_rfl, by kernel_rfl, by kernel_rfl, by kernel_rfl⟩
    · exact ⟨Try.prog.types[74]!, by kernel_rfl, by kernel_rfl, by kernel_rfl, by kernel_rfl⟩
    · exact ⟨Try.prog.types[75]!, by kernel_rfl, by kernel_rfl, by kernel_rfl, by kernel_rfl⟩
    · exact ⟨Try.prog.types[76]!, by kernel_rfl, by kernel_rfl, by kernel_rfl, by kernel_rfl⟩
    · exact ⟨Try.prog.types[83]!, by kernel_rfl, by kernel_rfl, by kernel_rfl, by kernel_rfl⟩
    · exact ⟨Try.prog.types[84]!, by kernel_rfl, by kernel_rfl, by kernel_rfl, by kernel_rfl⟩
  bld := by
    intro p hp
    simp only [U, List.mem_cons, List.not_mem_nil, or_false] at hp
    rcases hp with rfl | rfl | rfl | rfl
    · exact ⟨_, Try.underlying75, by kernel_rfl⟩
    · exact ⟨_, Try.underlying76, by kernel_rfl⟩
    · exact ⟨_, Try.underlying83, by kernel_rfl⟩
    · exact ⟨_, Try.underlying84, by kernel_rfl⟩
  mixed := by kernel_rfl

theorem dr_goes_spec (d : Nat) (A : Option Addr) (n : Nat) (c : Nat) (Wa : Option Addr) (m : Nat) (wc : Nat) (lf : Int) (dn : Bool) (hlf : 0 ≤ lf ∧ lf < 9223372036854775808) (hdn : dn = false) :
    CallsS Try.prog 68 [.pointer (some ⟨d, 0, none⟩)] [blk d 76 [.slice A n c, .slice Wa m wc, .int .i64 lf, .bool dn]] (fun r D => ∃ (gz : Bool) (lf2 : Int) (dn2 : Bool), r = .bool gz ∧ D = [blk d 76 [.slice A n c, .slice Wa m wc, .int .i64 lf2, .bool dn2]] ∧ ((lf2, dn2) = actP lf dn) ∧ (gz = dn2) ∧ (0 ≤ lf2 ∧ lf2 < 9223372036854775808)) := by
  refine CallsS.enter hU Try.f68 _ [.tmp 2] 27 Try.func68 rfl (by decide) rfl rfl (by kernel_rfl) fun w0 W => ?_
  refine RunC.seq ?_
  refine RunC.region ?_
  refine RunR.sil hU [] 1 1 [0, 2] [(0, .pointer (some ⟨d, 0, none⟩)), (2, .bool false)] ((True) ∧ True) rfl (by kernel_rfl) ⟨trivial, trivial⟩ ?_
  refine RunR.done (by kernel_rfl) ?_
  refine kseq_n ?_
  refine RunC.seq ?_
  refine RunC.seq ?_
  refine RunC.region ?_
  refine RunR.sil hU [] 3 3 [0, 2, 5] [(0, .pointer (some ⟨d, 0, none⟩)), (2, .bool false), (5, .pointer (some ⟨d, 2, none⟩))] ((True) ∧ (True) ∧ (True) ∧ True) rfl (by kernel_rfl) ⟨trivial, trivial, trivial, trivial⟩ ?_
  refine RunR.step (dst := some 6) (op := .load 3 (.tmp 5)) (by kernel_rfl) (Step.load_blk hU 0 d (2) 76 [.slice A n c, .slice Wa m wc, .int .i64 lf, .bool dn] (.int .i64 lf) (by kernel_rfl) (by kernel_rfl) (by kernel_rfl) (by kernel_rfl) ?_)
  refine RunR.sil hU [] 1 5 [0, 2, 7] [(0, .pointer (some ⟨d, 0, none⟩)), (2, .bool false), (7, .bool (decide (lf = 0)))] ((True) ∧ True) rfl (by kernel_rfl) ⟨trivial, trivial⟩ ?_
  refine RunR.done (by kernel_rfl) ?_
  refine kseq_n ?_
  refine RunC.condp (lf = 0) (by kernel_rfl) (fun h1 => ?_) (fun h1 => ?_)
  · skip
    refine RunC.seq ?_
    refine RunC.region ?_
    refine RunR.sil hU [] 1 1 [0, 2] [(0, .pointer (some ⟨d, 0, none⟩)), (2, .bool false)] ((True) ∧ True) rfl (by kernel_rfl) ⟨trivial, trivial⟩ ?_
    refine RunR.done (by kernel_rfl) ?_
    refine kseq_n ?_
    refine RunC.ret ?_
    refine kseq_r ?_
    refine kret_r [.bool false] [0] [blk d 76 [.slice A n c, .slice Wa m wc, .int .i64 lf, .bool dn]] ⟨rfl, trivial⟩ (by kernel_rfl) rfl ⟨false, lf, dn, rfl, rfl, (by rw [actP, if_neg (by omega)]), (by exact hdn.symm), (by omega)⟩
  · skip
    refine RunC.skip ?_
    refine kseq_n ?_
    refine RunC.seq ?_
    refine RunC.region ?_
    refine RunR.sil hU [] 3 3 [0, 2, 8, 10] [(0, .pointer (some ⟨d, 0, none⟩)), (2, .bool false), (8, .pointer (some ⟨d, 0, none⟩)), (10, .pointer (some ⟨d, 2, none⟩))] ((True) ∧ (True) ∧ (True) ∧ True) rfl (by kernel_rfl) ⟨trivial, trivial, trivial, trivial⟩ ?_
    refine RunR.step (dst := some 11) (op := .load 3 (.tmp 10)) (by kernel_rfl) (Step.load_blk hU 0 d (2) 76 [.slice A n c, .slice Wa m wc, .int .i64 lf, .bool dn] (.int .i64 lf) (by kernel_rfl) (by kernel_rfl) (by kernel_rfl) (by kernel_rfl) ?_)
    refine RunR.sil hU [4] 3 7 [0, 2, 12, 14] [(0, .pointer (some ⟨d, 0, none⟩)), (2, .bool false), (12, .int .i64 (lf - 1)), (14, .pointer (some ⟨d, 2, none⟩))] ((-9223372036854775808 ≤ (lf - 1) ∧ (lf - 1) < 9223372036854775808) ∧ (True) ∧ (True) ∧ True) rfl (by kernel_rfl) ⟨(by omega), trivial, trivial, trivial⟩ ?_
    refine RunR.step (dst := none) (op := .store 3 (.tmp 14) (.tmp 12)) (by kernel_rfl) (Step.store_blk hU 0 d 2 76 [.slice A n c, .slice Wa m wc, .int .i64 lf, .bool dn] (.int .i64 (lf - 1)) (by kernel_rfl) (by kernel_rfl) (by kernel_rfl) 1 rfl [.int .i64 (lf - 1)] (by kernel_rfl) rfl (by kernel_rfl) (by first | decide | simp) ?_)
    refine RunR.done (by kernel_rfl) ?_
    refine kseq_n ?_
    refine RunC.seq ?_
    refine RunC.seq ?_
    refine RunC.region ?_
    refine RunR.sil hU [] 3 3 [0, 2, 17] [(0, .pointer (some ⟨d, 0, none⟩)), (2, .bool false), (17, .pointer (some ⟨d, 2, none⟩))] ((True) ∧ (True) ∧ (True) ∧ True) rfl (by kernel_rfl) ⟨trivial, trivial, trivial, trivial⟩ ?_
    refine RunR.step (dst := some 18) (op := .load 3 (.tmp 17)) (by kernel_rfl) (Step.load_blk hU 0 d (2) 76 [.slice A n c, .slice Wa m wc, .int .i64 (lf - 1), .bool dn] (.int .i64 (lf - 1)) (by kernel_rfl) (by kernel_rfl) (by kernel_rfl) (by kernel_rfl) ?_)
    refine RunR.sil hU [] 1 5 [0, 2, 19] [(0, .pointer (some ⟨d, 0, none⟩)), (2, .bool false), (19, .bool (decide ((lf - 1) = 0)))] ((True) ∧ True) rfl (by kernel_rfl) ⟨trivial, trivial⟩ ?_
    refine RunR.done (by kernel_rfl) ?_
    refine kseq_n ?_
    refine RunC.condp ((lf - 1) = 0) (by kernel_rfl) (fun h2 => ?_) (fun h2 => ?_)
    · skip
      refine RunC.region ?_
      refine RunR.sil hU [] 3 3 [0, 2, 22] [(0, .pointer (some ⟨d, 0, none⟩)), (2, .bool false), (22, .pointer (some ⟨d, 3, none⟩))] ((True) ∧ (True) ∧ (True) ∧ True) rfl (by kernel_rfl) ⟨trivial, trivial, trivial, trivial⟩ ?_
      refine RunR.step (dst := none) (op := .store 4 (.tmp 22) (.const (.bool true))) (by kernel_rfl) (Step.store_blk hU 0 d 3 76 [.slice A n c, .slice Wa m wc, .int .i64 (lf - 1), .bool dn] (.bool true) (by kernel_rfl) (by kernel_rfl) (by kernel_rfl) 1 rfl [.bool true] (by kernel_rfl) rfl (by kernel_rfl) (by first | decide | simp) ?_)
      refine RunR.done (by kernel_rfl) ?_
      refine kseq_n ?_
      refine RunC.seq ?_
      refine RunC.region ?_
      refine RunR.sil hU [] 3 3 [2, 25] [(2, .bool false), (25, .pointer (some ⟨d, 3, none⟩))] ((True) ∧ (True) ∧ (True) ∧ True) rfl (by kernel_rfl) ⟨trivial, trivial, trivial, trivial⟩ ?_
      refine RunR.step (dst := some 26) (op := .load 4 (.tmp 25)) (by kernel_rfl) (Step.load_blk hU 0 d (3) 76 [.slice A n c, .slice Wa m wc, .int .i64 (lf - 1), .bool true] (.bool true) (by kernel_rfl) (by kernel_rfl) (by kernel_rfl) (by kernel_rfl) ?_)
      refine RunR.sil hU [] 1 5 [2] [(2, .bool true)] ((True) ∧ True) rfl (by kernel_rfl) ⟨trivial, trivial⟩ ?_
      refine RunR.done (by kernel_rfl) ?_
      refine kseq_n ?_
      refine RunC.ret ?_
      refine kret_r [.bool true] [0] [blk d 76 [.slice A n c, .slice Wa m wc, .int .i64 (lf - 1), .bool true]] ⟨rfl, trivial⟩ (by kernel_rfl) rfl ⟨true, (lf - 1), true, rfl, rfl, (by rw [actP, if_pos (by omega), decide_eq_true (by omega)]), (by rfl), (by omega)⟩
    · skip
      refine RunC.skip ?_
      refine kseq_n ?_
      refine RunC.seq ?_
      refine RunC.region ?_
      refine RunR.sil hU [] 3 3 [2, 25] [(2, .bool false), (25, .pointer (some ⟨d, 3, none⟩))] ((True) ∧ (True) ∧ (True) ∧ True) rfl (by kernel_rfl) ⟨trivial, trivial, trivial, trivial⟩ ?_
      refine RunR.step (dst := some 26) (op := .load 4 (.tmp 25)) (by kernel_rfl) (Step.load_blk hU 0 d (3) 76 [.slice A n c, .slice Wa m wc, .int .i64 (lf - 1), .bool dn] (.bool dn) (by kernel_rfl) (by kernel_rfl) (by kernel_rfl) (by kernel_rfl) ?_)
      refine RunR.sil hU [] 1 5 [2] [(2, .bool dn)] ((True) ∧ True) rfl (by kernel_rfl) ⟨trivial, trivial⟩ ?_
      refine RunR.done (by kernel_rfl) ?_
      refine kseq_n ?_
      refine RunC.ret ?_
      refine kret_r [.bool dn] [0] [blk d 76 [.slice A n c, .slice Wa m wc, .int .i64 (lf - 1), .bool dn]] ⟨rfl, trivial⟩ (by kernel_rfl) rfl ⟨dn, (lf - 1), dn, rfl, rfl, (by rw [actP, if_pos (by omega), decide_eq_false (by omega), hdn]), (by rfl), (by omega)⟩

theorem dr_Arm_spec (d : Nat) (A : Option Addr) (n : Nat) (c : Nat) (Wa : Option Addr) (m : Nat) (wc : Nat) (lf : Int) (dn : Bool) (x : Int) (hx : fits .i64 x) :
    CallsS Try.prog 51 [.pointer (some ⟨d, 0, none⟩), .int .i64 x] [blk d 76 [.slice A n c, .slice Wa m wc, .int .i64 lf, .bool dn]] (fun r D => ∃ (lf2 : Int), r = .tuple #[] ∧ D = [blk d 76 [.slice A n c, .slice Wa m wc, .int .i64 lf2, .bool dn]] ∧ (lf2 = max x 0) ∧ (0 ≤ lf2 ∧ lf2 < 9223372036854775808)) := by
  refine CallsS.enter hU Try.f51 _ [] 13 Try.func51 rfl (by decide) rfl rfl (by kernel_rfl) fun w0 W => ?_
  have hx2 := hx; simp only [fits] at hx2
  refine RunC.seq ?_
  refine RunC.region ?_
  refine RunR.sil hU [] 3 3 [0, 1, 6] [(0, .pointer (some ⟨d, 0, none⟩)), (1, .int .i64 x), (6, .pointer (some ⟨d, 2, none⟩))] ((True) ∧ (True) ∧ (True) ∧ True) rfl (by kernel_rfl) ⟨trivial, trivial, trivial, trivial⟩ ?_
  refine RunR.step (dst := none) (op := .store 3 (.tmp 6) (.const (.int .i64 0))) (by kernel_rfl) (Step.store_blk hU 0 d 2 76 [.slice A n c, .slice Wa m wc, .int .i64 lf, .bool dn] (.int .i64 0) (by kernel_rfl) (by kernel_rfl) (by kernel_rfl) 1 rfl [.int .i64 0] (by kernel_rfl) rfl (by kernel_rfl) (by first | decide | simp) ?_)
  refine RunR.done (by kernel_rfl) ?_
  refine kseq_n ?_
  refine RunC.seq ?_
  refine RunC.region ?_
  refine RunR.sil hU [] 2 2 [0, 1, 8] [(0, .pointer (some ⟨d, 0, none⟩)), (1, .int .i64 x), (8, .bool (decide (x > 0)))] ((True) ∧ (True) ∧ True) rfl (by kernel_rfl) ⟨trivial, trivial, trivial⟩ ?_
  refine RunR.done (by kernel_rfl) ?_
  refine kseq_n ?_
  refine RunC.condp (x > 0) (by kernel_rfl) (fun h1 => ?_) (fun h1 => ?_)
  · skip
    refine RunC.region ?_
    refine RunR.sil hU [] 4 4 [10, 12] [(10, .int .i64 x), (12, .pointer (some ⟨d, 2, none⟩))] ((True) ∧ (True) ∧ (True) ∧ (True) ∧ True) rfl (by kernel_rfl) ⟨trivial, trivial, trivial, trivial, trivial⟩ ?_
    refine RunR.step (dst := none) (op := .store 3 (.tmp 12) (.tmp 10)) (by kernel_rfl) (Step.store_blk hU 0 d 2 76 [.slice A n c, .slice Wa m wc, .int .i64 0, .bool dn] (.int .i64 x) (by kernel_rfl) (by kernel_rfl) (by kernel_rfl) 1 rfl [.int .i64 x] (by kernel_rfl) rfl (by kernel_rfl) (by first | decide | simp) ?_)
    refine RunR.done (by kernel_rfl) ?_
    refine kret_n [] [0] [blk d 76 [.slice A n c, .slice Wa m wc, .int .i64 x, .bool dn]] trivial (by kernel_rfl) rfl ⟨x, rfl, rfl, (by first | assumption | omega | (simp only [List.length_append, List.length_cons, List.length_nil, List.length_set, List.length_replicate, List.length_take, List.length_drop]; omega) | (simp only [fits] at *; omega) | (simp only [List.length_append, List.length_cons, List.length_nil, List.length_set, List.length_replicate, List.length_take, List.length_drop] at *; omega) | (simp; done) | decide), (by first | assumption | omega | (simp only [List.length_append, List.length_cons, List.length_nil, List.length_set, List.length_replicate, List.length_take, List.length_drop]; omega) | (simp only [fits] at *; omega) | (simp only [List.length_append, List.length_cons, List.length_nil, List.length_set, List.length_replicate, List.length_take, List.length_drop] at *; omega) | (simp; done) | decide)⟩
  · skip
    refine RunC.skip ?_
    refine kret_n [] [0] [blk d 76 [.slice A n c, .slice Wa m wc, .int .i64 0, .bool dn]] trivial (by kernel_rfl) rfl ⟨0, rfl, rfl, (by first | assumption | omega | (simp only [List.length_append, List.length_cons, List.length_nil, List.length_set, List.length_replicate, List.length_take, List.length_drop]; omega) | (simp only [fits] at *; omega) | (simp only [List.length_append, List.length_cons, List.length_nil, List.length_set, List.length_replicate, List.length_take, List.length_drop] at *; omega) | (simp; done) | decide), (by first | assumption | omega | (simp only [List.length_append, List.length_cons, List.length_nil, List.length_set, List.length_replicate, List.length_take, List.length_drop]; omega) | (simp only [fits] at *; omega) | (simp only [List.length_append, List.length_cons, List.length_nil, List.length_set, List.length_replicate, List.length_take, List.length_drop] at *; omega) | (simp; done) | decide)⟩

theorem dr_New_spec (x : Int) (hx0 : 0 ≤ x) (hx : x ≤ 2176) :
    CallsS Try.prog 67 [.int .i64 x] [] (fun r D => ∃ (d2 : Nat) (A9 : Option Addr) (n9 : Nat) (c9 : Nat) (zs : List Ro), r = .pointer (some ⟨d2, 0, none⟩) ∧ D = [blk d2 76 [.slice A9 n9 c9, .slice none 0 0, .int .i64 0, .bool false], row 22 1 (.slice A9 n9 c9) n9 (rowsV zs), row 84 2 (.slice none 0 0) 0 (chV ([] : List Ch)), poo .u8 zs ([] : List Ch)] ∧ (RowsOK .u8 zs) ∧ (W256 zs) ∧ (zs.length = n9) ∧ (n9 ≤ c9) ∧ (n9 ≤ 2176) ∧ (0 < n9 → Option.isSome A9 = true) ∧ ((n9 : Int) = x)) := by
  refine CallsS.enter hU Try.f67 _ [.tmp 2] 27 Try.func67 rfl (by decide) rfl rfl (by kernel_rfl) fun w0 W => ?_
  refine RunC.seq ?_
  refine RunC.region ?_
  refine RunR.sil hU [] 1 1 [0, 2] [(0, .int .i64 x), (2, .pointer none)] ((True) ∧ True) rfl (by kernel_rfl) ⟨trivial, trivial⟩ ?_
  refine RunR.done (by kernel_rfl) ?_
  refine kseq_n ?_
  refine RunC.seq ?_
  refine RunC.region ?_
  refine RunR.sil hU [] 1 1 [0, 2, 5] [(0, .int .i64 x), (2, .pointer none), (5, .agg #[.slice none 0 0, .slice none 0 0, .int .i64 0, .bool false])] ((True) ∧ True) rfl (by kernel_rfl) ⟨trivial, trivial⟩ ?_
  refine RunR.step (dst := some 6) (op := .box 76 (.tmp 5)) (by kernel_rfl) (Step.box (.agg #[.slice none 0 0, .slice none 0 0, .int .i64 0, .bool false]) (by kernel_rfl) (by kernel_rfl) (fun b1 => ?_))
  refine RunR.sil hU [] 1 3 [0, 2, 3] [(0, .int .i64 x), (2, .pointer none), (3, .pointer (some ⟨b1, 0, none⟩))] ((True) ∧ True) rfl (by kernel_rfl) ⟨trivial, trivial⟩ ?_
  refine RunR.done (by kernel_rfl) ?_
  refine kseq_n ?_
  refine RunC.seq ?_
  refine RunC.seq ?_
  refine RunC.region ?_
  refine RunR.sil hU [] 1 1 [0, 2, 3, 4] [(0, .int .i64 x), (2, .pointer none), (3, .pointer (some ⟨b1, 0, none⟩)), (4, .int .i64 0)] ((True) ∧ True) rfl (by kernel_rfl) ⟨trivial, trivial⟩ ?_
  refine RunR.done (by kernel_rfl) ?_
  refine kseq_n ?_
  refine RunC.block ?_
  refine RunC.turn ([row 22 1 (.slice none 0 0) 0 (rowsV ([] : List Ro)), blk b1 76 [.slice none 0 0, .slice none 0 0, .int .i64 0, .bool false]]) (fun _ _ w hs => hs.nil_row 22 1) ?_
  refine RunC.turn ([poo .u8 ([] : List Ro) ([] : List Ch), row 22 1 (.slice none 0 0) 0 (rowsV ([] : List Ro)), blk b1 76 [.slice none 0 0, .slice none 0 0, .int .i64 0, .bool false]]) (fun _ _ w hs => hs.poo0 .u8) ?_
  refine RunC.env [0, 2, 3, 4] [(0, .int .i64 x), (2, .pointer none), (3, .pointer (some ⟨b1, 0, none⟩)), (4, .int .i64 0)] (by kernel_rfl) ?_
  refine RunC.only [2, 1, 0] [blk b1 76 [.slice none 0 0, .slice none 0 0, .int .i64 0, .bool false], row 22 1 (.slice none 0 0) 0 (rowsV ([] : List Ro)), poo .u8 ([] : List Ro) ([] : List Ch)] (by kernel_rfl) ?_
  refine RunC.loop (σ := Nat) (fun n_ t_ D_ => ∃ (i : Int) (A5 : Option Addr) (n5 : Nat) (c5 : Nat) (os : List Ro), (0 ≤ i) ∧ ((n5 : Int) = i) ∧ (i ≤ x) ∧ (RowsOK .u8 os) ∧ (W256 os) ∧ (os.length = n5) ∧ (n5 ≤ c5) ∧ (n5 ≤ 2176) ∧ (0 < n5 → Option.isSome A5 = true) ∧ n_ = ((x - i).toNat : Nat) ∧ t_ = [(0, .int .i64 x), (2, .pointer none), (3, .pointer (some ⟨b1, 0, none⟩)), (4, .int .i64 i)] ∧ D_ = [blk b1 76 [.slice A5 n5 c5, .slice none 0 0, .int .i64 0, .bool false], row 22 1 (.slice A5 n5 c5) n5 (rowsV os), poo .u8 os ([] : List Ch)]) id _ ⟨0, none, 0, 0, ([] : List Ro), (by first | assumption | omega | (simp only [List.length_append, List.length_cons, List.length_nil, List.length_set, List.length_replicate, List.length_take, List.length_drop]; omega) | (simp only [fits] at *; omega) | (simp only [List.length_append, List.length_cons, List.length_nil, List.length_set, List.length_replicate, List.length_take, List.length_drop] at *; omega) | (simp; done) | decide), (by first | assumption | omega | (simp only [List.length_append, List.length_cons, List.length_nil, List.length_set, List.length_replicate, List.length_take, List.length_drop]; omega) | (simp only [fits] at *; omega) | (simp only [List.length_append, List.length_cons, List.length_nil, List.length_set, List.length_replicate, List.length_take, List.length_drop] at *; omega) | (simp; done) | decide), (by first | assumption | omega | (simp only [List.length_append, List.length_cons, List.length_nil, List.length_set, List.length_replicate, List.length_take, List.length_drop]; omega) | (simp only [fits] at *; omega) | (simp only [List.length_append, List.length_cons, List.length_nil, List.length_set, List.length_replicate, List.length_take, List.length_drop] at *; omega) | (simp; done) | decide), (by exact RowsOK.nil _), (by exact W256.nil), (by rfl), (by exact Nat.le_refl _), (by first | assumption | omega | (simp only [List.length_append, List.length_cons, List.length_nil, List.length_set, List.length_replicate, List.length_take, List.length_drop]; omega) | (simp only [fits] at *; omega) | (simp only [List.length_append, List.length_cons, List.length_nil, List.length_set, List.length_replicate, List.length_take, List.length_drop] at *; omega) | (simp; done) | decide), (by intro h; simp at h), rfl, rfl, rfl⟩ ?_
  rintro n_ _ _ ⟨i, A5, n5, c5, os, hi, hin, hix, hRK, hW6, hrn, hrc, hrb, hAr, rfl, rfl, rfl⟩
  refine RunC.seq ?_
  refine RunC.seq ?_
  refine RunC.region ?_
  refine RunR.sil hU [] 4 4 [0, 2, 3, 4, 10] [(0, .int .i64 x), (2, .pointer none), (3, .pointer (some ⟨b1, 0, none⟩)), (4, .int .i64 i), (10, .bool (decide (i < x)))] ((True) ∧ (True) ∧ (True) ∧ (True) ∧ True) rfl (by kernel_rfl) ⟨trivial, trivial, trivial, trivial, trivial⟩ ?_
  refine RunR.env [0, 2, 3, 4, 10] [(0, .int .i64 x), (2, .pointer none), (3, .pointer (some ⟨b1, 0, none⟩)), (4, .int .i64 i), (10, .bool (decide (i < x)))] (by kernel_rfl) ?_
  by_cases h2 : i < x
  · skip
    refine RunR.enveq [(0, .int .i64 x), (2, .pointer none), (3, .pointer (some ⟨b1, 0, none⟩)), (4, .int .i64 i), (10, .bool true)] (by rw [decide_eq_true h2]; try rfl) ?_
    refine RunR.sil hU [] 3 7 [0, 2, 3, 4, 13] [(0, .int .i64 x), (2, .pointer none), (3, .pointer (some ⟨b1, 0, none⟩)), (4, .int .i64 i), (13, .bool (decide (i < 2176)))] ((True) ∧ (True) ∧ (True) ∧ True) rfl (by kernel_rfl) ⟨trivial, trivial, trivial, trivial⟩ ?_
    refine RunR.done (by kernel_rfl) ?_
    refine kseq_n ?_
    refine RunC.condp (i < 2176) (by kernel_rfl) (fun h3 => ?_) (fun h3 => ?_)
    · skip
      refine RunC.skip ?_
      refine kseq_n ?_
      refine RunC.seq ?_
      refine RunC.block ?_
      refine RunC.regionU hU 11 [blk b1 76 [.slice A5 n5 c5, .slice none 0 0, .int .i64 0, .bool false]] [0] [7, 8, 9, 10] (bm 11 0) (by kernel_rfl) (by kernel_rfl) (by kernel_rfl) ?_
      refine RunU.sil hU false 0 (bm 11 1) 16 (.pointer (some ⟨b1, 0, none⟩)) (True) (by kernel_rfl) trivial (by kernel_rfl) (by kernel_rfl) (fun _ _ _ h => h) ?_
      refine RunU.sil hU false 1 (bm 11 3) 17 (.pointer (some ⟨b1, 0, none⟩)) (True) (by kernel_rfl) trivial (by kernel_rfl) (by kernel_rfl) (fun _ _ _ h => h) ?_
      refine RunU.sil hU false 2 (bm 11 7) 18 (.pointer (some ⟨b1, 0, none⟩)) (True) (by kernel_rfl) trivial (by kernel_rfl) (by kernel_rfl) (fun _ _ _ h => h) ?_
      refine RunU.sil hU false 3 (bm 11 15) 19 (.pointer (some ⟨b1, 0, none⟩)) (True) (by kernel_rfl) trivial (by kernel_rfl) (by kernel_rfl) (fun _ _ _ h => h) ?_
      refine RunU.read 4 (bm 11 31) 20 (.load 73 (.tmp 19)) (.slice A5 n5 c5) [0] (by kernel_rfl) (Reads.load_blk hU 0 b1 (0) 76 [.slice A5 n5 c5, .slice none 0 0, .int .i64 0, .bool false] (.slice A5 n5 c5) (by kernel_rfl) (by kernel_rfl) (by kernel_rfl)) (by kernel_rfl) (by kernel_rfl) (by kernel_rfl) (by kernel_rfl) (fun _ _ _ h => h) ?_
      refine RunU.one (dst := some 21) (op := .makeSlice 22 (.const (.int .i64 256)) (.const (.int .i64 256))) 5 (bm 11 63) [1] (by kernel_rfl) (by kernel_rfl) (Step.make_nums hU 5 1 .u8 .i64 .i64 (256) rfl rfl (by kernel_rfl) (by kernel_rfl) (by omega) (by omega) (by kernel_rfl) (fun b4 => ?_))
      have hl5 : (List.replicate 256 (0 : Int)).length = 256 := List.length_replicate
      refine ⟨.inl (by kernel_rfl), ?_⟩
      have hl7 : (List.replicate 256 (0 : Int)).length = 256 := List.length_replicate
      refine RunU.env [0, 2, 3, 4, 13, 16, 17, 18, 19, 20, 21] [(0, .int .i64 x), (2, .pointer none), (3, .pointer (some ⟨b1, 0, none⟩)), (4, .int .i64 i), (13, .bool (decide (i < 2176))), (16, .pointer (some ⟨b1, 0, none⟩)), (17, .pointer (some ⟨b1, 0, none⟩)), (18, .pointer (some ⟨b1, 0, none⟩)), (19, .pointer (some ⟨b1, 0, none⟩)), (20, .slice A5 n5 c5), (21, .slice (some ⟨b4, 0, none⟩) 256 256)] (by kernel_rfl) ?_
      refine RunU.enveq [(0, .int .i64 x), (2, .pointer none), (3, .pointer (some ⟨b1, 0, none⟩)), (4, .int .i64 i), (13, .bool (decide (i < 2176))), (16, .pointer (some ⟨b1, 0, none⟩)), (17, .pointer (some ⟨b1, 0, none⟩)), (18, .pointer (some ⟨b1, 0, none⟩)), (19, .pointer (some ⟨b1, 0, none⟩)), (20, .slice A5 n5 c5), (21, .slice (some ⟨b4, 0, none⟩) ((List.replicate 256 (0 : Int)).length) 256)] (by rw [hl7]) ?_
      refine RunU.one (dst := some 22) (op := .buildSlice 73 1 #[(0, .tmp 21)]) 6 (bm 11 127) [2] (by kernel_rfl) (by kernel_rfl) (Step.lit_rows hU 22 24 (.slice none 0 0) [.slice (some ⟨b4, 0, none⟩) ((List.replicate 256 (0 : Int)).length) 256] rfl rfl (by kernel_rfl) rfl rfl (by kernel_rfl) (fun b6 => ?_))
      refine ⟨.inl (by kernel_rfl), ?_⟩
      refine RunU.one (dst := some 23) (op := .call { callee := .builtin .append, args := #[.tmp 20, .tmp 22], argTypes := #[73, 73] }) 7 (bm 11 255) [] (by kernel_rfl) (by kernel_rfl) (Step.append_rows hU 22 24 (.slice none 0 0) 3 0 A5 n5 c5 os (some ⟨b6, 0, none⟩) 1 1 (row 22 1 (.slice (some ⟨b6, 0, none⟩) 1 1) 1 (rowsV ((some ⟨b4, 0, none⟩, 256, List.replicate 256 (0 : Int)) :: []))) ((some ⟨b4, 0, none⟩, 256, List.replicate 256 (0 : Int)) :: []) (by kernel_rfl) (by kernel_rfl) (by kernel_rfl) (by kernel_rfl) (by kernel_rfl) (by kernel_rfl) (by kernel_rfl) (tells_row _ _ _ _ _ _) (by first | rfl | omega | (simp; omega)) (by first | rfl | omega | (simp; omega)) (by simp only [List.length_cons, List.length_nil]; omega) (by simp only [List.length_cons, List.length_nil]; omega) (by kernel_rfl) (fun Aq8 cq9 hc10 hA11 => ?_))
      have hc12 : (os ++ (some ⟨b4, 0, none⟩, 256, List.replicate 256 (0 : Int)) :: [] : List Ro).length ≤ cq9 := hc10
      have hl13 : (os ++ (some ⟨b4, 0, none⟩, 256, List.replicate 256 (0 : Int)) :: [] : List Ro).length = os.length + 1 := by rw [List.length_append]; rfl
      refine ⟨.inr (by kernel_rfl), ?_⟩
      refine RunU.turn ([poo .u8 (os ++ (some ⟨b4, 0, none⟩, 256, List.replicate 256 (0 : Int)) :: []) ([] : List Ch), row 22 1 (.slice Aq8 ((os ++ (some ⟨b4, 0, none⟩, 256, List.replicate 256 (0 : Int)) :: [] : List Ro).length) cq9) ((os ++ (some ⟨b4, 0, none⟩, 256, List.replicate 256 (0 : Int)) :: [] : List Ro).length) (rowsV (os ++ (some ⟨b4, 0, none⟩, 256, List.replicate 256 (0 : Int)) :: [])), row 22 1 (.slice (some ⟨b6, 0, none⟩) 1 1) 1 (rowsV ((some ⟨b4, 0, none⟩, 256, List.replicate 256 (0 : Int)) :: [])), blk b1 76 [.slice A5 n5 c5, .slice none 0 0, .int .i64 0, .bool false]]) (fun _ _ w hs => SAT.pooPushRo (some ⟨b4, 0, none⟩) 256 (List.replicate 256 (0 : Int)) rfl (tells_row _ _ _ _ _ _) (hs.pulls2 [2, 3] ([row 5 1 (.slice (some ⟨b4, 0, none⟩) 256 256) 256 (nums .u8 (List.replicate 256 (0 : Int))), poo .u8 os ([] : List Ch), row 22 1 (.slice Aq8 ((os ++ (some ⟨b4, 0, none⟩, 256, List.replicate 256 (0 : Int)) :: [] : List Ro).length) cq9) ((os ++ (some ⟨b4, 0, none⟩, 256, List.replicate 256 (0 : Int)) :: [] : List Ro).length) (rowsV (os ++ (some ⟨b4, 0, none⟩, 256, List.replicate 256 (0 : Int)) :: [])), row 22 1 (.slice (some ⟨b6, 0, none⟩) 1 1) 1 (rowsV ((some ⟨b4, 0, none⟩, 256, List.replicate 256 (0 : Int)) :: [])), blk b1 76 [.slice A5 n5 c5, .slice none 0 0, .int .i64 0, .bool false]]) (by kernel_rfl))) ?_
      refine RunU.sil hU false 8 (bm 11 511) 24 (.pointer (some ⟨b1, 0, none⟩)) (True) (by kernel_rfl) trivial (by kernel_rfl) (by kernel_rfl) (fun _ _ _ h => h) ?_
      refine RunU.sil hU false 9 (bm 11 1023) 25 (.pointer (some ⟨b1, 0, none⟩)) (True) (by kernel_rfl) trivial (by kernel_rfl) (by kernel_rfl) (fun _ _ _ h => h) ?_
      refine RunU.one (dst := none) (op := .store 73 (.tmp 25) (.tmp 23)) 10 (bm 11 2047) [] (by kernel_rfl) (by kernel_rfl) (Step.store_blk hU 3 b1 0 76 [.slice A5 n5 c5, .slice none 0 0, .int .i64 0, .bool false] (.slice Aq8 ((os ++ (some ⟨b4, 0, none⟩, 256, List.replicate 256 (0 : Int)) :: [] : List Ro).length) cq9) (by kernel_rfl) (by kernel_rfl) (by kernel_rfl) 1 rfl [.slice Aq8 ((os ++ (some ⟨b4, 0, none⟩, 256, List.replicate 256 (0 : Int)) :: [] : List Ro).length) cq9] (by kernel_rfl) rfl (by kernel_rfl) (by first | decide | simp) ?_)
      refine ⟨.inr (by kernel_rfl), ?_⟩
      refine RunU.env [0, 2, 3, 4] [(0, .int .i64 x), (2, .pointer none), (3, .pointer (some ⟨b1, 0, none⟩)), (4, .int .i64 i)] (by kernel_rfl) ?_
      refine RunU.done (by kernel_rfl) ?_
      refine kblock_n ?_
      refine kseq_n ?_
      refine RunC.region ?_
      refine RunR.sil hU [1] 3 3 [0, 2, 3, 4] [(0, .int .i64 x), (2, .pointer none), (3, .pointer (some ⟨b1, 0, none⟩)), (4, .int .i64 (i + 1))] ((True) ∧ (-9223372036854775808 ≤ (i + 1) ∧ (i + 1) < 9223372036854775808) ∧ (True) ∧ True) rfl (by kernel_rfl) ⟨trivial, (by omega), trivial, trivial⟩ ?_
      refine RunR.done (by kernel_rfl) ?_
      refine kloop_n _ [0, 2, 3, 4] [0, 1, 0] [(0, .int .i64 x), (2, .pointer none), (3, .pointer (some ⟨b1, 0, none⟩)), (4, .int .i64 (i + 1))] [blk b1 76 [.slice Aq8 ((os ++ (some ⟨b4, 0, none⟩, 256, List.replicate 256 (0 : Int)) :: [] : List Ro).length) cq9, .slice none 0 0, .int .i64 0, .bool false], row 22 1 (.slice Aq8 ((os ++ (some ⟨b4, 0, none⟩, 256, List.replicate 256 (0 : Int)) :: [] : List Ro).length) cq9) ((os ++ (some ⟨b4, 0, none⟩, 256, List.replicate 256 (0 : Int)) :: [] : List Ro).length) (rowsV (os ++ (some ⟨b4, 0, none⟩, 256, List.replicate 256 (0 : Int)) :: [])), poo .u8 (os ++ (some ⟨b4, 0, none⟩, 256, List.replicate 256 (0 : Int)) :: []) ([] : List Ch)] (by kernel_rfl) (by kernel_rfl) ?_ ⟨(i + 1), Aq8, ((os ++ (some ⟨b4, 0, none⟩, 256, List.replicate 256 (0 : Int)) :: [] : List Ro).length), cq9, (os ++ (some ⟨b4, 0, none⟩, 256, List.replicate 256 (0 : Int)) :: []), (by first | assumption | omega | (simp only [List.length_append, List.length_cons, List.length_nil, List.length_set, List.length_replicate, List.length_take, List.length_drop]; omega) | (simp only [fits] at *; omega) | (simp only [List.length_append, List.length_cons, List.length_nil, List.length_set, List.length_replicate, List.length_take, List.length_drop] at *; omega) | (simp; done) | decide), (by first | assumption | omega | (simp only [List.length_append, List.length_cons, List.length_nil, List.length_set, List.length_replicate, List.length_take, List.length_drop]; omega) | (simp only [fits] at *; omega) | (simp only [List.length_append, List.length_cons, List.length_nil, List.length_set, List.length_replicate, List.length_take, List.length_drop] at *; omega) | (simp; done) | decide), (by first | assumption | omega | (simp only [List.length_append, List.length_cons, List.length_nil, List.length_set, List.length_replicate, List.length_take, List.length_drop]; omega) | (simp only [fits] at *; omega) | (simp only [List.length_append, List.length_cons, List.length_nil, List.length_set, List.length_replicate, List.length_take, List.length_drop] at *; omega) | (simp; done) | decide), (by exact hRK.app (In.replicate _ _) (by simp) (by simp)), (by exact hW6.app List.length_replicate), (by rfl), (by first | assumption | omega | (simp only [List.length_append, List.length_cons, List.length_nil, List.length_set, List.length_replicate, List.length_take, List.length_drop]; omega) | (simp only [fits] at *; omega) | (simp only [List.length_append, List.length_cons, List.length_nil, List.length_set, List.length_replicate, List.length_take, List.length_drop] at *; omega) | (simp; done) | decide), (by first | assumption | omega | (simp only [List.length_append, List.length_cons, List.length_nil, List.length_set, List.length_replicate, List.length_take, List.length_drop]; omega) | (simp only [fits] at *; omega) | (simp only [List.length_append, List.length_cons, List.length_nil, List.length_set, List.length_replicate, List.length_take, List.length_drop] at *; omega) | (simp; done) | decide), (fun h => hA11 (by first | exact h | (simp at h ⊢; omega))), rfl, (by first | rfl | simp only [List.length_set]), (by first | rfl | simp only [List.length_set])⟩
      show ((x - (i + 1)).toNat : Nat) < ((x - i).toNat : Nat)
      omega
    · skip
      refine RunC.exit ?_
      refine kseq_e ?_
      refine kloop_e ?_
      refine kblock_e ?_
      refine kseq_n ?_
      refine RunC.seq ?_
      refine RunC.region ?_
      refine RunR.sil hU [] 2 2 [2] [(2, .pointer (some ⟨b1, 0, none⟩))] ((True) ∧ (True) ∧ True) rfl (by kernel_rfl) ⟨trivial, trivial, trivial⟩ ?_
      refine RunR.done (by kernel_rfl) ?_
      refine kseq_n ?_
      refine RunC.ret ?_
      refine kret_rt ([row 84 2 (.slice none 0 0) 0 (chV ([] : List Ch)), blk b1 76 [.slice A5 n5 c5, .slice none 0 0, .int .i64 0, .bool false], row 22 1 (.slice A5 n5 c5) n5 (rowsV os), poo .u8 os ([] : List Ch)]) (fun w0 W w hs => (hs).nil_row 84 2) [.pointer (some ⟨b1, 0, none⟩)] [1, 1, 0, 0] [blk b1 76 [.slice A5 n5 c5, .slice none 0 0, .int .i64 0, .bool false], row 22 1 (.slice A5 n5 c5) n5 (rowsV os), row 84 2 (.slice none 0 0) 0 (chV ([] : List Ch)), poo .u8 os ([] : List Ch)] ⟨rfl, trivial⟩ (by kernel_rfl) rfl ⟨b1, A5, n5, c5, os, rfl, rfl, (by first | assumption | omega | (simp only [List.length_append, List.length_cons, List.length_nil, List.length_set, List.length_replicate, List.length_take, List.length_drop]; omega) | (simp only [fits] at *; omega) | (simp only [List.length_append, List.length_cons, List.length_nil, List.length_set, List.length_replicate, List.length_take, List.length_drop] at *; omega) | (simp; done) | decide), (by first | assumption | omega | (simp only [List.length_append, List.length_cons, List.length_nil, List.length_set, List.length_replicate, List.length_take, List.length_drop]; omega) | (simp only [fits] at *; omega) | (simp only [List.length_append, List.length_cons, List.length_nil, List.length_set, List.length_replicate, List.length_take, List.length_drop] at *; omega) | (simp; done) | decide), (by first | rfl | assumption | omega | (simp only [List.length_append, List.length_cons, List.length_nil, List.length_set, List.length_replicate, List.length_take, List.length_drop]; omega) | (simp; done)), (by first | assumption | omega | (simp only [List.length_append, List.length_cons, List.length_nil, List.length_set, List.length_replicate, List.length_take, List.length_drop]; omega) | (simp only [fits] at *; omega) | (simp only [List.length_append, List.length_cons, List.length_nil, List.length_set, List.length_replicate, List.length_take, List.length_drop] at *; omega) | (simp; done) | decide), (by first | assumption | omega | (simp only [List.length_append, List.length_cons, List.length_nil, List.length_set, List.length_replicate, List.length_take, List.length_drop]; omega) | (simp only [fits] at *; omega) | (simp only [List.length_append, List.length_cons, List.length_nil, List.length_set, List.length_replicate, List.length_take, List.length_drop] at *; omega) | (simp; done) | decide), (fun h => hAr (by first | exact h | (simp at h ⊢; omega))), (by first | assumption | omega | (simp only [List.length_append, List.length_cons, List.length_nil, List.length_set, List.length_replicate, List.length_take, List.length_drop]; omega) | (simp only [fits] at *; omega) | (simp only [List.length_append, List.length_cons, List.length_nil, List.length_set, List.length_replicate, List.length_take, List.length_drop] at *; omega) | (simp; done) | decide)⟩
  · skip
    refine RunR.enveq [(0, .int .i64 x), (2, .pointer none), (3, .pointer (some ⟨b1, 0, none⟩)), (4, .int .i64 i), (10, .bool false)] (by rw [decide_eq_false h2]; try rfl) ?_
    refine RunR.sil hU [] 3 7 [0, 2, 3, 4, 13] [(0, .int .i64 x), (2, .pointer none), (3, .pointer (some ⟨b1, 0, none⟩)), (4, .int .i64 i), (13, .bool false)] ((True) ∧ True) rfl (by kernel_rfl) ⟨trivial, trivial⟩ ?_
    refine RunR.done (by kernel_rfl) ?_
    refine kseq_n ?_
    refine RunC.cond (b := false) (by kernel_rfl) (fun h => by cases h) (fun _ => ?_)
    refine RunC.exit ?_
    refine kseq_e ?_
    refine kloop_e ?_
    refine kblock_e ?_
    refine kseq_n ?_
    refine RunC.seq ?_
    refine RunC.region ?_
    refine RunR.sil hU [] 2 2 [2] [(2, .pointer (some ⟨b1, 0, none⟩))] ((True) ∧ (True) ∧ True) rfl (by kernel_rfl) ⟨trivial, trivial, trivial⟩ ?_
    refine RunR.done (by kernel_rfl) ?_
    refine kseq_n ?_
    refine RunC.ret ?_
    refine kret_rt ([row 84 2 (.slice none 0 0) 0 (chV ([] : List Ch)), blk b1 76 [.slice A5 n5 c5, .slice none 0 0, .int .i64 0, .bool false], row 22 1 (.slice A5 n5 c5) n5 (rowsV os), poo .u8 os ([] : List Ch)]) (fun w0 W w hs => (hs).nil_row 84 2) [.pointer (some ⟨b1, 0, none⟩)] [1, 1, 0, 0] [blk b1 76 [.slice A5 n5 c5, .slice none 0 0, .int .i64 0, .bool false], row 22 1 (.slice A5 n5 c5) n5 (rowsV os), row 84 2 (.slice none 0 0) 0 (chV ([] : List Ch)), poo .u8 os ([] : List Ch)] ⟨rfl, trivial⟩ (by kernel_rfl) rfl ⟨b1, A5, n5, c5, os, rfl, rfl, (by first | assumption | omega | (simp only [List.length_append, List.length_cons, List.length_nil, List.length_set, List.length_replicate, List.length_take, List.length_drop]; omega) | (simp only [fits] at *; omega) | (simp only [List.length_append, List.length_cons, List.length_nil, List.length_set, List.length_replicate, List.length_take, List.length_drop] at *; omega) | (simp; done) | decide), (by first | assumption | omega | (simp only [List.length_append, List.length_cons, List.length_nil, List.length_set, List.length_replicate, List.length_take, List.length_drop]; omega) | (simp only [fits] at *; omega) | (simp only [List.length_append, List.length_cons, List.length_nil, List.length_set, List.length_replicate, List.length_take, List.length_drop] at *; omega) | (simp; done) | decide), (by first | rfl | assumption | omega | (simp only [List.length_append, List.length_cons, List.length_nil, List.length_set, List.length_replicate, List.length_take, List.length_drop]; omega) | (simp; done)), (by first | assumption | omega | (simp only [List.length_append, List.length_cons, List.length_nil, List.length_set, List.length_replicate, List.length_take, List.length_drop]; omega) | (simp only [fits] at *; omega) | (simp only [List.length_append, List.length_cons, List.length_nil, List.length_set, List.length_replicate, List.length_take, List.length_drop] at *; omega) | (simp; done) | decide), (by first | assumption | omega | (simp only [List.length_append, List.length_cons, List.length_nil, List.length_set, List.length_replicate, List.length_take, List.length_drop]; omega) | (simp only [fits] at *; omega) | (simp only [List.length_append, List.length_cons, List.length_nil, List.length_set, List.length_replicate, List.length_take, List.length_drop] at *; omega) | (simp; done) | decide), (fun h => hAr (by first | exact h | (simp at h ⊢; omega))), (by first | assumption | omega | (simp only [List.length_append, List.length_cons, List.length_nil, List.length_set, List.length_replicate, List.length_take, List.length_drop]; omega) | (simp only [fits] at *; omega) | (simp only [List.length_append, List.length_cons, List.length_nil, List.length_set, List.length_replicate, List.length_take, List.length_drop] at *; omega) | (simp; done) | decide)⟩

theorem dr_Write_spec (d : Nat) (A : Option Addr) (n : Nat) (c : Nat) (rs : List Ro) (Wa : Option Addr) (m : Nat) (wc : Nat) (ws : List Ch) (lf : Int) (dn : Bool) (b : Int) (A8 : Option Addr) (c8 : Nat) (bs : List Int) (l_bs : Nat) (hRK : RowsOK .u8 rs) (hW6 : W256 rs) (hrn : rs.length = n) (hrc : n ≤ c) (hrb : n ≤ 2176) (hAr : 0 < n → Option.isSome A = true) (hml : ws.length = m) (hmb : m ≤ 1000000) (hok : ChOK .u8 ws) (hwk : WOK (256 * n) ws) (hWs : 0 < m → Option.isSome Wa = true) (hlf : 0 ≤ lf ∧ lf < 9223372036854775808) (hb : fits .i64 b) (hIbs : In .u8 bs) (hCbs : bs.length ≤ c8) (hBbs : bs.length ≤ 140737488351232) (hl_bs : bs.length = l_bs) :
    CallsS Try.prog 49 [.pointer (some ⟨d, 0, none⟩), .int .i64 b, .slice A8 l_bs c8] [blk d 76 [.slice A n c, .slice Wa m wc, .int .i64 lf, .bool dn], row 22 1 (.slice A n c) n (rowsV rs), row 84 2 (.slice Wa m wc) m (chV ws), poo .u8 rs ws, vw A8 (nums .u8 bs)] (fun r D => ∃ (e : Int) (Wb : Option Addr) (m2 : Nat) (wc2 : Nat) (ws2 : List Ch) (lf2 : Int) (dn2 : Bool), r = .int .i64 e ∧ D = [blk d 76 [.slice A n c, .slice Wb m2 wc2, .int .i64 lf2, .bool dn2], row 22 1 (.slice A n c) n (rowsV rs), row 84 2 (.slice Wb m2 wc2) m2 (chV ws2), poo .u8 rs ws2] ∧ ((e, dat ws2, lf2, dn2) = writeP (256 * n) (dat ws) lf dn b bs) ∧ (ws2.length = m2) ∧ (m2 ≤ m + 1) ∧ (ChOK .u8 ws2) ∧ (WOK (256 * n) ws2) ∧ (0 < m2 → Option.isSome Wb = true) ∧ (0 ≤ lf2 ∧ lf2 < 9223372036854775808)) := by
  subst hl_bs
  refine CallsS.enter hU Try.f49 _ [.tmp 6] 43 Try.func49 rfl (by decide) rfl rfl (by kernel_rfl) fun w0 W => ?_
  have hb2 := hb; simp only [fits] at hb2
  refine RunC.know (p := 0 < bs.length → Option.isSome A8 = true) (fun _ _ w hs => vw_some hs 4 rfl (by first | (simp [nums_length]; done) | exact dosV_len _ | exact bls_len _ | exact chV_len _)) (fun hA1 => ?_)
  refine RunC.seq ?_
  refine RunC.region ?_
  refine RunR.sil hU [] 1 1 [0, 1, 2, 6] [(0, .pointer (some ⟨d, 0, none⟩)), (1, .int .i64 b), (2, .slice A8 bs.length c8), (6, .int .i64 0)] ((True) ∧ True) rfl (by kernel_rfl) ⟨trivial, trivial⟩ ?_
  refine RunR.done (by kernel_rfl) ?_
  refine kseq_n ?_
  refine RunC.seq ?_
  refine RunC.seq ?_
  refine RunC.region ?_
  refine RunR.sil hU [] 3 3 [0, 1, 2, 6, 9] [(0, .pointer (some ⟨d, 0, none⟩)), (1, .int .i64 b), (2, .slice A8 bs.length c8), (6, .int .i64 0), (9, .bool (decide (b < 0)))] ((True) ∧ (True) ∧ (True) ∧ True) rfl (by kernel_rfl) ⟨trivial, trivial, trivial, trivial⟩ ?_
  refine RunR.env [0, 1, 2, 6, 9] [(0, .pointer (some ⟨d, 0, none⟩)), (1, .int .i64 b), (2, .slice A8 bs.length c8), (6, .int .i64 0), (9, .bool (decide (b < 0)))] (by kernel_rfl) ?_
  by_cases h2 : b < 0
  · skip
    refine RunR.enveq [(0, .pointer (some ⟨d, 0, none⟩)), (1, .int .i64 b), (2, .slice A8 bs.length c8), (6, .int .i64 0), (9, .bool true)] (by rw [decide_eq_true h2]; try rfl) ?_
    refine RunR.sil hU [] 13 16 [0, 1, 2, 6, 22] [(0, .pointer (some ⟨d, 0, none⟩)), (1, .int .i64 b), (2, .slice A8 bs.length c8), (6, .int .i64 0), (22, .bool true)] ((True) ∧ (True) ∧ (True) ∧ True) rfl (by kernel_rfl) ⟨trivial, trivial, trivial, trivial⟩ ?_
    refine RunR.done (by kernel_rfl) ?_
    refine kseq_n ?_
    refine RunC.cond (b := true) (by kernel_rfl) (fun _ => ?_) (fun h => by cases h)
    refine RunC.seq ?_
    refine RunC.region ?_
    refine RunR.sil hU [] 1 1 [0, 1, 2, 6] [(0, .pointer (some ⟨d, 0, none⟩)), (1, .int .i64 b), (2, .slice A8 bs.length c8), (6, .int .i64 1)] ((True) ∧ True) rfl (by kernel_rfl) ⟨trivial, trivial⟩ ?_
    refine RunR.done (by kernel_rfl) ?_
    refine kseq_n ?_
    refine RunC.ret ?_
    refine kseq_r ?_
    refine kret_r [.int .i64 1] [0, 0, 0, 0] [blk d 76 [.slice A n c, .slice Wa m wc, .int .i64 lf, .bool dn], row 22 1 (.slice A n c) n (rowsV rs), row 84 2 (.slice Wa m wc) m (chV ws), poo .u8 rs ws] ⟨rfl, trivial⟩ (by kernel_rfl) rfl ⟨1, Wa, m, wc, ws, lf, dn, rfl, rfl, (by exact write_bad (.inl (by omega))), (by assumption), (by omega), (by assumption), (by assumption), (by assumption), (by assumption)⟩
  · skip
    refine RunR.enveq [(0, .pointer (some ⟨d, 0, none⟩)), (1, .int .i64 b), (2, .slice A8 bs.length c8), (6, .int .i64 0), (9, .bool false)] (by rw [decide_eq_false h2]; try rfl) ?_
    refine RunR.sil hU [] 4 7 [0, 1, 2, 6, 9, 10, 13] [(0, .pointer (some ⟨d, 0, none⟩)), (1, .int .i64 b), (2, .slice A8 bs.length c8), (6, .int .i64 0), (9, .bool false), (10, .int .i64 b), (13, .pointer (some ⟨d, 0, none⟩))] ((True) ∧ (True) ∧ (True) ∧ (True) ∧ True) rfl (by kernel_rfl) ⟨trivial, trivial, trivial, trivial, trivial⟩ ?_
    refine RunR.step (dst := some 14) (op := .load 73 (.tmp 13)) (by kernel_rfl) (Step.load_blk hU 0 d (0) 76 [.slice A n c, .slice Wa m wc, .int .i64 lf, .bool dn] (.slice A n c) (by kernel_rfl) (by kernel_rfl) (by kernel_rfl) (by kernel_rfl) ?_)
    refine RunR.sil hU [] 4 12 [0, 1, 2, 6, 18] [(0, .pointer (some ⟨d, 0, none⟩)), (1, .int .i64 b), (2, .slice A8 bs.length c8), (6, .int .i64 0), (18, .bool (decide (b ≥ ((n : Nat) : Int))))] ((True) ∧ (True) ∧ (True) ∧ (True) ∧ True) rfl (by kernel_rfl) ⟨trivial, trivial, trivial, trivial, trivial⟩ ?_
    refine RunR.env [0, 1, 2, 6, 18] [(0, .pointer (some ⟨d, 0, none⟩)), (1, .int .i64 b), (2, .slice A8 bs.length c8), (6, .int .i64 0), (18, .bool (decide (b ≥ ((n : Nat) : Int))))] (by kernel_rfl) ?_
    by_cases h3 : b ≥ ((n : Nat) : Int)
    · skip
      refine RunR.enveq [(0, .pointer (some ⟨d, 0, none⟩)), (1, .int .i64 b), (2, .slice A8 bs.length c8), (6, .int .i64 0), (18, .bool true)] (by rw [decide_eq_true h3]; try rfl) ?_
      refine RunR.sil hU [] 4 16 [0, 1, 2, 6, 22] [(0, .pointer (some ⟨d, 0, none⟩)), (1, .int .i64 b), (2, .slice A8 bs.length c8), (6, .int .i64 0), (22, .bool true)] ((True) ∧ True) rfl (by kernel_rfl) ⟨trivial, trivial⟩ ?_
      refine RunR.done (by kernel_rfl) ?_
      refine kseq_n ?_
      refine RunC.cond (b := true) (by kernel_rfl) (fun _ => ?_) (fun h => by cases h)
      refine RunC.seq ?_
      refine RunC.region ?_
      refine RunR.sil hU [] 1 1 [0, 1, 2, 6] [(0, .pointer (some ⟨d, 0, none⟩)), (1, .int .i64 b), (2, .slice A8 bs.length c8), (6, .int .i64 1)] ((True) ∧ True) rfl (by kernel_rfl) ⟨trivial, trivial⟩ ?_
      refine RunR.done (by kernel_rfl) ?_
      refine kseq_n ?_
      refine RunC.ret ?_
      refine kseq_r ?_
      refine kret_r [.int .i64 1] [0, 0, 0, 0] [blk d 76 [.slice A n c, .slice Wa m wc, .int .i64 lf, .bool dn], row 22 1 (.slice A n c) n (rowsV rs), row 84 2 (.slice Wa m wc) m (chV ws), poo .u8 rs ws] ⟨rfl, trivial⟩ (by kernel_rfl) rfl ⟨1, Wa, m, wc, ws, lf, dn, rfl, rfl, (by exact write_bad (.inl (by omega))), (by assumption), (by omega), (by assumption), (by assumption), (by assumption), (by assumption)⟩
    · skip
      refine RunR.enveq [(0, .pointer (some ⟨d, 0, none⟩)), (1, .int .i64 b), (2, .slice A8 bs.length c8), (6, .int .i64 0), (18, .bool false)] (by rw [decide_eq_false h3]; try rfl) ?_
      refine RunR.sil hU [] 4 16 [0, 1, 2, 6, 22] [(0, .pointer (some ⟨d, 0, none⟩)), (1, .int .i64 b), (2, .slice A8 bs.length c8), (6, .int .i64 0), (22, .bool (!decide (((bs.length : Nat) : Int) = 256)))] ((True) ∧ (True) ∧ (True) ∧ (True) ∧ True) rfl (by kernel_rfl) ⟨trivial, trivial, trivial, trivial, trivial⟩ ?_
      refine RunR.done (by kernel_rfl) ?_
      refine kseq_n ?_
      refine RunC.condn (((bs.length : Nat) : Int) = 256) (by kernel_rfl) (fun h4 => ?_) (fun h4 => ?_)
      · skip
        refine RunC.seq ?_
        refine RunC.region ?_
        refine RunR.sil hU [] 1 1 [0, 1, 2, 6] [(0, .pointer (some ⟨d, 0, none⟩)), (1, .int .i64 b), (2, .slice A8 bs.length c8), (6, .int .i64 1)] ((True) ∧ True) rfl (by kernel_rfl) ⟨trivial, trivial⟩ ?_
        refine RunR.done (by kernel_rfl) ?_
        refine kseq_n ?_
        refine RunC.ret ?_
        refine kseq_r ?_
        refine kret_r [.int .i64 1] [0, 0, 0, 0] [blk d 76 [.slice A n c, .slice Wa m wc, .int .i64 lf, .bool dn], row 22 1 (.slice A n c) n (rowsV rs), row 84 2 (.slice Wa m wc) m (chV ws), poo .u8 rs ws] ⟨rfl, trivial⟩ (by kernel_rfl) rfl ⟨1, Wa, m, wc, ws, lf, dn, rfl, rfl, (by exact write_bad (.inr (by omega))), (by assumption), (by omega), (by assumption), (by assumption), (by assumption), (by assumption)⟩
      · skip
        refine RunC.skip ?_
        refine kseq_n ?_
        refine RunC.seq ?_
        refine RunC.seq ?_
        refine RunC.region ?_
        refine RunR.sil hU [] 3 3 [0, 1, 2, 6, 25] [(0, .pointer (some ⟨d, 0, none⟩)), (1, .int .i64 b), (2, .slice A8 bs.length c8), (6, .int .i64 0), (25, .pointer (some ⟨d, 3, none⟩))] ((True) ∧ (True) ∧ (True) ∧ True) rfl (by kernel_rfl) ⟨trivial, trivial, trivial, trivial⟩ ?_
        refine RunR.step (dst := some 26) (op := .load 4 (.tmp 25)) (by kernel_rfl) (Step.load_blk hU 0 d (3) 76 [.slice A n c, .slice Wa m wc, .int .i64 lf, .bool dn] (.bool dn) (by kernel_rfl) (by kernel_rfl) (by kernel_rfl) (by kernel_rfl) ?_)
        refine RunR.done (by kernel_rfl) ?_
        refine kseq_n ?_
        refine RunC.cond (b := dn) (by kernel_rfl) (fun h5 => ?_) (fun h5 => ?_)
        · skip
          refine RunC.seq ?_
          refine RunC.region ?_
          refine RunR.sil hU [] 1 1 [0, 1, 2, 6] [(0, .pointer (some ⟨d, 0, none⟩)), (1, .int .i64 b), (2, .slice A8 bs.length c8), (6, .int .i64 11)] ((True) ∧ True) rfl (by kernel_rfl) ⟨trivial, trivial⟩ ?_
          refine RunR.done (by kernel_rfl) ?_
          refine kseq_n ?_
          refine RunC.ret ?_
          refine kseq_r ?_
          refine kret_r [.int .i64 11] [0, 0, 0, 0] [blk d 76 [.slice A n c, .slice Wa m wc, .int .i64 lf, .bool dn], row 22 1 (.slice A n c) n (rowsV rs), row 84 2 (.slice Wa m wc) m (chV ws), poo .u8 rs ws] ⟨rfl, trivial⟩ (by kernel_rfl) rfl ⟨11, Wa, m, wc, ws, lf, dn, rfl, rfl, (by exact write_down (by omega) (by omega) (by omega) (by assumption)), (by assumption), (by omega), (by assumption), (by assumption), (by assumption), (by assumption)⟩
        · skip
          refine RunC.skip ?_
          refine kseq_n ?_
          refine RunC.seq ?_
          refine RunC.regionU hU 15 [blk d 76 [.slice A n c, .slice Wa m wc, .int .i64 lf, .bool dn]] [0] [11, 12, 13, 14] (bm 15 0) (by kernel_rfl) (by kernel_rfl) (by kernel_rfl) ?_
          refine RunU.sil hU false 0 (bm 15 1) 27 (.pointer (some ⟨d, 0, none⟩)) (True) (by kernel_rfl) trivial (by kernel_rfl) (by kernel_rfl) (fun _ _ _ h => h) ?_
          refine RunU.sil hU false 1 (bm 15 3) 28 (.pointer (some ⟨d, 0, none⟩)) (True) (by kernel_rfl) trivial (by kernel_rfl) (by kernel_rfl) (fun _ _ _ h => h) ?_
          refine RunU.sil hU false 2 (bm 15 7) 29 (.pointer (some ⟨d, 0, none⟩)) (True) (by kernel_rfl) trivial (by kernel_rfl) (by kernel_rfl) (fun _ _ _ h => h) ?_
          refine RunU.sil hU false 3 (bm 15 15) 30 (.pointer (some ⟨d, 1, none⟩)) (True) (by kernel_rfl) trivial (by kernel_rfl) (by kernel_rfl) (fun _ _ _ h => h) ?_
          refine RunU.read 4 (bm 15 31) 31 (.load 74 (.tmp 30)) (.slice Wa m wc) [0] (by kernel_rfl) (Reads.load_blk hU 0 d (1) 76 [.slice A n c, .slice Wa m wc, .int .i64 lf, .bool dn] (.slice Wa m wc) (by kernel_rfl) (by kernel_rfl) (by kernel_rfl)) (by kernel_rfl) (by kernel_rfl) (by kernel_rfl) (by kernel_rfl) (fun _ _ _ h => h) ?_
          refine RunU.sil hU false 5 (bm 15 63) 32 (.int .i64 b) (True) (by kernel_rfl) trivial (by kernel_rfl) (by kernel_rfl) (fun _ _ _ h => h) ?_
          refine RunU.sil hU false 7 (bm 15 191) 34 (.slice A8 bs.length c8) (True) (by kernel_rfl) trivial (by kernel_rfl) (by kernel_rfl) (fun _ _ _ h => h) ?_
          refine RunU.one (dst := some 33) (op := .buildSlice 22 0 #[]) 6 (bm 15 255) [1] (by kernel_rfl) (by kernel_rfl) (Step.lit_nums hU 5 1 .u8 (.int .u8 0) ([] : List Int) rfl rfl (by kernel_rfl) rfl rfl (by kernel_rfl) (fun b6 => ?_))
          have hl7 : (([] : List Int)).length = 0 := rfl
          refine ⟨.inl (by kernel_rfl), ?_⟩
          have hl12 : (([] : List Int)).length = 0 := rfl
          refine RunU.one (dst := some 35) (op := .call { callee := .builtin .append, args := #[.tmp 33, .tmp 34], argTypes := #[22, 22] }) 8 (bm 15 511) [1] (by kernel_rfl) (by kernel_rfl) (Step.append_nums hU 5 1 (.int .u8 0) .u8 0 5 (some ⟨b6, 0, none⟩) 0 0 ([] : List Int) A8 bs.length c8 (vw A8 (nums .u8 bs)) bs rfl rfl rfl (by kernel_rfl) (by kernel_rfl) (by kernel_rfl) (by kernel_rfl) (tells_vw _ _) (by first | rfl | omega | (simp; omega)) (by first | rfl | omega | (simp; omega)) (by omega) (by omega) (by kernel_rfl) (fun Aq8 cq9 hc10 hA11 => ?_))
          simp only [List.nil_append] at hc10 hA11
          refine ⟨.inl (by kernel_rfl), ?_⟩
          refine RunU.sil hU false 9 (bm 15 1023) 36 (.agg #[.int .i64 b, .slice Aq8 bs.length cq9]) (True) (by kernel_rfl) trivial (by kernel_rfl) (by kernel_rfl) (fun _ _ _ h => h) ?_
          refine RunU.one (dst := some 37) (op := .buildSlice 74 1 #[(0, .tmp 36)]) 10 (bm 15 2047) [2] (by kernel_rfl) (by kernel_rfl) (Step.lit_pair hU 84 32 (.agg #[.int .i64 0, .slice none 0 0]) (.int .i64 b) (.slice Aq8 bs.length cq9) (by kernel_rfl) (by kernel_rfl) (by kernel_rfl) rfl rfl (by kernel_rfl) (fun b13 => ?_))
          refine ⟨.inl (by kernel_rfl), ?_⟩
          refine RunU.turn ([row 84 2 (.slice (some ⟨b13, 0, none⟩) 1 1) 1 (chV ([(b, Aq8, cq9, bs)] : List Ch)), row 5 1 (.slice Aq8 bs.length cq9) bs.length (nums .u8 bs), blk d 76 [.slice A n c, .slice Wa m wc, .int .i64 lf, .bool dn], row 22 1 (.slice A n c) n (rowsV rs), row 84 2 (.slice Wa m wc) m (chV ws), poo .u8 rs ws, vw A8 (nums .u8 bs)]) (fun _ _ w hs => hs) ?_
          refine RunU.one (dst := some 38) (op := .call { callee := .builtin .append, args := #[.tmp 31, .tmp 37], argTypes := #[74, 74] }) 11 (bm 15 4095) [] (by kernel_rfl) (by kernel_rfl) (Step.append_ch hU 84 32 (.agg #[.int .i64 0, .slice none 0 0]) 4 0 Wa m wc ws (some ⟨b13, 0, none⟩) 1 1 (row 84 2 (.slice (some ⟨b13, 0, none⟩) 1 1) 1 (chV ([(b, Aq8, cq9, bs)] : List Ch))) ([(b, Aq8, cq9, bs)] : List Ch) (by kernel_rfl) (by kernel_rfl) (by kernel_rfl) (by kernel_rfl) (by kernel_rfl) (by kernel_rfl) (by kernel_rfl) (tells_row _ _ _ _ _ _) rfl (by omega) (by omega) (by kernel_rfl) (fun Aq14 cq15 hc16 hA17 => ?_))
          refine ⟨.inr (by kernel_rfl), ?_⟩
          refine RunU.turn ([poo .u8 rs (ws ++ ([(b, Aq8, cq9, bs)] : List Ch)), row 84 2 (.slice Aq14 (m + 1) cq15) (m + 1) (chV (ws ++ ([(b, Aq8, cq9, bs)] : List Ch))), row 84 2 (.slice (some ⟨b13, 0, none⟩) 1 1) 1 (chV ([(b, Aq8, cq9, bs)] : List Ch)), blk d 76 [.slice A n c, .slice Wa m wc, .int .i64 lf, .bool dn], row 22 1 (.slice A n c) n (rowsV rs), vw A8 (nums .u8 bs)]) (fun _ _ w hs => SAT.pooPushCh b Aq8 cq9 bs rfl (tells_row _ _ _ _ _ _) (hs.pulls2 [2, 4] ([row 5 1 (.slice Aq8 bs.length cq9) bs.length (nums .u8 bs), poo .u8 rs ws, row 84 2 (.slice Aq14 (m + 1) cq15) (m + 1) (chV (ws ++ ([(b, Aq8, cq9, bs)] : List Ch))), row 84 2 (.slice (some ⟨b13, 0, none⟩) 1 1) 1 (chV ([(b, Aq8, cq9, bs)] : List Ch)), blk d 76 [.slice A n c, .slice Wa m wc, .int .i64 lf, .bool dn], row 22 1 (.slice A n c) n (rowsV rs), vw A8 (nums .u8 bs)]) (by kernel_rfl))) ?_
          refine RunU.sil hU false 12 (bm 15 8191) 39 (.pointer (some ⟨d, 0, none⟩)) (True) (by kernel_rfl) trivial (by kernel_rfl) (by kernel_rfl) (fun _ _ _ h => h) ?_
          refine RunU.sil hU false 13 (bm 15 16383) 40 (.pointer (some ⟨d, 1, none⟩)) (True) (by kernel_rfl) trivial (by kernel_rfl) (by kernel_rfl) (fun _ _ _ h => h) ?_
          refine RunU.one (dst := none) (op := .store 74 (.tmp 40) (.tmp 38)) 14 (bm 15 32767) [] (by kernel_rfl) (by kernel_rfl) (Step.store_blk hU 3 d 1 76 [.slice A n c, .slice Wa m wc, .int .i64 lf, .bool dn] (.slice Aq14 (m + 1) cq15) (by kernel_rfl) (by kernel_rfl) (by kernel_rfl) 1 rfl [.slice Aq14 (m + 1) cq15] (by kernel_rfl) rfl (by kernel_rfl) (by first | decide | simp) ?_)
          refine ⟨.inr (by kernel_rfl), ?_⟩
          refine RunU.env [0, 6] [(0, .pointer (some ⟨d, 0, none⟩)), (6, .int .i64 0)] (by kernel_rfl) ?_
          refine RunU.done (by kernel_rfl) ?_
          refine kseq_n ?_
          refine RunC.seq ?_
          refine RunC.seq ?_
          refine RunC.region ?_
          refine RunR.sil hU [] 1 1 [6, 41] [(6, .int .i64 0), (41, .pointer (some ⟨d, 0, none⟩))] ((True) ∧ True) rfl (by kernel_rfl) ⟨trivial, trivial⟩ ?_
          refine RunR.step (dst := some 42) (op := .call { callee := .value (.func 68), args := #[.tmp 41], argTypes := #[70] }) (by kernel_rfl) (Step.call 68 [.pointer (some ⟨d, 0, none⟩)] (by kernel_rfl) (by kernel_rfl) [blk d 76 [.slice A n c, .slice Aq14 (m + 1) cq15, .int .i64 lf, .bool dn]] [] [poo .u8 rs (ws ++ ([(b, Aq8, cq9, bs)] : List Ch)), row 84 2 (.slice Aq14 (m + 1) cq15) (m + 1) (chV (ws ++ ([(b, Aq8, cq9, bs)] : List Ch))), row 84 2 (.slice (some ⟨b13, 0, none⟩) 1 1) 1 (chV ([(b, Aq8, cq9, bs)] : List Ch)), row 22 1 (.slice A n c) n (rowsV rs), vw A8 (nums .u8 bs)] (dr_goes_spec d A n c Aq14 (m + 1) cq15 lf dn (by first | assumption | omega | (simp only [List.length_append, List.length_cons, List.length_nil, List.length_set, List.length_replicate, List.length_take, List.length_drop]; omega) | (simp only [fits] at *; omega) | (simp only [List.length_append, List.length_cons, List.length_nil, List.length_set, List.length_replicate, List.length_take, List.length_drop] at *; omega) | (simp; done) | decide) (by first | assumption | omega | (simp only [List.length_append, List.length_cons, List.length_nil, List.length_set, List.length_replicate, List.length_take, List.length_drop]; omega) | (simp only [fits] at *; omega) | (simp only [List.length_append, List.length_cons, List.length_nil, List.length_set, List.length_replicate, List.length_take, List.length_drop] at *; omega) | (simp; done) | decide)) [0] (by kernel_rfl) (Lend.nil _) ?_)
          rintro _ _ ⟨gz18, lf219, dn220, rfl, rfl, hp21, hp22, hp23⟩
          refine RunR.done (by kernel_rfl) ?_
          refine kseq_n ?_
          refine RunC.cond (b := gz18) (by kernel_rfl) (fun h24 => ?_) (fun h24 => ?_)
          · skip
            refine RunC.seq ?_
            refine RunC.region ?_
            refine RunR.sil hU [] 1 1 [6] [(6, .int .i64 11)] ((True) ∧ True) rfl (by kernel_rfl) ⟨trivial, trivial⟩ ?_
            refine RunR.done (by kernel_rfl) ?_
            refine kseq_n ?_
            refine RunC.ret ?_
            refine kseq_r ?_
            refine kret_r [.int .i64 11] [0, 3, 1, 0] [blk d 76 [.slice A n c, .slice Aq14 (m + 1) cq15, .int .i64 lf219, .bool dn220], row 22 1 (.slice A n c) n (rowsV rs), row 84 2 (.slice Aq14 (m + 1) cq15) (m + 1) (chV (ws ++ ([(b, Aq8, cq9, bs)] : List Ch))), poo .u8 rs (ws ++ ([(b, Aq8, cq9, bs)] : List Ch))] ⟨rfl, trivial⟩ (by kernel_rfl) rfl ⟨11, Aq14, (m + 1), cq15, (ws ++ ([(b, Aq8, cq9, bs)] : List Ch)), lf219, dn220, rfl, rfl, (by exact write_go (by omega) (by omega) (by omega) (by assumption) hp21 rfl (by rw [← hp22]; rw [if_pos (by assumption)])), (by simp only [List.length_append, List.length_cons, List.length_nil]; omega), (by omega), (by exact hok.append (ChOK.one (by refine ⟨?_, ?_⟩ <;> omega) (by assumption) (by assumption) (by omega))), (by exact hwk.app (by omega) (by omega) (by omega)), (by first | assumption | (intro _; assumption)), (by assumption)⟩
          · skip
            refine RunC.skip ?_
            refine kseq_n ?_
            refine RunC.seq ?_
            refine RunC.region ?_
            refine RunR.sil hU [] 1 1 [6] [(6, .int .i64 0)] ((True) ∧ True) rfl (by kernel_rfl) ⟨trivial, trivial⟩ ?_
            refine RunR.done (by kernel_rfl) ?_
            refine kseq_n ?_
            refine RunC.ret ?_
            refine kret_r [.int .i64 0] [0, 3, 1, 0] [blk d 76 [.slice A n c, .slice Aq14 (m + 1) cq15, .int .i64 lf219, .bool dn220], row 22 1 (.slice A n c) n (rowsV rs), row 84 2 (.slice Aq14 (m + 1) cq15) (m + 1) (chV (ws ++ ([(b, Aq8, cq9, bs)] : List Ch))), poo .u8 rs (ws ++ ([(b, Aq8, cq9, bs)] : List Ch))] ⟨rfl, trivial⟩ (by kernel_rfl) rfl ⟨0, Aq14, (m + 1), cq15, (ws ++ ([(b, Aq8, cq9, bs)] : List Ch)), lf219, dn220, rfl, rfl, (by exact write_go (by omega) (by omega) (by omega) (by assumption) hp21 rfl (by rw [← hp22]; rw [if_neg (Bool.eq_false_iff.1 (by assumption))])), (by simp only [List.length_append, List.length_cons, List.length_nil]; omega), (by omega), (by exact hok.append (ChOK.one (by refine ⟨?_, ?_⟩ <;> omega) (by assumption) (by assumption) (by omega))), (by exact hwk.app (by omega) (by omega) (by omega)), (by first | assumption | (intro _; assumption)), (by assumption)⟩

theorem dr_Image_spec (d : Nat) (A : Option Addr) (n : Nat) (c : Nat) (rs : List Ro) (Wa : Option Addr) (m : Nat) (wc : Nat) (ws : List Ch) (lf : Int) (dn : Bool) (hRK : RowsOK .u8 rs) (hW6 : W256 rs) (hrn : rs.length = n) (hrc : n ≤ c) (hrb : n ≤ 2176) (hAr : 0 < n → Option.isSome A = true) :
    CallsS Try.prog 69 [.pointer (some ⟨d, 0, none⟩)] [blk d 76 [.slice A n c, .slice Wa m wc, .int .i64 lf, .bool dn], row 22 1 (.slice A n c) n (rowsV rs), poo .u8 rs ws] (fun r D => ∃ (A9 : Option Addr) (c9 : Nat) (zs : List Int), r = .slice A9 zs.length c9 ∧ D = [row 5 1 (.slice A9 zs.length c9) zs.length (nums .u8 zs), blk d 76 [.slice A n c, .slice Wa m wc, .int .i64 lf, .bool dn], row 22 1 (.slice A n c) n (rowsV rs), poo .u8 rs ws] ∧ (zs = cat rs) ∧ (zs.length = 256 * n) ∧ (In .u8 zs) ∧ (zs.length ≤ c9) ∧ (0 < zs.length → Option.isSome A9 = true)) := by
  refine CallsS.enter hU Try.f69 _ [.tmp 2] 24 Try.func69 rfl (by decide) rfl rfl (by kernel_rfl) fun w0 W => ?_
  refine RunC.seq ?_
  refine RunC.region ?_
  refine RunR.sil hU [] 1 1 [0, 2] [(0, .pointer (some ⟨d, 0, none⟩)), (2, .slice none 0 0)] ((True) ∧ True) rfl (by kernel_rfl) ⟨trivial, trivial⟩ ?_
  refine RunR.done (by kernel_rfl) ?_
  refine kseq_n ?_
  refine RunC.seq ?_
  refine RunC.region ?_
  refine RunR.sil hU [] 1 1 [0, 2, 3] [(0, .pointer (some ⟨d, 0, none⟩)), (2, .slice none 0 0), (3, .slice none 0 0)] ((True) ∧ True) rfl (by kernel_rfl) ⟨trivial, trivial⟩ ?_
  refine RunR.done (by kernel_rfl) ?_
  refine kseq_n ?_
  refine RunC.seq ?_
  refine RunC.seq ?_
  refine RunC.region ?_
  refine RunR.sil hU [] 1 1 [0, 2, 3, 4] [(0, .pointer (some ⟨d, 0, none⟩)), (2, .slice none 0 0), (3, .slice none 0 0), (4, .int .i64 0)] ((True) ∧ True) rfl (by kernel_rfl) ⟨trivial, trivial⟩ ?_
  refine RunR.done (by kernel_rfl) ?_
  refine kseq_n ?_
  refine RunC.block ?_
  refine RunC.turn ([row 5 1 (.slice none 0 0) 0 (nums .u8 ([] : List Int)), blk d 76 [.slice A n c, .slice Wa m wc, .int .i64 lf, .bool dn], row 22 1 (.slice A n c) n (rowsV rs), poo .u8 rs ws]) (fun _ _ w hs => hs.nil_row 5 1) ?_
  refine RunC.env [0, 2, 3, 4] [(0, .pointer (some ⟨d, 0, none⟩)), (2, .slice none 0 0), (3, .slice none 0 0), (4, .int .i64 0)] (by kernel_rfl) ?_
  refine RunC.only [0, 0, 0, 0] [row 5 1 (.slice none 0 0) 0 (nums .u8 ([] : List Int)), blk d 76 [.slice A n c, .slice Wa m wc, .int .i64 lf, .bool dn], row 22 1 (.slice A n c) n (rowsV rs), poo .u8 rs ws] (by kernel_rfl) ?_
  refine RunC.loop (σ := Nat) (fun n_ t_ D_ => ∃ (i : Int) (os : List Int) (A5 : Option Addr) (c5 : Nat), (0 ≤ i) ∧ (i ≤ (n : Int)) ∧ (os = cat (rs.take i.toNat)) ∧ (os.length = 256 * i.toNat) ∧ (In .u8 os) ∧ (os.length ≤ c5) ∧ (0 < os.length → Option.isSome A5 = true) ∧ n_ = ((n - i).toNat : Nat) ∧ t_ = [(0, .pointer (some ⟨d, 0, none⟩)), (2, .slice none 0 0), (3, .slice A5 os.length c5), (4, .int .i64 i)] ∧ D_ = [row 5 1 (.slice A5 os.length c5) os.length (nums .u8 os), blk d 76 [.slice A n c, .slice Wa m wc, .int .i64 lf, .bool dn], row 22 1 (.slice A n c) n (rowsV rs), poo .u8 rs ws]) id _ ⟨0, ([] : List Int), none, 0, (by first | assumption | omega | (simp only [List.length_append, List.length_cons, List.length_nil, List.length_set, List.length_replicate, List.length_take, List.length_drop]; omega) | (simp only [fits] at *; omega) | (simp only [List.length_append, List.length_cons, List.length_nil, List.length_set, List.length_replicate, List.length_take, List.length_drop] at *; omega) | (simp; done) | decide), (by first | assumption | omega | (simp only [List.length_append, List.length_cons, List.length_nil, List.length_set, List.length_replicate, List.length_take, List.length_drop]; omega) | (simp only [fits] at *; omega) | (simp only [List.length_append, List.length_cons, List.length_nil, List.length_set, List.length_replicate, List.length_take, List.length_drop] at *; omega) | (simp; done) | decide), (by rfl), (by rfl), (by exact In.nil _), (by exact Nat.zero_le _), (by intro h; simp at h), rfl, rfl, rfl⟩ ?_
  rintro n_ _ _ ⟨i, os, A5, c5, hi, hin, hos, hol, hios, hcos, hAos, rfl, rfl, rfl⟩
  refine RunC.seq ?_
  refine RunC.seq ?_
  refine RunC.region ?_
  refine RunR.sil hU [] 4 4 [0, 2, 3, 4, 5, 8] [(0, .pointer (some ⟨d, 0, none⟩)), (2, .slice none 0 0), (3, .slice A5 os.length c5), (4, .int .i64 i), (5, .int .i64 i), (8, .pointer (some ⟨d, 0, none⟩))] ((True) ∧ (True) ∧ (True) ∧ (True) ∧ True) rfl (by kernel_rfl) ⟨trivial, trivial, trivial, trivial, trivial⟩ ?_
  refine RunR.step (dst := some 9) (op := .load 73 (.tmp 8)) (by kernel_rfl) (Step.load_blk hU 1 d (0) 76 [.slice A n c, .slice Wa m wc, .int .i64 lf, .bool dn] (.slice A n c) (by kernel_rfl) (by kernel_rfl) (by kernel_rfl) (by kernel_rfl) ?_)
  refine RunR.sil hU [] 2 7 [0, 2, 3, 4, 11] [(0, .pointer (some ⟨d, 0, none⟩)), (2, .slice none 0 0), (3, .slice A5 os.length c5), (4, .int .i64 i), (11, .bool (decide (i < ((n : Nat) : Int))))] ((True) ∧ (True) ∧ True) rfl (by kernel_rfl) ⟨trivial, trivial, trivial⟩ ?_
  refine RunR.done (by kernel_rfl) ?_
  refine kseq_n ?_
  refine RunC.condp (i < ((n : Nat) : Int)) (by kernel_rfl) (fun h1 => ?_) (fun h1 => ?_)
  · skip
    refine RunC.skip ?_
    refine kseq_n ?_
    refine RunC.seq ?_
    refine RunC.block ?_
    refine RunC.region ?_
    refine RunR.sil hU [] 4 4 [0, 2, 3, 4, 14, 17] [(0, .pointer (some ⟨d, 0, none⟩)), (2, .slice none 0 0), (3, .slice A5 os.length c5), (4, .int .i64 i), (14, .slice A5 os.length c5), (17, .pointer (some ⟨d, 0, none⟩))] ((True) ∧ (True) ∧ (True) ∧ (True) ∧ True) rfl (by kernel_rfl) ⟨trivial, trivial, trivial, trivial, trivial⟩ ?_
    refine RunR.step (dst := some 18) (op := .load 73 (.tmp 17)) (by kernel_rfl) (Step.load_blk hU 1 d (0) 76 [.slice A n c, .slice Wa m wc, .int .i64 lf, .bool dn] (.slice A n c) (by kernel_rfl) (by kernel_rfl) (by kernel_rfl) (by kernel_rfl) ?_)
    refine RunR.sil hU [] 2 7 [0, 2, 3, 4, 14, 20] [(0, .pointer (some ⟨d, 0, none⟩)), (2, .slice none 0 0), (3, .slice A5 os.length c5), (4, .int .i64 i), (14, .slice A5 os.length c5), (20, .pointer (elemAt A i 1))] ((True) ∧ ((0 ≤ i ∧ i < ((n : Nat) : Int)) ∧ Option.isSome A = true) ∧ True) rfl (by kernel_rfl) ⟨trivial, ⟨by omega, hAr (by omega)⟩, trivial⟩ ?_
    obtain ⟨Ae2, ce3, xe4, hg5, hr6, hc7, hl8⟩ := row_at (by assumption : RowsOK .u8 rs) (i := (i).toNat) (by omega)
    have hw9 := W256.at (by assumption) hg5
    refine RunR.step (dst := some 21) (op := .load 22 (.tmp 20)) (by kernel_rfl) (Step.load_of hU 2 (row 22 1 (.slice A n c) n (rowsV rs)) A i 1 (rowsV rs) (.slice Ae2 xe4.length ce3) (by kernel_rfl) (by kernel_rfl) (tells_row _ _ _ _ _ _) (loadv_row (by kernel_rfl) hg5 (Nat.mul_one _)) (by kernel_rfl) (by rw [rowsV_len]; omega) ?_)
    refine RunR.step (dst := some 22) (op := .call { callee := .builtin .append, args := #[.tmp 14, .tmp 21], argTypes := #[22, 22] }) (by kernel_rfl) (Step.append_nums hU 5 1 (.int .u8 0) .u8 0 3 A5 os.length c5 os Ae2 xe4.length ce3 (poo .u8 rs ws) xe4 rfl rfl rfl (by kernel_rfl) (by kernel_rfl) (by kernel_rfl) (by kernel_rfl) (tells_poo1 hg5) (by first | rfl | omega | (simp; omega)) (by first | rfl | omega | (simp; omega)) (by omega) (by omega) (by kernel_rfl) (fun Aq10 cq11 hc12 hA13 => ?_))
    have hl14 : (os ++ xe4).length = os.length + xe4.length := List.length_append
    refine RunR.sil hU [] 1 10 [0, 2, 3, 4] [(0, .pointer (some ⟨d, 0, none⟩)), (2, .slice none 0 0), (3, .slice Aq10 ((os ++ xe4).length) cq11), (4, .int .i64 i)] ((True) ∧ True) rfl (by kernel_rfl) ⟨trivial, trivial⟩ ?_
    refine RunR.done (by kernel_rfl) ?_
    refine kblock_n ?_
    refine kseq_n ?_
    refine RunC.region ?_
    refine RunR.sil hU [1] 3 3 [0, 2, 3, 4] [(0, .pointer (some ⟨d, 0, none⟩)), (2, .slice none 0 0), (3, .slice Aq10 ((os ++ xe4).length) cq11), (4, .int .i64 (i + 1))] ((True) ∧ (-9223372036854775808 ≤ (i + 1) ∧ (i + 1) < 9223372036854775808) ∧ (True) ∧ True) rfl (by kernel_rfl) ⟨trivial, (by omega), trivial, trivial⟩ ?_
    refine RunR.done (by kernel_rfl) ?_
    refine kloop_n _ [0, 2, 3, 4] [0, 0, 0, 0] [(0, .pointer (some ⟨d, 0, none⟩)), (2, .slice none 0 0), (3, .slice Aq10 ((os ++ xe4).length) cq11), (4, .int .i64 (i + 1))] [row 5 1 (.slice Aq10 ((os ++ xe4).length) cq11) ((os ++ xe4).length) (nums .u8 (os ++ xe4)), blk d 76 [.slice A n c, .slice Wa m wc, .int .i64 lf, .bool dn], row 22 1 (.slice A n c) n (rowsV rs), poo .u8 rs ws] (by kernel_rfl) (by kernel_rfl) ?_ ⟨(i + 1), (os ++ xe4), Aq10, cq11, (by first | assumption | omega | (simp only [List.length_append, List.length_cons, List.length_nil, List.length_set, List.length_replicate, List.length_take, List.length_drop]; omega) | (simp only [fits] at *; omega) | (simp only [List.length_append, List.length_cons, List.length_nil, List.length_set, List.length_replicate, List.length_take, List.length_drop] at *; omega) | (simp; done) | decide), (by first | assumption | omega | (simp only [List.length_append, List.length_cons, List.length_nil, List.length_set, List.length_replicate, List.length_take, List.length_drop]; omega) | (simp only [fits] at *; omega) | (simp only [List.length_append, List.length_cons, List.length_nil, List.length_set, List.length_replicate, List.length_take, List.length_drop] at *; omega) | (simp; done) | decide), (by rw [hos, show (i + 1).toNat = i.toNat + 1 by omega]; exact cat_step (by assumption)), (by rw [List.length_append]; omega), (by (repeat first | assumption | (simp only [fits]; omega) | with_reducible first | exact fits_wrap _ _ | exact fits_bits2 _ _ _ _ | exact In.nil _ | exact In.sb _ | exact In.replicate _ _ | apply In.append | apply In.cons | apply In.set | apply In.take | apply In.drop | apply In.rev)), (by first | assumption | omega | (simp only [List.length_append, List.length_cons, List.length_nil, List.length_set, List.length_replicate, List.length_take, List.length_drop]; omega) | (simp only [fits] at *; omega) | (simp only [List.length_append, List.length_cons, List.length_nil, List.length_set, List.length_replicate, List.length_take, List.length_drop] at *; omega) | (simp; done) | decide), (fun h => hA13 (by first | exact h | (simp at h ⊢; omega))), rfl, (by first | rfl | simp only [List.length_set]), (by first | rfl | simp only [List.length_set])⟩
    show ((n - (i + 1)).toNat : Nat) < ((n - i).toNat : Nat)
    omega
  · skip
    refine RunC.exit ?_
    refine kseq_e ?_
    refine kloop_e ?_
    refine kblock_e ?_
    refine kseq_n ?_
    refine RunC.seq ?_
    refine RunC.region ?_
    refine RunR.sil hU [] 2 2 [2] [(2, .slice A5 os.length c5)] ((True) ∧ (True) ∧ True) rfl (by kernel_rfl) ⟨trivial, trivial, trivial⟩ ?_
    refine RunR.done (by kernel_rfl) ?_
    refine kseq_n ?_
    refine RunC.ret ?_
    refine kret_r [.slice A5 os.length c5] [0, 0, 0, 0] [row 5 1 (.slice A5 os.length c5) os.length (nums .u8 os), blk d 76 [.slice A n c, .slice Wa m wc, .int .i64 lf, .bool dn], row 22 1 (.slice A n c) n (rowsV rs), poo .u8 rs ws] ⟨rfl, trivial⟩ (by kernel_rfl) rfl ⟨A5, c5, os, rfl, rfl, (by rw [hos, List.take_of_length_le (by omega)]), (by omega), hios, (by first | assumption | omega | (simp only [List.length_append, List.length_cons, List.length_nil, List.length_set, List.length_replicate, List.length_take, List.length_drop]; omega) | (simp only [fits] at *; omega) | (simp only [List.length_append, List.length_cons, List.length_nil, List.length_set, List.length_replicate, List.length_take, List.length_drop] at *; omega) | (simp; done) | decide), (fun h => hAos (by first | exact h | (simp at h ⊢; omega)))⟩

theorem dr_Read_spec (d : Nat) (A : Option Addr) (n : Nat) (c : Nat) (rs : List Ro) (Wa : Option Addr) (m : Nat) (wc : Nat) (ws : List Ch) (lf : Int) (dn : Bool) (b : Int) (hRK : RowsOK .u8 rs) (hW6 : W256 rs) (hrn : rs.length = n) (hrc : n ≤ c) (hrb : n ≤ 2176) (hAr : 0 < n → Option.isSome A = true) (hml : ws.length = m) (hmb : m ≤ 1000000) (hok : ChOK .u8 ws) (hwk : WOK (256 * n) ws) (hWs : 0 < m → Option.isSome Wa = true) (hb : fits .i64 b) :
    CallsS Try.prog 55 [.pointer (some ⟨d, 0, none⟩), .int .i64 b] [blk d 76 [.slice A n c, .slice Wa m wc, .int .i64 lf, .bool dn], row 22 1 (.slice A n c) n (rowsV rs), row 84 2 (.slice Wa m wc) m (chV ws), poo .u8 rs ws] (fun r D => ∃ (A9 : Option Addr) (c9 : Nat) (zs : List Int) (e : Int), r = .tuple #[.slice A9 zs.length c9, .int .i64 e] ∧ D = [row 5 1 (.slice A9 zs.length c9) zs.length (nums .u8 zs), blk d 76 [.slice A n c, .slice Wa m wc, .int .i64 lf, .bool dn], row 22 1 (.slice A n c) n (rowsV rs), row 84 2 (.slice Wa m wc) m (chV ws), poo .u8 rs ws] ∧ ((0 ≤ b ∧ 256 * b + 256 ≤ ((256 * n : Nat) : Int) ∧ e = 0 ∧ zs = seenP (cat rs) (dat ws) b ∧ zs.length = 256) ∨ (¬ (0 ≤ b ∧ 256 * b + 256 ≤ ((256 * n : Nat) : Int)) ∧ e = 1 ∧ zs = [])) ∧ (In .u8 zs) ∧ (zs.length ≤ c9) ∧ (0 < zs.length → Option.isSome A9 = true)) := by
  refine CallsS.enter hU Try.f55 _ [.tmp 4, .tmp 5] 56 Try.func55 rfl (by decide) rfl rfl (by kernel_rfl) fun w0 W => ?_
  have hb2 := hb; simp only [fits] at hb2
  refine RunC.seq ?_
  refine RunC.region ?_
  refine RunR.sil hU [] 2 2 [0, 1, 4, 5] [(0, .pointer (some ⟨d, 0, none⟩)), (1, .int .i64 b), (4, .slice none 0 0), (5, .int .i64 0)] ((True) ∧ (True) ∧ True) rfl (by kernel_rfl) ⟨trivial, trivial, trivial⟩ ?_
  refine RunR.done (by kernel_rfl) ?_
  refine kseq_n ?_
  refine RunC.seq ?_
  refine RunC.seq ?_
  refine RunC.region ?_
  refine RunR.sil hU [] 3 3 [0, 1, 4, 5, 10] [(0, .pointer (some ⟨d, 0, none⟩)), (1, .int .i64 b), (4, .slice none 0 0), (5, .int .i64 0), (10, .bool (decide (b < 0)))] ((True) ∧ (True) ∧ (True) ∧ True) rfl (by kernel_rfl) ⟨trivial, trivial, trivial, trivial⟩ ?_
  refine RunR.env [0, 1, 4, 5, 10] [(0, .pointer (some ⟨d, 0, none⟩)), (1, .int .i64 b), (4, .slice none 0 0), (5, .int .i64 0), (10, .bool (decide (b < 0)))] (by kernel_rfl) ?_
  by_cases h1 : b < 0
  · skip
    refine RunR.enveq [(0, .pointer (some ⟨d, 0, none⟩)), (1, .int .i64 b), (4, .slice none 0 0), (5, .int .i64 0), (10, .bool true)] (by rw [decide_eq_true h1]; try rfl) ?_
    refine RunR.sil hU [] 8 11 [0, 1, 4, 5, 18] [(0, .pointer (some ⟨d, 0, none⟩)), (1, .int .i64 b), (4, .slice none 0 0), (5, .int .i64 0), (18, .bool true)] ((True) ∧ True) rfl (by kernel_rfl) ⟨trivial, trivial⟩ ?_
    refine RunR.done (by kernel_rfl) ?_
    refine kseq_n ?_
    refine RunC.cond (b := true) (by kernel_rfl) (fun _ => ?_) (fun h => by cases h)
    refine RunC.seq ?_
    refine RunC.region ?_
    refine RunR.sil hU [] 2 2 [0, 1, 4, 5] [(0, .pointer (some ⟨d, 0, none⟩)), (1, .int .i64 b), (4, .slice none 0 0), (5, .int .i64 1)] ((True) ∧ (True) ∧ True) rfl (by kernel_rfl) ⟨trivial, trivial, trivial⟩ ?_
    refine RunR.done (by kernel_rfl) ?_
    refine kseq_n ?_
    refine RunC.ret ?_
    refine kseq_r ?_
    refine kret_rt ([row 5 1 (.slice none 0 0) 0 (nums .u8 ([] : List Int)), blk d 76 [.slice A n c, .slice Wa m wc, .int .i64 lf, .bool dn], row 22 1 (.slice A n c) n (rowsV rs), row 84 2 (.slice Wa m wc) m (chV ws), poo .u8 rs ws]) (fun w0 W w hs => (hs).nil_row 5 1) [.slice none 0 0, .int .i64 1] [0, 0, 0, 0, 0] [row 5 1 (.slice none 0 0) 0 (nums .u8 ([] : List Int)), blk d 76 [.slice A n c, .slice Wa m wc, .int .i64 lf, .bool dn], row 22 1 (.slice A n c) n (rowsV rs), row 84 2 (.slice Wa m wc) m (chV ws), poo .u8 rs ws] ⟨rfl, rfl, trivial⟩ (by kernel_rfl) rfl ⟨none, 0, ([] : List Int), 1, rfl, rfl, (by exact .inr ⟨by omega, rfl, rfl⟩), (by exact In.nil _), (by exact Nat.le_refl _), (by intro h; simp at h)⟩
  · skip
    refine RunR.enveq [(0, .pointer (some ⟨d, 0, none⟩)), (1, .int .i64 b), (4, .slice none 0 0), (5, .int .i64 0), (10, .bool false)] (by rw [decide_eq_false h1]; try rfl) ?_
    refine RunR.sil hU [] 4 7 [0, 1, 4, 5, 10, 11, 14] [(0, .pointer (some ⟨d, 0, none⟩)), (1, .int .i64 b), (4, .slice none 0 0), (5, .int .i64 0), (10, .bool false), (11, .int .i64 b), (14, .pointer (some ⟨d, 0, none⟩))] ((True) ∧ (True) ∧ (True) ∧ (True) ∧ True) rfl (by kernel_rfl) ⟨trivial, trivial, trivial, trivial, trivial⟩ ?_
    refine RunR.step (dst := some 15) (op := .load 73 (.tmp 14)) (by kernel_rfl) (Step.load_blk hU 0 d (0) 76 [.slice A n c, .slice Wa m wc, .int .i64 lf, .bool dn] (.slice A n c) (by kernel_rfl) (by kernel_rfl) (by kernel_rfl) (by kernel_rfl) ?_)
    refine RunR.sil hU [] 3 11 [0, 1, 4, 5, 18] [(0, .pointer (some ⟨d, 0, none⟩)), (1, .int .i64 b), (4, .slice none 0 0), (5, .int .i64 0), (18, .bool (decide (b ≥ ((n : Nat) : Int))))] ((True) ∧ (True) ∧ (True) ∧ True) rfl (by kernel_rfl) ⟨trivial, trivial, trivial, trivial⟩ ?_
    refine RunR.done (by kernel_rfl) ?_
    refine kseq_n ?_
    refine RunC.condp (b ≥ ((n : Nat) : Int)) (by kernel_rfl) (fun h2 => ?_) (fun h2 => ?_)
    · skip
      refine RunC.seq ?_
      refine RunC.region ?_
      refine RunR.sil hU [] 2 2 [0, 1, 4, 5] [(0, .pointer (some ⟨d, 0, none⟩)), (1, .int .i64 b), (4, .slice none 0 0), (5, .int .i64 1)] ((True) ∧ (True) ∧ True) rfl (by kernel_rfl) ⟨trivial, trivial, trivial⟩ ?_
      refine RunR.done (by kernel_rfl) ?_
      refine kseq_n ?_
      refine RunC.ret ?_
      refine kseq_r ?_
      refine kret_rt ([row 5 1 (.slice none 0 0) 0 (nums .u8 ([] : List Int)), blk d 76 [.slice A n c, .slice Wa m wc, .int .i64 lf, .bool dn], row 22 1 (.slice A n c) n (rowsV rs), row 84 2 (.slice Wa m wc) m (chV ws), poo .u8 rs ws]) (fun w0 W w hs => (hs).nil_row 5 1) [.slice none 0 0, .int .i64 1] [0, 0, 0, 0, 0] [row 5 1 (.slice none 0 0) 0 (nums .u8 ([] : List Int)), blk d 76 [.slice A n c, .slice Wa m wc, .int .i64 lf, .bool dn], row 22 1 (.slice A n c) n (rowsV rs), row 84 2 (.slice Wa m wc) m (chV ws), poo .u8 rs ws] ⟨rfl, rfl, trivial⟩ (by kernel_rfl) rfl ⟨none, 0, ([] : List Int), 1, rfl, rfl, (by exact .inr ⟨by omega, rfl, rfl⟩), (by exact In.nil _), (by exact Nat.le_refl _), (by intro h; simp at h)⟩
    · skip
      refine RunC.skip ?_
      refine kseq_n ?_
      refine RunC.seq ?_
      refine RunC.region ?_
      refine RunR.sil hU [] 3 3 [0, 1, 4, 5, 21] [(0, .pointer (some ⟨d, 0, none⟩)), (1, .int .i64 b), (4, .slice none 0 0), (5, .int .i64 0), (21, .pointer (some ⟨d, 0, none⟩))] ((True) ∧ (True) ∧ (True) ∧ True) rfl (by kernel_rfl) ⟨trivial, trivial, trivial, trivial⟩ ?_
      refine RunR.step (dst := some 22) (op := .load 73 (.tmp 21)) (by kernel_rfl) (Step.load_blk hU 0 d (0) 76 [.slice A n c, .slice Wa m wc, .int .i64 lf, .bool dn] (.slice A n c) (by kernel_rfl) (by kernel_rfl) (by kernel_rfl) (by kernel_rfl) ?_)
      refine RunR.sil hU [] 2 6 [0, 1, 4, 5, 24] [(0, .pointer (some ⟨d, 0, none⟩)), (1, .int .i64 b), (4, .slice none 0 0), (5, .int .i64 0), (24, .pointer (elemAt A b 1))] ((True) ∧ ((0 ≤ b ∧ b < ((n : Nat) : Int)) ∧ Option.isSome A = true) ∧ True) rfl (by kernel_rfl) ⟨trivial, ⟨by omega, hAr (by omega)⟩, trivial⟩ ?_
      obtain ⟨Ae3, ce4, xe5, hg6, hr7, hc8, hl9⟩ := row_at (by assumption : RowsOK .u8 rs) (i := (b).toNat) (by omega)
      have hw10 := W256.at (by assumption) hg6
      refine RunR.step (dst := some 25) (op := .load 22 (.tmp 24)) (by kernel_rfl) (Step.load_of hU 1 (row 22 1 (.slice A n c) n (rowsV rs)) A b 1 (rowsV rs) (.slice Ae3 xe5.length ce4) (by kernel_rfl) (by kernel_rfl) (tells_row _ _ _ _ _ _) (loadv_row (by kernel_rfl) hg6 (Nat.mul_one _)) (by kernel_rfl) (by rw [rowsV_len]; omega) ?_)
      refine RunR.sil hU [] 1 8 [0, 1, 4, 5, 6] [(0, .pointer (some ⟨d, 0, none⟩)), (1, .int .i64 b), (4, .slice none 0 0), (5, .int .i64 0), (6, .slice Ae3 xe5.length ce4)] ((True) ∧ True) rfl (by kernel_rfl) ⟨trivial, trivial⟩ ?_
      refine RunR.done (by kernel_rfl) ?_
      refine kseq_n ?_
      refine RunC.seq ?_
      refine RunC.seq ?_
      refine RunC.region ?_
      refine RunR.sil hU [] 1 1 [0, 1, 4, 5, 6, 7] [(0, .pointer (some ⟨d, 0, none⟩)), (1, .int .i64 b), (4, .slice none 0 0), (5, .int .i64 0), (6, .slice Ae3 xe5.length ce4), (7, .int .i64 0)] ((True) ∧ True) rfl (by kernel_rfl) ⟨trivial, trivial⟩ ?_
      refine RunR.done (by kernel_rfl) ?_
      refine kseq_n ?_
      refine RunC.block ?_
      refine RunC.env [0, 1, 4, 5, 6, 7] [(0, .pointer (some ⟨d, 0, none⟩)), (1, .int .i64 b), (4, .slice none 0 0), (5, .int .i64 0), (6, .slice Ae3 xe5.length ce4), (7, .int .i64 0)] (by kernel_rfl) ?_
      refine RunC.only [0, 0, 0, 0] [blk d 76 [.slice A n c, .slice Wa m wc, .int .i64 lf, .bool dn], row 22 1 (.slice A n c) n (rowsV rs), row 84 2 (.slice Wa m wc) m (chV ws), poo .u8 rs ws] (by kernel_rfl) ?_
      refine RunC.loop (σ := Nat) (fun n_ t_ D_ => ∃ (i : Int) (A6 : Option Addr) (c6 : Nat) (os : List Int), (0 ≤ i) ∧ (i ≤ (m : Int)) ∧ (InPoo rs ws A6 c6 os) ∧ (os = seenP (cat rs) ((dat ws).take i.toNat) b) ∧ (os.length = 256) ∧ (In .u8 os) ∧ n_ = ((m - i).toNat : Nat) ∧ t_ = [(0, .pointer (some ⟨d, 0, none⟩)), (1, .int .i64 b), (4, .slice none 0 0), (5, .int .i64 0), (6, .slice A6 os.length c6), (7, .int .i64 i)] ∧ D_ = [blk d 76 [.slice A n c, .slice Wa m wc, .int .i64 lf, .bool dn], row 22 1 (.slice A n c) n (rowsV rs), row 84 2 (.slice Wa m wc) m (chV ws), poo .u8 rs ws]) id _ ⟨0, Ae3, ce4, xe5, (by first | assumption | omega | (simp only [List.length_append, List.length_cons, List.length_nil, List.length_set, List.length_replicate, List.length_take, List.length_drop]; omega) | (simp only [fits] at *; omega) | (simp only [List.length_append, List.length_cons, List.length_nil, List.length_set, List.length_replicate, List.length_take, List.length_drop] at *; omega) | (simp; done) | decide), (by first | assumption | omega | (simp only [List.length_append, List.length_cons, List.length_nil, List.length_set, List.length_replicate, List.length_take, List.length_drop]; omega) | (simp only [fits] at *; omega) | (simp only [List.length_append, List.length_cons, List.length_nil, List.length_set, List.length_replicate, List.length_take, List.length_drop] at *; omega) | (simp; done) | decide), (by exact InPoo.of1 (by assumption)), (by exact seen_zero hW6 (by assumption)), (by assumption), (by assumption), rfl, rfl, rfl⟩ ?_
      rintro n_ _ _ ⟨i, A6, c6, os, hi, him, hin6, hos, hol, hio, rfl, rfl, rfl⟩
      refine RunC.seq ?_
      refine RunC.seq ?_
      refine RunC.region ?_
      refine RunR.sil hU [] 4 4 [0, 1, 4, 5, 6, 7, 26, 29] [(0, .pointer (some ⟨d, 0, none⟩)), (1, .int .i64 b), (4, .slice none 0 0), (5, .int .i64 0), (6, .slice A6 os.length c6), (7, .int .i64 i), (26, .int .i64 i), (29, .pointer (some ⟨d, 1, none⟩))] ((True) ∧ (True) ∧ (True) ∧ (True) ∧ True) rfl (by kernel_rfl) ⟨trivial, trivial, trivial, trivial, trivial⟩ ?_
      refine RunR.step (dst := some 30) (op := .load 74 (.tmp 29)) (by kernel_rfl) (Step.load_blk hU 0 d (1) 76 [.slice A n c, .slice Wa m wc, .int .i64 lf, .bool dn] (.slice Wa m wc) (by kernel_rfl) (by kernel_rfl) (by kernel_rfl) (by kernel_rfl) ?_)
      refine RunR.sil hU [] 2 7 [0, 1, 4, 5, 6, 7, 32] [(0, .pointer (some ⟨d, 0, none⟩)), (1, .int .i64 b), (4, .slice none 0 0), (5, .int .i64 0), (6, .slice A6 os.length c6), (7, .int .i64 i), (32, .bool (decide (i < ((m : Nat) : Int))))] ((True) ∧ (True) ∧ True) rfl (by kernel_rfl) ⟨trivial, trivial, trivial⟩ ?_
      refine RunR.done (by kernel_rfl) ?_
      refine kseq_n ?_
      refine RunC.condp (i < ((m : Nat) : Int)) (by kernel_rfl) (fun h11 => ?_) (fun h11 => ?_)
      · skip
        refine RunC.skip ?_
        refine kseq_n ?_
        refine RunC.seq ?_
        refine RunC.block ?_
        refine RunC.seq ?_
        refine RunC.region ?_
        refine RunR.sil hU [] 3 3 [0, 1, 4, 5, 6, 7, 37] [(0, .pointer (some ⟨d, 0, none⟩)), (1, .int .i64 b), (4, .slice none 0 0), (5, .int .i64 0), (6, .slice A6 os.length c6), (7, .int .i64 i), (37, .pointer (some ⟨d, 1, none⟩))] ((True) ∧ (True) ∧ (True) ∧ True) rfl (by kernel_rfl) ⟨trivial, trivial, trivial, trivial⟩ ?_
        refine RunR.step (dst := some 38) (op := .load 74 (.tmp 37)) (by kernel_rfl) (Step.load_blk hU 0 d (1) 76 [.slice A n c, .slice Wa m wc, .int .i64 lf, .bool dn] (.slice Wa m wc) (by kernel_rfl) (by kernel_rfl) (by kernel_rfl) (by kernel_rfl) ?_)
        refine RunR.sil hU [] 2 6 [0, 1, 4, 5, 6, 7, 40] [(0, .pointer (some ⟨d, 0, none⟩)), (1, .int .i64 b), (4, .slice none 0 0), (5, .int .i64 0), (6, .slice A6 os.length c6), (7, .int .i64 i), (40, .pointer (elemAt Wa i 2))] ((True) ∧ ((0 ≤ i ∧ i < ((m : Nat) : Int)) ∧ Option.isSome Wa = true) ∧ True) rfl (by kernel_rfl) ⟨trivial, ⟨by omega, hWs (by omega)⟩, trivial⟩ ?_
        refine RunR.know (p := ∃ b o, Wa = some ⟨b, o, none⟩) (fun _ _ w hs => tells_at hs 2 rfl (tells_row _ _ _ _ _ _) (by rw [chV_len]; omega)) (fun ⟨b12, o13, hA14⟩ => ?_)
        obtain ⟨k15, Ae16, ce17, xe18, hg19, hf20, hr21, hc22, hl23⟩ := ch_at (by assumption : ChOK .u8 ws) (i := (i).toNat) (by omega)
        have hf24 := hf20; simp only [fits] at hf24
        have hw25 := wok_at hwk hg19
        refine RunR.env [0, 1, 4, 5, 6, 7, 40] [(0, .pointer (some ⟨d, 0, none⟩)), (1, .int .i64 b), (4, .slice none 0 0), (5, .int .i64 0), (6, .slice A6 os.length c6), (7, .int .i64 i), (40, .pointer (elemAt Wa i 2))] (by kernel_rfl) ?_
        refine RunR.enveq [(0, .pointer (some ⟨d, 0, none⟩)), (1, .int .i64 b), (4, .slice none 0 0), (5, .int .i64 0), (6, .slice A6 os.length c6), (7, .int .i64 i), (40, .pointer (some ⟨b12, o13 + (i).toNat * 2, none⟩))] (by rw [elem_at hA14]) ?_
        refine RunR.sil hU [] 1 7 [0, 1, 4, 5, 6, 7, 41] [(0, .pointer (some ⟨d, 0, none⟩)), (1, .int .i64 b), (4, .slice none 0 0), (5, .int .i64 0), (6, .slice A6 os.length c6), (7, .int .i64 i), (41, .pointer (some ⟨b12, o13 + (i).toNat * 2, none⟩))] ((True) ∧ True) rfl (by kernel_rfl) ⟨trivial, trivial⟩ ?_
        refine RunR.step (dst := some 42) (op := .load 3 (.tmp 41)) (by kernel_rfl) (Step.load_ofat hU 2 (row 84 2 (.slice Wa m wc) m (chV ws)) Wa b12 o13 ((i).toNat * 2) (chV ws) (.int .i64 k15) hA14 (by kernel_rfl) (by kernel_rfl) (tells_row _ _ _ _ _ _) (loadv_ch0 (by kernel_rfl) hg19) (by kernel_rfl) (by rw [chV_len]; omega) ?_)
        refine RunR.sil hU [] 2 10 [0, 1, 4, 5, 6, 7, 44] [(0, .pointer (some ⟨d, 0, none⟩)), (1, .int .i64 b), (4, .slice none 0 0), (5, .int .i64 0), (6, .slice A6 os.length c6), (7, .int .i64 i), (44, .bool (decide (k15 = b)))] ((True) ∧ (True) ∧ True) rfl (by kernel_rfl) ⟨trivial, trivial, trivial⟩ ?_
        refine RunR.done (by kernel_rfl) ?_
        refine kseq_n ?_
        refine RunC.condp (k15 = b) (by kernel_rfl) (fun h26 => ?_) (fun h26 => ?_)
        · skip
          refine RunC.region ?_
          refine RunR.sil hU [] 3 3 [0, 1, 4, 5, 6, 7, 47] [(0, .pointer (some ⟨d, 0, none⟩)), (1, .int .i64 b), (4, .slice none 0 0), (5, .int .i64 0), (6, .slice A6 os.length c6), (7, .int .i64 i), (47, .pointer (some ⟨d, 1, none⟩))] ((True) ∧ (True) ∧ (True) ∧ True) rfl (by kernel_rfl) ⟨trivial, trivial, trivial, trivial⟩ ?_
          refine RunR.step (dst := some 48) (op := .load 74 (.tmp 47)) (by kernel_rfl) (Step.load_blk hU 0 d (1) 76 [.slice A n c, .slice Wa m wc, .int .i64 lf, .bool dn] (.slice Wa m wc) (by kernel_rfl) (by kernel_rfl) (by kernel_rfl) (by kernel_rfl) ?_)
          refine RunR.sil hU [] 2 6 [0, 1, 4, 5, 6, 7, 50] [(0, .pointer (some ⟨d, 0, none⟩)), (1, .int .i64 b), (4, .slice none 0 0), (5, .int .i64 0), (6, .slice A6 os.length c6), (7, .int .i64 i), (50, .pointer (elemAt Wa i 2))] ((True) ∧ ((0 ≤ i ∧ i < ((m : Nat) : Int)) ∧ Option.isSome Wa = true) ∧ True) rfl (by kernel_rfl) ⟨trivial, ⟨by omega, hWs (by omega)⟩, trivial⟩ ?_
          refine RunR.env [0, 1, 4, 5, 6, 7, 50] [(0, .pointer (some ⟨d, 0, none⟩)), (1, .int .i64 b), (4, .slice none 0 0), (5, .int .i64 0), (6, .slice A6 os.length c6), (7, .int .i64 i), (50, .pointer (elemAt Wa i 2))] (by kernel_rfl) ?_
          refine RunR.enveq [(0, .pointer (some ⟨d, 0, none⟩)), (1, .int .i64 b), (4, .slice none 0 0), (5, .int .i64 0), (6, .slice A6 os.length c6), (7, .int .i64 i), (50, .pointer (some ⟨b12, o13 + (i).toNat * 2, none⟩))] (by rw [elem_at hA14]) ?_
          refine RunR.sil hU [] 1 7 [0, 1, 4, 5, 6, 7, 51] [(0, .pointer (some ⟨d, 0, none⟩)), (1, .int .i64 b), (4, .slice none 0 0), (5, .int .i64 0), (6, .slice A6 os.length c6), (7, .int .i64 i), (51, .pointer (some ⟨b12, o13 + (i).toNat * 2 + 1, none⟩))] ((True) ∧ True) rfl (by kernel_rfl) ⟨trivial, trivial⟩ ?_
          refine RunR.step (dst := some 52) (op := .load 22 (.tmp 51)) (by kernel_rfl) (Step.load_ofat hU 2 (row 84 2 (.slice Wa m wc) m (chV ws)) Wa b12 o13 ((i).toNat * 2 + 1) (chV ws) (.slice Ae16 xe18.length ce17) hA14 (by kernel_rfl) (by kernel_rfl) (tells_row _ _ _ _ _ _) (loadv_ch1 (by kernel_rfl) hg19) (by kernel_rfl) (by rw [chV_len]; omega) ?_)
          refine RunR.sil hU [] 1 9 [0, 1, 4, 5, 6, 7] [(0, .pointer (some ⟨d, 0, none⟩)), (1, .int .i64 b), (4, .slice none 0 0), (5, .int .i64 0), (6, .slice Ae16 xe18.length ce17), (7, .int .i64 i)] ((True) ∧ True) rfl (by kernel_rfl) ⟨trivial, trivial⟩ ?_
          refine RunR.done (by kernel_rfl) ?_
          refine kblock_n ?_
          refine kseq_n ?_
          refine RunC.region ?_
          refine RunR.sil hU [1] 3 3 [0, 1, 4, 5, 6, 7] [(0, .pointer (some ⟨d, 0, none⟩)), (1, .int .i64 b), (4, .slice none 0 0), (5, .int .i64 0), (6, .slice Ae16 xe18.length ce17), (7, .int .i64 (i + 1))] ((True) ∧ (-9223372036854775808 ≤ (i + 1) ∧ (i + 1) < 9223372036854775808) ∧ (True) ∧ True) rfl (by kernel_rfl) ⟨trivial, (by omega), trivial, trivial⟩ ?_
          refine RunR.done (by kernel_rfl) ?_
          refine kloop_n _ [0, 1, 4, 5, 6, 7] [0, 0, 0, 0] [(0, .pointer (some ⟨d, 0, none⟩)), (1, .int .i64 b), (4, .slice none 0 0), (5, .int .i64 0), (6, .slice Ae16 xe18.length ce17), (7, .int .i64 (i + 1))] [blk d 76 [.slice A n c, .slice Wa m wc, .int .i64 lf, .bool dn], row 22 1 (.slice A n c) n (rowsV rs), row 84 2 (.slice Wa m wc) m (chV ws), poo .u8 rs ws] (by kernel_rfl) (by kernel_rfl) ?_ ⟨(i + 1), Ae16, ce17, xe18, (by first | assumption | omega | (simp only [List.length_append, List.length_cons, List.length_nil, List.length_set, List.length_replicate, List.length_take, List.length_drop]; omega) | (simp only [fits] at *; omega) | (simp only [List.length_append, List.length_cons, List.length_nil, List.length_set, List.length_replicate, List.length_take, List.length_drop] at *; omega) | (simp; done) | decide), (by first | assumption | omega | (simp only [List.length_append, List.length_cons, List.length_nil, List.length_set, List.length_replicate, List.length_take, List.length_drop]; omega) | (simp only [fits] at *; omega) | (simp only [List.length_append, List.length_cons, List.length_nil, List.length_set, List.length_replicate, List.length_take, List.length_drop] at *; omega) | (simp; done) | decide), (by first | exact InPoo.of2 (by assumption) | assumption), (by rw [show (i + 1).toNat = i.toNat + 1 by omega, seen_succ (dat_get (by assumption))]; first | (rw [if_pos (by assumption)]) | (rw [if_neg (by assumption)]; exact hos)), (by first | assumption | omega), (by assumption), rfl, (by first | rfl | simp only [List.length_set]), (by first | rfl | simp only [List.length_set])⟩
          show ((m - (i + 1)).toNat : Nat) < ((m - i).toNat : Nat)
          omega
        · skip
          refine RunC.skip ?_
          refine kblock_n ?_
          refine kseq_n ?_
          refine RunC.region ?_
          refine RunR.sil hU [1] 3 3 [0, 1, 4, 5, 6, 7] [(0, .pointer (some ⟨d, 0, none⟩)), (1, .int .i64 b), (4, .slice none 0 0), (5, .int .i64 0), (6, .slice A6 os.length c6), (7, .int .i64 (i + 1))] ((True) ∧ (-9223372036854775808 ≤ (i + 1) ∧ (i + 1) < 9223372036854775808) ∧ (True) ∧ True) rfl (by kernel_rfl) ⟨trivial, (by omega), trivial, trivial⟩ ?_
          refine RunR.done (by kernel_rfl) ?_
          refine kloop_n _ [0, 1, 4, 5, 6, 7] [0, 0, 0, 0] [(0, .pointer (some ⟨d, 0, none⟩)), (1, .int .i64 b), (4, .slice none 0 0), (5, .int .i64 0), (6, .slice A6 os.length c6), (7, .int .i64 (i + 1))] [blk d 76 [.slice A n c, .slice Wa m wc, .int .i64 lf, .bool dn], row 22 1 (.slice A n c) n (rowsV rs), row 84 2 (.slice Wa m wc) m (chV ws), poo .u8 rs ws] (by kernel_rfl) (by kernel_rfl) ?_ ⟨(i + 1), A6, c6, os, (by first | assumption | omega | (simp only [List.length_append, List.length_cons, List.length_nil, List.length_set, List.length_replicate, List.length_take, List.length_drop]; omega) | (simp only [fits] at *; omega) | (simp only [List.length_append, List.length_cons, List.length_nil, List.length_set, List.length_replicate, List.length_take, List.length_drop] at *; omega) | (simp; done) | decide), (by first | assumption | omega | (simp only [List.length_append, List.length_cons, List.length_nil, List.length_set, List.length_replicate, List.length_take, List.length_drop]; omega) | (simp only [fits] at *; omega) | (simp only [List.length_append, List.length_cons, List.length_nil, List.length_set, List.length_replicate, List.length_take, List.length_drop] at *; omega) | (simp; done) | decide), (by first | exact InPoo.of2 (by assumption) | assumption), (by rw [show (i + 1).toNat = i.toNat + 1 by omega, seen_succ (dat_get (by assumption))]; first | (rw [if_pos (by assumption)]) | (rw [if_neg (by assumption)]; exact hos)), (by first | assumption | omega), (by assumption), rfl, (by first | rfl | simp only [List.length_set]), (by first | rfl | simp only [List.length_set])⟩
          show ((m - (i + 1)).toNat : Nat) < ((m - i).toNat : Nat)
          omega
      · skip
        refine RunC.exit ?_
        refine kseq_e ?_
        refine kloop_e ?_
        refine kblock_e ?_
        refine kseq_n ?_
        refine RunC.seq ?_
        refine RunC.region ?_
        refine RunR.step (dst := some 53) (op := .buildSlice 22 0 #[]) (by kernel_rfl) (Step.lit_nums hU 5 1 .u8 (.int .u8 0) ([] : List Int) rfl rfl (by kernel_rfl) rfl rfl (by kernel_rfl) (fun b27 => ?_))
        have hl28 : (([] : List Int)).length = 0 := rfl
        refine RunR.sil hU [] 1 2 [4, 5, 53, 54] [(4, .slice none 0 0), (5, .int .i64 0), (53, .slice (some ⟨b27, 0, none⟩) 0 0), (54, .slice A6 os.length c6)] ((True) ∧ True) rfl (by kernel_rfl) ⟨trivial, trivial⟩ ?_
        have hl33 : (([] : List Int)).length = 0 := rfl
        refine RunR.step (dst := some 55) (op := .call { callee := .builtin .append, args := #[.tmp 53, .tmp 54], argTypes := #[22, 22] }) (by kernel_rfl) (Step.append_nums hU 5 1 (.int .u8 0) .u8 0 4 (some ⟨b27, 0, none⟩) 0 0 ([] : List Int) A6 os.length c6 (poo .u8 rs ws) os rfl rfl rfl (by kernel_rfl) (by kernel_rfl) (by kernel_rfl) (by kernel_rfl) (InPoo.tells hin6) (by first | rfl | omega | (simp; omega)) (by first | rfl | omega | (simp; omega)) (by omega) (by omega) (by kernel_rfl) (fun Aq29 cq30 hc31 hA32 => ?_))
        simp only [List.nil_append] at hc31 hA32
        refine RunR.sil hU [] 2 5 [4, 5] [(4, .slice Aq29 os.length cq30), (5, .int .i64 0)] ((True) ∧ (True) ∧ True) rfl (by kernel_rfl) ⟨trivial, trivial, trivial⟩ ?_
        refine RunR.done (by kernel_rfl) ?_
        refine kseq_n ?_
        refine RunC.ret ?_
        refine kret_r [.slice Aq29 os.length cq30, .int .i64 0] [0, 0, 0, 0, 0] [row 5 1 (.slice Aq29 os.length cq30) os.length (nums .u8 os), blk d 76 [.slice A n c, .slice Wa m wc, .int .i64 lf, .bool dn], row 22 1 (.slice A n c) n (rowsV rs), row 84 2 (.slice Wa m wc) m (chV ws), poo .u8 rs ws] ⟨rfl, rfl, trivial⟩ (by kernel_rfl) rfl ⟨Aq29, cq30, os, 0, rfl, rfl, (by exact .inl ⟨by omega, by omega, rfl, by rw [hos, List.take_of_length_le (by rw [dat_len]; omega)], hol⟩), (by exact hio), (by first | assumption | omega | (simp only [List.length_append, List.length_cons, List.length_nil, List.length_set, List.length_replicate, List.length_take, List.length_drop]; omega) | (simp only [fits] at *; omega) | (simp only [List.length_append, List.length_cons, List.length_nil, List.length_set, List.length_replicate, List.length_take, List.length_drop] at *; omega) | (simp; done) | decide), (fun h => hA32 (by first | exact h | (simp at h ⊢; omega)))⟩
end Go.Proofs.Ytcpohiegijpghaa.X7
