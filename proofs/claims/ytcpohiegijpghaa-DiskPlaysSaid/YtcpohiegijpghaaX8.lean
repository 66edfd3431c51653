/- What these functions compute: a contract for each, walked through its code. -/
import Derived.Test.YtcpohiegijpghaaNPure
import Derived.Test.YtcpohiegijpghaaProg
import Derived.Test.YtcpohiegijpghaaX1
import Derived.Test.YtcpohiegijpghaaX2
import Derived.Test.YtcpohiegijpghaaX3
import Derived.Test.YtcpohiegijpghaaX4
import Derived.Test.YtcpohiegijpghaaX5
import Derived.Test.YtcpohiegijpghaaX6
import Derived.Test.YtcpohiegijpghaaX7
namespace Go.Proofs.Ytcpohiegijpghaa.X8
open Go Go.Proofs.Ytcpohiegijpghaa.SL Go.Proofs.Ytcpohiegijpghaa.SL.W Go.Proofs.Ytcpohiegijpghaa.SL.D Go.Proofs.Ytcpohiegijpghaa.X1 Go.Proofs.Ytcpohiegijpghaa.X2 Go.Proofs.Ytcpohiegijpghaa.X3 Go.Proofs.Ytcpohiegijpghaa.X4 Go.Proofs.Ytcpohiegijpghaa.X5 Go.Proofs.Ytcpohiegijpghaa.X6 Go.Proofs.Ytcpohiegijpghaa.X7
set_option linter.unusedVariables false
set_option linter.unusedSimpArgs false
set_option maxRecDepth 100000
set_option maxHeartbeats 40000000
def U : Tab where
  und := [(3, .int .i64), (4, .bool), (5, .int .u8), (22, .slice 5), (52, .slice 4), (73, .slice 22), (74, .slice 84), (75, .struct #[{ name := "Safe", type := 73, offset := 0, embedded := false, tag := "", pkgPath := "", byteOffset := 0 }, { name := "Wait", type := 74, offset := 1, embedded := false, tag := "", pkgPath := "", byteOffset := 24 }, { name := "Left", type := 3, offset := 2, embedded := false, tag := "", pkgPath := "", byteOffset := 48 }, { name := "Down", type := 4, offset := 3, embedded := false, tag := "", pkgPath := "", byteOffset := 56 }]), (76, .struct #[{ name := "Safe", type := 73, offset := 0, embedded := false, tag := "", pkgPath := "", byteOffset := 0 }, { name := "Wait", type := 74, offset := 1, embedded := false, tag := "", pkgPath := "", byteOffset := 24 }, { name := "Left", type := 3, offset := 2, embedded := false, tag := "", pkgPath := "", byteOffset := 48 }, { name := "Down", type := 4, offset := 3, embedded := false, tag := "", pkgPath := "", byteOffset := 56 }]), (83, .struct #[{ name := "Block", type := 3, offset := 0, embedded := false, tag := "", pkgPath := "", byteOffset := 0 }, { name := "Data", type := 22, offset := 1, embedded := false, tag := "", pkgPath := "", byteOffset := 8 }]), (84, .struct #[{ name := "Block", type := 3, offset := 0, embedded := false, tag := "", pkgPath := "", byteOffset := 0 }, { name := "Data", type := 22, offset := 1, embedded := false, tag := "", pkgPath := "", byteOffset := 8 }])]
  fld := [((75, 0), (0, 73)), ((75, 1), (1, 74)), ((75, 2), (2, 3)), ((75, 3), (3, 4)), ((76, 0), (0, 73)), ((76, 1), (1, 74)), ((76, 2), (2, 3)), ((76, 3), (3, 4)), ((83, 0), (0, 3)), ((83, 1), (1, 22)), ((84, 0), (0, 3)), ((84, 1), (1, 22))]
  sz := [(3, 1), (4, 1), (5, 1), (22, 1), (52, 1), (73, 1), (74, 1), (75, 4), (76, 4), (83, 2), (84, 2)]
  ti := [(3, (1, 8, .int .i64 0)), (4, (1, 1, .bool false)), (5, (1, 1, .int .u8 0)), (22, (1, 24, .slice none 0 0)), (52, (1, 24, .slice none 0 0)), (73, (1, 24, .slice none 0 0)), (74, (1, 24, .slice none 0 0)), (75, (4, 64, .agg #[.slice none 0 0, .slice none 0 0, .int .i64 0, .bool false])), (76, (4, 64, .agg #[.slice none 0 0, .slice none 0 0, .int .i64 0, .bool false])), (83, (2, 32, .agg #[.int .i64 0, .slice none 0 0])), (84, (2, 32, .agg #[.int .i64 0, .slice none 0 0]))]
  bld := [(75, [(0, 1), (1, 1), (2, 1), (3, 1)]), (76, [(0, 1), (1, 1), (2, 1), (3, 1)]), (83, [(0, 1), (1, 1)]), (84, [(0, 1), (1, 1)])]

theorem hU : U.OK Try.prog where
  und := by
    intro p hp
    simp only [U, List.mem_cons, List.not_mem_nil, or_false] at hp
    rcases hp with rfl | rfl | rfl | rfl | rfl | rfl | rfl | rfl | rfl | rfl | rfl
    · exact Try.underlying3
    · exact Try.underlying4
    · exact Try.underlying5
    · exact Try.underlying22
    · exact Try.underlying52
    · exact Try.underlying73
    · exact Try.underlying74
    · exact Try.underlying75
    · exact Try.underlying76
    · exact Try.underlying83
    · exact Try.underlying84
  fld := by
    intro p hp
    simp only [U, List.mem_cons, List.not_mem_nil, or_false] at hp
    rcases hp with rfl | rfl | rfl | rfl | rfl | rfl | rfl | rfl | rfl | rfl | rfl | rfl
    · exact ⟨_, _, Try.underlying75, rfl, rfl, rfl, Try.prog.types[73]!, by kernel_rfl, by decide +kernel⟩
    · exact ⟨_, _, Try.underlying75, rfl, rfl, rfl, Try.prog.types[74]!, by kernel_rfl, by decide +kernel⟩
    · exact ⟨_, _, Try.underlying75, rfl, rfl, rfl, Try.prog.types[3]!, by kernel_rfl, by decide +kernel⟩
    · exact ⟨_, _, Try.underlying75, rfl, rfl, rfl, Try.prog.types[4]!, by kernel_rfl, by decide +kernel⟩
    · exact ⟨_, _, Try.underlying76, rfl, rfl, rfl, Try.prog.types[73]!, by kernel_rfl, by decide +kernel⟩
    · exact ⟨_, _, Try.underlying76, rfl, rfl, rfl, Try.prog.types[74]!, by kernel_rfl, by decide +kernel⟩
    · exact ⟨_, _, Try.underlying76, rfl, rfl, rfl, Try.prog.types[3]!, by kernel_rfl, by decide +kernel⟩
    · exact ⟨_, _, Try.underlying76, rfl, rfl, rfl, Try.prog.types[4]!, by kernel_rfl, by decide +kernel⟩
    · exact ⟨_, _, Try.underlying83, rfl, rfl, rfl, Try.prog.types[3]!, by kernel_rfl, by decide +kernel⟩
    · exact ⟨_, _, Try.underlying83, rfl, rfl, rfl, Try.prog.types[22]!, by kernel_rfl, by decide +kernel⟩
    · exact ⟨_, _, Try.underlying84, rfl, rfl, rfl, Try.prog.types[3]!, by kernel_rfl, by decide +kernel⟩
    · exact ⟨_, _, Try.underlying84, rfl, rfl, rfl, Try.prog.types[22]!, by kernel_rfl, by decide +kernel⟩
  sz := by
    intro p hp
    simp only [U, List.mem_cons, List.not_mem_nil, or_false] at hp
    rcases hp with rfl | rfl | rfl | rfl | rfl | rfl | rfl | rfl | rfl | rfl | rfl
    · exact ⟨Try.prog.types[3]!, by kernel_rfl, by kernel_rfl⟩
    · exact ⟨Try.prog.types[4]!, by kernel_rfl, by kernel_rfl⟩
    · exact ⟨Try.prog.types[5]!, by kernel_rfl, by kernel_rfl⟩
    · exact ⟨Try.prog.types[22]!, by kernel_rfl, by kernel_rfl⟩
    · exact ⟨Try.prog.types[52]!, by kernel_rfl, by kernel_rfl⟩
    · exact ⟨Try.prog.types[73]!, by kernel_rfl, by kernel_rfl⟩
    · exact ⟨Try.prog.types[74]!, by kernel_rfl, by kernel_rfl⟩
    · exact ⟨Try.prog.types[75]!, by kernel_rfl, by kernel_rfl⟩
    · exact ⟨Try.prog.types[76]!, by kernel_rfl, by kernel_rfl⟩
    · exact ⟨Try.prog.types[83]!, by kernel_rfl, by kernel_rfl⟩
    · exact ⟨Try.prog.types[84]!, by kernel_rfl, by kernel_rfl⟩
  ti := by
    intro p hp
    simp only [U, List.mem_cons, List.not_mem_nil, or_false] at hp
    rcases hp with rfl | rfl | rfl | rfl | rfl | rfl | rfl | rfl | rfl | rfl | rfl
    · exact ⟨Try.prog.types[3]!, by kernel_rfl, by kernel_rfl, by kernel_rfl, by kernel_rfl⟩
    · exact ⟨Try.prog.types[4]!, by kernel_rfl, by kernel_rfl, by kernel_rfl, by kernel_rfl⟩
    · exact ⟨Try.prog.types[5]!, by kernel_rfl, by kernel_rfl, by kernel_rfl, by kernel_rfl⟩
    · exact ⟨Try.prog.types[22]!, by kernel_rfl, by kernel_rfl, by kernel_rfl, by kernel_rfl⟩
    · exact ⟨Try.prog.types[52]!, by kernel_rfl, by kernel_rfl, by kernel_rfl, by kernel_rfl⟩
    · exact ⟨Try.prog.types[73]!, by kernel_rfl, by kernel_rfl, by kernel_rfl, by kernel_rfl⟩
    · exact ⟨Try.prog.types[74]!, by kernel_rfl, by kernel_rfl, by kernel_rfl, by kernel_rfl⟩
    · exact ⟨Try.prog.types[75]!, by kernel_rfl, by kernel_rfl, by kernel_rfl, by kernel_rfl⟩
    · exact ⟨Try.prog.types[76]!, by kernel_rfl, by kernel_rfl, by kernel_rfl, by kernel_rfl⟩
    · exact ⟨Try.prog.types[83]!, by kernel_rfl, by kernel_rfl, by kernel_rfl, by kernel_rfl⟩
    · exact ⟨Try.prog.types[84]!, by kernel_rfl, by kernel_rfl, by kernel_rfl, by kernel_rfl⟩
  bld := by
    intro p hp
    simp only [U, List.mem_cons, List.not_mem_nil, or_false] at hp
    rcases hp with rfl | rfl | rfl | rfl
    · exact ⟨_, Try.underlying75, by kernel_rfl⟩
    · exact ⟨_, Try.underlying76, by kernel_rfl⟩
    · exact ⟨_, Try.underlying83, by kernel_rfl⟩
    · exact ⟨_, Try.underlying84, by kernel_rfl⟩
  mixed := by kernel_rfl

theorem dr_Load_spec (A8 : Option Addr) (c8 : Nat) (bs : List Int) (l_bs : Nat) (hIbs : In .u8 bs) (hCbs : bs.length ≤ c8) (hBbs : bs.length ≤ 140737488351232) (hl_bs : bs.length = l_bs) :
    CallsS Try.prog 48 [.slice A8 l_bs c8] [vw A8 (nums .u8 bs)] (fun r D => (r = .tuple #[.pointer none, .int .i64 1] ∧ D = [] ∧ (¬ bs.length % 256 = 0 ∨ 557056 < bs.length)) ∨ (∃ (d2 : Nat) (A9 : Option Addr) (n9 : Nat) (c9 : Nat) (zs : List Ro), r = .tuple #[.pointer (some ⟨d2, 0, none⟩), .int .i64 0] ∧ D = [blk d2 76 [.slice A9 n9 c9, .slice none 0 0, .int .i64 0, .bool false], row 22 1 (.slice A9 n9 c9) n9 (rowsV zs), row 84 2 (.slice none 0 0) 0 (chV ([] : List Ch)), poo .u8 zs ([] : List Ch)] ∧ (RowsOK .u8 zs) ∧ (W256 zs) ∧ (zs.length = n9) ∧ (n9 ≤ c9) ∧ (n9 ≤ 2176) ∧ (0 < n9 → Option.isSome A9 = true) ∧ (cat zs = bs) ∧ (256 * n9 = bs.length))) := by
  subst hl_bs
  refine CallsS.enter hU Try.f48 _ [.tmp 2, .tmp 3] 44 Try.func48 rfl (by decide) rfl rfl (by kernel_rfl) fun w0 W => ?_
  refine RunC.know (p := 0 < bs.length → Option.isSome A8 = true) (fun _ _ w hs => vw_some hs 0 rfl (by first | (simp [nums_length]; done) | exact dosV_len _ | exact bls_len _ | exact chV_len _)) (fun hA1 => ?_)
  refine RunC.seq ?_
  refine RunC.region ?_
  refine RunR.sil hU [] 2 2 [0, 2, 3] [(0, .slice A8 bs.length c8), (2, .pointer none), (3, .int .i64 0)] ((True) ∧ (True) ∧ True) rfl (by kernel_rfl) ⟨trivial, trivial, trivial⟩ ?_
  refine RunR.done (by kernel_rfl) ?_
  refine kseq_n ?_
  refine RunC.seq ?_
  refine RunC.seq ?_
  refine RunC.region ?_
  refine RunR.sil hU [2] 5 5 [0, 2, 3, 10] [(0, .slice A8 bs.length c8), (2, .pointer none), (3, .int .i64 0), (10, .bool (!decide ((((bs.length : Nat) : Int) % (256 : Int)) = 0)))] ((True) ∧ (True) ∧ (0 ≤ ((bs.length : Nat) : Int) ∧ 0 < (256 : Int)) ∧ (True) ∧ (True) ∧ True) rfl (by kernel_rfl) ⟨trivial, trivial, (by omega), trivial, trivial, trivial⟩ ?_
  refine RunR.env [0, 2, 3, 10] [(0, .slice A8 bs.length c8), (2, .pointer none), (3, .int .i64 0), (10, .bool (!decide ((((bs.length : Nat) : Int) % (256 : Int)) = 0)))] (by kernel_rfl) ?_
  by_cases h2 : (((bs.length : Nat) : Int) % (256 : Int)) = 0
  · skip
    refine RunR.enveq [(0, .slice A8 bs.length c8), (2, .pointer none), (3, .int .i64 0), (10, .bool false)] (by rw [decide_eq_true h2]; try rfl) ?_
    refine RunR.sil hU [] 4 9 [0, 2, 3, 14] [(0, .slice A8 bs.length c8), (2, .pointer none), (3, .int .i64 0), (14, .bool (decide (((bs.length : Nat) : Int) > 557056)))] ((True) ∧ (True) ∧ (True) ∧ (True) ∧ True) rfl (by kernel_rfl) ⟨trivial, trivial, trivial, trivial, trivial⟩ ?_
    refine RunR.done (by kernel_rfl) ?_
    refine kseq_n ?_
    refine RunC.condp (((bs.length : Nat) : Int) > 557056) (by kernel_rfl) (fun h3 => ?_) (fun h3 => ?_)
    · skip
      refine RunC.seq ?_
      refine RunC.region ?_
      refine RunR.sil hU [] 2 2 [0, 2, 3] [(0, .slice A8 bs.length c8), (2, .pointer none), (3, .int .i64 1)] ((True) ∧ (True) ∧ True) rfl (by kernel_rfl) ⟨trivial, trivial, trivial⟩ ?_
      refine RunR.done (by kernel_rfl) ?_
      refine kseq_n ?_
      refine RunC.ret ?_
      refine kseq_r ?_
      refine kret_r [.pointer none, .int .i64 1] [] [] ⟨rfl, rfl, trivial⟩ (by kernel_rfl) rfl (.inl ⟨rfl, rfl, (by omega)⟩)
    · skip
      refine RunC.skip ?_
      refine kseq_n ?_
      refine RunC.seq ?_
      refine RunC.region ?_
      refine RunR.sil hU [2] 3 3 [0, 2, 3, 17] [(0, .slice A8 bs.length c8), (2, .pointer none), (3, .int .i64 0), (17, .int .i64 (((bs.length : Nat) : Int) / (256 : Int)))] ((True) ∧ (True) ∧ (0 ≤ ((bs.length : Nat) : Int) ∧ 0 < (256 : Int) ∧ -9223372036854775808 ≤ (((bs.length : Nat) : Int) / (256 : Int)) ∧ (((bs.length : Nat) : Int) / (256 : Int)) < 9223372036854775808) ∧ True) rfl (by kernel_rfl) ⟨trivial, trivial, (by omega), trivial⟩ ?_
      refine RunR.step (dst := some 18) (op := .call { callee := .value (.func 67), args := #[.tmp 17], argTypes := #[3] }) (by kernel_rfl) (Step.call 67 [.int .i64 (((bs.length : Nat) : Int) / (256 : Int))] (by kernel_rfl) (by kernel_rfl) [] [] [vw A8 (nums .u8 bs)] (dr_New_spec (((bs.length : Nat) : Int) / (256 : Int)) (by first | assumption | omega | (simp only [List.length_append, List.length_cons, List.length_nil, List.length_set, List.length_replicate, List.length_take, List.length_drop]; omega) | (simp only [fits] at *; omega) | (simp only [List.length_append, List.length_cons, List.length_nil, List.length_set, List.length_replicate, List.length_take, List.length_drop] at *; omega) | (simp; done) | decide) (by first | assumption | omega | (simp only [List.length_append, List.length_cons, List.length_nil, List.length_set, List.length_replicate, List.length_take, List.length_drop]; omega) | (simp only [fits] at *; omega) | (simp only [List.length_append, List.length_cons, List.length_nil, List.length_set, List.length_replicate, List.length_take, List.length_drop] at *; omega) | (simp; done) | decide)) [] (by kernel_rfl) (Lend.nil _) ?_)
      rintro _ _ ⟨d24, A95, n96, c97, zs8, rfl, rfl, hp9, hp10, hp11, hp12, hp13, hp14, hp15⟩
      refine RunR.sil hU [] 1 5 [0, 2, 3, 4] [(0, .slice A8 bs.length c8), (2, .pointer none), (3, .int .i64 0), (4, .pointer (some ⟨d24, 0, none⟩))] ((True) ∧ True) rfl (by kernel_rfl) ⟨trivial, trivial⟩ ?_
      refine RunR.done (by kernel_rfl) ?_
      refine kseq_n ?_
      refine RunC.seq ?_
      refine RunC.seq ?_
      refine RunC.region ?_
      refine RunR.sil hU [] 1 1 [0, 2, 3, 4, 5] [(0, .slice A8 bs.length c8), (2, .pointer none), (3, .int .i64 0), (4, .pointer (some ⟨d24, 0, none⟩)), (5, .int .i64 0)] ((True) ∧ True) rfl (by kernel_rfl) ⟨trivial, trivial⟩ ?_
      refine RunR.done (by kernel_rfl) ?_
      refine kseq_n ?_
      refine RunC.block ?_
      refine RunC.env [0, 2, 3, 4, 5] [(0, .slice A8 bs.length c8), (2, .pointer none), (3, .int .i64 0), (4, .pointer (some ⟨d24, 0, none⟩)), (5, .int .i64 0)] (by kernel_rfl) ?_
      refine RunC.only [1, 2, 0, 0, 0] [row 22 1 (.slice A95 n96 c97) n96 (rowsV zs8), poo .u8 zs8 ([] : List Ch), blk d24 76 [.slice A95 n96 c97, .slice none 0 0, .int .i64 0, .bool false], row 84 2 (.slice none 0 0) 0 (chV ([] : List Ch)), vw A8 (nums .u8 bs)] (by kernel_rfl) ?_
      refine RunC.loop (σ := Nat) (fun n_ t_ D_ => ∃ (i : Int) (os : List Ro), (0 ≤ i) ∧ (i ≤ (n96 : Int)) ∧ (RowsOK .u8 os) ∧ (W256 os) ∧ (os.length = n96) ∧ (cat (os.take i.toNat) = bs.take (256 * i.toNat)) ∧ n_ = ((n96 - i).toNat : Nat) ∧ t_ = [(0, .slice A8 bs.length c8), (2, .pointer none), (3, .int .i64 0), (4, .pointer (some ⟨d24, 0, none⟩)), (5, .int .i64 i)] ∧ D_ = [row 22 1 (.slice A95 n96 c97) n96 (rowsV os), poo .u8 os ([] : List Ch), blk d24 76 [.slice A95 n96 c97, .slice none 0 0, .int .i64 0, .bool false], row 84 2 (.slice none 0 0) 0 (chV ([] : List Ch)), vw A8 (nums .u8 bs)]) id _ ⟨0, zs8, (by first | assumption | omega | (simp only [List.length_append, List.length_cons, List.length_nil, List.length_set, List.length_replicate, List.length_take, List.length_drop]; omega) | (simp only [fits] at *; omega) | (simp only [List.length_append, List.length_cons, List.length_nil, List.length_set, List.length_replicate, List.length_take, List.length_drop] at *; omega) | (simp; done) | decide), (by first | assumption | omega | (simp only [List.length_append, List.length_cons, List.length_nil, List.length_set, List.length_replicate, List.length_take, List.length_drop]; omega) | (simp only [fits] at *; omega) | (simp only [List.length_append, List.length_cons, List.length_nil, List.length_set, List.length_replicate, List.length_take, List.length_drop] at *; omega) | (simp; done) | decide), (by first | assumption | omega | (simp only [List.length_append, List.length_cons, List.length_nil, List.length_set, List.length_replicate, List.length_take, List.length_drop]; omega) | (simp only [fits] at *; omega) | (simp only [List.length_append, List.length_cons, List.length_nil, List.length_set, List.length_replicate, List.length_take, List.length_drop] at *; omega) | (simp; done) | decide), (by first | assumption | omega | (simp only [List.length_append, List.length_cons, List.length_nil, List.length_set, List.length_replicate, List.length_take, List.length_drop]; omega) | (simp only [fits] at *; omega) | (simp only [List.length_append, List.length_cons, List.length_nil, List.length_set, List.length_replicate, List.length_take, List.length_drop] at *; omega) | (simp; done) | decide), (by first | rfl | assumption | omega | (simp only [List.length_append, List.length_cons, List.length_nil, List.length_set, List.length_replicate, List.length_take, List.length_drop]; omega) | (simp; done)), (by rfl), rfl, rfl, rfl⟩ ?_
      rintro n_ _ _ ⟨i, os, hi, hin, hRK, hW6, hrn, hcat, rfl, rfl, rfl⟩
      refine RunC.seq ?_
      refine RunC.seq ?_
      refine RunC.region ?_
      refine RunR.sil hU [] 4 4 [0, 2, 3, 4, 5, 19, 22] [(0, .slice A8 bs.length c8), (2, .pointer none), (3, .int .i64 0), (4, .pointer (some ⟨d24, 0, none⟩)), (5, .int .i64 i), (19, .int .i64 i), (22, .pointer (some ⟨d24, 0, none⟩))] ((True) ∧ (True) ∧ (True) ∧ (True) ∧ True) rfl (by kernel_rfl) ⟨trivial, trivial, trivial, trivial, trivial⟩ ?_
      refine RunR.step (dst := some 23) (op := .load 73 (.tmp 22)) (by kernel_rfl) (Step.load_blk hU 2 d24 (0) 76 [.slice A95 n96 c97, .slice none 0 0, .int .i64 0, .bool false] (.slice A95 n96 c97) (by kernel_rfl) (by kernel_rfl) (by kernel_rfl) (by kernel_rfl) ?_)
      refine RunR.sil hU [] 2 7 [0, 2, 3, 4, 5, 25] [(0, .slice A8 bs.length c8), (2, .pointer none), (3, .int .i64 0), (4, .pointer (some ⟨d24, 0, none⟩)), (5, .int .i64 i), (25, .bool (decide (i < ((n96 : Nat) : Int))))] ((True) ∧ (True) ∧ True) rfl (by kernel_rfl) ⟨trivial, trivial, trivial⟩ ?_
      refine RunR.done (by kernel_rfl) ?_
      refine kseq_n ?_
      refine RunC.condp (i < ((n96 : Nat) : Int)) (by kernel_rfl) (fun h16 => ?_) (fun h16 => ?_)
      · skip
        refine RunC.skip ?_
        refine kseq_n ?_
        refine RunC.seq ?_
        refine RunC.block ?_
        refine RunC.regionU hU 16 [blk d24 76 [.slice A95 n96 c97, .slice none 0 0, .int .i64 0, .bool false]] [2] [14, 15] (bm 16 0) (by kernel_rfl) (by kernel_rfl) (by kernel_rfl) ?_
        refine RunU.sil hU false 0 (bm 16 1) 28 (.pointer (some ⟨d24, 0, none⟩)) (True) (by kernel_rfl) trivial (by kernel_rfl) (by kernel_rfl) (fun _ _ _ h => h) ?_
        refine RunU.sil hU false 1 (bm 16 3) 29 (.pointer (some ⟨d24, 0, none⟩)) (True) (by kernel_rfl) trivial (by kernel_rfl) (by kernel_rfl) (fun _ _ _ h => h) ?_
        refine RunU.sil hU false 2 (bm 16 7) 30 (.pointer (some ⟨d24, 0, none⟩)) (True) (by kernel_rfl) trivial (by kernel_rfl) (by kernel_rfl) (fun _ _ _ h => h) ?_
        refine RunU.read 3 (bm 16 15) 31 (.load 73 (.tmp 30)) (.slice A95 n96 c97) [2] (by kernel_rfl) (Reads.load_blk hU 0 d24 (0) 76 [.slice A95 n96 c97, .slice none 0 0, .int .i64 0, .bool false] (.slice A95 n96 c97) (by kernel_rfl) (by kernel_rfl) (by kernel_rfl)) (by kernel_rfl) (by kernel_rfl) (by kernel_rfl) (by kernel_rfl) (fun _ _ _ h => h) ?_
        refine RunU.sil hU false 4 (bm 16 31) 32 (.int .i64 i) (True) (by kernel_rfl) trivial (by kernel_rfl) (by kernel_rfl) (fun _ _ _ h => h) ?_
        refine RunU.sil hU false 6 (bm 16 95) 34 (.slice A8 bs.length c8) (True) (by kernel_rfl) trivial (by kernel_rfl) (by kernel_rfl) (fun _ _ _ h => h) ?_
        refine RunU.sil hU false 7 (bm 16 223) 35 (.int .i64 i) (True) (by kernel_rfl) trivial (by kernel_rfl) (by kernel_rfl) (fun _ _ _ h => h) ?_
        refine RunU.sil hU true 8 (bm 16 479) 36 (.int .i64 (256 * i)) (-9223372036854775808 ≤ (256 * i) ∧ (256 * i) < 9223372036854775808) (by kernel_rfl) (by omega) (by kernel_rfl) (by kernel_rfl) (fun _ _ _ h => h) ?_
        refine RunU.sil hU false 9 (bm 16 991) 37 (.int .i64 i) (True) (by kernel_rfl) trivial (by kernel_rfl) (by kernel_rfl) (fun _ _ _ h => h) ?_
        refine RunU.sil hU true 10 (bm 16 2015) 38 (.int .i64 (256 * i)) (-9223372036854775808 ≤ (256 * i) ∧ (256 * i) < 9223372036854775808) (by kernel_rfl) (by omega) (by kernel_rfl) (by kernel_rfl) (fun _ _ _ h => h) ?_
        refine RunU.sil hU true 11 (bm 16 4063) 39 (.int .i64 ((256 * i) + 256)) (-9223372036854775808 ≤ ((256 * i) + 256) ∧ ((256 * i) + 256) < 9223372036854775808) (by kernel_rfl) (by omega) (by kernel_rfl) (by kernel_rfl) (fun _ _ _ h => h) ?_
        refine RunU.sil hU false 12 (bm 16 8159) 40 (.slice (subBase A8 ((256 * i).toNat) c8 1) ((((256 * i) + 256).toNat) - ((256 * i).toNat)) (c8 - ((256 * i).toNat))) (0 ≤ (256 * i) ∧ (256 * i) ≤ ((256 * i) + 256) ∧ ((256 * i) + 256) ≤ ((c8 : Nat) : Int)) (by kernel_rfl) (by omega) (by kernel_rfl) (by kernel_rfl) (fun _ _ _ h => h) ?_
        obtain ⟨zs17, hz18⟩ : ∃ z : List Int, z = (bs.drop ((256 * i).toNat)).take ((((256 * i) + 256).toNat) - ((256 * i).toNat)) := ⟨_, rfl⟩
        have hl19 : zs17.length = (((256 * i) + 256).toNat) - ((256 * i).toNat) := by rw [hz18, List.length_take, List.length_drop]; omega
        have hB21_t : Tells (vw A8 (nums .u8 bs)) (subBase A8 ((256 * i).toNat) c8 1) (nums .u8 zs17) := by rw [hz18]; exact tells_sub_nums (tells_vw _ _) _ _ _ (by omega) (by omega)
        have hA22 : 0 < zs17.length → Option.isSome (subBase A8 ((256 * i).toNat) c8 1) = true := fun h => part_some (hA1 (by omega)) _ _ _
        refine RunU.env [0, 2, 3, 4, 5, 25, 28, 29, 30, 31, 32, 34, 35, 36, 37, 38, 39, 40] [(0, .slice A8 bs.length c8), (2, .pointer none), (3, .int .i64 0), (4, .pointer (some ⟨d24, 0, none⟩)), (5, .int .i64 i), (25, .bool (decide (i < ((n96 : Nat) : Int)))), (28, .pointer (some ⟨d24, 0, none⟩)), (29, .pointer (some ⟨d24, 0, none⟩)), (30, .pointer (some ⟨d24, 0, none⟩)), (31, .slice A95 n96 c97), (32, .int .i64 i), (34, .slice A8 bs.length c8), (35, .int .i64 i), (36, .int .i64 (256 * i)), (37, .int .i64 i), (38, .int .i64 (256 * i)), (39, .int .i64 ((256 * i) + 256)), (40, .slice (subBase A8 ((256 * i).toNat) c8 1) ((((256 * i) + 256).toNat) - ((256 * i).toNat)) (c8 - ((256 * i).toNat)))] (by kernel_rfl) ?_
        refine RunU.enveq [(0, .slice A8 bs.length c8), (2, .pointer none), (3, .int .i64 0), (4, .pointer (some ⟨d24, 0, none⟩)), (5, .int .i64 i), (25, .bool (decide (i < ((n96 : Nat) : Int)))), (28, .pointer (some ⟨d24, 0, none⟩)), (29, .pointer (some ⟨d24, 0, none⟩)), (30, .pointer (some ⟨d24, 0, none⟩)), (31, .slice A95 n96 c97), (32, .int .i64 i), (34, .slice A8 bs.length c8), (35, .int .i64 i), (36, .int .i64 (256 * i)), (37, .int .i64 i), (38, .int .i64 (256 * i)), (39, .int .i64 ((256 * i) + 256)), (40, .slice (subBase A8 ((256 * i).toNat) c8 1) zs17.length (c8 - ((256 * i).toNat)))] (by rw [hl19]) ?_
        have hr23 : In .u8 zs17 := by rw [hz18]; exact (hIbs.drop _).take _
        refine RunU.one (dst := some 33) (op := .buildSlice 22 0 #[]) 5 (bm 16 8191) [3] (by kernel_rfl) (by kernel_rfl) (Step.lit_nums hU 5 1 .u8 (.int .u8 0) ([] : List Int) rfl rfl (by kernel_rfl) rfl rfl (by kernel_rfl) (fun b24 => ?_))
        have hl25 : (([] : List Int)).length = 0 := rfl
        refine ⟨.inl (by kernel_rfl), ?_⟩
        have hl30 : (([] : List Int)).length = 0 := rfl
        refine RunU.one (dst := some 41) (op := .call { callee := .builtin .append, args := #[.tmp 33, .tmp 40], argTypes := #[22, 22] }) 13 (bm 16 16383) [3] (by kernel_rfl) (by kernel_rfl) (Step.append_nums hU 5 1 (.int .u8 0) .u8 0 5 (some ⟨b24, 0, none⟩) 0 0 ([] : List Int) (subBase A8 ((256 * i).toNat) c8 1) zs17.length (c8 - ((256 * i).toNat)) (vw A8 (nums .u8 bs)) zs17 rfl rfl rfl (by kernel_rfl) (by kernel_rfl) (by kernel_rfl) (by kernel_rfl) (hB21_t) (by first | rfl | omega | (simp; omega)) (by first | rfl | omega | (simp; omega)) (by omega) (by omega) (by kernel_rfl) (fun Aq26 cq27 hc28 hA29 => ?_))
        simp only [List.nil_append] at hc28 hA29
        refine ⟨.inl (by kernel_rfl), ?_⟩
        refine RunU.sil hU false 14 (bm 16 32767) 42 (.pointer (elemAt A95 i 1)) ((0 ≤ i ∧ i < ((n96 : Nat) : Int)) ∧ Option.isSome A95 = true) (by kernel_rfl) ⟨by omega, hp14 (by omega)⟩ (by kernel_rfl) (by kernel_rfl) (fun _ _ _ h => h) ?_
        refine RunU.one (dst := none) (op := .store 22 (.tmp 42) (.tmp 41)) 15 (bm 16 65535) [] (by kernel_rfl) (by kernel_rfl) (Step.store_ro hU 1 22 n96 c97 A95 os i Aq26 cq27 zs17 (by kernel_rfl) (by kernel_rfl) (by kernel_rfl) rfl (by omega) ?_)
        refine ⟨.inr (by kernel_rfl), ?_⟩
        have hl31 : (os.set (i).toNat (Aq26, cq27, zs17)).length = os.length := List.length_set
        refine RunU.turn ([poo .u8 (os.set (i).toNat (Aq26, cq27, zs17)) ([] : List Ch), row 22 1 (.slice A95 n96 c97) n96 (rowsV (os.set (i).toNat (Aq26, cq27, zs17))), blk d24 76 [.slice A95 n96 c97, .slice none 0 0, .int .i64 0, .bool false], row 84 2 (.slice none 0 0) 0 (chV ([] : List Ch)), vw A8 (nums .u8 bs)]) (fun _ _ w hs => SAT.pooSetNew ((i).toNat) Aq26 cq27 zs17 rfl (tells_row _ _ _ _ _ _) (hs.pulls2 [1, 1] ([row 5 1 (.slice Aq26 zs17.length cq27) zs17.length (nums .u8 zs17), poo .u8 os ([] : List Ch), row 22 1 (.slice A95 n96 c97) n96 (rowsV (os.set (i).toNat (Aq26, cq27, zs17))), blk d24 76 [.slice A95 n96 c97, .slice none 0 0, .int .i64 0, .bool false], row 84 2 (.slice none 0 0) 0 (chV ([] : List Ch)), vw A8 (nums .u8 bs)]) (by kernel_rfl))) ?_
        refine RunU.env [0, 2, 3, 4, 5] [(0, .slice A8 bs.length c8), (2, .pointer none), (3, .int .i64 0), (4, .pointer (some ⟨d24, 0, none⟩)), (5, .int .i64 i)] (by kernel_rfl) ?_
        refine RunU.done (by kernel_rfl) ?_
        refine kblock_n ?_
        refine kseq_n ?_
        refine RunC.region ?_
        refine RunR.sil hU [1] 3 3 [0, 2, 3, 4, 5] [(0, .slice A8 bs.length c8), (2, .pointer none), (3, .int .i64 0), (4, .pointer (some ⟨d24, 0, none⟩)), (5, .int .i64 (i + 1))] ((True) ∧ (-9223372036854775808 ≤ (i + 1) ∧ (i + 1) < 9223372036854775808) ∧ (True) ∧ True) rfl (by kernel_rfl) ⟨trivial, (by omega), trivial, trivial⟩ ?_
        refine RunR.done (by kernel_rfl) ?_
        refine kloop_n _ [0, 2, 3, 4, 5] [1, 0, 0, 0, 0] [(0, .slice A8 bs.length c8), (2, .pointer none), (3, .int .i64 0), (4, .pointer (some ⟨d24, 0, none⟩)), (5, .int .i64 (i + 1))] [row 22 1 (.slice A95 n96 c97) n96 (rowsV (os.set (i).toNat (Aq26, cq27, zs17))), poo .u8 (os.set (i).toNat (Aq26, cq27, zs17)) ([] : List Ch), blk d24 76 [.slice A95 n96 c97, .slice none 0 0, .int .i64 0, .bool false], row 84 2 (.slice none 0 0) 0 (chV ([] : List Ch)), vw A8 (nums .u8 bs)] (by kernel_rfl) (by kernel_rfl) ?_ ⟨(i + 1), (os.set (i).toNat (Aq26, cq27, zs17)), (by first | assumption | omega | (simp only [List.length_append, List.length_cons, List.length_nil, List.length_set, List.length_replicate, List.length_take, List.length_drop]; omega) | (simp only [fits] at *; omega) | (simp only [List.length_append, List.length_cons, List.length_nil, List.length_set, List.length_replicate, List.length_take, List.length_drop] at *; omega) | (simp; done) | decide), (by first | assumption | omega | (simp only [List.length_append, List.length_cons, List.length_nil, List.length_set, List.length_replicate, List.length_take, List.length_drop]; omega) | (simp only [fits] at *; omega) | (simp only [List.length_append, List.length_cons, List.length_nil, List.length_set, List.length_replicate, List.length_take, List.length_drop] at *; omega) | (simp; done) | decide), (by exact hRK.set (by assumption) (by omega) (by omega)), (by exact hW6.set (by omega)), (by first | rfl | assumption | omega | (simp only [List.length_append, List.length_cons, List.length_nil, List.length_set, List.length_replicate, List.length_take, List.length_drop]; omega) | (simp; done)), (by rw [show (i + 1).toNat = i.toNat + 1 by omega]; exact load_step hcat (by omega) (by simp only [hz18]; congr 1 <;> first | omega | (congr 1; omega))), rfl, (by first | rfl | simp only [List.length_set]), (by first | rfl | simp only [List.length_set])⟩
        show ((n96 - (i + 1)).toNat : Nat) < ((n96 - i).toNat : Nat)
        omega
      · skip
        refine RunC.exit ?_
        refine kseq_e ?_
        refine kloop_e ?_
        refine kblock_e ?_
        refine kseq_n ?_
        refine RunC.seq ?_
        refine RunC.region ?_
        refine RunR.sil hU [] 3 3 [2, 3] [(2, .pointer (some ⟨d24, 0, none⟩)), (3, .int .i64 0)] ((True) ∧ (True) ∧ (True) ∧ True) rfl (by kernel_rfl) ⟨trivial, trivial, trivial, trivial⟩ ?_
        refine RunR.done (by kernel_rfl) ?_
        refine kseq_n ?_
        refine RunC.ret ?_
        refine kret_r [.pointer (some ⟨d24, 0, none⟩), .int .i64 0] [2, 0, 1, 0] [blk d24 76 [.slice A95 n96 c97, .slice none 0 0, .int .i64 0, .bool false], row 22 1 (.slice A95 n96 c97) n96 (rowsV os), row 84 2 (.slice none 0 0) 0 (chV ([] : List Ch)), poo .u8 os ([] : List Ch)] ⟨rfl, rfl, trivial⟩ (by kernel_rfl) rfl (.inr ⟨d24, A95, n96, c97, os, rfl, rfl, (by first | assumption | omega | (simp only [List.length_append, List.length_cons, List.length_nil, List.length_set, List.length_replicate, List.length_take, List.length_drop]; omega) | (simp only [fits] at *; omega) | (simp only [List.length_append, List.length_cons, List.length_nil, List.length_set, List.length_replicate, List.length_take, List.length_drop] at *; omega) | (simp; done) | decide), (by first | assumption | omega | (simp only [List.length_append, List.length_cons, List.length_nil, List.length_set, List.length_replicate, List.length_take, List.length_drop]; omega) | (simp only [fits] at *; omega) | (simp only [List.length_append, List.length_cons, List.length_nil, List.length_set, List.length_replicate, List.length_take, List.length_drop] at *; omega) | (simp; done) | decide), (by first | rfl | assumption | omega | (simp only [List.length_append, List.length_cons, List.length_nil, List.length_set, List.length_replicate, List.length_take, List.length_drop]; omega) | (simp; done)), (by first | assumption | omega | (simp only [List.length_append, List.length_cons, List.length_nil, List.length_set, List.length_replicate, List.length_take, List.length_drop]; omega) | (simp only [fits] at *; omega) | (simp only [List.length_append, List.length_cons, List.length_nil, List.length_set, List.length_replicate, List.length_take, List.length_drop] at *; omega) | (simp; done) | decide), (by first | assumption | omega | (simp only [List.length_append, List.length_cons, List.length_nil, List.length_set, List.length_replicate, List.length_take, List.length_drop]; omega) | (simp only [fits] at *; omega) | (simp only [List.length_append, List.length_cons, List.length_nil, List.length_set, List.length_replicate, List.length_take, List.length_drop] at *; omega) | (simp; done) | decide), (fun h => hp14 (by first | exact h | (simp at h ⊢; omega))), (by rw [← List.take_of_length_le (l := os) (i := i.toNat) (by omega), hcat, List.take_of_length_le (by omega)]), (by omega)⟩)
  · skip
    refine RunR.enveq [(0, .slice A8 bs.length c8), (2, .pointer none), (3, .int .i64 0), (10, .bool true)] (by rw [decide_eq_false h2]; try rfl) ?_
    refine RunR.sil hU [] 4 9 [0, 2, 3, 14] [(0, .slice A8 bs.length c8), (2, .pointer none), (3, .int .i64 0), (14, .bool true)] ((True) ∧ True) rfl (by kernel_rfl) ⟨trivial, trivial⟩ ?_
    refine RunR.done (by kernel_rfl) ?_
    refine kseq_n ?_
    refine RunC.cond (b := true) (by kernel_rfl) (fun _ => ?_) (fun h => by cases h)
    refine RunC.seq ?_
    refine RunC.region ?_
    refine RunR.sil hU [] 2 2 [0, 2, 3] [(0, .slice A8 bs.length c8), (2, .pointer none), (3, .int .i64 1)] ((True) ∧ (True) ∧ True) rfl (by kernel_rfl) ⟨trivial, trivial, trivial⟩ ?_
    refine RunR.done (by kernel_rfl) ?_
    refine kseq_n ?_
    refine RunC.ret ?_
    refine kseq_r ?_
    refine kret_r [.pointer none, .int .i64 1] [] [] ⟨rfl, rfl, trivial⟩ (by kernel_rfl) rfl (.inl ⟨rfl, rfl, (by omega)⟩)

theorem dr_Same_spec (A8 : Option Addr) (c8 : Nat) (bs : List Int) (d : Nat) (A : Option Addr) (n : Nat) (c : Nat) (rs : List Ro) (Wa : Option Addr) (m : Nat) (wc : Nat) (ws : List Ch) (lf : Int) (dn : Bool) (l_bs : Nat) (hIbs : In .u8 bs) (hCbs : bs.length ≤ c8) (hBbs : bs.length ≤ 140737488351232) (hRK : RowsOK .u8 rs) (hW6 : W256 rs) (hrn : rs.length = n) (hrc : n ≤ c) (hrb : n ≤ 2176) (hAr : 0 < n → Option.isSome A = true) (hl_bs : bs.length = l_bs) :
    CallsS Try.prog 54 [.slice A8 l_bs c8, .pointer (some ⟨d, 0, none⟩)] [blk d 76 [.slice A n c, .slice Wa m wc, .int .i64 lf, .bool dn], row 22 1 (.slice A n c) n (rowsV rs), poo .u8 rs ws, vw A8 (nums .u8 bs)] (fun r D => r = .bool (decide (bs = cat rs)) ∧ D = [blk d 76 [.slice A n c, .slice Wa m wc, .int .i64 lf, .bool dn], row 22 1 (.slice A n c) n (rowsV rs), poo .u8 rs ws]) := by
  subst hl_bs
  refine CallsS.enter hU Try.f54 _ [.tmp 4] 9 Try.func54 rfl (by decide) rfl rfl (by kernel_rfl) fun w0 W => ?_
  refine RunC.know (p := 0 < bs.length → Option.isSome A8 = true) (fun _ _ w hs => vw_some hs 3 rfl (by first | (simp [nums_length]; done) | exact dosV_len _ | exact bls_len _ | exact chV_len _)) (fun hA1 => ?_)
  refine RunC.seq ?_
  refine RunC.region ?_
  refine RunR.sil hU [] 1 1 [0, 1, 4] [(0, .slice A8 bs.length c8), (1, .pointer (some ⟨d, 0, none⟩)), (4, .bool false)] ((True) ∧ True) rfl (by kernel_rfl) ⟨trivial, trivial⟩ ?_
  refine RunR.done (by kernel_rfl) ?_
  refine kseq_n ?_
  refine RunC.seq ?_
  refine RunC.region ?_
  refine RunR.sil hU [] 2 2 [4, 5, 6] [(4, .bool false), (5, .slice A8 bs.length c8), (6, .pointer (some ⟨d, 0, none⟩))] ((True) ∧ (True) ∧ True) rfl (by kernel_rfl) ⟨trivial, trivial, trivial⟩ ?_
  refine RunR.step (dst := some 7) (op := .call { callee := .value (.func 69), args := #[.tmp 6], argTypes := #[70] }) (by kernel_rfl) (Step.call 69 [.pointer (some ⟨d, 0, none⟩)] (by kernel_rfl) (by kernel_rfl) [blk d 76 [.slice A n c, .slice Wa m wc, .int .i64 lf, .bool dn], row 22 1 (.slice A n c) n (rowsV rs), poo .u8 rs ws] [] [vw A8 (nums .u8 bs)] (dr_Image_spec d A n c rs Wa m wc ws lf dn (by first | assumption | omega | (simp only [List.length_append, List.length_cons, List.length_nil, List.length_set, List.length_replicate, List.length_take, List.length_drop]; omega) | (simp only [fits] at *; omega) | (simp only [List.length_append, List.length_cons, List.length_nil, List.length_set, List.length_replicate, List.length_take, List.length_drop] at *; omega) | (simp; done) | decide) (by first | assumption | omega | (simp only [List.length_append, List.length_cons, List.length_nil, List.length_set, List.length_replicate, List.length_take, List.length_drop]; omega) | (simp only [fits] at *; omega) | (simp only [List.length_append, List.length_cons, List.length_nil, List.length_set, List.length_replicate, List.length_take, List.length_drop] at *; omega) | (simp; done) | decide) (by first | rfl | assumption | omega | (simp only [List.length_append, List.length_cons, List.length_nil, List.length_set, List.length_replicate, List.length_take, List.length_drop]; omega) | (simp; done)) (by first | assumption | omega | (simp only [List.length_append, List.length_cons, List.length_nil, List.length_set, List.length_replicate, List.length_take, List.length_drop]; omega) | (simp only [fits] at *; omega) | (simp only [List.length_append, List.length_cons, List.length_nil, List.length_set, List.length_replicate, List.length_take, List.length_drop] at *; omega) | (simp; done) | decide) (by first | assumption | omega | (simp only [List.length_append, List.length_cons, List.length_nil, List.length_set, List.length_replicate, List.length_take, List.length_drop]; omega) | (simp only [fits] at *; omega) | (simp only [List.length_append, List.length_cons, List.length_nil, List.length_set, List.length_replicate, List.length_take, List.length_drop] at *; omega) | (simp; done) | decide) (fun h => hAr (by first | exact h | (simp at h ⊢; omega)))) [0, 0, 0] (by kernel_rfl) (Lend.nil _) ?_)
  rintro _ _ ⟨A92, c93, zs4, rfl, rfl, hp5, hp6, hp7, hp8, hp9⟩
  refine RunR.step (dst := some 8) (op := .call { callee := .value (.func 18), args := #[.tmp 5, .tmp 7], argTypes := #[22, 22] }) (by kernel_rfl) (Step.call 18 [.slice A8 bs.length c8, .slice A92 zs4.length c93] (by kernel_rfl) (by kernel_rfl) [] [vw A8 (nums .u8 bs), vw A92 (nums .u8 zs4)] [row 5 1 (.slice A92 zs4.length c93) zs4.length (nums .u8 zs4), blk d 76 [.slice A n c, .slice Wa m wc, .int .i64 lf, .bool dn], row 22 1 (.slice A n c) n (rowsV rs), poo .u8 rs ws, vw A8 (nums .u8 bs)] (r_Equal_spec A8 c8 bs A92 c93 zs4 bs.length zs4.length hIbs (by first | assumption | omega | (simp only [List.length_append, List.length_cons, List.length_nil, List.length_set, List.length_replicate, List.length_take, List.length_drop]; omega) | (simp only [fits] at *; omega) | (simp only [List.length_append, List.length_cons, List.length_nil, List.length_set, List.length_replicate, List.length_take, List.length_drop] at *; omega) | (simp; done) | decide) hp7 (by first | assumption | omega | (simp only [List.length_append, List.length_cons, List.length_nil, List.length_set, List.length_replicate, List.length_take, List.length_drop]; omega) | (simp only [fits] at *; omega) | (simp only [List.length_append, List.length_cons, List.length_nil, List.length_set, List.length_replicate, List.length_take, List.length_drop] at *; omega) | (simp; done) | decide) (by first | rfl | assumption | omega | (simp only [List.length_append, List.length_cons, List.length_nil, List.length_set, List.length_replicate, List.length_take, List.length_drop]; omega) | (simp; done)) (by first | rfl | assumption | omega | (simp only [List.length_append, List.length_cons, List.length_nil, List.length_set, List.length_replicate, List.length_take, List.length_drop]; omega) | (simp; done))) [] (by kernel_rfl) (((Lend.nil _).tells 0 (row 5 1 (.slice A92 zs4.length c93) zs4.length (nums .u8 zs4)) A92 (nums .u8 zs4) (by kernel_rfl) (tells_row _ _ _ _ _ _)).tells 4 (vw A8 (nums .u8 bs)) A8 (nums .u8 bs) (by kernel_rfl) (tells_vw _ _)) ?_)
  rintro _ _ ⟨rfl, rfl⟩
  refine RunR.sil hU [] 1 5 [4] [(4, .bool (decide (bs = zs4)))] ((True) ∧ True) rfl (by kernel_rfl) ⟨trivial, trivial⟩ ?_
  refine RunR.done (by kernel_rfl) ?_
  refine kseq_n ?_
  refine RunC.ret ?_
  refine kret_r [.bool (decide (bs = zs4))] [1, 1, 1] [blk d 76 [.slice A n c, .slice Wa m wc, .int .i64 lf, .bool dn], row 22 1 (.slice A n c) n (rowsV rs), poo .u8 rs ws] ⟨rfl, trivial⟩ (by kernel_rfl) rfl ⟨(by first | rfl | (simp only [hp5]; rfl)), (by first | rfl | (simp only [hp5]; rfl))⟩

theorem dr_Sync_spec (d : Nat) (A : Option Addr) (n : Nat) (c : Nat) (rs : List Ro) (Wa : Option Addr) (m : Nat) (wc : Nat) (ws : List Ch) (lf : Int) (dn : Bool) (hRK : RowsOK .u8 rs) (hW6 : W256 rs) (hrn : rs.length = n) (hrc : n ≤ c) (hrb : n ≤ 2176) (hAr : 0 < n → Option.isSome A = true) (hml : ws.length = m) (hmb : m ≤ 1000000) (hok : ChOK .u8 ws) (hwk : WOK (256 * n) ws) (hWs : 0 < m → Option.isSome Wa = true) (hlf : 0 ≤ lf ∧ lf < 9223372036854775808) :
    CallsS Try.prog 50 [.pointer (some ⟨d, 0, none⟩)] [blk d 76 [.slice A n c, .slice Wa m wc, .int .i64 lf, .bool dn], row 22 1 (.slice A n c) n (rowsV rs), row 84 2 (.slice Wa m wc) m (chV ws), poo .u8 rs ws] (fun r D => ∃ (e : Int) (rs2 : List Ro) (Wb : Option Addr) (m2 : Nat) (wc2 : Nat) (ws2 : List Ch) (lf3 : Int) (dn3 : Bool), r = .int .i64 e ∧ D = [blk d 76 [.slice A n c, .slice Wb m2 wc2, .int .i64 lf3, .bool dn3], row 22 1 (.slice A n c) n (rowsV rs2), row 84 2 (.slice Wb m2 wc2) m2 (chV ws2), poo .u8 rs2 ws2] ∧ ((e, cat rs2, dat ws2, lf3, dn3) = syncR (cat rs) (dat ws) lf dn) ∧ (RowsOK .u8 rs2) ∧ (W256 rs2) ∧ (rs2.length = n) ∧ (ws2.length = m2) ∧ (m2 ≤ m) ∧ (ChOK .u8 ws2) ∧ (WOK (256 * n) ws2) ∧ (0 < m2 → Option.isSome Wb = true) ∧ (0 ≤ lf3 ∧ lf3 < 9223372036854775808)) := by
  refine CallsS.enter hU Try.f50 _ [.tmp 2] 45 Try.func50 rfl (by decide) rfl rfl (by kernel_rfl) fun w0 W => ?_
  refine RunC.seq ?_
  refine RunC.region ?_
  refine RunR.sil hU [] 1 1 [0, 2] [(0, .pointer (some ⟨d, 0, none⟩)), (2, .int .i64 0)] ((True) ∧ True) rfl (by kernel_rfl) ⟨trivial, trivial⟩ ?_
  refine RunR.done (by kernel_rfl) ?_
  refine kseq_n ?_
  refine RunC.seq ?_
  refine RunC.seq ?_
  refine RunC.region ?_
  refine RunR.sil hU [] 3 3 [0, 2, 6] [(0, .pointer (some ⟨d, 0, none⟩)), (2, .int .i64 0), (6, .pointer (some ⟨d, 3, none⟩))] ((True) ∧ (True) ∧ (True) ∧ True) rfl (by kernel_rfl) ⟨trivial, trivial, trivial, trivial⟩ ?_
  refine RunR.step (dst := some 7) (op := .load 4 (.tmp 6)) (by kernel_rfl) (Step.load_blk hU 0 d (3) 76 [.slice A n c, .slice Wa m wc, .int .i64 lf, .bool dn] (.bool dn) (by kernel_rfl) (by kernel_rfl) (by kernel_rfl) (by kernel_rfl) ?_)
  refine RunR.sil hU [] 1 5 [0, 2, 8] [(0, .pointer (some ⟨d, 0, none⟩)), (2, .int .i64 0), (8, .bool dn)] ((True) ∧ True) rfl (by kernel_rfl) ⟨trivial, trivial⟩ ?_
  refine RunR.env [0, 2, 8] [(0, .pointer (some ⟨d, 0, none⟩)), (2, .int .i64 0), (8, .bool dn)] (by kernel_rfl) ?_
  by_cases h1 : dn = true
  · skip
    refine RunR.enveq [(0, .pointer (some ⟨d, 0, none⟩)), (2, .int .i64 0), (8, .bool true)] (by rw [h1]; try rfl) ?_
    refine RunR.sil hU [] 3 8 [0, 2, 11] [(0, .pointer (some ⟨d, 0, none⟩)), (2, .int .i64 0), (11, .bool true)] ((True) ∧ True) rfl (by kernel_rfl) ⟨trivial, trivial⟩ ?_
    refine RunR.done (by kernel_rfl) ?_
    refine kseq_n ?_
    refine RunC.cond (b := true) (by kernel_rfl) (fun _ => ?_) (fun h => by cases h)
    refine RunC.seq ?_
    refine RunC.region ?_
    refine RunR.sil hU [] 1 1 [0, 2] [(0, .pointer (some ⟨d, 0, none⟩)), (2, .int .i64 11)] ((True) ∧ True) rfl (by kernel_rfl) ⟨trivial, trivial⟩ ?_
    refine RunR.done (by kernel_rfl) ?_
    refine kseq_n ?_
    refine RunC.ret ?_
    refine kseq_r ?_
    refine kret_r [.int .i64 11] [0, 0, 0, 0] [blk d 76 [.slice A n c, .slice Wa m wc, .int .i64 lf, .bool dn], row 22 1 (.slice A n c) n (rowsV rs), row 84 2 (.slice Wa m wc) m (chV ws), poo .u8 rs ws] ⟨rfl, trivial⟩ (by kernel_rfl) rfl ⟨11, rs, Wa, m, wc, ws, lf, dn, rfl, rfl, (by exact sync_down (by assumption)), (by assumption), (by assumption), (by assumption), (by assumption), (by omega), (by assumption), (by assumption), (by assumption), (by assumption)⟩
  · skip
    have h1 := Bool.eq_false_iff.2 h1
    refine RunR.enveq [(0, .pointer (some ⟨d, 0, none⟩)), (2, .int .i64 0), (8, .bool false)] (by rw [h1]; try rfl) ?_
    refine RunR.sil hU [] 1 6 [0, 2, 8, 9] [(0, .pointer (some ⟨d, 0, none⟩)), (2, .int .i64 0), (8, .bool false), (9, .pointer (some ⟨d, 0, none⟩))] ((True) ∧ True) rfl (by kernel_rfl) ⟨trivial, trivial⟩ ?_
    refine RunR.step (dst := some 10) (op := .call { callee := .value (.func 68), args := #[.tmp 9], argTypes := #[70] }) (by kernel_rfl) (Step.call 68 [.pointer (some ⟨d, 0, none⟩)] (by kernel_rfl) (by kernel_rfl) [blk d 76 [.slice A n c, .slice Wa m wc, .int .i64 lf, .bool dn]] [] [row 22 1 (.slice A n c) n (rowsV rs), row 84 2 (.slice Wa m wc) m (chV ws), poo .u8 rs ws] (dr_goes_spec d A n c Wa m wc lf dn (by first | assumption | omega | (simp only [List.length_append, List.length_cons, List.length_nil, List.length_set, List.length_replicate, List.length_take, List.length_drop]; omega) | (simp only [fits] at *; omega) | (simp only [List.length_append, List.length_cons, List.length_nil, List.length_set, List.length_replicate, List.length_take, List.length_drop] at *; omega) | (simp; done) | decide) (by first | assumption | omega | (simp only [List.length_append, List.length_cons, List.length_nil, List.length_set, List.length_replicate, List.length_take, List.length_drop]; omega) | (simp only [fits] at *; omega) | (simp only [List.length_append, List.length_cons, List.length_nil, List.length_set, List.length_replicate, List.length_take, List.length_drop] at *; omega) | (simp; done) | decide)) [0] (by kernel_rfl) (Lend.nil _) ?_)
    rintro _ _ ⟨gz2, lf23, dn24, rfl, rfl, hp5, hp6, hp7⟩
    refine RunR.sil hU [] 1 8 [0, 2, 11] [(0, .pointer (some ⟨d, 0, none⟩)), (2, .int .i64 0), (11, .bool gz2)] ((True) ∧ True) rfl (by kernel_rfl) ⟨trivial, trivial⟩ ?_
    refine RunR.done (by kernel_rfl) ?_
    refine kseq_n ?_
    refine RunC.cond (b := gz2) (by kernel_rfl) (fun h8 => ?_) (fun h8 => ?_)
    · skip
      refine RunC.seq ?_
      refine RunC.region ?_
      refine RunR.sil hU [] 1 1 [0, 2] [(0, .pointer (some ⟨d, 0, none⟩)), (2, .int .i64 11)] ((True) ∧ True) rfl (by kernel_rfl) ⟨trivial, trivial⟩ ?_
      refine RunR.done (by kernel_rfl) ?_
      refine kseq_n ?_
      refine RunC.ret ?_
      refine kseq_r ?_
      refine kret_r [.int .i64 11] [0, 0, 0, 0] [blk d 76 [.slice A n c, .slice Wa m wc, .int .i64 lf23, .bool dn24], row 22 1 (.slice A n c) n (rowsV rs), row 84 2 (.slice Wa m wc) m (chV ws), poo .u8 rs ws] ⟨rfl, trivial⟩ (by kernel_rfl) rfl ⟨11, rs, Wa, m, wc, ws, lf23, dn24, rfl, rfl, (by exact sync_go (by assumption) hp5 ((hp6).symm.trans (by assumption))), (by assumption), (by assumption), (by assumption), (by assumption), (by omega), (by assumption), (by assumption), (by assumption), (by assumption)⟩
    · skip
      refine RunC.skip ?_
      refine kseq_n ?_
      refine RunC.seq ?_
      refine RunC.seq ?_
      refine RunC.region ?_
      refine RunR.sil hU [] 1 1 [0, 2, 3] [(0, .pointer (some ⟨d, 0, none⟩)), (2, .int .i64 0), (3, .int .i64 0)] ((True) ∧ True) rfl (by kernel_rfl) ⟨trivial, trivial⟩ ?_
      refine RunR.done (by kernel_rfl) ?_
      refine kseq_n ?_
      refine RunC.block ?_
      refine RunC.env [0, 2, 3] [(0, .pointer (some ⟨d, 0, none⟩)), (2, .int .i64 0), (3, .int .i64 0)] (by kernel_rfl) ?_
      refine RunC.only [1, 2, 0, 0] [row 22 1 (.slice A n c) n (rowsV rs), poo .u8 rs ws, blk d 76 [.slice A n c, .slice Wa m wc, .int .i64 lf23, .bool dn24], row 84 2 (.slice Wa m wc) m (chV ws)] (by kernel_rfl) ?_
      refine RunC.loop (σ := Nat) (fun n_ t_ D_ => ∃ (i : Int) (r2 : List Ro), (0 ≤ i) ∧ (i ≤ m) ∧ (cat r2 = syncP (cat rs) ((dat ws).take i.toNat)) ∧ (RowsOK .u8 r2) ∧ (W256 r2) ∧ (r2.length = n) ∧ n_ = ((m - i).toNat : Nat) ∧ t_ = [(0, .pointer (some ⟨d, 0, none⟩)), (2, .int .i64 0), (3, .int .i64 i)] ∧ D_ = [row 22 1 (.slice A n c) n (rowsV r2), poo .u8 r2 ws, blk d 76 [.slice A n c, .slice Wa m wc, .int .i64 lf23, .bool dn24], row 84 2 (.slice Wa m wc) m (chV ws)]) id _ ⟨0, rs, (by first | assumption | omega | (simp only [List.length_append, List.length_cons, List.length_nil, List.length_set, List.length_replicate, List.length_take, List.length_drop]; omega) | (simp only [fits] at *; omega) | (simp only [List.length_append, List.length_cons, List.length_nil, List.length_set, List.length_replicate, List.length_take, List.length_drop] at *; omega) | (simp; done) | decide), (by first | assumption | omega | (simp only [List.length_append, List.length_cons, List.length_nil, List.length_set, List.length_replicate, List.length_take, List.length_drop]; omega) | (simp only [fits] at *; omega) | (simp only [List.length_append, List.length_cons, List.length_nil, List.length_set, List.length_replicate, List.length_take, List.length_drop] at *; omega) | (simp; done) | decide), (by rfl), (by first | assumption | omega | (simp only [List.length_append, List.length_cons, List.length_nil, List.length_set, List.length_replicate, List.length_take, List.length_drop]; omega) | (simp only [fits] at *; omega) | (simp only [List.length_append, List.length_cons, List.length_nil, List.length_set, List.length_replicate, List.length_take, List.length_drop] at *; omega) | (simp; done) | decide), (by first | assumption | omega | (simp only [List.length_append, List.length_cons, List.length_nil, List.length_set, List.length_replicate, List.length_take, List.length_drop]; omega) | (simp only [fits] at *; omega) | (simp only [List.length_append, List.length_cons, List.length_nil, List.length_set, List.length_replicate, List.length_take, List.length_drop] at *; omega) | (simp; done) | decide), (by first | rfl | assumption | omega | (simp only [List.length_append, List.length_cons, List.length_nil, List.length_set, List.length_replicate, List.length_take, List.length_drop]; omega) | (simp; done)), rfl, rfl, rfl⟩ ?_
      rintro n_ _ _ ⟨i, r2, hi, hi2, hs2, hRK2, hW62, hrn2, rfl, rfl, rfl⟩
      refine RunC.seq ?_
      refine RunC.seq ?_
      refine RunC.region ?_
      refine RunR.sil hU [] 4 4 [0, 2, 3, 12, 15] [(0, .pointer (some ⟨d, 0, none⟩)), (2, .int .i64 0), (3, .int .i64 i), (12, .int .i64 i), (15, .pointer (some ⟨d, 1, none⟩))] ((True) ∧ (True) ∧ (True) ∧ (True) ∧ True) rfl (by kernel_rfl) ⟨trivial, trivial, trivial, trivial, trivial⟩ ?_
      refine RunR.step (dst := some 16) (op := .load 74 (.tmp 15)) (by kernel_rfl) (Step.load_blk hU 2 d (1) 76 [.slice A n c, .slice Wa m wc, .int .i64 lf23, .bool dn24] (.slice Wa m wc) (by kernel_rfl) (by kernel_rfl) (by kernel_rfl) (by kernel_rfl) ?_)
      refine RunR.sil hU [] 2 7 [0, 2, 3, 18] [(0, .pointer (some ⟨d, 0, none⟩)), (2, .int .i64 0), (3, .int .i64 i), (18, .bool (decide (i < ((m : Nat) : Int))))] ((True) ∧ (True) ∧ True) rfl (by kernel_rfl) ⟨trivial, trivial, trivial⟩ ?_
      refine RunR.done (by kernel_rfl) ?_
      refine kseq_n ?_
      refine RunC.condp (i < ((m : Nat) : Int)) (by kernel_rfl) (fun h9 => ?_) (fun h9 => ?_)
      · skip
        refine RunC.skip ?_
        refine kseq_n ?_
        refine RunC.seq ?_
        refine RunC.block ?_
        refine RunC.regionU hU 22 [blk d 76 [.slice A n c, .slice Wa m wc, .int .i64 lf23, .bool dn24], row 84 2 (.slice Wa m wc) m (chV ws)] [2, 3] [20, 21] (bm 22 0) (by kernel_rfl) (by kernel_rfl) (by kernel_rfl) ?_
        refine RunU.sil hU false 0 (bm 22 1) 21 (.pointer (some ⟨d, 0, none⟩)) (True) (by kernel_rfl) trivial (by kernel_rfl) (by kernel_rfl) (fun _ _ _ h => h) ?_
        refine RunU.sil hU false 1 (bm 22 3) 22 (.pointer (some ⟨d, 0, none⟩)) (True) (by kernel_rfl) trivial (by kernel_rfl) (by kernel_rfl) (fun _ _ _ h => h) ?_
        refine RunU.sil hU false 2 (bm 22 7) 23 (.pointer (some ⟨d, 0, none⟩)) (True) (by kernel_rfl) trivial (by kernel_rfl) (by kernel_rfl) (fun _ _ _ h => h) ?_
        refine RunU.read 3 (bm 22 15) 24 (.load 73 (.tmp 23)) (.slice A n c) [2, 3] (by kernel_rfl) (Reads.load_blk hU 0 d (0) 76 [.slice A n c, .slice Wa m wc, .int .i64 lf23, .bool dn24] (.slice A n c) (by kernel_rfl) (by kernel_rfl) (by kernel_rfl)) (by kernel_rfl) (by kernel_rfl) (by kernel_rfl) (by kernel_rfl) (fun _ _ _ h => h) ?_
        refine RunU.sil hU false 4 (bm 22 31) 25 (.pointer (some ⟨d, 0, none⟩)) (True) (by kernel_rfl) trivial (by kernel_rfl) (by kernel_rfl) (fun _ _ _ h => h) ?_
        refine RunU.sil hU false 5 (bm 22 63) 26 (.pointer (some ⟨d, 0, none⟩)) (True) (by kernel_rfl) trivial (by kernel_rfl) (by kernel_rfl) (fun _ _ _ h => h) ?_
        refine RunU.sil hU false 6 (bm 22 127) 27 (.pointer (some ⟨d, 1, none⟩)) (True) (by kernel_rfl) trivial (by kernel_rfl) (by kernel_rfl) (fun _ _ _ h => h) ?_
        refine RunU.read 7 (bm 22 255) 28 (.load 74 (.tmp 27)) (.slice Wa m wc) [2, 3] (by kernel_rfl) (Reads.load_blk hU 0 d (1) 76 [.slice A n c, .slice Wa m wc, .int .i64 lf23, .bool dn24] (.slice Wa m wc) (by kernel_rfl) (by kernel_rfl) (by kernel_rfl)) (by kernel_rfl) (by kernel_rfl) (by kernel_rfl) (by kernel_rfl) (fun _ _ _ h => h) ?_
        refine RunU.sil hU false 8 (bm 22 511) 29 (.int .i64 i) (True) (by kernel_rfl) trivial (by kernel_rfl) (by kernel_rfl) (fun _ _ _ h => h) ?_
        refine RunU.sil hU false 9 (bm 22 1023) 30 (.pointer (elemAt Wa i 2)) ((0 ≤ i ∧ i < ((m : Nat) : Int)) ∧ Option.isSome Wa = true) (by kernel_rfl) ⟨by omega, hWs (by omega)⟩ (by kernel_rfl) (by kernel_rfl) (fun _ _ _ h => h) ?_
        refine RunU.know (p := ∃ b o, Wa = some ⟨b, o, none⟩) (fun _ _ w hs => tells_at hs 3 rfl (tells_row _ _ _ _ _ _) (by rw [chV_len]; omega)) (fun ⟨b10, o11, hA12⟩ => ?_)
        obtain ⟨k13, Ae14, ce15, xe16, hg17, hf18, hr19, hc20, hl21⟩ := ch_at (by assumption : ChOK .u8 ws) (i := (i).toNat) (by omega)
        have hf22 := hf18; simp only [fits] at hf22
        have hw23 := wok_at hwk hg17
        refine RunU.env [0, 2, 3, 18, 21, 22, 23, 24, 25, 26, 27, 28, 29, 30] [(0, .pointer (some ⟨d, 0, none⟩)), (2, .int .i64 0), (3, .int .i64 i), (18, .bool (decide (i < ((m : Nat) : Int)))), (21, .pointer (some ⟨d, 0, none⟩)), (22, .pointer (some ⟨d, 0, none⟩)), (23, .pointer (some ⟨d, 0, none⟩)), (24, .slice A n c), (25, .pointer (some ⟨d, 0, none⟩)), (26, .pointer (some ⟨d, 0, none⟩)), (27, .pointer (some ⟨d, 1, none⟩)), (28, .slice Wa m wc), (29, .int .i64 i), (30, .pointer (elemAt Wa i 2))] (by kernel_rfl) ?_
        refine RunU.enveq [(0, .pointer (some ⟨d, 0, none⟩)), (2, .int .i64 0), (3, .int .i64 i), (18, .bool (decide (i < ((m : Nat) : Int)))), (21, .pointer (some ⟨d, 0, none⟩)), (22, .pointer (some ⟨d, 0, none⟩)), (23, .pointer (some ⟨d, 0, none⟩)), (24, .slice A n c), (25, .pointer (some ⟨d, 0, none⟩)), (26, .pointer (some ⟨d, 0, none⟩)), (27, .pointer (some ⟨d, 1, none⟩)), (28, .slice Wa m wc), (29, .int .i64 i), (30, .pointer (some ⟨b10, o11 + (i).toNat * 2, none⟩))] (by rw [elem_at hA12]) ?_
        refine RunU.sil hU false 10 (bm 22 2047) 31 (.pointer (some ⟨b10, o11 + (i).toNat * 2, none⟩)) (True) (by kernel_rfl) trivial (by kernel_rfl) (by kernel_rfl) (fun _ _ _ h => h) ?_
        refine RunU.read 11 (bm 22 4095) 32 (.load 3 (.tmp 31)) (.int .i64 k13) [2, 3] (by kernel_rfl) (Reads.load_of hU 1 (row 84 2 (.slice Wa m wc) m (chV ws)) Wa b10 o11 ((i).toNat * 2) (chV ws) (.int .i64 k13) hA12 (by kernel_rfl) (by kernel_rfl) (tells_row _ _ _ _ _ _) (loadv_ch0 (by kernel_rfl) hg17) (by rw [chV_len]; omega)) (by kernel_rfl) (by kernel_rfl) (by kernel_rfl) (by kernel_rfl) (fun _ _ _ h => h) ?_
        refine RunU.sil hU false 12 (bm 22 8191) 33 (.pointer (some ⟨d, 0, none⟩)) (True) (by kernel_rfl) trivial (by kernel_rfl) (by kernel_rfl) (fun _ _ _ h => h) ?_
        refine RunU.sil hU false 13 (bm 22 16383) 34 (.pointer (some ⟨d, 0, none⟩)) (True) (by kernel_rfl) trivial (by kernel_rfl) (by kernel_rfl) (fun _ _ _ h => h) ?_
        refine RunU.sil hU false 14 (bm 22 32767) 35 (.pointer (some ⟨d, 1, none⟩)) (True) (by kernel_rfl) trivial (by kernel_rfl) (by kernel_rfl) (fun _ _ _ h => h) ?_
        refine RunU.read 15 (bm 22 65535) 36 (.load 74 (.tmp 35)) (.slice Wa m wc) [2, 3] (by kernel_rfl) (Reads.load_blk hU 0 d (1) 76 [.slice A n c, .slice Wa m wc, .int .i64 lf23, .bool dn24] (.slice Wa m wc) (by kernel_rfl) (by kernel_rfl) (by kernel_rfl)) (by kernel_rfl) (by kernel_rfl) (by kernel_rfl) (by kernel_rfl) (fun _ _ _ h => h) ?_
        refine RunU.sil hU false 16 (bm 22 131071) 37 (.int .i64 i) (True) (by kernel_rfl) trivial (by kernel_rfl) (by kernel_rfl) (fun _ _ _ h => h) ?_
        refine RunU.sil hU false 17 (bm 22 262143) 38 (.pointer (elemAt Wa i 2)) ((0 ≤ i ∧ i < ((m : Nat) : Int)) ∧ Option.isSome Wa = true) (by kernel_rfl) ⟨by omega, hWs (by omega)⟩ (by kernel_rfl) (by kernel_rfl) (fun _ _ _ h => h) ?_
        refine RunU.env [0, 2, 3, 18, 21, 22, 23, 24, 25, 26, 27, 28, 29, 30, 31, 32, 33, 34, 35, 36, 37, 38] [(0, .pointer (some ⟨d, 0, none⟩)), (2, .int .i64 0), (3, .int .i64 i), (18, .bool (decide (i < ((m : Nat) : Int)))), (21, .pointer (some ⟨d, 0, none⟩)), (22, .pointer (some ⟨d, 0, none⟩)), (23, .pointer (some ⟨d, 0, none⟩)), (24, .slice A n c), (25, .pointer (some ⟨d, 0, none⟩)), (26, .pointer (some ⟨d, 0, none⟩)), (27, .pointer (some ⟨d, 1, none⟩)), (28, .slice Wa m wc), (29, .int .i64 i), (30, .pointer (some ⟨b10, o11 + (i).toNat * 2, none⟩)), (31, .pointer (some ⟨b10, o11 + (i).toNat * 2, none⟩)), (32, .int .i64 k13), (33, .pointer (some ⟨d, 0, none⟩)), (34, .pointer (some ⟨d, 0, none⟩)), (35, .pointer (some ⟨d, 1, none⟩)), (36, .slice Wa m wc), (37, .int .i64 i), (38, .pointer (elemAt Wa i 2))] (by kernel_rfl) ?_
        refine RunU.enveq [(0, .pointer (some ⟨d, 0, none⟩)), (2, .int .i64 0), (3, .int .i64 i), (18, .bool (decide (i < ((m : Nat) : Int)))), (21, .pointer (some ⟨d, 0, none⟩)), (22, .pointer (some ⟨d, 0, none⟩)), (23, .pointer (some ⟨d, 0, none⟩)), (24, .slice A n c), (25, .pointer (some ⟨d, 0, none⟩)), (26, .pointer (some ⟨d, 0, none⟩)), (27, .pointer (some ⟨d, 1, none⟩)), (28, .slice Wa m wc), (29, .int .i64 i), (30, .pointer (some ⟨b10, o11 + (i).toNat * 2, none⟩)), (31, .pointer (some ⟨b10, o11 + (i).toNat * 2, none⟩)), (32, .int .i64 k13), (33, .pointer (some ⟨d, 0, none⟩)), (34, .pointer (some ⟨d, 0, none⟩)), (35, .pointer (some ⟨d, 1, none⟩)), (36, .slice Wa m wc), (37, .int .i64 i), (38, .pointer (some ⟨b10, o11 + (i).toNat * 2, none⟩))] (by rw [elem_at hA12]) ?_
        refine RunU.sil hU false 18 (bm 22 524287) 39 (.pointer (some ⟨b10, o11 + (i).toNat * 2 + 1, none⟩)) (True) (by kernel_rfl) trivial (by kernel_rfl) (by kernel_rfl) (fun _ _ _ h => h) ?_
        refine RunU.read 19 (bm 22 1048575) 40 (.load 22 (.tmp 39)) (.slice Ae14 xe16.length ce15) [2, 3] (by kernel_rfl) (Reads.load_of hU 1 (row 84 2 (.slice Wa m wc) m (chV ws)) Wa b10 o11 ((i).toNat * 2 + 1) (chV ws) (.slice Ae14 xe16.length ce15) hA12 (by kernel_rfl) (by kernel_rfl) (tells_row _ _ _ _ _ _) (loadv_ch1 (by kernel_rfl) hg17) (by rw [chV_len]; omega)) (by kernel_rfl) (by kernel_rfl) (by kernel_rfl) (by kernel_rfl) (fun _ _ _ h => h) ?_
        refine RunU.sil hU false 20 (bm 22 2097151) 41 (.pointer (elemAt A k13 1)) ((0 ≤ k13 ∧ k13 < ((n : Nat) : Int)) ∧ Option.isSome A = true) (by kernel_rfl) ⟨by omega, hAr (by omega)⟩ (by kernel_rfl) (by kernel_rfl) (fun _ _ _ h => h) ?_
        refine RunU.one (dst := none) (op := .store 22 (.tmp 41) (.tmp 40)) 21 (bm 22 4194303) [] (by kernel_rfl) (by kernel_rfl) (Step.store_ro hU 0 22 n c A r2 k13 Ae14 ce15 xe16 (by kernel_rfl) (by kernel_rfl) (by kernel_rfl) rfl (by omega) ?_)
        refine ⟨.inr (by kernel_rfl), ?_⟩
        have hl24 : (r2.set (k13).toNat (Ae14, ce15, xe16)).length = r2.length := List.length_set
        refine RunU.turn ([poo .u8 (r2.set (k13).toNat (Ae14, ce15, xe16)) ws, row 22 1 (.slice A n c) n (rowsV (r2.set (k13).toNat (Ae14, ce15, xe16))), blk d 76 [.slice A n c, .slice Wa m wc, .int .i64 lf23, .bool dn24], row 84 2 (.slice Wa m wc) m (chV ws)]) (fun _ _ w hs => hs.pooSet 1 ((k13).toNat) Ae14 ce15 xe16 (InPoo.of2 hg17) rfl) ?_
        refine RunU.env [0, 2, 3] [(0, .pointer (some ⟨d, 0, none⟩)), (2, .int .i64 0), (3, .int .i64 i)] (by kernel_rfl) ?_
        refine RunU.done (by kernel_rfl) ?_
        refine kblock_n ?_
        refine kseq_n ?_
        refine RunC.region ?_
        refine RunR.sil hU [1] 3 3 [0, 2, 3] [(0, .pointer (some ⟨d, 0, none⟩)), (2, .int .i64 0), (3, .int .i64 (i + 1))] ((True) ∧ (-9223372036854775808 ≤ (i + 1) ∧ (i + 1) < 9223372036854775808) ∧ (True) ∧ True) rfl (by kernel_rfl) ⟨trivial, (by omega), trivial, trivial⟩ ?_
        refine RunR.done (by kernel_rfl) ?_
        refine kloop_n _ [0, 2, 3] [1, 0, 0, 0] [(0, .pointer (some ⟨d, 0, none⟩)), (2, .int .i64 0), (3, .int .i64 (i + 1))] [row 22 1 (.slice A n c) n (rowsV (r2.set (k13).toNat (Ae14, ce15, xe16))), poo .u8 (r2.set (k13).toNat (Ae14, ce15, xe16)) ws, blk d 76 [.slice A n c, .slice Wa m wc, .int .i64 lf23, .bool dn24], row 84 2 (.slice Wa m wc) m (chV ws)] (by kernel_rfl) (by kernel_rfl) ?_ ⟨(i + 1), (r2.set (k13).toNat (Ae14, ce15, xe16)), (by first | assumption | omega | (simp only [List.length_append, List.length_cons, List.length_nil, List.length_set, List.length_replicate, List.length_take, List.length_drop]; omega) | (simp only [fits] at *; omega) | (simp only [List.length_append, List.length_cons, List.length_nil, List.length_set, List.length_replicate, List.length_take, List.length_drop] at *; omega) | (simp; done) | decide), (by first | assumption | omega | (simp only [List.length_append, List.length_cons, List.length_nil, List.length_set, List.length_replicate, List.length_take, List.length_drop]; omega) | (simp only [fits] at *; omega) | (simp only [List.length_append, List.length_cons, List.length_nil, List.length_set, List.length_replicate, List.length_take, List.length_drop] at *; omega) | (simp; done) | decide), (by rw [cat_putP hW62 (by omega) (by omega) (by omega), hs2, show (i + 1).toNat = i.toNat + 1 by omega]; exact sync_step (dat_get (by assumption))), (by first | exact hRK2.set (by assumption) (by omega) (by omega) | assumption), (by first | exact hW62.set (by omega) | assumption), (by first | assumption | (rw [List.length_set]; assumption)), rfl, (by first | rfl | simp only [List.length_set]), (by first | rfl | simp only [List.length_set])⟩
        show ((m - (i + 1)).toNat : Nat) < ((m - i).toNat : Nat)
        omega
      · skip
        refine RunC.exit ?_
        refine kseq_e ?_
        refine kloop_e ?_
        refine kblock_e ?_
        refine kseq_n ?_
        refine RunC.seq ?_
        refine RunC.region ?_
        refine RunR.sil hU [] 3 3 [2, 44] [(2, .int .i64 0), (44, .pointer (some ⟨d, 1, none⟩))] ((True) ∧ (True) ∧ (True) ∧ True) rfl (by kernel_rfl) ⟨trivial, trivial, trivial, trivial⟩ ?_
        refine RunR.step (dst := none) (op := .store 74 (.tmp 44) (.const (.slice none 0 0))) (by kernel_rfl) (Step.store_blk hU 2 d 1 76 [.slice A n c, .slice Wa m wc, .int .i64 lf23, .bool dn24] (.slice none 0 0) (by kernel_rfl) (by kernel_rfl) (by kernel_rfl) 1 rfl [.slice none 0 0] (by kernel_rfl) rfl (by kernel_rfl) (by first | decide | simp) ?_)
        refine RunR.done (by kernel_rfl) ?_
        refine kseq_n ?_
        refine RunC.seq ?_
        refine RunC.region ?_
        refine RunR.sil hU [] 1 1 [2] [(2, .int .i64 0)] ((True) ∧ True) rfl (by kernel_rfl) ⟨trivial, trivial⟩ ?_
        refine RunR.done (by kernel_rfl) ?_
        refine kseq_n ?_
        refine RunC.ret ?_
        refine kret_rt ([poo .u8 r2 ([] : List Ch), row 84 2 (.slice none 0 0) 0 (chV ([] : List Ch)), blk d 76 [.slice A n c, .slice none 0 0, .int .i64 lf23, .bool dn24], row 22 1 (.slice A n c) n (rowsV r2), row 84 2 (.slice Wa m wc) m (chV ws)]) (fun w0 W w hs => ((hs).nil_row 84 2).pooNil 3 rfl) [.int .i64 0] [2, 2, 1, 0] [blk d 76 [.slice A n c, .slice none 0 0, .int .i64 lf23, .bool dn24], row 22 1 (.slice A n c) n (rowsV r2), row 84 2 (.slice none 0 0) 0 (chV ([] : List Ch)), poo .u8 r2 ([] : List Ch)] ⟨rfl, trivial⟩ (by kernel_rfl) rfl ⟨0, r2, none, 0, 0, ([] : List Ch), lf23, dn24, rfl, rfl, (by exact sync_end (by assumption) hp5 ((hp6).symm.trans (by assumption)) (by rw [hs2, List.take_of_length_le (by rw [dat_len]; omega)])), (by assumption), (by assumption), (by assumption), (by rfl), (by exact Nat.zero_le _), (by exact ChOK.nil _), (by exact WOK.nil _), (by intro h; omega), (by assumption)⟩

theorem dr_Crash_spec (d : Nat) (A : Option Addr) (n : Nat) (c : Nat) (rs : List Ro) (Wa : Option Addr) (m : Nat) (wc : Nat) (ws : List Ch) (lf : Int) (dn : Bool) (K : Option Addr) (kc : Nat) (ks : List Bool) (l_ks : Nat) (hRK : RowsOK .u8 rs) (hW6 : W256 rs) (hrn : rs.length = n) (hrc : n ≤ c) (hrb : n ≤ 2176) (hAr : 0 < n → Option.isSome A = true) (hml : ws.length = m) (hmb : m ≤ 1000000) (hok : ChOK .u8 ws) (hwk : WOK (256 * n) ws) (hWs : 0 < m → Option.isSome Wa = true) (hkb : ks.length ≤ 140737488351232) (hl_ks : ks.length = l_ks) :
    CallsS Try.prog 52 [.pointer (some ⟨d, 0, none⟩), .slice K l_ks kc] [blk d 76 [.slice A n c, .slice Wa m wc, .int .i64 lf, .bool dn], row 22 1 (.slice A n c) n (rowsV rs), row 84 2 (.slice Wa m wc) m (chV ws), poo .u8 rs ws, vw K (bls ks)] (fun r D => ∃ (rs2 : List Ro), r = .tuple #[] ∧ D = [blk d 76 [.slice A n c, .slice none 0 0, .int .i64 0, .bool false], row 22 1 (.slice A n c) n (rowsV rs2), row 84 2 (.slice none 0 0) 0 (chV ([] : List Ch)), poo .u8 rs2 ([] : List Ch)] ∧ (cat rs2 = crashP (cat rs) (dat ws) ks) ∧ (RowsOK .u8 rs2) ∧ (W256 rs2) ∧ (rs2.length = n)) := by
  subst hl_ks
  refine CallsS.enter hU Try.f52 _ [] 54 Try.func52 rfl (by decide) rfl rfl (by kernel_rfl) fun w0 W => ?_
  refine RunC.know (p := 0 < ks.length → Option.isSome K = true) (fun _ _ w hs => vw_some hs 4 rfl (by first | (simp [nums_length]; done) | exact dosV_len _ | exact bls_len _ | exact chV_len _)) (fun hA1 => ?_)
  refine RunC.seq ?_
  refine RunC.seq ?_
  refine RunC.region ?_
  refine RunR.sil hU [] 1 1 [0, 1, 4] [(0, .pointer (some ⟨d, 0, none⟩)), (1, .slice K ks.length kc), (4, .int .i64 0)] ((True) ∧ True) rfl (by kernel_rfl) ⟨trivial, trivial⟩ ?_
  refine RunR.done (by kernel_rfl) ?_
  refine kseq_n ?_
  refine RunC.block ?_
  refine RunC.env [0, 1, 4] [(0, .pointer (some ⟨d, 0, none⟩)), (1, .slice K ks.length kc), (4, .int .i64 0)] (by kernel_rfl) ?_
  refine RunC.only [1, 2, 0, 0, 0] [row 22 1 (.slice A n c) n (rowsV rs), poo .u8 rs ws, blk d 76 [.slice A n c, .slice Wa m wc, .int .i64 lf, .bool dn], row 84 2 (.slice Wa m wc) m (chV ws), vw K (bls ks)] (by kernel_rfl) ?_
  refine RunC.loop (σ := Nat) (fun n_ t_ D_ => ∃ (i : Int) (r2 : List Ro), (0 ≤ i) ∧ (i ≤ m) ∧ (cat r2 = crashN (cat rs) (dat ws) ks i.toNat) ∧ (RowsOK .u8 r2) ∧ (W256 r2) ∧ (r2.length = n) ∧ n_ = ((m - i).toNat : Nat) ∧ t_ = [(0, .pointer (some ⟨d, 0, none⟩)), (1, .slice K ks.length kc), (4, .int .i64 i)] ∧ D_ = [row 22 1 (.slice A n c) n (rowsV r2), poo .u8 r2 ws, blk d 76 [.slice A n c, .slice Wa m wc, .int .i64 lf, .bool dn], row 84 2 (.slice Wa m wc) m (chV ws), vw K (bls ks)]) id _ ⟨0, rs, (by first | assumption | omega | (simp only [List.length_append, List.length_cons, List.length_nil, List.length_set, List.length_replicate, List.length_take, List.length_drop]; omega) | (simp only [fits] at *; omega) | (simp only [List.length_append, List.length_cons, List.length_nil, List.length_set, List.length_replicate, List.length_take, List.length_drop] at *; omega) | (simp; done) | decide), (by first | assumption | omega | (simp only [List.length_append, List.length_cons, List.length_nil, List.length_set, List.length_replicate, List.length_take, List.length_drop]; omega) | (simp only [fits] at *; omega) | (simp only [List.length_append, List.length_cons, List.length_nil, List.length_set, List.length_replicate, List.length_take, List.length_drop] at *; omega) | (simp; done) | decide), (by rfl), (by first | assumption | omega | (simp only [List.length_append, List.length_cons, List.length_nil, List.length_set, List.length_replicate, List.length_take, List.length_drop]; omega) | (simp only [fits] at *; omega) | (simp only [List.length_append, List.length_cons, List.length_nil, List.length_set, List.length_replicate, List.length_take, List.length_drop] at *; omega) | (simp; done) | decide), (by first | assumption | omega | (simp only [List.length_append, List.length_cons, List.length_nil, List.length_set, List.length_replicate, List.length_take, List.length_drop]; omega) | (simp only [fits] at *; omega) | (simp only [List.length_append, List.length_cons, List.length_nil, List.length_set, List.length_replicate, List.length_take, List.length_drop] at *; omega) | (simp; done) | decide), (by first | rfl | assumption | omega | (simp only [List.length_append, List.length_cons, List.length_nil, List.length_set, List.length_replicate, List.length_take, List.length_drop]; omega) | (simp; done)), rfl, rfl, rfl⟩ ?_
  rintro n_ _ _ ⟨i, r2, hi, hi2, hs2, hRK2, hW62, hrn2, rfl, rfl, rfl⟩
  refine RunC.seq ?_
  refine RunC.seq ?_
  refine RunC.region ?_
  refine RunR.sil hU [] 4 4 [0, 1, 4, 5, 8] [(0, .pointer (some ⟨d, 0, none⟩)), (1, .slice K ks.length kc), (4, .int .i64 i), (5, .int .i64 i), (8, .pointer (some ⟨d, 1, none⟩))] ((True) ∧ (True) ∧ (True) ∧ (True) ∧ True) rfl (by kernel_rfl) ⟨trivial, trivial, trivial, trivial, trivial⟩ ?_
  refine RunR.step (dst := some 9) (op := .load 74 (.tmp 8)) (by kernel_rfl) (Step.load_blk hU 2 d (1) 76 [.slice A n c, .slice Wa m wc, .int .i64 lf, .bool dn] (.slice Wa m wc) (by kernel_rfl) (by kernel_rfl) (by kernel_rfl) (by kernel_rfl) ?_)
  refine RunR.sil hU [] 2 7 [0, 1, 4, 11] [(0, .pointer (some ⟨d, 0, none⟩)), (1, .slice K ks.length kc), (4, .int .i64 i), (11, .bool (decide (i < ((m : Nat) : Int))))] ((True) ∧ (True) ∧ True) rfl (by kernel_rfl) ⟨trivial, trivial, trivial⟩ ?_
  refine RunR.done (by kernel_rfl) ?_
  refine kseq_n ?_
  refine RunC.condp (i < ((m : Nat) : Int)) (by kernel_rfl) (fun h2 => ?_) (fun h2 => ?_)
  · skip
    refine RunC.skip ?_
    refine kseq_n ?_
    refine RunC.seq ?_
    refine RunC.block ?_
    refine RunC.seq ?_
    refine RunC.region ?_
    refine RunR.sil hU [] 5 5 [0, 1, 4, 18] [(0, .pointer (some ⟨d, 0, none⟩)), (1, .slice K ks.length kc), (4, .int .i64 i), (18, .bool (decide (i < ((ks.length : Nat) : Int))))] ((True) ∧ (True) ∧ (True) ∧ (True) ∧ (True) ∧ True) rfl (by kernel_rfl) ⟨trivial, trivial, trivial, trivial, trivial, trivial⟩ ?_
    refine RunR.env [0, 1, 4, 18] [(0, .pointer (some ⟨d, 0, none⟩)), (1, .slice K ks.length kc), (4, .int .i64 i), (18, .bool (decide (i < ((ks.length : Nat) : Int))))] (by kernel_rfl) ?_
    by_cases h3 : i < ((ks.length : Nat) : Int)
    · skip
      refine RunR.enveq [(0, .pointer (some ⟨d, 0, none⟩)), (1, .slice K ks.length kc), (4, .int .i64 i), (18, .bool true)] (by rw [decide_eq_true h3]; try rfl) ?_
      refine RunR.sil hU [] 3 8 [0, 1, 4, 18, 21] [(0, .pointer (some ⟨d, 0, none⟩)), (1, .slice K ks.length kc), (4, .int .i64 i), (18, .bool true), (21, .pointer (elemAt K i 1))] ((True) ∧ (True) ∧ ((0 ≤ i ∧ i < ((ks.length : Nat) : Int)) ∧ Option.isSome K = true) ∧ True) rfl (by kernel_rfl) ⟨trivial, trivial, ⟨by omega, hA1 (by omega)⟩, trivial⟩ ?_
      refine RunR.step (dst := some 22) (op := .load 4 (.tmp 21)) (by kernel_rfl) (Step.load_of hU 4 (vw K (bls ks)) K i 1 (bls ks) (.bool (ks.getD (i).toNat false)) (by kernel_rfl) (by kernel_rfl) (tells_vw _ _) (loadv_bls (by kernel_rfl) (by omega)) (by kernel_rfl) (by rw [bls_len]; omega) ?_)
      refine RunR.sil hU [] 1 10 [0, 1, 4, 23] [(0, .pointer (some ⟨d, 0, none⟩)), (1, .slice K ks.length kc), (4, .int .i64 i), (23, .bool (ks.getD (i).toNat false))] ((True) ∧ True) rfl (by kernel_rfl) ⟨trivial, trivial⟩ ?_
      refine RunR.done (by kernel_rfl) ?_
      refine kseq_n ?_
      refine RunC.cond (b := ks.getD (i).toNat false) (by kernel_rfl) (fun h4 => ?_) (fun h4 => ?_)
      · skip
        refine RunC.regionU hU 22 [blk d 76 [.slice A n c, .slice Wa m wc, .int .i64 lf, .bool dn], row 84 2 (.slice Wa m wc) m (chV ws)] [2, 3] [20, 21] (bm 22 0) (by kernel_rfl) (by kernel_rfl) (by kernel_rfl) ?_
        refine RunU.sil hU false 0 (bm 22 1) 24 (.pointer (some ⟨d, 0, none⟩)) (True) (by kernel_rfl) trivial (by kernel_rfl) (by kernel_rfl) (fun _ _ _ h => h) ?_
        refine RunU.sil hU false 1 (bm 22 3) 25 (.pointer (some ⟨d, 0, none⟩)) (True) (by kernel_rfl) trivial (by kernel_rfl) (by kernel_rfl) (fun _ _ _ h => h) ?_
        refine RunU.sil hU false 2 (bm 22 7) 26 (.pointer (some ⟨d, 0, none⟩)) (True) (by kernel_rfl) trivial (by kernel_rfl) (by kernel_rfl) (fun _ _ _ h => h) ?_
        refine RunU.read 3 (bm 22 15) 27 (.load 73 (.tmp 26)) (.slice A n c) [2, 3] (by kernel_rfl) (Reads.load_blk hU 0 d (0) 76 [.slice A n c, .slice Wa m wc, .int .i64 lf, .bool dn] (.slice A n c) (by kernel_rfl) (by kernel_rfl) (by kernel_rfl)) (by kernel_rfl) (by kernel_rfl) (by kernel_rfl) (by kernel_rfl) (fun _ _ _ h => h) ?_
        refine RunU.sil hU false 4 (bm 22 31) 28 (.pointer (some ⟨d, 0, none⟩)) (True) (by kernel_rfl) trivial (by kernel_rfl) (by kernel_rfl) (fun _ _ _ h => h) ?_
        refine RunU.sil hU false 5 (bm 22 63) 29 (.pointer (some ⟨d, 0, none⟩)) (True) (by kernel_rfl) trivial (by kernel_rfl) (by kernel_rfl) (fun _ _ _ h => h) ?_
        refine RunU.sil hU false 6 (bm 22 127) 30 (.pointer (some ⟨d, 1, none⟩)) (True) (by kernel_rfl) trivial (by kernel_rfl) (by kernel_rfl) (fun _ _ _ h => h) ?_
        refine RunU.read 7 (bm 22 255) 31 (.load 74 (.tmp 30)) (.slice Wa m wc) [2, 3] (by kernel_rfl) (Reads.load_blk hU 0 d (1) 76 [.slice A n c, .slice Wa m wc, .int .i64 lf, .bool dn] (.slice Wa m wc) (by kernel_rfl) (by kernel_rfl) (by kernel_rfl)) (by kernel_rfl) (by kernel_rfl) (by kernel_rfl) (by kernel_rfl) (fun _ _ _ h => h) ?_
        refine RunU.sil hU false 8 (bm 22 511) 32 (.int .i64 i) (True) (by kernel_rfl) trivial (by kernel_rfl) (by kernel_rfl) (fun _ _ _ h => h) ?_
        refine RunU.sil hU false 9 (bm 22 1023) 33 (.pointer (elemAt Wa i 2)) ((0 ≤ i ∧ i < ((m : Nat) : Int)) ∧ Option.isSome Wa = true) (by kernel_rfl) ⟨by omega, hWs (by omega)⟩ (by kernel_rfl) (by kernel_rfl) (fun _ _ _ h => h) ?_
        refine RunU.know (p := ∃ b o, Wa = some ⟨b, o, none⟩) (fun _ _ w hs => tells_at hs 3 rfl (tells_row _ _ _ _ _ _) (by rw [chV_len]; omega)) (fun ⟨b5, o6, hA7⟩ => ?_)
        obtain ⟨k8, Ae9, ce10, xe11, hg12, hf13, hr14, hc15, hl16⟩ := ch_at (by assumption : ChOK .u8 ws) (i := (i).toNat) (by omega)
        have hf17 := hf13; simp only [fits] at hf17
        have hw18 := wok_at hwk hg12
        refine RunU.env [0, 1, 4, 23, 24, 25, 26, 27, 28, 29, 30, 31, 32, 33] [(0, .pointer (some ⟨d, 0, none⟩)), (1, .slice K ks.length kc), (4, .int .i64 i), (23, .bool (ks.getD (i).toNat false)), (24, .pointer (some ⟨d, 0, none⟩)), (25, .pointer (some ⟨d, 0, none⟩)), (26, .pointer (some ⟨d, 0, none⟩)), (27, .slice A n c), (28, .pointer (some ⟨d, 0, none⟩)), (29, .pointer (some ⟨d, 0, none⟩)), (30, .pointer (some ⟨d, 1, none⟩)), (31, .slice Wa m wc), (32, .int .i64 i), (33, .pointer (elemAt Wa i 2))] (by kernel_rfl) ?_
        refine RunU.enveq [(0, .pointer (some ⟨d, 0, none⟩)), (1, .slice K ks.length kc), (4, .int .i64 i), (23, .bool (ks.getD (i).toNat false)), (24, .pointer (some ⟨d, 0, none⟩)), (25, .pointer (some ⟨d, 0, none⟩)), (26, .pointer (some ⟨d, 0, none⟩)), (27, .slice A n c), (28, .pointer (some ⟨d, 0, none⟩)), (29, .pointer (some ⟨d, 0, none⟩)), (30, .pointer (some ⟨d, 1, none⟩)), (31, .slice Wa m wc), (32, .int .i64 i), (33, .pointer (some ⟨b5, o6 + (i).toNat * 2, none⟩))] (by rw [elem_at hA7]) ?_
        refine RunU.sil hU false 10 (bm 22 2047) 34 (.pointer (some ⟨b5, o6 + (i).toNat * 2, none⟩)) (True) (by kernel_rfl) trivial (by kernel_rfl) (by kernel_rfl) (fun _ _ _ h => h) ?_
        refine RunU.read 11 (bm 22 4095) 35 (.load 3 (.tmp 34)) (.int .i64 k8) [2, 3] (by kernel_rfl) (Reads.load_of hU 1 (row 84 2 (.slice Wa m wc) m (chV ws)) Wa b5 o6 ((i).toNat * 2) (chV ws) (.int .i64 k8) hA7 (by kernel_rfl) (by kernel_rfl) (tells_row _ _ _ _ _ _) (loadv_ch0 (by kernel_rfl) hg12) (by rw [chV_len]; omega)) (by kernel_rfl) (by kernel_rfl) (by kernel_rfl) (by kernel_rfl) (fun _ _ _ h => h) ?_
        refine RunU.sil hU false 12 (bm 22 8191) 36 (.pointer (some ⟨d, 0, none⟩)) (True) (by kernel_rfl) trivial (by kernel_rfl) (by kernel_rfl) (fun _ _ _ h => h) ?_
        refine RunU.sil hU false 13 (bm 22 16383) 37 (.pointer (some ⟨d, 0, none⟩)) (True) (by kernel_rfl) trivial (by kernel_rfl) (by kernel_rfl) (fun _ _ _ h => h) ?_
        refine RunU.sil hU false 14 (bm 22 32767) 38 (.pointer (some ⟨d, 1, none⟩)) (True) (by kernel_rfl) trivial (by kernel_rfl) (by kernel_rfl) (fun _ _ _ h => h) ?_
        refine RunU.read 15 (bm 22 65535) 39 (.load 74 (.tmp 38)) (.slice Wa m wc) [2, 3] (by kernel_rfl) (Reads.load_blk hU 0 d (1) 76 [.slice A n c, .slice Wa m wc, .int .i64 lf, .bool dn] (.slice Wa m wc) (by kernel_rfl) (by kernel_rfl) (by kernel_rfl)) (by kernel_rfl) (by kernel_rfl) (by kernel_rfl) (by kernel_rfl) (fun _ _ _ h => h) ?_
        refine RunU.sil hU false 16 (bm 22 131071) 40 (.int .i64 i) (True) (by kernel_rfl) trivial (by kernel_rfl) (by kernel_rfl) (fun _ _ _ h => h) ?_
        refine RunU.sil hU false 17 (bm 22 262143) 41 (.pointer (elemAt Wa i 2)) ((0 ≤ i ∧ i < ((m : Nat) : Int)) ∧ Option.isSome Wa = true) (by kernel_rfl) ⟨by omega, hWs (by omega)⟩ (by kernel_rfl) (by kernel_rfl) (fun _ _ _ h => h) ?_
        refine RunU.env [0, 1, 4, 23, 24, 25, 26, 27, 28, 29, 30, 31, 32, 33, 34, 35, 36, 37, 38, 39, 40, 41] [(0, .pointer (some ⟨d, 0, none⟩)), (1, .slice K ks.length kc), (4, .int .i64 i), (23, .bool (ks.getD (i).toNat false)), (24, .pointer (some ⟨d, 0, none⟩)), (25, .pointer (some ⟨d, 0, none⟩)), (26, .pointer (some ⟨d, 0, none⟩)), (27, .slice A n c), (28, .pointer (some ⟨d, 0, none⟩)), (29, .pointer (some ⟨d, 0, none⟩)), (30, .pointer (some ⟨d, 1, none⟩)), (31, .slice Wa m wc), (32, .int .i64 i), (33, .pointer (some ⟨b5, o6 + (i).toNat * 2, none⟩)), (34, .pointer (some ⟨b5, o6 + (i).toNat * 2, none⟩)), (35, .int .i64 k8), (36, .pointer (some ⟨d, 0, none⟩)), (37, .pointer (some ⟨d, 0, none⟩)), (38, .pointer (some ⟨d, 1, none⟩)), (39, .slice Wa m wc), (40, .int .i64 i), (41, .pointer (elemAt Wa i 2))] (by kernel_rfl) ?_
        refine RunU.enveq [(0, .pointer (some ⟨d, 0, none⟩)), (1, .slice K ks.length kc), (4, .int .i64 i), (23, .bool (ks.getD (i).toNat false)), (24, .pointer (some ⟨d, 0, none⟩)), (25, .pointer (some ⟨d, 0, none⟩)), (26, .pointer (some ⟨d, 0, none⟩)), (27, .slice A n c), (28, .pointer (some ⟨d, 0, none⟩)), (29, .pointer (some ⟨d, 0, none⟩)), (30, .pointer (some ⟨d, 1, none⟩)), (31, .slice Wa m wc), (32, .int .i64 i), (33, .pointer (some ⟨b5, o6 + (i).toNat * 2, none⟩)), (34, .pointer (some ⟨b5, o6 + (i).toNat * 2, none⟩)), (35, .int .i64 k8), (36, .pointer (some ⟨d, 0, none⟩)), (37, .pointer (some ⟨d, 0, none⟩)), (38, .pointer (some ⟨d, 1, none⟩)), (39, .slice Wa m wc), (40, .int .i64 i), (41, .pointer (some ⟨b5, o6 + (i).toNat * 2, none⟩))] (by rw [elem_at hA7]) ?_
        refine RunU.sil hU false 18 (bm 22 524287) 42 (.pointer (some ⟨b5, o6 + (i).toNat * 2 + 1, none⟩)) (True) (by kernel_rfl) trivial (by kernel_rfl) (by kernel_rfl) (fun _ _ _ h => h) ?_
        refine RunU.read 19 (bm 22 1048575) 43 (.load 22 (.tmp 42)) (.slice Ae9 xe11.length ce10) [2, 3] (by kernel_rfl) (Reads.load_of hU 1 (row 84 2 (.slice Wa m wc) m (chV ws)) Wa b5 o6 ((i).toNat * 2 + 1) (chV ws) (.slice Ae9 xe11.length ce10) hA7 (by kernel_rfl) (by kernel_rfl) (tells_row _ _ _ _ _ _) (loadv_ch1 (by kernel_rfl) hg12) (by rw [chV_len]; omega)) (by kernel_rfl) (by kernel_rfl) (by kernel_rfl) (by kernel_rfl) (fun _ _ _ h => h) ?_
        refine RunU.sil hU false 20 (bm 22 2097151) 44 (.pointer (elemAt A k8 1)) ((0 ≤ k8 ∧ k8 < ((n : Nat) : Int)) ∧ Option.isSome A = true) (by kernel_rfl) ⟨by omega, hAr (by omega)⟩ (by kernel_rfl) (by kernel_rfl) (fun _ _ _ h => h) ?_
        refine RunU.one (dst := none) (op := .store 22 (.tmp 44) (.tmp 43)) 21 (bm 22 4194303) [] (by kernel_rfl) (by kernel_rfl) (Step.store_ro hU 0 22 n c A r2 k8 Ae9 ce10 xe11 (by kernel_rfl) (by kernel_rfl) (by kernel_rfl) rfl (by omega) ?_)
        refine ⟨.inr (by kernel_rfl), ?_⟩
        have hl19 : (r2.set (k8).toNat (Ae9, ce10, xe11)).length = r2.length := List.length_set
        refine RunU.turn ([poo .u8 (r2.set (k8).toNat (Ae9, ce10, xe11)) ws, row 22 1 (.slice A n c) n (rowsV (r2.set (k8).toNat (Ae9, ce10, xe11))), blk d 76 [.slice A n c, .slice Wa m wc, .int .i64 lf, .bool dn], row 84 2 (.slice Wa m wc) m (chV ws), vw K (bls ks)]) (fun _ _ w hs => hs.pooSet 1 ((k8).toNat) Ae9 ce10 xe11 (InPoo.of2 hg12) rfl) ?_
        refine RunU.env [0, 1, 4] [(0, .pointer (some ⟨d, 0, none⟩)), (1, .slice K ks.length kc), (4, .int .i64 i)] (by kernel_rfl) ?_
        refine RunU.done (by kernel_rfl) ?_
        refine kblock_n ?_
        refine kseq_n ?_
        refine RunC.region ?_
        refine RunR.sil hU [1] 3 3 [0, 1, 4] [(0, .pointer (some ⟨d, 0, none⟩)), (1, .slice K ks.length kc), (4, .int .i64 (i + 1))] ((True) ∧ (-9223372036854775808 ≤ (i + 1) ∧ (i + 1) < 9223372036854775808) ∧ (True) ∧ True) rfl (by kernel_rfl) ⟨trivial, (by omega), trivial, trivial⟩ ?_
        refine RunR.done (by kernel_rfl) ?_
        refine kloop_n _ [0, 1, 4] [1, 0, 0, 0, 0] [(0, .pointer (some ⟨d, 0, none⟩)), (1, .slice K ks.length kc), (4, .int .i64 (i + 1))] [row 22 1 (.slice A n c) n (rowsV (r2.set (k8).toNat (Ae9, ce10, xe11))), poo .u8 (r2.set (k8).toNat (Ae9, ce10, xe11)) ws, blk d 76 [.slice A n c, .slice Wa m wc, .int .i64 lf, .bool dn], row 84 2 (.slice Wa m wc) m (chV ws), vw K (bls ks)] (by kernel_rfl) (by kernel_rfl) ?_ ⟨(i + 1), (r2.set (k8).toNat (Ae9, ce10, xe11)), (by first | assumption | omega | (simp only [List.length_append, List.length_cons, List.length_nil, List.length_set, List.length_replicate, List.length_take, List.length_drop]; omega) | (simp only [fits] at *; omega) | (simp only [List.length_append, List.length_cons, List.length_nil, List.length_set, List.length_replicate, List.length_take, List.length_drop] at *; omega) | (simp; done) | decide), (by first | assumption | omega | (simp only [List.length_append, List.length_cons, List.length_nil, List.length_set, List.length_replicate, List.length_take, List.length_drop]; omega) | (simp only [fits] at *; omega) | (simp only [List.length_append, List.length_cons, List.length_nil, List.length_set, List.length_replicate, List.length_take, List.length_drop] at *; omega) | (simp; done) | decide), (by rw [show (i + 1).toNat = i.toNat + 1 by omega]; first | (rw [crash_yes (dat_get (by assumption)) (by assumption), cat_putP hW62 (by omega) (by omega) (by omega), hs2]) | (rw [crash_no (by first | omega | (intro h; simp_all))]; exact hs2)), (by first | exact hRK2.set (by assumption) (by omega) (by omega) | assumption), (by first | exact hW62.set (by omega) | assumption), (by first | assumption | (rw [List.length_set]; assumption)), rfl, (by first | rfl | simp only [List.length_set]), (by first | rfl | simp only [List.length_set])⟩
        show ((m - (i + 1)).toNat : Nat) < ((m - i).toNat : Nat)
        omega
      · skip
        refine RunC.skip ?_
        refine kblock_n ?_
        refine kseq_n ?_
        refine RunC.region ?_
        refine RunR.sil hU [1] 3 3 [0, 1, 4] [(0, .pointer (some ⟨d, 0, none⟩)), (1, .slice K ks.length kc), (4, .int .i64 (i + 1))] ((True) ∧ (-9223372036854775808 ≤ (i + 1) ∧ (i + 1) < 9223372036854775808) ∧ (True) ∧ True) rfl (by kernel_rfl) ⟨trivial, (by omega), trivial, trivial⟩ ?_
        refine RunR.done (by kernel_rfl) ?_
        refine kloop_n _ [0, 1, 4] [0, 0, 0, 0, 0] [(0, .pointer (some ⟨d, 0, none⟩)), (1, .slice K ks.length kc), (4, .int .i64 (i + 1))] [row 22 1 (.slice A n c) n (rowsV r2), poo .u8 r2 ws, blk d 76 [.slice A n c, .slice Wa m wc, .int .i64 lf, .bool dn], row 84 2 (.slice Wa m wc) m (chV ws), vw K (bls ks)] (by kernel_rfl) (by kernel_rfl) ?_ ⟨(i + 1), r2, (by first | assumption | omega | (simp only [List.length_append, List.length_cons, List.length_nil, List.length_set, List.length_replicate, List.length_take, List.length_drop]; omega) | (simp only [fits] at *; omega) | (simp only [List.length_append, List.length_cons, List.length_nil, List.length_set, List.length_replicate, List.length_take, List.length_drop] at *; omega) | (simp; done) | decide), (by first | assumption | omega | (simp only [List.length_append, List.length_cons, List.length_nil, List.length_set, List.length_replicate, List.length_take, List.length_drop]; omega) | (simp only [fits] at *; omega) | (simp only [List.length_append, List.length_cons, List.length_nil, List.length_set, List.length_replicate, List.length_take, List.length_drop] at *; omega) | (simp; done) | decide), (by rw [show (i + 1).toNat = i.toNat + 1 by omega]; first | (rw [crash_yes (dat_get (by assumption)) (by assumption), cat_putP hW62 (by omega) (by omega) (by omega), hs2]) | (rw [crash_no (by first | omega | (intro h; simp_all))]; exact hs2)), (by first | exact hRK2.set (by assumption) (by omega) (by omega) | assumption), (by first | exact hW62.set (by omega) | assumption), (by first | assumption | (rw [List.length_set]; assumption)), rfl, (by first | rfl | simp only [List.length_set]), (by first | rfl | simp only [List.length_set])⟩
        show ((m - (i + 1)).toNat : Nat) < ((m - i).toNat : Nat)
        omega
    · skip
      refine RunR.enveq [(0, .pointer (some ⟨d, 0, none⟩)), (1, .slice K ks.length kc), (4, .int .i64 i), (18, .bool false)] (by rw [decide_eq_false h3]; try rfl) ?_
      refine RunR.sil hU [] 5 10 [0, 1, 4, 23] [(0, .pointer (some ⟨d, 0, none⟩)), (1, .slice K ks.length kc), (4, .int .i64 i), (23, .bool false)] ((True) ∧ True) rfl (by kernel_rfl) ⟨trivial, trivial⟩ ?_
      refine RunR.done (by kernel_rfl) ?_
      refine kseq_n ?_
      refine RunC.cond (b := false) (by kernel_rfl) (fun h => by cases h) (fun _ => ?_)
      refine RunC.skip ?_
      refine kblock_n ?_
      refine kseq_n ?_
      refine RunC.region ?_
      refine RunR.sil hU [1] 3 3 [0, 1, 4] [(0, .pointer (some ⟨d, 0, none⟩)), (1, .slice K ks.length kc), (4, .int .i64 (i + 1))] ((True) ∧ (-9223372036854775808 ≤ (i + 1) ∧ (i + 1) < 9223372036854775808) ∧ (True) ∧ True) rfl (by kernel_rfl) ⟨trivial, (by omega), trivial, trivial⟩ ?_
      refine RunR.done (by kernel_rfl) ?_
      refine kloop_n _ [0, 1, 4] [0, 0, 0, 0, 0] [(0, .pointer (some ⟨d, 0, none⟩)), (1, .slice K ks.length kc), (4, .int .i64 (i + 1))] [row 22 1 (.slice A n c) n (rowsV r2), poo .u8 r2 ws, blk d 76 [.slice A n c, .slice Wa m wc, .int .i64 lf, .bool dn], row 84 2 (.slice Wa m wc) m (chV ws), vw K (bls ks)] (by kernel_rfl) (by kernel_rfl) ?_ ⟨(i + 1), r2, (by first | assumption | omega | (simp only [List.length_append, List.length_cons, List.length_nil, List.length_set, List.length_replicate, List.length_take, List.length_drop]; omega) | (simp only [fits] at *; omega) | (simp only [List.length_append, List.length_cons, List.length_nil, List.length_set, List.length_replicate, List.length_take, List.length_drop] at *; omega) | (simp; done) | decide), (by first | assumption | omega | (simp only [List.length_append, List.length_cons, List.length_nil, List.length_set, List.length_replicate, List.length_take, List.length_drop]; omega) | (simp only [fits] at *; omega) | (simp only [List.length_append, List.length_cons, List.length_nil, List.length_set, List.length_replicate, List.length_take, List.length_drop] at *; omega) | (simp; done) | decide), (by rw [show (i + 1).toNat = i.toNat + 1 by omega]; first | (rw [crash_yes (dat_get (by assumption)) (by assumption), cat_putP hW62 (by omega) (by omega) (by omega), hs2]) | (rw [crash_no (by first | omega | (intro h; simp_all))]; exact hs2)), (by first | exact hRK2.set (by assumption) (by omega) (by omega) | assumption), (by first | exact hW62.set (by omega) | assumption), (by first | assumption | (rw [List.length_set]; assumption)), rfl, (by first | rfl | simp only [List.length_set]), (by first | rfl | simp only [List.length_set])⟩
      show ((m - (i + 1)).toNat : Nat) < ((m - i).toNat : Nat)
      omega
  · skip
    refine RunC.exit ?_
    refine kseq_e ?_
    refine kloop_e ?_
    refine kblock_e ?_
    refine kseq_n ?_
    refine RunC.seq ?_
    refine RunC.region ?_
    refine RunR.sil hU [] 3 3 [0, 47] [(0, .pointer (some ⟨d, 0, none⟩)), (47, .pointer (some ⟨d, 1, none⟩))] ((True) ∧ (True) ∧ (True) ∧ True) rfl (by kernel_rfl) ⟨trivial, trivial, trivial, trivial⟩ ?_
    refine RunR.step (dst := none) (op := .store 74 (.tmp 47) (.const (.slice none 0 0))) (by kernel_rfl) (Step.store_blk hU 2 d 1 76 [.slice A n c, .slice Wa m wc, .int .i64 lf, .bool dn] (.slice none 0 0) (by kernel_rfl) (by kernel_rfl) (by kernel_rfl) 1 rfl [.slice none 0 0] (by kernel_rfl) rfl (by kernel_rfl) (by first | decide | simp) ?_)
    refine RunR.done (by kernel_rfl) ?_
    refine kseq_n ?_
    refine RunC.seq ?_
    refine RunC.region ?_
    refine RunR.sil hU [] 3 3 [0, 50] [(0, .pointer (some ⟨d, 0, none⟩)), (50, .pointer (some ⟨d, 2, none⟩))] ((True) ∧ (True) ∧ (True) ∧ True) rfl (by kernel_rfl) ⟨trivial, trivial, trivial, trivial⟩ ?_
    refine RunR.step (dst := none) (op := .store 3 (.tmp 50) (.const (.int .i64 0))) (by kernel_rfl) (Step.store_blk hU 0 d 2 76 [.slice A n c, .slice none 0 0, .int .i64 lf, .bool dn] (.int .i64 0) (by kernel_rfl) (by kernel_rfl) (by kernel_rfl) 1 rfl [.int .i64 0] (by kernel_rfl) rfl (by kernel_rfl) (by first | decide | simp) ?_)
    refine RunR.done (by kernel_rfl) ?_
    refine kseq_n ?_
    refine RunC.region ?_
    refine RunR.sil hU [] 3 3 [53] [(53, .pointer (some ⟨d, 3, none⟩))] ((True) ∧ (True) ∧ (True) ∧ True) rfl (by kernel_rfl) ⟨trivial, trivial, trivial, trivial⟩ ?_
    refine RunR.step (dst := none) (op := .store 4 (.tmp 53) (.const (.bool false))) (by kernel_rfl) (Step.store_blk hU 0 d 3 76 [.slice A n c, .slice none 0 0, .int .i64 0, .bool dn] (.bool false) (by kernel_rfl) (by kernel_rfl) (by kernel_rfl) 1 rfl [.bool false] (by kernel_rfl) rfl (by kernel_rfl) (by first | decide | simp) ?_)
    refine RunR.done (by kernel_rfl) ?_
    refine kret_nt ([poo .u8 r2 ([] : List Ch), row 84 2 (.slice none 0 0) 0 (chV ([] : List Ch)), blk d 76 [.slice A n c, .slice none 0 0, .int .i64 0, .bool false], row 22 1 (.slice A n c) n (rowsV r2), row 84 2 (.slice Wa m wc) m (chV ws), vw K (bls ks)]) (fun w0 W w hs => ((hs).nil_row 84 2).pooNil 3 rfl) [] [2, 2, 1, 0] [blk d 76 [.slice A n c, .slice none 0 0, .int .i64 0, .bool false], row 22 1 (.slice A n c) n (rowsV r2), row 84 2 (.slice none 0 0) 0 (chV ([] : List Ch)), poo .u8 r2 ([] : List Ch)] trivial (by kernel_rfl) rfl ⟨r2, rfl, rfl, (by rw [hs2, crashP, show (dat ws).length = i.toNat by rw [dat_len]; omega]), (by assumption), (by assumption), (by assumption)⟩

theorem dr_Tamper_spec (d : Nat) (A : Option Addr) (n : Nat) (c : Nat) (rs : List Ro) (Wa : Option Addr) (m : Nat) (wc : Nat) (ws : List Ch) (lf : Int) (dn : Bool) (x : Int) (A8 : Option Addr) (c8 : Nat) (bs : List Int) (l_bs : Nat) (hRK : RowsOK .u8 rs) (hW6 : W256 rs) (hrn : rs.length = n) (hrc : n ≤ c) (hrb : n ≤ 2176) (hAr : 0 < n → Option.isSome A = true) (hx : fits .i64 x) (hIbs : In .u8 bs) (hCbs : bs.length ≤ c8) (hBbs : bs.length ≤ 140737488351232) (hl_bs : bs.length = l_bs) :
    CallsS Try.prog 53 [.pointer (some ⟨d, 0, none⟩), .int .i64 x, .slice A8 l_bs c8] [blk d 76 [.slice A n c, .slice Wa m wc, .int .i64 lf, .bool dn], row 22 1 (.slice A n c) n (rowsV rs), poo .u8 rs ws, vw A8 (nums .u8 bs)] (fun r D => ∃ (rs2 : List Ro), r = .tuple #[] ∧ D = [blk d 76 [.slice A n c, .slice Wa m wc, .int .i64 lf, .bool dn], row 22 1 (.slice A n c) n (rowsV rs2), poo .u8 rs2 ws] ∧ (cat rs2 = tamperN (cat rs) x bs bs.length) ∧ (RowsOK .u8 rs2) ∧ (W256 rs2) ∧ (rs2.length = n)) := by
  subst hl_bs
  refine CallsS.enter hU Try.f53 _ [] 71 Try.func53 rfl (by decide) rfl rfl (by kernel_rfl) fun w0 W => ?_
  have hx2 := hx; simp only [fits] at hx2; have hcl := cat_len hW6
  refine RunC.know (p := 0 < bs.length → Option.isSome A8 = true) (fun _ _ w hs => vw_some hs 3 rfl (by first | (simp [nums_length]; done) | exact dosV_len _ | exact bls_len _ | exact chV_len _)) (fun hA1 => ?_)
  refine RunC.seq ?_
  refine RunC.region ?_
  refine RunR.sil hU [] 3 3 [0, 1, 2, 12] [(0, .pointer (some ⟨d, 0, none⟩)), (1, .int .i64 x), (2, .slice A8 bs.length c8), (12, .pointer (some ⟨d, 0, none⟩))] ((True) ∧ (True) ∧ (True) ∧ True) rfl (by kernel_rfl) ⟨trivial, trivial, trivial, trivial⟩ ?_
  refine RunR.step (dst := some 13) (op := .load 73 (.tmp 12)) (by kernel_rfl) (Step.load_blk hU 0 d (0) 76 [.slice A n c, .slice Wa m wc, .int .i64 lf, .bool dn] (.slice A n c) (by kernel_rfl) (by kernel_rfl) (by kernel_rfl) (by kernel_rfl) ?_)
  refine RunR.sil hU [5] 3 7 [0, 1, 2, 6] [(0, .pointer (some ⟨d, 0, none⟩)), (1, .int .i64 x), (2, .slice A8 bs.length c8), (6, .int .i64 (256 * ((n : Nat) : Int)))] ((True) ∧ (-9223372036854775808 ≤ (256 * ((n : Nat) : Int)) ∧ (256 * ((n : Nat) : Int)) < 9223372036854775808) ∧ (True) ∧ True) rfl (by kernel_rfl) ⟨trivial, (by omega), trivial, trivial⟩ ?_
  refine RunR.done (by kernel_rfl) ?_
  refine kseq_n ?_
  refine RunC.seq ?_
  refine RunC.region ?_
  refine RunR.sil hU [] 1 1 [0, 1, 2, 6, 7] [(0, .pointer (some ⟨d, 0, none⟩)), (1, .int .i64 x), (2, .slice A8 bs.length c8), (6, .int .i64 (256 * ((n : Nat) : Int))), (7, .int .i64 0)] ((True) ∧ True) rfl (by kernel_rfl) ⟨trivial, trivial⟩ ?_
  refine RunR.done (by kernel_rfl) ?_
  refine kseq_n ?_
  refine RunC.block ?_
  refine RunC.env [0, 1, 2, 6, 7] [(0, .pointer (some ⟨d, 0, none⟩)), (1, .int .i64 x), (2, .slice A8 bs.length c8), (6, .int .i64 (256 * ((n : Nat) : Int))), (7, .int .i64 0)] (by kernel_rfl) ?_
  refine RunC.only [1, 1, 0, 0] [row 22 1 (.slice A n c) n (rowsV rs), poo .u8 rs ws, blk d 76 [.slice A n c, .slice Wa m wc, .int .i64 lf, .bool dn], vw A8 (nums .u8 bs)] (by kernel_rfl) ?_
  refine RunC.loop (σ := Nat) (fun n_ t_ D_ => ∃ (i : Int) (r2 : List Ro), (0 ≤ i) ∧ (i ≤ bs.length) ∧ (cat r2 = tamperN (cat rs) x bs i.toNat) ∧ (RowsOK .u8 r2) ∧ (W256 r2) ∧ (r2.length = n) ∧ n_ = ((bs.length - i).toNat : Nat) ∧ t_ = [(0, .pointer (some ⟨d, 0, none⟩)), (1, .int .i64 x), (2, .slice A8 bs.length c8), (6, .int .i64 (256 * ((n : Nat) : Int))), (7, .int .i64 i)] ∧ D_ = [row 22 1 (.slice A n c) n (rowsV r2), poo .u8 r2 ws, blk d 76 [.slice A n c, .slice Wa m wc, .int .i64 lf, .bool dn], vw A8 (nums .u8 bs)]) id _ ⟨0, rs, (by first | assumption | omega | (simp only [List.length_append, List.length_cons, List.length_nil, List.length_set, List.length_replicate, List.length_take, List.length_drop]; omega) | (simp only [fits] at *; omega) | (simp only [List.length_append, List.length_cons, List.length_nil, List.length_set, List.length_replicate, List.length_take, List.length_drop] at *; omega) | (simp; done) | decide), (by first | assumption | omega | (simp only [List.length_append, List.length_cons, List.length_nil, List.length_set, List.length_replicate, List.length_take, List.length_drop]; omega) | (simp only [fits] at *; omega) | (simp only [List.length_append, List.length_cons, List.length_nil, List.length_set, List.length_replicate, List.length_take, List.length_drop] at *; omega) | (simp; done) | decide), (by rfl), (by first | assumption | omega | (simp only [List.length_append, List.length_cons, List.length_nil, List.length_set, List.length_replicate, List.length_take, List.length_drop]; omega) | (simp only [fits] at *; omega) | (simp only [List.length_append, List.length_cons, List.length_nil, List.length_set, List.length_replicate, List.length_take, List.length_drop] at *; omega) | (simp; done) | decide), (by first | assumption | omega | (simp only [List.length_append, List.length_cons, List.length_nil, List.length_set, List.length_replicate, List.length_take, List.length_drop]; omega) | (simp only [fits] at *; omega) | (simp only [List.length_append, List.length_cons, List.length_nil, List.length_set, List.length_replicate, List.length_take, List.length_drop] at *; omega) | (simp; done) | decide), (by first | rfl | assumption | omega | (simp only [List.length_append, List.length_cons, List.length_nil, List.length_set, List.length_replicate, List.length_take, List.length_drop]; omega) | (simp; done)), rfl, rfl, rfl⟩ ?_
  rintro n_ _ _ ⟨i, r2, hi, hi2, hs2, hRK2, hW62, hrn2, rfl, rfl, rfl⟩
  refine RunC.seq ?_
  refine RunC.seq ?_
  refine RunC.region ?_
  refine RunR.sil hU [] 4 4 [0, 1, 2, 6, 7, 19] [(0, .pointer (some ⟨d, 0, none⟩)), (1, .int .i64 x), (2, .slice A8 bs.length c8), (6, .int .i64 (256 * ((n : Nat) : Int))), (7, .int .i64 i), (19, .bool (decide (i < ((bs.length : Nat) : Int))))] ((True) ∧ (True) ∧ (True) ∧ (True) ∧ True) rfl (by kernel_rfl) ⟨trivial, trivial, trivial, trivial, trivial⟩ ?_
  refine RunR.done (by kernel_rfl) ?_
  refine kseq_n ?_
  refine RunC.condp (i < ((bs.length : Nat) : Int)) (by kernel_rfl) (fun h2 => ?_) (fun h2 => ?_)
  · skip
    refine RunC.skip ?_
    refine kseq_n ?_
    refine RunC.seq ?_
    refine RunC.block ?_
    refine RunC.seq ?_
    refine RunC.seq ?_
    refine RunC.region ?_
    refine RunR.sil hU [] 3 3 [0, 1, 2, 6, 7, 24] [(0, .pointer (some ⟨d, 0, none⟩)), (1, .int .i64 x), (2, .slice A8 bs.length c8), (6, .int .i64 (256 * ((n : Nat) : Int))), (7, .int .i64 i), (24, .bool (decide (x < 0)))] ((True) ∧ (True) ∧ (True) ∧ True) rfl (by kernel_rfl) ⟨trivial, trivial, trivial, trivial⟩ ?_
    refine RunR.env [0, 1, 2, 6, 7, 24] [(0, .pointer (some ⟨d, 0, none⟩)), (1, .int .i64 x), (2, .slice A8 bs.length c8), (6, .int .i64 (256 * ((n : Nat) : Int))), (7, .int .i64 i), (24, .bool (decide (x < 0)))] (by kernel_rfl) ?_
    by_cases h3 : x < 0
    · skip
      refine RunR.enveq [(0, .pointer (some ⟨d, 0, none⟩)), (1, .int .i64 x), (2, .slice A8 bs.length c8), (6, .int .i64 (256 * ((n : Nat) : Int))), (7, .int .i64 i), (24, .bool true)] (by rw [decide_eq_true h3]; try rfl) ?_
      refine RunR.sil hU [5] 6 9 [0, 1, 2, 6, 7, 30] [(0, .pointer (some ⟨d, 0, none⟩)), (1, .int .i64 x), (2, .slice A8 bs.length c8), (6, .int .i64 (256 * ((n : Nat) : Int))), (7, .int .i64 i), (30, .bool (decide (x < (0 - i))))] ((True) ∧ (True) ∧ (-9223372036854775808 ≤ (0 - i) ∧ (0 - i) < 9223372036854775808) ∧ (True) ∧ (True) ∧ (True) ∧ True) rfl (by kernel_rfl) ⟨trivial, trivial, (by omega), trivial, trivial, trivial, trivial⟩ ?_
      refine RunR.env [0, 1, 2, 6, 7, 30] [(0, .pointer (some ⟨d, 0, none⟩)), (1, .int .i64 x), (2, .slice A8 bs.length c8), (6, .int .i64 (256 * ((n : Nat) : Int))), (7, .int .i64 i), (30, .bool (decide (x < (0 - i))))] (by kernel_rfl) ?_
      by_cases h4 : x < (0 - i)
      · skip
        refine RunR.enveq [(0, .pointer (some ⟨d, 0, none⟩)), (1, .int .i64 x), (2, .slice A8 bs.length c8), (6, .int .i64 (256 * ((n : Nat) : Int))), (7, .int .i64 i), (30, .bool true)] (by rw [decide_eq_true h4]; try rfl) ?_
        refine RunR.sil hU [] 11 20 [0, 1, 2, 6, 7, 41] [(0, .pointer (some ⟨d, 0, none⟩)), (1, .int .i64 x), (2, .slice A8 bs.length c8), (6, .int .i64 (256 * ((n : Nat) : Int))), (7, .int .i64 i), (41, .bool true)] ((True) ∧ (True) ∧ (True) ∧ True) rfl (by kernel_rfl) ⟨trivial, trivial, trivial, trivial⟩ ?_
        refine RunR.done (by kernel_rfl) ?_
        refine kseq_n ?_
        refine RunC.cond (b := true) (by kernel_rfl) (fun _ => ?_) (fun h => by cases h)
        refine RunC.exit ?_
        refine kseq_e ?_
        refine kblock_e ?_
        refine kseq_n ?_
        refine RunC.region ?_
        refine RunR.sil hU [1] 3 3 [0, 1, 2, 6, 7] [(0, .pointer (some ⟨d, 0, none⟩)), (1, .int .i64 x), (2, .slice A8 bs.length c8), (6, .int .i64 (256 * ((n : Nat) : Int))), (7, .int .i64 (i + 1))] ((True) ∧ (-9223372036854775808 ≤ (i + 1) ∧ (i + 1) < 9223372036854775808) ∧ (True) ∧ True) rfl (by kernel_rfl) ⟨trivial, (by omega), trivial, trivial⟩ ?_
        refine RunR.done (by kernel_rfl) ?_
        refine kloop_n _ [0, 1, 2, 6, 7] [0, 0, 0, 0] [(0, .pointer (some ⟨d, 0, none⟩)), (1, .int .i64 x), (2, .slice A8 bs.length c8), (6, .int .i64 (256 * ((n : Nat) : Int))), (7, .int .i64 (i + 1))] [row 22 1 (.slice A n c) n (rowsV r2), poo .u8 r2 ws, blk d 76 [.slice A n c, .slice Wa m wc, .int .i64 lf, .bool dn], vw A8 (nums .u8 bs)] (by kernel_rfl) (by kernel_rfl) ?_ ⟨(i + 1), r2, (by first | assumption | omega | (simp only [List.length_append, List.length_cons, List.length_nil, List.length_set, List.length_replicate, List.length_take, List.length_drop]; omega) | (simp only [fits] at *; omega) | (simp only [List.length_append, List.length_cons, List.length_nil, List.length_set, List.length_replicate, List.length_take, List.length_drop] at *; omega) | (simp; done) | decide), (by first | assumption | omega | (simp only [List.length_append, List.length_cons, List.length_nil, List.length_set, List.length_replicate, List.length_take, List.length_drop]; omega) | (simp only [fits] at *; omega) | (simp only [List.length_append, List.length_cons, List.length_nil, List.length_set, List.length_replicate, List.length_take, List.length_drop] at *; omega) | (simp; done) | decide), (by rw [show (i + 1).toNat = i.toNat + 1 by omega, tamperN]; first | (rw [if_neg (by omega)]; exact hs2) | (rw [if_pos (by omega), ← hs2, show x + ((i.toNat : Nat) : Int) = x + i by omega]; exact tamper_rowI hW62 (by omega) (by omega) (by assumption))), (by first | exact hRK2.setByte (by assumption) (by omega) (by omega) | assumption), (by first | exact hW62.set (by rw [List.length_set]; omega) | assumption), (by first | assumption | (rw [List.length_set]; assumption)), rfl, (by first | rfl | simp only [List.length_set]), (by first | rfl | simp only [List.length_set])⟩
        show ((bs.length - (i + 1)).toNat : Nat) < ((bs.length - i).toNat : Nat)
        omega
      · skip
        refine RunR.enveq [(0, .pointer (some ⟨d, 0, none⟩)), (1, .int .i64 x), (2, .slice A8 bs.length c8), (6, .int .i64 (256 * ((n : Nat) : Int))), (7, .int .i64 i), (30, .bool false)] (by rw [decide_eq_false h4]; try rfl) ?_
        refine RunR.sil hU [] 5 14 [0, 1, 2, 6, 7, 35] [(0, .pointer (some ⟨d, 0, none⟩)), (1, .int .i64 x), (2, .slice A8 bs.length c8), (6, .int .i64 (256 * ((n : Nat) : Int))), (7, .int .i64 i), (35, .bool (decide (x ≥ (256 * ((n : Nat) : Int)))))] ((True) ∧ (True) ∧ (True) ∧ (True) ∧ (True) ∧ True) rfl (by kernel_rfl) ⟨trivial, trivial, trivial, trivial, trivial, trivial⟩ ?_
        refine RunR.env [0, 1, 2, 6, 7, 35] [(0, .pointer (some ⟨d, 0, none⟩)), (1, .int .i64 x), (2, .slice A8 bs.length c8), (6, .int .i64 (256 * ((n : Nat) : Int))), (7, .int .i64 i), (35, .bool (decide (x ≥ (256 * ((n : Nat) : Int)))))] (by kernel_rfl) ?_
        by_cases h5 : x ≥ (256 * ((n : Nat) : Int))
        · skip
          refine RunR.enveq [(0, .pointer (some ⟨d, 0, none⟩)), (1, .int .i64 x), (2, .slice A8 bs.length c8), (6, .int .i64 (256 * ((n : Nat) : Int))), (7, .int .i64 i), (35, .bool true)] (by rw [decide_eq_true h5]; try rfl) ?_
          refine RunR.sil hU [] 6 20 [0, 1, 2, 6, 7, 41] [(0, .pointer (some ⟨d, 0, none⟩)), (1, .int .i64 x), (2, .slice A8 bs.length c8), (6, .int .i64 (256 * ((n : Nat) : Int))), (7, .int .i64 i), (41, .bool true)] ((True) ∧ True) rfl (by kernel_rfl) ⟨trivial, trivial⟩ ?_
          refine RunR.done (by kernel_rfl) ?_
          refine kseq_n ?_
          refine RunC.cond (b := true) (by kernel_rfl) (fun _ => ?_) (fun h => by cases h)
          refine RunC.exit ?_
          refine kseq_e ?_
          refine kblock_e ?_
          refine kseq_n ?_
          refine RunC.region ?_
          refine RunR.sil hU [1] 3 3 [0, 1, 2, 6, 7] [(0, .pointer (some ⟨d, 0, none⟩)), (1, .int .i64 x), (2, .slice A8 bs.length c8), (6, .int .i64 (256 * ((n : Nat) : Int))), (7, .int .i64 (i + 1))] ((True) ∧ (-9223372036854775808 ≤ (i + 1) ∧ (i + 1) < 9223372036854775808) ∧ (True) ∧ True) rfl (by kernel_rfl) ⟨trivial, (by omega), trivial, trivial⟩ ?_
          refine RunR.done (by kernel_rfl) ?_
          refine kloop_n _ [0, 1, 2, 6, 7] [0, 0, 0, 0] [(0, .pointer (some ⟨d, 0, none⟩)), (1, .int .i64 x), (2, .slice A8 bs.length c8), (6, .int .i64 (256 * ((n : Nat) : Int))), (7, .int .i64 (i + 1))] [row 22 1 (.slice A n c) n (rowsV r2), poo .u8 r2 ws, blk d 76 [.slice A n c, .slice Wa m wc, .int .i64 lf, .bool dn], vw A8 (nums .u8 bs)] (by kernel_rfl) (by kernel_rfl) ?_ ⟨(i + 1), r2, (by first | assumption | omega | (simp only [List.length_append, List.length_cons, List.length_nil, List.length_set, List.length_replicate, List.length_take, List.length_drop]; omega) | (simp only [fits] at *; omega) | (simp only [List.length_append, List.length_cons, List.length_nil, List.length_set, List.length_replicate, List.length_take, List.length_drop] at *; omega) | (simp; done) | decide), (by first | assumption | omega | (simp only [List.length_append, List.length_cons, List.length_nil, List.length_set, List.length_replicate, List.length_take, List.length_drop]; omega) | (simp only [fits] at *; omega) | (simp only [List.length_append, List.length_cons, List.length_nil, List.length_set, List.length_replicate, List.length_take, List.length_drop] at *; omega) | (simp; done) | decide), (by rw [show (i + 1).toNat = i.toNat + 1 by omega, tamperN]; first | (rw [if_neg (by omega)]; exact hs2) | (rw [if_pos (by omega), ← hs2, show x + ((i.toNat : Nat) : Int) = x + i by omega]; exact tamper_rowI hW62 (by omega) (by omega) (by assumption))), (by first | exact hRK2.setByte (by assumption) (by omega) (by omega) | assumption), (by first | exact hW62.set (by rw [List.length_set]; omega) | assumption), (by first | assumption | (rw [List.length_set]; assumption)), rfl, (by first | rfl | simp only [List.length_set]), (by first | rfl | simp only [List.length_set])⟩
          show ((bs.length - (i + 1)).toNat : Nat) < ((bs.length - i).toNat : Nat)
          omega
        · skip
          refine RunR.enveq [(0, .pointer (some ⟨d, 0, none⟩)), (1, .int .i64 x), (2, .slice A8 bs.length c8), (6, .int .i64 (256 * ((n : Nat) : Int))), (7, .int .i64 i), (35, .bool false)] (by rw [decide_eq_false h5]; try rfl) ?_
          refine RunR.sil hU [16] 6 20 [0, 1, 2, 6, 7, 41] [(0, .pointer (some ⟨d, 0, none⟩)), (1, .int .i64 x), (2, .slice A8 bs.length c8), (6, .int .i64 (256 * ((n : Nat) : Int))), (7, .int .i64 i), (41, .bool (decide ((x + i) ≥ (256 * ((n : Nat) : Int)))))] ((True) ∧ (True) ∧ (-9223372036854775808 ≤ (x + i) ∧ (x + i) < 9223372036854775808) ∧ (True) ∧ (True) ∧ (True) ∧ True) rfl (by kernel_rfl) ⟨trivial, trivial, (by omega), trivial, trivial, trivial, trivial⟩ ?_
          refine RunR.done (by kernel_rfl) ?_
          refine kseq_n ?_
          refine RunC.condp ((x + i) ≥ (256 * ((n : Nat) : Int))) (by kernel_rfl) (fun h6 => ?_) (fun h6 => ?_)
          · skip
            refine RunC.exit ?_
            refine kseq_e ?_
            refine kblock_e ?_
            refine kseq_n ?_
            refine RunC.region ?_
            refine RunR.sil hU [1] 3 3 [0, 1, 2, 6, 7] [(0, .pointer (some ⟨d, 0, none⟩)), (1, .int .i64 x), (2, .slice A8 bs.length c8), (6, .int .i64 (256 * ((n : Nat) : Int))), (7, .int .i64 (i + 1))] ((True) ∧ (-9223372036854775808 ≤ (i + 1) ∧ (i + 1) < 9223372036854775808) ∧ (True) ∧ True) rfl (by kernel_rfl) ⟨trivial, (by omega), trivial, trivial⟩ ?_
            refine RunR.done (by kernel_rfl) ?_
            refine kloop_n _ [0, 1, 2, 6, 7] [0, 0, 0, 0] [(0, .pointer (some ⟨d, 0, none⟩)), (1, .int .i64 x), (2, .slice A8 bs.length c8), (6, .int .i64 (256 * ((n : Nat) : Int))), (7, .int .i64 (i + 1))] [row 22 1 (.slice A n c) n (rowsV r2), poo .u8 r2 ws, blk d 76 [.slice A n c, .slice Wa m wc, .int .i64 lf, .bool dn], vw A8 (nums .u8 bs)] (by kernel_rfl) (by kernel_rfl) ?_ ⟨(i + 1), r2, (by first | assumption | omega | (simp only [List.length_append, List.length_cons, List.length_nil, List.length_set, List.length_replicate, List.length_take, List.length_drop]; omega) | (simp only [fits] at *; omega) | (simp only [List.length_append, List.length_cons, List.length_nil, List.length_set, List.length_replicate, List.length_take, List.length_drop] at *; omega) | (simp; done) | decide), (by first | assumption | omega | (simp only [List.length_append, List.length_cons, List.length_nil, List.length_set, List.length_replicate, List.length_take, List.length_drop]; omega) | (simp only [fits] at *; omega) | (simp only [List.length_append, List.length_cons, List.length_nil, List.length_set, List.length_replicate, List.length_take, List.length_drop] at *; omega) | (simp; done) | decide), (by rw [show (i + 1).toNat = i.toNat + 1 by omega, tamperN]; first | (rw [if_neg (by omega)]; exact hs2) | (rw [if_pos (by omega), ← hs2, show x + ((i.toNat : Nat) : Int) = x + i by omega]; exact tamper_rowI hW62 (by omega) (by omega) (by assumption))), (by first | exact hRK2.setByte (by assumption) (by omega) (by omega) | assumption), (by first | exact hW62.set (by rw [List.length_set]; omega) | assumption), (by first | assumption | (rw [List.length_set]; assumption)), rfl, (by first | rfl | simp only [List.length_set]), (by first | rfl | simp only [List.length_set])⟩
            show ((bs.length - (i + 1)).toNat : Nat) < ((bs.length - i).toNat : Nat)
            omega
          · skip
            refine RunC.skip ?_
            refine kseq_n ?_
            refine RunC.seq ?_
            refine RunC.region ?_
            refine RunR.sil hU [2] 4 4 [0, 1, 2, 6, 7, 8] [(0, .pointer (some ⟨d, 0, none⟩)), (1, .int .i64 x), (2, .slice A8 bs.length c8), (6, .int .i64 (256 * ((n : Nat) : Int))), (7, .int .i64 i), (8, .int .i64 (x + i))] ((True) ∧ (True) ∧ (-9223372036854775808 ≤ (x + i) ∧ (x + i) < 9223372036854775808) ∧ (True) ∧ True) rfl (by kernel_rfl) ⟨trivial, trivial, (by omega), trivial, trivial⟩ ?_
            refine RunR.done (by kernel_rfl) ?_
            refine kseq_n ?_
            refine RunC.seq ?_
            refine RunC.region ?_
            refine RunR.step (dst := some 45) (op := .buildSlice 22 0 #[]) (by kernel_rfl) (Step.lit_nums hU 5 1 .u8 (.int .u8 0) ([] : List Int) rfl rfl (by kernel_rfl) rfl rfl (by kernel_rfl) (fun b7 => ?_))
            have hl8 : (([] : List Int)).length = 0 := rfl
            refine RunR.sil hU [] 3 4 [0, 1, 2, 6, 7, 8, 45, 48] [(0, .pointer (some ⟨d, 0, none⟩)), (1, .int .i64 x), (2, .slice A8 bs.length c8), (6, .int .i64 (256 * ((n : Nat) : Int))), (7, .int .i64 i), (8, .int .i64 (x + i)), (45, .slice (some ⟨b7, 0, none⟩) 0 0), (48, .pointer (some ⟨d, 0, none⟩))] ((True) ∧ (True) ∧ (True) ∧ True) rfl (by kernel_rfl) ⟨trivial, trivial, trivial, trivial⟩ ?_
            refine RunR.step (dst := some 49) (op := .load 73 (.tmp 48)) (by kernel_rfl) (Step.load_blk hU 3 d (0) 76 [.slice A n c, .slice Wa m wc, .int .i64 lf, .bool dn] (.slice A n c) (by kernel_rfl) (by kernel_rfl) (by kernel_rfl) (by kernel_rfl) ?_)
            refine RunR.sil hU [6] 3 8 [0, 1, 2, 6, 7, 8, 45, 52] [(0, .pointer (some ⟨d, 0, none⟩)), (1, .int .i64 x), (2, .slice A8 bs.length c8), (6, .int .i64 (256 * ((n : Nat) : Int))), (7, .int .i64 i), (8, .int .i64 (x + i)), (45, .slice (some ⟨b7, 0, none⟩) 0 0), (52, .pointer (elemAt A ((x + i) / (256 : Int)) 1))] ((True) ∧ (0 ≤ (x + i) ∧ 0 < (256 : Int) ∧ -9223372036854775808 ≤ ((x + i) / (256 : Int)) ∧ ((x + i) / (256 : Int)) < 9223372036854775808) ∧ ((0 ≤ ((x + i) / (256 : Int)) ∧ ((x + i) / (256 : Int)) < ((n : Nat) : Int)) ∧ Option.isSome A = true) ∧ True) rfl (by kernel_rfl) ⟨trivial, (by omega), ⟨by omega, hAr (by omega)⟩, trivial⟩ ?_
            obtain ⟨Ae9, ce10, xe11, hg12, hr13, hc14, hl15⟩ := row_at (by assumption : RowsOK .u8 r2) (i := ((x + i) / (256 : Int)).toNat) (by omega)
            have hw16 := W256.at (by assumption) hg12
            refine RunR.step (dst := some 53) (op := .load 22 (.tmp 52)) (by kernel_rfl) (Step.load_of hU 1 (row 22 1 (.slice A n c) n (rowsV r2)) A ((x + i) / (256 : Int)) 1 (rowsV r2) (.slice Ae9 xe11.length ce10) (by kernel_rfl) (by kernel_rfl) (tells_row _ _ _ _ _ _) (loadv_row (by kernel_rfl) hg12 (Nat.mul_one _)) (by kernel_rfl) (by rw [rowsV_len]; omega) ?_)
            have hl21 : (([] : List Int)).length = 0 := rfl
            refine RunR.step (dst := some 54) (op := .call { callee := .builtin .append, args := #[.tmp 45, .tmp 53], argTypes := #[22, 22] }) (by kernel_rfl) (Step.append_nums hU 5 1 (.int .u8 0) .u8 0 2 (some ⟨b7, 0, none⟩) 0 0 ([] : List Int) Ae9 xe11.length ce10 (poo .u8 r2 ws) xe11 rfl rfl rfl (by kernel_rfl) (by kernel_rfl) (by kernel_rfl) (by kernel_rfl) (tells_poo1 hg12) (by first | rfl | omega | (simp; omega)) (by first | rfl | omega | (simp; omega)) (by omega) (by omega) (by kernel_rfl) (fun Aq17 cq18 hc19 hA20 => ?_))
            simp only [List.nil_append] at hc19 hA20
            refine RunR.sil hU [] 1 11 [0, 1, 2, 6, 7, 8, 9] [(0, .pointer (some ⟨d, 0, none⟩)), (1, .int .i64 x), (2, .slice A8 bs.length c8), (6, .int .i64 (256 * ((n : Nat) : Int))), (7, .int .i64 i), (8, .int .i64 (x + i)), (9, .slice Aq17 xe11.length cq18)] ((True) ∧ True) rfl (by kernel_rfl) ⟨trivial, trivial⟩ ?_
            refine RunR.done (by kernel_rfl) ?_
            refine kseq_n ?_
            refine RunC.seq ?_
            refine RunC.region ?_
            refine RunR.sil hU [2] 6 6 [0, 1, 2, 6, 7, 8, 9, 55, 57, 60] [(0, .pointer (some ⟨d, 0, none⟩)), (1, .int .i64 x), (2, .slice A8 bs.length c8), (6, .int .i64 (256 * ((n : Nat) : Int))), (7, .int .i64 i), (8, .int .i64 (x + i)), (9, .slice Aq17 xe11.length cq18), (55, .slice Aq17 xe11.length cq18), (57, .int .i64 ((x + i) % (256 : Int))), (60, .pointer (elemAt A8 i 1))] ((True) ∧ (True) ∧ (0 ≤ (x + i) ∧ 0 < (256 : Int)) ∧ (True) ∧ (True) ∧ ((0 ≤ i ∧ i < ((bs.length : Nat) : Int)) ∧ Option.isSome A8 = true) ∧ True) rfl (by kernel_rfl) ⟨trivial, trivial, (by omega), trivial, trivial, ⟨by omega, hA1 (by omega)⟩, trivial⟩ ?_
            refine RunR.step (dst := some 61) (op := .load 5 (.tmp 60)) (by kernel_rfl) (Step.load_num hU 4 (vw A8 (nums .u8 bs)) A8 i .u8 bs rfl (by kernel_rfl) (by kernel_rfl) (tells_vw _ _) (by kernel_rfl) (by omega) ?_)
            have hb22 : 0 ≤ bs.getD ((i).toNat) 0 ∧ bs.getD ((i).toNat) 0 < 256 := hIbs.at_ _
            refine RunR.sil hU [] 1 8 [0, 1, 2, 6, 7, 8, 9, 61, 62] [(0, .pointer (some ⟨d, 0, none⟩)), (1, .int .i64 x), (2, .slice A8 bs.length c8), (6, .int .i64 (256 * ((n : Nat) : Int))), (7, .int .i64 i), (8, .int .i64 (x + i)), (9, .slice Aq17 xe11.length cq18), (61, .int .u8 (bs.getD (i).toNat 0)), (62, .pointer (elemAt Aq17 ((x + i) % (256 : Int)) 1))] (((0 ≤ ((x + i) % (256 : Int)) ∧ ((x + i) % (256 : Int)) < ((xe11.length : Nat) : Int)) ∧ Option.isSome Aq17 = true) ∧ True) rfl (by kernel_rfl) ⟨⟨by omega, hA20 (by omega)⟩, trivial⟩ ?_
            refine RunR.step (dst := none) (op := .store 5 (.tmp 62) (.tmp 61)) (by kernel_rfl) (Step.store_num hU 0 5 xe11.length cq18 Aq17 .u8 xe11 ((x + i) % (256 : Int)) (bs.getD (i).toNat 0) (by kernel_rfl) (by kernel_rfl) (by kernel_rfl) rfl (by omega) ?_)
            have hl23 : (xe11.set ((x + i) % (256 : Int)).toNat (bs.getD (i).toNat 0)).length = xe11.length := List.length_set
            refine RunR.done (by kernel_rfl) ?_
            refine kseq_n ?_
            refine RunC.region ?_
            refine RunR.sil hU [] 3 3 [0, 1, 2, 6, 7, 8, 9, 65] [(0, .pointer (some ⟨d, 0, none⟩)), (1, .int .i64 x), (2, .slice A8 bs.length c8), (6, .int .i64 (256 * ((n : Nat) : Int))), (7, .int .i64 i), (8, .int .i64 (x + i)), (9, .slice Aq17 xe11.length cq18), (65, .pointer (some ⟨d, 0, none⟩))] ((True) ∧ (True) ∧ (True) ∧ True) rfl (by kernel_rfl) ⟨trivial, trivial, trivial, trivial⟩ ?_
            refine RunR.step (dst := some 66) (op := .load 73 (.tmp 65)) (by kernel_rfl) (Step.load_blk hU 3 d (0) 76 [.slice A n c, .slice Wa m wc, .int .i64 lf, .bool dn] (.slice A n c) (by kernel_rfl) (by kernel_rfl) (by kernel_rfl) (by kernel_rfl) ?_)
            refine RunR.sil hU [5] 4 8 [0, 1, 2, 6, 7, 69, 70] [(0, .pointer (some ⟨d, 0, none⟩)), (1, .int .i64 x), (2, .slice A8 bs.length c8), (6, .int .i64 (256 * ((n : Nat) : Int))), (7, .int .i64 i), (69, .slice Aq17 xe11.length cq18), (70, .pointer (elemAt A ((x + i) / (256 : Int)) 1))] ((True) ∧ (0 ≤ (x + i) ∧ 0 < (256 : Int) ∧ -9223372036854775808 ≤ ((x + i) / (256 : Int)) ∧ ((x + i) / (256 : Int)) < 9223372036854775808) ∧ (True) ∧ ((0 ≤ ((x + i) / (256 : Int)) ∧ ((x + i) / (256 : Int)) < ((n : Nat) : Int)) ∧ Option.isSome A = true) ∧ True) rfl (by kernel_rfl) ⟨trivial, (by omega), trivial, ⟨by omega, hAr (by omega)⟩, trivial⟩ ?_
            refine RunR.env [0, 1, 2, 6, 7, 69, 70] [(0, .pointer (some ⟨d, 0, none⟩)), (1, .int .i64 x), (2, .slice A8 bs.length c8), (6, .int .i64 (256 * ((n : Nat) : Int))), (7, .int .i64 i), (69, .slice Aq17 xe11.length cq18), (70, .pointer (elemAt A ((x + i) / (256 : Int)) 1))] (by kernel_rfl) ?_
            refine RunR.enveq [(0, .pointer (some ⟨d, 0, none⟩)), (1, .int .i64 x), (2, .slice A8 bs.length c8), (6, .int .i64 (256 * ((n : Nat) : Int))), (7, .int .i64 i), (69, .slice Aq17 ((xe11.set ((x + i) % (256 : Int)).toNat (bs.getD (i).toNat 0)).length) cq18), (70, .pointer (elemAt A ((x + i) / (256 : Int)) 1))] (by simp only [List.length_set]) ?_
            refine RunR.step (dst := none) (op := .store 22 (.tmp 70) (.tmp 69)) (by kernel_rfl) (Step.store_ro hU 1 22 n c A r2 ((x + i) / (256 : Int)) Aq17 cq18 (xe11.set ((x + i) % (256 : Int)).toNat (bs.getD (i).toNat 0)) (by kernel_rfl) (by kernel_rfl) (by kernel_rfl) rfl (by omega) ?_)
            have hl24 : (r2.set ((x + i) / (256 : Int)).toNat (Aq17, cq18, xe11.set ((x + i) % (256 : Int)).toNat (bs.getD (i).toNat 0))).length = r2.length := List.length_set
            refine RunR.turn ([poo .u8 (r2.set ((x + i) / (256 : Int)).toNat (Aq17, cq18, xe11.set ((x + i) % (256 : Int)).toNat (bs.getD (i).toNat 0))) ws, row 22 1 (.slice A n c) n (rowsV (r2.set ((x + i) / (256 : Int)).toNat (Aq17, cq18, xe11.set ((x + i) % (256 : Int)).toNat (bs.getD (i).toNat 0)))), blk d 76 [.slice A n c, .slice Wa m wc, .int .i64 lf, .bool dn], vw A8 (nums .u8 bs)]) (fun _ _ w hs => SAT.pooSetNew (((x + i) / (256 : Int)).toNat) Aq17 cq18 (xe11.set ((x + i) % (256 : Int)).toNat (bs.getD (i).toNat 0)) rfl (tells_row _ _ _ _ _ _) (hs.pulls2 [1, 1] ([row 5 1 (.slice Aq17 xe11.length cq18) xe11.length (nums .u8 (xe11.set ((x + i) % (256 : Int)).toNat (bs.getD (i).toNat 0))), poo .u8 r2 ws, row 22 1 (.slice A n c) n (rowsV (r2.set ((x + i) / (256 : Int)).toNat (Aq17, cq18, xe11.set ((x + i) % (256 : Int)).toNat (bs.getD (i).toNat 0)))), blk d 76 [.slice A n c, .slice Wa m wc, .int .i64 lf, .bool dn], vw A8 (nums .u8 bs)]) (by kernel_rfl))) ?_
            refine RunR.done (by kernel_rfl) ?_
            refine kblock_n ?_
            refine kseq_n ?_
            refine RunC.region ?_
            refine RunR.sil hU [1] 3 3 [0, 1, 2, 6, 7] [(0, .pointer (some ⟨d, 0, none⟩)), (1, .int .i64 x), (2, .slice A8 bs.length c8), (6, .int .i64 (256 * ((n : Nat) : Int))), (7, .int .i64 (i + 1))] ((True) ∧ (-9223372036854775808 ≤ (i + 1) ∧ (i + 1) < 9223372036854775808) ∧ (True) ∧ True) rfl (by kernel_rfl) ⟨trivial, (by omega), trivial, trivial⟩ ?_
            refine RunR.done (by kernel_rfl) ?_
            refine kloop_n _ [0, 1, 2, 6, 7] [1, 0, 0, 0] [(0, .pointer (some ⟨d, 0, none⟩)), (1, .int .i64 x), (2, .slice A8 bs.length c8), (6, .int .i64 (256 * ((n : Nat) : Int))), (7, .int .i64 (i + 1))] [row 22 1 (.slice A n c) n (rowsV (r2.set ((x + i) / (256 : Int)).toNat (Aq17, cq18, xe11.set ((x + i) % (256 : Int)).toNat (bs.getD (i).toNat 0)))), poo .u8 (r2.set ((x + i) / (256 : Int)).toNat (Aq17, cq18, xe11.set ((x + i) % (256 : Int)).toNat (bs.getD (i).toNat 0))) ws, blk d 76 [.slice A n c, .slice Wa m wc, .int .i64 lf, .bool dn], vw A8 (nums .u8 bs)] (by kernel_rfl) (by kernel_rfl) ?_ ⟨(i + 1), (r2.set ((x + i) / (256 : Int)).toNat (Aq17, cq18, xe11.set ((x + i) % (256 : Int)).toNat (bs.getD (i).toNat 0))), (by first | assumption | omega | (simp only [List.length_append, List.length_cons, List.length_nil, List.length_set, List.length_replicate, List.length_take, List.length_drop]; omega) | (simp only [fits] at *; omega) | (simp only [List.length_append, List.length_cons, List.length_nil, List.length_set, List.length_replicate, List.length_take, List.length_drop] at *; omega) | (simp; done) | decide), (by first | assumption | omega | (simp only [List.length_append, List.length_cons, List.length_nil, List.length_set, List.length_replicate, List.length_take, List.length_drop]; omega) | (simp only [fits] at *; omega) | (simp only [List.length_append, List.length_cons, List.length_nil, List.length_set, List.length_replicate, List.length_take, List.length_drop] at *; omega) | (simp; done) | decide), (by rw [show (i + 1).toNat = i.toNat + 1 by omega, tamperN]; first | (rw [if_neg (by omega)]; exact hs2) | (rw [if_pos (by omega), ← hs2, show x + ((i.toNat : Nat) : Int) = x + i by omega]; exact tamper_rowI hW62 (by omega) (by omega) (by assumption))), (by first | exact hRK2.setByte (by assumption) (by omega) (by omega) | assumption), (by first | exact hW62.set (by rw [List.length_set]; omega) | assumption), (by first | assumption | (rw [List.length_set]; assumption)), rfl, (by first | rfl | simp only [List.length_set]), (by first | rfl | simp only [List.length_set])⟩
            show ((bs.length - (i + 1)).toNat : Nat) < ((bs.length - i).toNat : Nat)
            omega
    · skip
      refine RunR.enveq [(0, .pointer (some ⟨d, 0, none⟩)), (1, .int .i64 x), (2, .slice A8 bs.length c8), (6, .int .i64 (256 * ((n : Nat) : Int))), (7, .int .i64 i), (24, .bool false)] (by rw [decide_eq_false h3]; try rfl) ?_
      refine RunR.sil hU [] 11 14 [0, 1, 2, 6, 7, 35] [(0, .pointer (some ⟨d, 0, none⟩)), (1, .int .i64 x), (2, .slice A8 bs.length c8), (6, .int .i64 (256 * ((n : Nat) : Int))), (7, .int .i64 i), (35, .bool (decide (x ≥ (256 * ((n : Nat) : Int)))))] ((True) ∧ (True) ∧ (True) ∧ (True) ∧ (True) ∧ (True) ∧ (True) ∧ True) rfl (by kernel_rfl) ⟨trivial, trivial, trivial, trivial, trivial, trivial, trivial, trivial⟩ ?_
      refine RunR.env [0, 1, 2, 6, 7, 35] [(0, .pointer (some ⟨d, 0, none⟩)), (1, .int .i64 x), (2, .slice A8 bs.length c8), (6, .int .i64 (256 * ((n : Nat) : Int))), (7, .int .i64 i), (35, .bool (decide (x ≥ (256 * ((n : Nat) : Int)))))] (by kernel_rfl) ?_
      by_cases h25 : x ≥ (256 * ((n : Nat) : Int))
      · skip
        refine RunR.enveq [(0, .pointer (some ⟨d, 0, none⟩)), (1, .int .i64 x), (2, .slice A8 bs.length c8), (6, .int .i64 (256 * ((n : Nat) : Int))), (7, .int .i64 i), (35, .bool true)] (by rw [decide_eq_true h25]; try rfl) ?_
        refine RunR.sil hU [] 6 20 [0, 1, 2, 6, 7, 41] [(0, .pointer (some ⟨d, 0, none⟩)), (1, .int .i64 x), (2, .slice A8 bs.length c8), (6, .int .i64 (256 * ((n : Nat) : Int))), (7, .int .i64 i), (41, .bool true)] ((True) ∧ True) rfl (by kernel_rfl) ⟨trivial, trivial⟩ ?_
        refine RunR.done (by kernel_rfl) ?_
        refine kseq_n ?_
        refine RunC.cond (b := true) (by kernel_rfl) (fun _ => ?_) (fun h => by cases h)
        refine RunC.exit ?_
        refine kseq_e ?_
        refine kblock_e ?_
        refine kseq_n ?_
        refine RunC.region ?_
        refine RunR.sil hU [1] 3 3 [0, 1, 2, 6, 7] [(0, .pointer (some ⟨d, 0, none⟩)), (1, .int .i64 x), (2, .slice A8 bs.length c8), (6, .int .i64 (256 * ((n : Nat) : Int))), (7, .int .i64 (i + 1))] ((True) ∧ (-9223372036854775808 ≤ (i + 1) ∧ (i + 1) < 9223372036854775808) ∧ (True) ∧ True) rfl (by kernel_rfl) ⟨trivial, (by omega), trivial, trivial⟩ ?_
        refine RunR.done (by kernel_rfl) ?_
        refine kloop_n _ [0, 1, 2, 6, 7] [0, 0, 0, 0] [(0, .pointer (some ⟨d, 0, none⟩)), (1, .int .i64 x), (2, .slice A8 bs.length c8), (6, .int .i64 (256 * ((n : Nat) : Int))), (7, .int .i64 (i + 1))] [row 22 1 (.slice A n c) n (rowsV r2), poo .u8 r2 ws, blk d 76 [.slice A n c, .slice Wa m wc, .int .i64 lf, .bool dn], vw A8 (nums .u8 bs)] (by kernel_rfl) (by kernel_rfl) ?_ ⟨(i + 1), r2, (by first | assumption | omega | (simp only [List.length_append, List.length_cons, List.length_nil, List.length_set, List.length_replicate, List.length_take, List.length_drop]; omega) | (simp only [fits] at *; omega) | (simp only [List.length_append, List.length_cons, List.length_nil, List.length_set, List.length_replicate, List.length_take, List.length_drop] at *; omega) | (simp; done) | decide), (by first | assumption | omega | (simp only [List.length_append, List.length_cons, List.length_nil, List.length_set, List.length_replicate, List.length_take, List.length_drop]; omega) | (simp only [fits] at *; omega) | (simp only [List.length_append, List.length_cons, List.length_nil, List.length_set, List.length_replicate, List.length_take, List.length_drop] at *; omega) | (simp; done) | decide), (by rw [show (i + 1).toNat = i.toNat + 1 by omega, tamperN]; first | (rw [if_neg (by omega)]; exact hs2) | (rw [if_pos (by omega), ← hs2, show x + ((i.toNat : Nat) : Int) = x + i by omega]; exact tamper_rowI hW62 (by omega) (by omega) (by assumption))), (by first | exact hRK2.setByte (by assumption) (by omega) (by omega) | assumption), (by first | exact hW62.set (by rw [List.length_set]; omega) | assumption), (by first | assumption | (rw [List.length_set]; assumption)), rfl, (by first | rfl | simp only [List.length_set]), (by first | rfl | simp only [List.length_set])⟩
        show ((bs.length - (i + 1)).toNat : Nat) < ((bs.length - i).toNat : Nat)
        omega
      · skip
        refine RunR.enveq [(0, .pointer (some ⟨d, 0, none⟩)), (1, .int .i64 x), (2, .slice A8 bs.length c8), (6, .int .i64 (256 * ((n : Nat) : Int))), (7, .int .i64 i), (35, .bool false)] (by rw [decide_eq_false h25]; try rfl) ?_
        refine RunR.sil hU [16] 6 20 [0, 1, 2, 6, 7, 41] [(0, .pointer (some ⟨d, 0, none⟩)), (1, .int .i64 x), (2, .slice A8 bs.length c8), (6, .int .i64 (256 * ((n : Nat) : Int))), (7, .int .i64 i), (41, .bool (decide ((x + i) ≥ (256 * ((n : Nat) : Int)))))] ((True) ∧ (True) ∧ (-9223372036854775808 ≤ (x + i) ∧ (x + i) < 9223372036854775808) ∧ (True) ∧ (True) ∧ (True) ∧ True) rfl (by kernel_rfl) ⟨trivial, trivial, (by omega), trivial, trivial, trivial, trivial⟩ ?_
        refine RunR.done (by kernel_rfl) ?_
        refine kseq_n ?_
        refine RunC.condp ((x + i) ≥ (256 * ((n : Nat) : Int))) (by kernel_rfl) (fun h26 => ?_) (fun h26 => ?_)
        · skip
          refine RunC.exit ?_
          refine kseq_e ?_
          refine kblock_e ?_
          refine kseq_n ?_
          refine RunC.region ?_
          refine RunR.sil hU [1] 3 3 [0, 1, 2, 6, 7] [(0, .pointer (some ⟨d, 0, none⟩)), (1, .int .i64 x), (2, .slice A8 bs.length c8), (6, .int .i64 (256 * ((n : Nat) : Int))), (7, .int .i64 (i + 1))] ((True) ∧ (-9223372036854775808 ≤ (i + 1) ∧ (i + 1) < 9223372036854775808) ∧ (True) ∧ True) rfl (by kernel_rfl) ⟨trivial, (by omega), trivial, trivial⟩ ?_
          refine RunR.done (by kernel_rfl) ?_
          refine kloop_n _ [0, 1, 2, 6, 7] [0, 0, 0, 0] [(0, .pointer (some ⟨d, 0, none⟩)), (1, .int .i64 x), (2, .slice A8 bs.length c8), (6, .int .i64 (256 * ((n : Nat) : Int))), (7, .int .i64 (i + 1))] [row 22 1 (.slice A n c) n (rowsV r2), poo .u8 r2 ws, blk d 76 [.slice A n c, .slice Wa m wc, .int .i64 lf, .bool dn], vw A8 (nums .u8 bs)] (by kernel_rfl) (by kernel_rfl) ?_ ⟨(i + 1), r2, (by first | assumption | omega | (simp only [List.length_append, List.length_cons, List.length_nil, List.length_set, List.length_replicate, List.length_take, List.length_drop]; omega) | (simp only [fits] at *; omega) | (simp only [List.length_append, List.length_cons, List.length_nil, List.length_set, List.length_replicate, List.length_take, List.length_drop] at *; omega) | (simp; done) | decide), (by first | assumption | omega | (simp only [List.length_append, List.length_cons, List.length_nil, List.length_set, List.length_replicate, List.length_take, List.length_drop]; omega) | (simp only [fits] at *; omega) | (simp only [List.length_append, List.length_cons, List.length_nil, List.length_set, List.length_replicate, List.length_take, List.length_drop] at *; omega) | (simp; done) | decide), (by rw [show (i + 1).toNat = i.toNat + 1 by omega, tamperN]; first | (rw [if_neg (by omega)]; exact hs2) | (rw [if_pos (by omega), ← hs2, show x + ((i.toNat : Nat) : Int) = x + i by omega]; exact tamper_rowI hW62 (by omega) (by omega) (by assumption))), (by first | exact hRK2.setByte (by assumption) (by omega) (by omega) | assumption), (by first | exact hW62.set (by rw [List.length_set]; omega) | assumption), (by first | assumption | (rw [List.length_set]; assumption)), rfl, (by first | rfl | simp only [List.length_set]), (by first | rfl | simp only [List.length_set])⟩
          show ((bs.length - (i + 1)).toNat : Nat) < ((bs.length - i).toNat : Nat)
          omega
        · skip
          refine RunC.skip ?_
          refine kseq_n ?_
          refine RunC.seq ?_
          refine RunC.region ?_
          refine RunR.sil hU [2] 4 4 [0, 1, 2, 6, 7, 8] [(0, .pointer (some ⟨d, 0, none⟩)), (1, .int .i64 x), (2, .slice A8 bs.length c8), (6, .int .i64 (256 * ((n : Nat) : Int))), (7, .int .i64 i), (8, .int .i64 (x + i))] ((True) ∧ (True) ∧ (-9223372036854775808 ≤ (x + i) ∧ (x + i) < 9223372036854775808) ∧ (True) ∧ True) rfl (by kernel_rfl) ⟨trivial, trivial, (by omega), trivial, trivial⟩ ?_
          refine RunR.done (by kernel_rfl) ?_
          refine kseq_n ?_
          refine RunC.seq ?_
          refine RunC.region ?_
          refine RunR.step (dst := some 45) (op := .buildSlice 22 0 #[]) (by kernel_rfl) (Step.lit_nums hU 5 1 .u8 (.int .u8 0) ([] : List Int) rfl rfl (by kernel_rfl) rfl rfl (by kernel_rfl) (fun b27 => ?_))
          have hl28 : (([] : List Int)).length = 0 := rfl
          refine RunR.sil hU [] 3 4 [0, 1, 2, 6, 7, 8, 45, 48] [(0, .pointer (some ⟨d, 0, none⟩)), (1, .int .i64 x), (2, .slice A8 bs.length c8), (6, .int .i64 (256 * ((n : Nat) : Int))), (7, .int .i64 i), (8, .int .i64 (x + i)), (45, .slice (some ⟨b27, 0, none⟩) 0 0), (48, .pointer (some ⟨d, 0, none⟩))] ((True) ∧ (True) ∧ (True) ∧ True) rfl (by kernel_rfl) ⟨trivial, trivial, trivial, trivial⟩ ?_
          refine RunR.step (dst := some 49) (op := .load 73 (.tmp 48)) (by kernel_rfl) (Step.load_blk hU 3 d (0) 76 [.slice A n c, .slice Wa m wc, .int .i64 lf, .bool dn] (.slice A n c) (by kernel_rfl) (by kernel_rfl) (by kernel_rfl) (by kernel_rfl) ?_)
          refine RunR.sil hU [6] 3 8 [0, 1, 2, 6, 7, 8, 45, 52] [(0, .pointer (some ⟨d, 0, none⟩)), (1, .int .i64 x), (2, .slice A8 bs.length c8), (6, .int .i64 (256 * ((n : Nat) : Int))), (7, .int .i64 i), (8, .int .i64 (x + i)), (45, .slice (some ⟨b27, 0, none⟩) 0 0), (52, .pointer (elemAt A ((x + i) / (256 : Int)) 1))] ((True) ∧ (0 ≤ (x + i) ∧ 0 < (256 : Int) ∧ -9223372036854775808 ≤ ((x + i) / (256 : Int)) ∧ ((x + i) / (256 : Int)) < 9223372036854775808) ∧ ((0 ≤ ((x + i) / (256 : Int)) ∧ ((x + i) / (256 : Int)) < ((n : Nat) : Int)) ∧ Option.isSome A = true) ∧ True) rfl (by kernel_rfl) ⟨trivial, (by omega), ⟨by omega, hAr (by omega)⟩, trivial⟩ ?_
          obtain ⟨Ae29, ce30, xe31, hg32, hr33, hc34, hl35⟩ := row_at (by assumption : RowsOK .u8 r2) (i := ((x + i) / (256 : Int)).toNat) (by omega)
          have hw36 := W256.at (by assumption) hg32
          refine RunR.step (dst := some 53) (op := .load 22 (.tmp 52)) (by kernel_rfl) (Step.load_of hU 1 (row 22 1 (.slice A n c) n (rowsV r2)) A ((x + i) / (256 : Int)) 1 (rowsV r2) (.slice Ae29 xe31.length ce30) (by kernel_rfl) (by kernel_rfl) (tells_row _ _ _ _ _ _) (loadv_row (by kernel_rfl) hg32 (Nat.mul_one _)) (by kernel_rfl) (by rw [rowsV_len]; omega) ?_)
          have hl41 : (([] : List Int)).length = 0 := rfl
          refine RunR.step (dst := some 54) (op := .call { callee := .builtin .append, args := #[.tmp 45, .tmp 53], argTypes := #[22, 22] }) (by kernel_rfl) (Step.append_nums hU 5 1 (.int .u8 0) .u8 0 2 (some ⟨b27, 0, none⟩) 0 0 ([] : List Int) Ae29 xe31.length ce30 (poo .u8 r2 ws) xe31 rfl rfl rfl (by kernel_rfl) (by kernel_rfl) (by kernel_rfl) (by kernel_rfl) (tells_poo1 hg32) (by first | rfl | omega | (simp; omega)) (by first | rfl | omega | (simp; omega)) (by omega) (by omega) (by kernel_rfl) (fun Aq37 cq38 hc39 hA40 => ?_))
          simp only [List.nil_append] at hc39 hA40
          refine RunR.sil hU [] 1 11 [0, 1, 2, 6, 7, 8, 9] [(0, .pointer (some ⟨d, 0, none⟩)), (1, .int .i64 x), (2, .slice A8 bs.length c8), (6, .int .i64 (256 * ((n : Nat) : Int))), (7, .int .i64 i), (8, .int .i64 (x + i)), (9, .slice Aq37 xe31.length cq38)] ((True) ∧ True) rfl (by kernel_rfl) ⟨trivial, trivial⟩ ?_
          refine RunR.done (by kernel_rfl) ?_
          refine kseq_n ?_
          refine RunC.seq ?_
          refine RunC.region ?_
          refine RunR.sil hU [2] 6 6 [0, 1, 2, 6, 7, 8, 9, 55, 57, 60] [(0, .pointer (some ⟨d, 0, none⟩)), (1, .int .i64 x), (2, .slice A8 bs.length c8), (6, .int .i64 (256 * ((n : Nat) : Int))), (7, .int .i64 i), (8, .int .i64 (x + i)), (9, .slice Aq37 xe31.length cq38), (55, .slice Aq37 xe31.length cq38), (57, .int .i64 ((x + i) % (256 : Int))), (60, .pointer (elemAt A8 i 1))] ((True) ∧ (True) ∧ (0 ≤ (x + i) ∧ 0 < (256 : Int)) ∧ (True) ∧ (True) ∧ ((0 ≤ i ∧ i < ((bs.length : Nat) : Int)) ∧ Option.isSome A8 = true) ∧ True) rfl (by kernel_rfl) ⟨trivial, trivial, (by omega), trivial, trivial, ⟨by omega, hA1 (by omega)⟩, trivial⟩ ?_
          refine RunR.step (dst := some 61) (op := .load 5 (.tmp 60)) (by kernel_rfl) (Step.load_num hU 4 (vw A8 (nums .u8 bs)) A8 i .u8 bs rfl (by kernel_rfl) (by kernel_rfl) (tells_vw _ _) (by kernel_rfl) (by omega) ?_)
          have hb42 : 0 ≤ bs.getD ((i).toNat) 0 ∧ bs.getD ((i).toNat) 0 < 256 := hIbs.at_ _
          refine RunR.sil hU [] 1 8 [0, 1, 2, 6, 7, 8, 9, 61, 62] [(0, .pointer (some ⟨d, 0, none⟩)), (1, .int .i64 x), (2, .slice A8 bs.length c8), (6, .int .i64 (256 * ((n : Nat) : Int))), (7, .int .i64 i), (8, .int .i64 (x + i)), (9, .slice Aq37 xe31.length cq38), (61, .int .u8 (bs.getD (i).toNat 0)), (62, .pointer (elemAt Aq37 ((x + i) % (256 : Int)) 1))] (((0 ≤ ((x + i) % (256 : Int)) ∧ ((x + i) % (256 : Int)) < ((xe31.length : Nat) : Int)) ∧ Option.isSome Aq37 = true) ∧ True) rfl (by kernel_rfl) ⟨⟨by omega, hA40 (by omega)⟩, trivial⟩ ?_
          refine RunR.step (dst := none) (op := .store 5 (.tmp 62) (.tmp 61)) (by kernel_rfl) (Step.store_num hU 0 5 xe31.length cq38 Aq37 .u8 xe31 ((x + i) % (256 : Int)) (bs.getD (i).toNat 0) (by kernel_rfl) (by kernel_rfl) (by kernel_rfl) rfl (by omega) ?_)
          have hl43 : (xe31.set ((x + i) % (256 : Int)).toNat (bs.getD (i).toNat 0)).length = xe31.length := List.length_set
          refine RunR.done (by kernel_rfl) ?_
          refine kseq_n ?_
          refine RunC.region ?_
          refine RunR.sil hU [] 3 3 [0, 1, 2, 6, 7, 8, 9, 65] [(0, .pointer (some ⟨d, 0, none⟩)), (1, .int .i64 x), (2, .slice A8 bs.length c8), (6, .int .i64 (256 * ((n : Nat) : Int))), (7, .int .i64 i), (8, .int .i64 (x + i)), (9, .slice Aq37 xe31.length cq38), (65, .pointer (some ⟨d, 0, none⟩))] ((True) ∧ (True) ∧ (True) ∧ True) rfl (by kernel_rfl) ⟨trivial, trivial, trivial, trivial⟩ ?_
          refine RunR.step (dst := some 66) (op := .load 73 (.tmp 65)) (by kernel_rfl) (Step.load_blk hU 3 d (0) 76 [.slice A n c, .slice Wa m wc, .int .i64 lf, .bool dn] (.slice A n c) (by kernel_rfl) (by kernel_rfl) (by kernel_rfl) (by kernel_rfl) ?_)
          refine RunR.sil hU [5] 4 8 [0, 1, 2, 6, 7, 69, 70] [(0, .pointer (some ⟨d, 0, none⟩)), (1, .int .i64 x), (2, .slice A8 bs.length c8), (6, .int .i64 (256 * ((n : Nat) : Int))), (7, .int .i64 i), (69, .slice Aq37 xe31.length cq38), (70, .pointer (elemAt A ((x + i) / (256 : Int)) 1))] ((True) ∧ (0 ≤ (x + i) ∧ 0 < (256 : Int) ∧ -9223372036854775808 ≤ ((x + i) / (256 : Int)) ∧ ((x + i) / (256 : Int)) < 9223372036854775808) ∧ (True) ∧ ((0 ≤ ((x + i) / (256 : Int)) ∧ ((x + i) / (256 : Int)) < ((n : Nat) : Int)) ∧ Option.isSome A = true) ∧ True) rfl (by kernel_rfl) ⟨trivial, (by omega), trivial, ⟨by omega, hAr (by omega)⟩, trivial⟩ ?_
          refine RunR.env [0, 1, 2, 6, 7, 69, 70] [(0, .pointer (some ⟨d, 0, none⟩)), (1, .int .i64 x), (2, .slice A8 bs.length c8), (6, .int .i64 (256 * ((n : Nat) : Int))), (7, .int .i64 i), (69, .slice Aq37 xe31.length cq38), (70, .pointer (elemAt A ((x + i) / (256 : Int)) 1))] (by kernel_rfl) ?_
          refine RunR.enveq [(0, .pointer (some ⟨d, 0, none⟩)), (1, .int .i64 x), (2, .slice A8 bs.length c8), (6, .int .i64 (256 * ((n : Nat) : Int))), (7, .int .i64 i), (69, .slice Aq37 ((xe31.set ((x + i) % (256 : Int)).toNat (bs.getD (i).toNat 0)).length) cq38), (70, .pointer (elemAt A ((x + i) / (256 : Int)) 1))] (by simp only [List.length_set]) ?_
          refine RunR.step (dst := none) (op := .store 22 (.tmp 70) (.tmp 69)) (by kernel_rfl) (Step.store_ro hU 1 22 n c A r2 ((x + i) / (256 : Int)) Aq37 cq38 (xe31.set ((x + i) % (256 : Int)).toNat (bs.getD (i).toNat 0)) (by kernel_rfl) (by kernel_rfl) (by kernel_rfl) rfl (by omega) ?_)
          have hl44 : (r2.set ((x + i) / (256 : Int)).toNat (Aq37, cq38, xe31.set ((x + i) % (256 : Int)).toNat (bs.getD (i).toNat 0))).length = r2.length := List.length_set
          refine RunR.turn ([poo .u8 (r2.set ((x + i) / (256 : Int)).toNat (Aq37, cq38, xe31.set ((x + i) % (256 : Int)).toNat (bs.getD (i).toNat 0))) ws, row 22 1 (.slice A n c) n (rowsV (r2.set ((x + i) / (256 : Int)).toNat (Aq37, cq38, xe31.set ((x + i) % (256 : Int)).toNat (bs.getD (i).toNat 0)))), blk d 76 [.slice A n c, .slice Wa m wc, .int .i64 lf, .bool dn], vw A8 (nums .u8 bs)]) (fun _ _ w hs => SAT.pooSetNew (((x + i) / (256 : Int)).toNat) Aq37 cq38 (xe31.set ((x + i) % (256 : Int)).toNat (bs.getD (i).toNat 0)) rfl (tells_row _ _ _ _ _ _) (hs.pulls2 [1, 1] ([row 5 1 (.slice Aq37 xe31.length cq38) xe31.length (nums .u8 (xe31.set ((x + i) % (256 : Int)).toNat (bs.getD (i).toNat 0))), poo .u8 r2 ws, row 22 1 (.slice A n c) n (rowsV (r2.set ((x + i) / (256 : Int)).toNat (Aq37, cq38, xe31.set ((x + i) % (256 : Int)).toNat (bs.getD (i).toNat 0)))), blk d 76 [.slice A n c, .slice Wa m wc, .int .i64 lf, .bool dn], vw A8 (nums .u8 bs)]) (by kernel_rfl))) ?_
          refine RunR.done (by kernel_rfl) ?_
          refine kblock_n ?_
          refine kseq_n ?_
          refine RunC.region ?_
          refine RunR.sil hU [1] 3 3 [0, 1, 2, 6, 7] [(0, .pointer (some ⟨d, 0, none⟩)), (1, .int .i64 x), (2, .slice A8 bs.length c8), (6, .int .i64 (256 * ((n : Nat) : Int))), (7, .int .i64 (i + 1))] ((True) ∧ (-9223372036854775808 ≤ (i + 1) ∧ (i + 1) < 9223372036854775808) ∧ (True) ∧ True) rfl (by kernel_rfl) ⟨trivial, (by omega), trivial, trivial⟩ ?_
          refine RunR.done (by kernel_rfl) ?_
          refine kloop_n _ [0, 1, 2, 6, 7] [1, 0, 0, 0] [(0, .pointer (some ⟨d, 0, none⟩)), (1, .int .i64 x), (2, .slice A8 bs.length c8), (6, .int .i64 (256 * ((n : Nat) : Int))), (7, .int .i64 (i + 1))] [row 22 1 (.slice A n c) n (rowsV (r2.set ((x + i) / (256 : Int)).toNat (Aq37, cq38, xe31.set ((x + i) % (256 : Int)).toNat (bs.getD (i).toNat 0)))), poo .u8 (r2.set ((x + i) / (256 : Int)).toNat (Aq37, cq38, xe31.set ((x + i) % (256 : Int)).toNat (bs.getD (i).toNat 0))) ws, blk d 76 [.slice A n c, .slice Wa m wc, .int .i64 lf, .bool dn], vw A8 (nums .u8 bs)] (by kernel_rfl) (by kernel_rfl) ?_ ⟨(i + 1), (r2.set ((x + i) / (256 : Int)).toNat (Aq37, cq38, xe31.set ((x + i) % (256 : Int)).toNat (bs.getD (i).toNat 0))), (by first | assumption | omega | (simp only [List.length_append, List.length_cons, List.length_nil, List.length_set, List.length_replicate, List.length_take, List.length_drop]; omega) | (simp only [fits] at *; omega) | (simp only [List.length_append, List.length_cons, List.length_nil, List.length_set, List.length_replicate, List.length_take, List.length_drop] at *; omega) | (simp; done) | decide), (by first | assumption | omega | (simp only [List.length_append, List.length_cons, List.length_nil, List.length_set, List.length_replicate, List.length_take, List.length_drop]; omega) | (simp only [fits] at *; omega) | (simp only [List.length_append, List.length_cons, List.length_nil, List.length_set, List.length_replicate, List.length_take, List.length_drop] at *; omega) | (simp; done) | decide), (by rw [show (i + 1).toNat = i.toNat + 1 by omega, tamperN]; first | (rw [if_neg (by omega)]; exact hs2) | (rw [if_pos (by omega), ← hs2, show x + ((i.toNat : Nat) : Int) = x + i by omega]; exact tamper_rowI hW62 (by omega) (by omega) (by assumption))), (by first | exact hRK2.setByte (by assumption) (by omega) (by omega) | assumption), (by first | exact hW62.set (by rw [List.length_set]; omega) | assumption), (by first | assumption | (rw [List.length_set]; assumption)), rfl, (by first | rfl | simp only [List.length_set]), (by first | rfl | simp only [List.length_set])⟩
          show ((bs.length - (i + 1)).toNat : Nat) < ((bs.length - i).toNat : Nat)
          omega
  · skip
    refine RunC.exit ?_
    refine kseq_e ?_
    refine kloop_e ?_
    refine kblock_e ?_
    refine kret_n [] [2, 0, 0] [blk d 76 [.slice A n c, .slice Wa m wc, .int .i64 lf, .bool dn], row 22 1 (.slice A n c) n (rowsV r2), poo .u8 r2 ws] trivial (by kernel_rfl) rfl ⟨r2, rfl, rfl, (by rw [hs2, show i.toNat = bs.length by omega]), (by assumption), (by assumption), (by assumption)⟩
end Go.Proofs.Ytcpohiegijpghaa.X8
