/- The law DiskTwins returns true whatever it is handed: its walk, on the contracts of what it calls. -/
import Derived.Test.YtcpohiegijpghaaLPure
import Derived.Test.YtcpohiegijpghaaProg
import Derived.Test.YtcpohiegijpghaaX1
import Derived.Test.YtcpohiegijpghaaX2
import Derived.Test.YtcpohiegijpghaaX3
import Derived.Test.YtcpohiegijpghaaX4
import Derived.Test.YtcpohiegijpghaaX5
namespace Go.Proofs.Ytcpohiegijpghaa.LDiskTwins
open Go Go.Proofs.Ytcpohiegijpghaa.SL Go.Proofs.Ytcpohiegijpghaa.SL.W Go.Proofs.Ytcpohiegijpghaa.SL.D Go.Proofs.Ytcpohiegijpghaa.X1 Go.Proofs.Ytcpohiegijpghaa.X2 Go.Proofs.Ytcpohiegijpghaa.X3 Go.Proofs.Ytcpohiegijpghaa.X4 Go.Proofs.Ytcpohiegijpghaa.X5
set_option linter.unusedVariables false
set_option linter.unusedSimpArgs false
set_option maxRecDepth 100000
set_option maxHeartbeats 40000000
def U : Tab where
  und := [(3, .int .i64), (4, .bool), (5, .int .u8), (22, .slice 5), (45, .pointer 81), (47, .int .i64), (74, .slice 84), (80, .struct #[{ name := "safe", type := 22, offset := 0, embedded := false, tag := "", pkgPath := "orlop/disk", byteOffset := 0 }, { name := "wait", type := 74, offset := 1, embedded := false, tag := "", pkgPath := "orlop/disk", byteOffset := 24 }, { name := "left", type := 3, offset := 2, embedded := false, tag := "", pkgPath := "orlop/disk", byteOffset := 48 }, { name := "down", type := 4, offset := 3, embedded := false, tag := "", pkgPath := "orlop/disk", byteOffset := 56 }]), (81, .struct #[{ name := "safe", type := 22, offset := 0, embedded := false, tag := "", pkgPath := "orlop/disk", byteOffset := 0 }, { name := "wait", type := 74, offset := 1, embedded := false, tag := "", pkgPath := "orlop/disk", byteOffset := 24 }, { name := "left", type := 3, offset := 2, embedded := false, tag := "", pkgPath := "orlop/disk", byteOffset := 48 }, { name := "down", type := 4, offset := 3, embedded := false, tag := "", pkgPath := "orlop/disk", byteOffset := 56 }]), (83, .struct #[{ name := "Block", type := 3, offset := 0, embedded := false, tag := "", pkgPath := "", byteOffset := 0 }, { name := "Data", type := 22, offset := 1, embedded := false, tag := "", pkgPath := "", byteOffset := 8 }]), (84, .struct #[{ name := "Block", type := 3, offset := 0, embedded := false, tag := "", pkgPath := "", byteOffset := 0 }, { name := "Data", type := 22, offset := 1, embedded := false, tag := "", pkgPath := "", byteOffset := 8 }])]
  fld := [((80, 0), (0, 22)), ((80, 1), (1, 74)), ((80, 2), (2, 3)), ((80, 3), (3, 4)), ((81, 0), (0, 22)), ((81, 1), (1, 74)), ((81, 2), (2, 3)), ((81, 3), (3, 4)), ((83, 0), (0, 3)), ((83, 1), (1, 22)), ((84, 0), (0, 3)), ((84, 1), (1, 22))]
  sz := [(3, 1), (4, 1), (5, 1), (22, 1), (45, 1), (47, 1), (74, 1), (80, 4), (81, 4), (83, 2), (84, 2)]
  ti := [(3, (1, 8, .int .i64 0)), (4, (1, 1, .bool false)), (5, (1, 1, .int .u8 0)), (22, (1, 24, .slice none 0 0)), (45, (1, 8, .pointer none)), (47, (1, 8, .int .i64 0)), (74, (1, 24, .slice none 0 0)), (80, (4, 64, .agg #[.slice none 0 0, .slice none 0 0, .int .i64 0, .bool false])), (81, (4, 64, .agg #[.slice none 0 0, .slice none 0 0, .int .i64 0, .bool false])), (83, (2, 32, .agg #[.int .i64 0, .slice none 0 0])), (84, (2, 32, .agg #[.int .i64 0, .slice none 0 0]))]
  bld := [(80, [(0, 1), (1, 1), (2, 1), (3, 1)]), (81, [(0, 1), (1, 1), (2, 1), (3, 1)]), (83, [(0, 1), (1, 1)]), (84, [(0, 1), (1, 1)])]

theorem hU : U.OK Try.prog where
  und := by
    intro p hp
    simp only [U, List.mem_cons, List.not_mem_nil, or_false] at hp
    rcases hp with rfl | rfl | rfl | rfl | rfl | rfl | rfl | rfl | rfl | rfl | rfl
    · exact Try.underlying3
    · exact Try.underlying4
    · exact Try.underlying5
    · exact Try.underlying22
    · exact Try.underlying45
    · exact Try.underlying47
    · exact Try.underlying74
    · exact Try.underlying80
    · exact Try.underlying81
    · exact Try.underlying83
    · exact Try.underlying84
  fld := by
    intro p hp
    simp only [U, List.mem_cons, List.not_mem_nil, or_false] at hp
    rcases hp with rfl | rfl | rfl | rfl | rfl | rfl | rfl | rfl | rfl | rfl | rfl | rfl
    · exact ⟨_, _, Try.underlying80, rfl, rfl, rfl, Try.prog.types[22]!, by kernel_rfl, by decide +kernel⟩
    · exact ⟨_, _, Try.underlying80, rfl, rfl, rfl, Try.prog.types[74]!, by kernel_rfl, by decide +kernel⟩
    · exact ⟨_, _, Try.underlying80, rfl, rfl, rfl, Try.prog.types[3]!, by kernel_rfl, by decide +kernel⟩
    · exact ⟨_, _, Try.underlying80, rfl, rfl, rfl, Try.prog.types[4]!, by kernel_rfl, by decide +kernel⟩
    · exact ⟨_, _, Try.underlying81, rfl, rfl, rfl, Try.prog.types[22]!, by kernel_rfl, by decide +kernel⟩
    · exact ⟨_, _, Try.underlying81, rfl, rfl, rfl, Try.prog.types[74]!, by kernel_rfl, by decide +kernel⟩
    · exact ⟨_, _, Try.underlying81, rfl, rfl, rfl, Try.prog.types[3]!, by kernel_rfl, by decide +kernel⟩
    · exact ⟨_, _, Try.underlying81, rfl, rfl, rfl, Try.prog.types[4]!, by kernel_rfl, by decide +kernel⟩
    · exact ⟨_, _, Try.underlying83, rfl, rfl, rfl, Try.prog.types[3]!, by kernel_rfl, by decide +kernel⟩
    · exact ⟨_, _, Try.underlying83, rfl, rfl, rfl, Try.prog.types[22]!, by kernel_rfl, by decide +kernel⟩
    · exact ⟨_, _, Try.underlying84, rfl, rfl, rfl, Try.prog.types[3]!, by kernel_rfl, by decide +kernel⟩
    · exact ⟨_, _, Try.underlying84, rfl, rfl, rfl, Try.prog.types[22]!, by kernel_rfl, by decide +kernel⟩
  sz := by
    intro p hp
    simp only [U, List.mem_cons, List.not_mem_nil, or_false] at hp
    rcases hp with rfl | rfl | rfl | rfl | rfl | rfl | rfl | rfl | rfl | rfl | rfl
    · exact ⟨Try.prog.types[3]!, by kernel_rfl, by kernel_rfl⟩
    · exact ⟨Try.prog.types[4]!, by kernel_rfl, by kernel_rfl⟩
    · exact ⟨Try.prog.types[5]!, by kernel_rfl, by kernel_rfl⟩
    · exact ⟨Try.prog.types[22]!, by kernel_rfl, by kernel_rfl⟩
    · exact ⟨Try.prog.types[45]!, by kernel_rfl, by kernel_rfl⟩
    · exact ⟨Try.prog.types[47]!, by kernel_rfl, by kernel_rfl⟩
    · exact ⟨Try.prog.types[74]!, by kernel_rfl, by kernel_rfl⟩
    · exact ⟨Try.prog.types[80]!, by kernel_rfl, by kernel_rfl⟩
    · exact ⟨Try.prog.types[81]!, by kernel_rfl, by kernel_rfl⟩
    · exact ⟨Try.prog.types[83]!, by kernel_rfl, by kernel_rfl⟩
    · exact ⟨Try.prog.types[84]!, by kernel_rfl, by kernel_rfl⟩
  ti := by
    intro p hp
    simp only [U, List.mem_cons, List.not_mem_nil, or_false] at hp
    rcases hp with rfl | rfl | rfl | rfl | rfl | rfl | rfl | rfl | rfl | rfl | rfl
    · exact ⟨Try.prog.types[3]!, by kernel_rfl, by kernel_rfl, by kernel_rfl, by kernel_rfl⟩
    · exact ⟨Try.prog.types[4]!, by kernel_rfl, by kernel_rfl, by kernel_rfl, by kernel_rfl⟩
    · exact ⟨Try.prog.types[5]!, by kernel_rfl, by kernel_rfl, by kernel_rfl, by kernel_rfl⟩
    · exact ⟨Try.prog.types[22]!, by kernel_rfl, by kernel_rfl, by kernel_rfl, by kernel_rfl⟩
    · exact ⟨Try.prog.types[45]!, by kernel_rfl, by kernel_rfl, by kernel_rfl, by kernel_rfl⟩
    · exact ⟨Try.prog.types[47]!, by kernel_rfl, by kernel_rfl, by kernel_rfl, by kernel_rfl⟩
    · exact ⟨Try.prog.types[74]!, by kernel_rfl, by kernel_rfl, by kernel_rfl, by kernel_rfl⟩
    · exact ⟨Try.prog.types[80]!, by kernel_rfl, by kernel_rfl, by kernel_rfl, by kernel_rfl⟩
    · exact ⟨Try.prog.types[81]!, by kernel_rfl, by kernel_rfl, by kernel_rfl, by kernel_rfl⟩
    · exact ⟨Try.prog.types[83]!, by kernel_rfl, by kernel_rfl, by kernel_rfl, by kernel_rfl⟩
    · exact ⟨Try.prog.types[84]!, by kernel_rfl, by kernel_rfl, by kernel_rfl, by kernel_rfl⟩
  bld := by
    intro p hp
    simp only [U, List.mem_cons, List.not_mem_nil, or_false] at hp
    rcases hp with rfl | rfl | rfl | rfl
    · exact ⟨_, Try.underlying80, by kernel_rfl⟩
    · exact ⟨_, Try.underlying81, by kernel_rfl⟩
    · exact ⟨_, Try.underlying83, by kernel_rfl⟩
    · exact ⟨_, Try.underlying84, by kernel_rfl⟩
  mixed := by kernel_rfl

theorem l9_DiskTwins_spec (A7 : Option Addr) (c7 : Nat) (im : List Int) (x : Int) (A8 : Option Addr) (c8 : Nat) (bs : List Int) (l_im : Nat) (l_bs : Nat) (hIim : In .u8 im) (hCim : im.length ≤ c7) (hBim : im.length ≤ 140737488351232) (hx : fits .i64 x) (hIbs : In .u8 bs) (hCbs : bs.length ≤ c8) (hBbs : bs.length ≤ 140737488351232) (hl_im : im.length = l_im) (hl_bs : bs.length = l_bs) :
    CallsS Try.prog 10 [.slice A7 l_im c7, .int .i64 x, .slice A8 l_bs c8] [vw A7 (nums .u8 im), vw A8 (nums .u8 bs)] (fun r D => r = .bool true ∧ D = []) := by
  subst hl_im
  subst hl_bs
  refine CallsS.enter hU Try.f10 _ [.tmp 6] 68 Try.func10 rfl (by decide) rfl rfl (by kernel_rfl) fun w0 W => ?_
  have hcalm := calm0; have hx2 := hx; simp only [fits] at hx2
  refine RunC.know (p := 0 < im.length → Option.isSome A7 = true) (fun _ _ w hs => vw_some hs 0 rfl (by first | (simp [nums_length]; done) | exact dosV_len _ | exact bls_len _ | exact chV_len _)) (fun hA1 => ?_)
  refine RunC.know (p := 0 < bs.length → Option.isSome A8 = true) (fun _ _ w hs => vw_some hs 1 rfl (by first | (simp [nums_length]; done) | exact dosV_len _ | exact bls_len _ | exact chV_len _)) (fun hA2 => ?_)
  refine RunC.seq ?_
  refine RunC.region ?_
  refine RunR.sil hU [] 1 1 [0, 1, 2, 6] [(0, .slice A7 im.length c7), (1, .int .i64 x), (2, .slice A8 bs.length c8), (6, .bool false)] ((True) ∧ True) rfl (by kernel_rfl) ⟨trivial, trivial⟩ ?_
  refine RunR.done (by kernel_rfl) ?_
  refine kseq_n ?_
  refine RunC.seq ?_
  refine RunC.seq ?_
  refine RunC.region ?_
  refine RunR.step (dst := some 11) (op := .call { callee := .value (.func 32), args := #[], argTypes := #[] }) (by kernel_rfl) (Step.call 32 [] (by kernel_rfl) (by kernel_rfl) [] [] [vw A7 (nums .u8 im), vw A8 (nums .u8 bs)] (l9_awake_spec) [] (by kernel_rfl) (Lend.nil _) ?_)
  rintro _ _ ⟨rfl, rfl⟩
  refine RunR.sil hU [] 1 2 [0, 1, 2, 6, 12] [(0, .slice A7 im.length c7), (1, .int .i64 x), (2, .slice A8 bs.length c8), (6, .bool false), (12, .bool false)] ((True) ∧ True) rfl (by kernel_rfl) ⟨trivial, trivial⟩ ?_
  refine RunR.done (by kernel_rfl) ?_
  refine kseq_n ?_
  refine RunC.cond (b := false) (by kernel_rfl) (fun h => by cases h) (fun _ => ?_)
  refine RunC.skip ?_
  refine kseq_n ?_
  refine RunC.seq ?_
  refine RunC.seq ?_
  refine RunC.region ?_
  refine RunR.sil hU [] 4 4 [0, 1, 2, 6, 16] [(0, .slice A7 im.length c7), (1, .int .i64 x), (2, .slice A8 bs.length c8), (6, .bool false), (16, .bool (decide (((im.length : Nat) : Int) > 3072)))] ((True) ∧ (True) ∧ (True) ∧ (True) ∧ True) rfl (by kernel_rfl) ⟨trivial, trivial, trivial, trivial, trivial⟩ ?_
  refine RunR.env [0, 1, 2, 6, 16] [(0, .slice A7 im.length c7), (1, .int .i64 x), (2, .slice A8 bs.length c8), (6, .bool false), (16, .bool (decide (((im.length : Nat) : Int) > 3072)))] (by kernel_rfl) ?_
  by_cases h3 : ((im.length : Nat) : Int) > 3072
  · skip
    refine RunR.enveq [(0, .slice A7 im.length c7), (1, .int .i64 x), (2, .slice A8 bs.length c8), (6, .bool false), (16, .bool true)] (by rw [decide_eq_true h3]; try rfl) ?_
    refine RunR.sil hU [] 4 8 [0, 1, 2, 6, 20] [(0, .slice A7 im.length c7), (1, .int .i64 x), (2, .slice A8 bs.length c8), (6, .bool false), (20, .bool true)] ((True) ∧ True) rfl (by kernel_rfl) ⟨trivial, trivial⟩ ?_
    refine RunR.done (by kernel_rfl) ?_
    refine kseq_n ?_
    refine RunC.cond (b := true) (by kernel_rfl) (fun _ => ?_) (fun h => by cases h)
    refine RunC.seq ?_
    refine RunC.region ?_
    refine RunR.sil hU [] 1 1 [0, 1, 2, 6] [(0, .slice A7 im.length c7), (1, .int .i64 x), (2, .slice A8 bs.length c8), (6, .bool true)] ((True) ∧ True) rfl (by kernel_rfl) ⟨trivial, trivial⟩ ?_
    refine RunR.done (by kernel_rfl) ?_
    refine kseq_n ?_
    refine RunC.ret ?_
    refine kseq_r ?_
    refine kret_r [.bool true] [] [] ⟨rfl, trivial⟩ (by kernel_rfl) rfl ⟨rfl, rfl⟩
  · skip
    refine RunR.enveq [(0, .slice A7 im.length c7), (1, .int .i64 x), (2, .slice A8 bs.length c8), (6, .bool false), (16, .bool false)] (by rw [decide_eq_false h3]; try rfl) ?_
    refine RunR.sil hU [] 4 8 [0, 1, 2, 6, 20] [(0, .slice A7 im.length c7), (1, .int .i64 x), (2, .slice A8 bs.length c8), (6, .bool false), (20, .bool (decide (((bs.length : Nat) : Int) > 1000)))] ((True) ∧ (True) ∧ (True) ∧ (True) ∧ True) rfl (by kernel_rfl) ⟨trivial, trivial, trivial, trivial, trivial⟩ ?_
    refine RunR.done (by kernel_rfl) ?_
    refine kseq_n ?_
    refine RunC.condp (((bs.length : Nat) : Int) > 1000) (by kernel_rfl) (fun h4 => ?_) (fun h4 => ?_)
    · skip
      refine RunC.seq ?_
      refine RunC.region ?_
      refine RunR.sil hU [] 1 1 [0, 1, 2, 6] [(0, .slice A7 im.length c7), (1, .int .i64 x), (2, .slice A8 bs.length c8), (6, .bool true)] ((True) ∧ True) rfl (by kernel_rfl) ⟨trivial, trivial⟩ ?_
      refine RunR.done (by kernel_rfl) ?_
      refine kseq_n ?_
      refine RunC.ret ?_
      refine kseq_r ?_
      refine kret_r [.bool true] [] [] ⟨rfl, trivial⟩ (by kernel_rfl) rfl ⟨rfl, rfl⟩
    · skip
      refine RunC.skip ?_
      refine kseq_n ?_
      refine RunC.seq ?_
      refine RunC.region ?_
      refine RunR.sil hU [] 1 1 [0, 1, 2, 6, 22] [(0, .slice A7 im.length c7), (1, .int .i64 x), (2, .slice A8 bs.length c8), (6, .bool false), (22, .slice A7 im.length c7)] ((True) ∧ True) rfl (by kernel_rfl) ⟨trivial, trivial⟩ ?_
      refine RunR.step (dst := some 23) (op := .call { callee := .value (.func 45), args := #[.tmp 22], argTypes := #[22] }) (by kernel_rfl) (Step.call 45 [.slice A7 im.length c7] (by kernel_rfl) (by kernel_rfl) [] [vw A7 (nums .u8 im)] [vw A7 (nums .u8 im), vw A8 (nums .u8 bs)] (d_Load_spec A7 c7 im im.length hIim (by first | assumption | omega | (simp only [List.length_append, List.length_cons, List.length_nil, List.length_set, List.length_replicate, List.length_take, List.length_drop]; omega) | (simp only [fits] at *; omega) | (simp only [List.length_append, List.length_cons, List.length_nil, List.length_set, List.length_replicate, List.length_take, List.length_drop] at *; omega) | (simp; done) | decide) (by first | assumption | omega | (simp only [List.length_append, List.length_cons, List.length_nil, List.length_set, List.length_replicate, List.length_take, List.length_drop]; omega) | (simp only [fits] at *; omega) | (simp only [List.length_append, List.length_cons, List.length_nil, List.length_set, List.length_replicate, List.length_take, List.length_drop] at *; omega) | (simp; done) | decide) (by first | rfl | assumption | omega | (simp only [List.length_append, List.length_cons, List.length_nil, List.length_set, List.length_replicate, List.length_take, List.length_drop]; omega) | (simp; done))) [] (by kernel_rfl) ((Lend.nil _).tells 0 (vw A7 (nums .u8 im)) A7 (nums .u8 im) (by kernel_rfl) (tells_vw _ _)) ?_)
      rintro _ _ (⟨rfl, rfl, hp5⟩ | ⟨d26, A97, n98, c99, zs10, rfl, rfl, hp11, hp12, hp13, hp14, hp15, hp16, hp17, hp18⟩)
      · skip
        refine RunR.sil hU [] 5 7 [0, 1, 2, 6, 7, 8] [(0, .slice A7 im.length c7), (1, .int .i64 x), (2, .slice A8 bs.length c8), (6, .bool false), (7, .pointer none), (8, .int .i64 1)] ((True) ∧ (True) ∧ (True) ∧ (True) ∧ (True) ∧ True) rfl (by kernel_rfl) ⟨trivial, trivial, trivial, trivial, trivial, trivial⟩ ?_
        refine RunR.done (by kernel_rfl) ?_
        refine kseq_n ?_
        refine RunC.seq ?_
        refine RunC.seq ?_
        refine RunC.region ?_
        refine RunR.sil hU [] 2 2 [0, 1, 2, 6, 7, 27] [(0, .slice A7 im.length c7), (1, .int .i64 x), (2, .slice A8 bs.length c8), (6, .bool false), (7, .pointer none), (27, .bool true)] ((True) ∧ (True) ∧ True) rfl (by kernel_rfl) ⟨trivial, trivial, trivial⟩ ?_
        refine RunR.done (by kernel_rfl) ?_
        refine kseq_n ?_
        refine RunC.cond (b := true) (by kernel_rfl) (fun _ => ?_) (fun h => by cases h)
        refine RunC.seq ?_
        refine RunC.region ?_
        refine RunR.sil hU [2] 5 5 [0, 1, 2, 6, 7, 32] [(0, .slice A7 im.length c7), (1, .int .i64 x), (2, .slice A8 bs.length c8), (6, .bool false), (7, .pointer none), (32, .bool (!decide ((((im.length : Nat) : Int) % (256 : Int)) = 0)))] ((True) ∧ (True) ∧ (0 ≤ ((im.length : Nat) : Int) ∧ 0 < (256 : Int)) ∧ (True) ∧ (True) ∧ True) rfl (by kernel_rfl) ⟨trivial, trivial, (by omega), trivial, trivial, trivial⟩ ?_
        refine RunR.env [0, 1, 2, 6, 7, 32] [(0, .slice A7 im.length c7), (1, .int .i64 x), (2, .slice A8 bs.length c8), (6, .bool false), (7, .pointer none), (32, .bool (!decide ((((im.length : Nat) : Int) % (256 : Int)) = 0)))] (by kernel_rfl) ?_
        have hk19 : ¬ ((((im.length : Nat) : Int) % (256 : Int)) = 0) := by omega
        refine RunR.enveq [(0, .slice A7 im.length c7), (1, .int .i64 x), (2, .slice A8 bs.length c8), (6, .bool false), (7, .pointer none), (32, .bool true)] (by rw [decide_eq_false hk19]; try rfl) ?_
        refine RunR.sil hU [] 4 9 [0, 1, 2, 6, 7] [(0, .slice A7 im.length c7), (1, .int .i64 x), (2, .slice A8 bs.length c8), (6, .bool true), (7, .pointer none)] ((True) ∧ (True) ∧ (True) ∧ (True) ∧ True) rfl (by kernel_rfl) ⟨trivial, trivial, trivial, trivial, trivial⟩ ?_
        refine RunR.done (by kernel_rfl) ?_
        refine kseq_n ?_
        refine RunC.ret ?_
        refine kseq_r ?_
        refine kret_r [.bool true] [] [] ⟨rfl, trivial⟩ (by kernel_rfl) rfl ⟨rfl, rfl⟩
      · skip
        refine RunR.sil hU [] 5 7 [0, 1, 2, 6, 7, 8] [(0, .slice A7 im.length c7), (1, .int .i64 x), (2, .slice A8 bs.length c8), (6, .bool false), (7, .pointer (some ⟨d26, 0, none⟩)), (8, .int .i64 0)] ((True) ∧ (True) ∧ (True) ∧ (True) ∧ (True) ∧ True) rfl (by kernel_rfl) ⟨trivial, trivial, trivial, trivial, trivial, trivial⟩ ?_
        refine RunR.done (by kernel_rfl) ?_
        refine kseq_n ?_
        refine RunC.seq ?_
        refine RunC.seq ?_
        refine RunC.region ?_
        refine RunR.sil hU [] 2 2 [0, 1, 2, 6, 7, 27] [(0, .slice A7 im.length c7), (1, .int .i64 x), (2, .slice A8 bs.length c8), (6, .bool false), (7, .pointer (some ⟨d26, 0, none⟩)), (27, .bool false)] ((True) ∧ (True) ∧ True) rfl (by kernel_rfl) ⟨trivial, trivial, trivial⟩ ?_
        refine RunR.done (by kernel_rfl) ?_
        refine kseq_n ?_
        refine RunC.cond (b := false) (by kernel_rfl) (fun h => by cases h) (fun _ => ?_)
        refine RunC.skip ?_
        refine kseq_n ?_
        refine RunC.seq ?_
        refine RunC.region ?_
        refine RunR.sil hU [] 1 1 [0, 1, 2, 6, 7, 37] [(0, .slice A7 im.length c7), (1, .int .i64 x), (2, .slice A8 bs.length c8), (6, .bool false), (7, .pointer (some ⟨d26, 0, none⟩)), (37, .pointer (some ⟨d26, 0, none⟩))] ((True) ∧ True) rfl (by kernel_rfl) ⟨trivial, trivial⟩ ?_
        refine RunR.step (dst := some 38) (op := .call { callee := .value (.func 38), args := #[.tmp 37], argTypes := #[45] }) (by kernel_rfl) (Step.call 38 [.pointer (some ⟨d26, 0, none⟩)] (by kernel_rfl) (by kernel_rfl) [blk d26 81 [.slice A97 n98 c99, .slice none 0 0, .int .i64 0, .bool false], row 5 1 (.slice A97 n98 c99) n98 (nums .u8 zs10)] [] [row 84 2 (.slice none 0 0) 0 (chV ([] : List Ch)), chd .u8 ([] : List Ch), vw A7 (nums .u8 im), vw A8 (nums .u8 bs)] (d_Image_spec d26 A97 n98 c99 zs10 none 0 0 0 false hp11 (by first | rfl | assumption | omega | (simp only [List.length_append, List.length_cons, List.length_nil, List.length_set, List.length_replicate, List.length_take, List.length_drop]; omega) | (simp; done)) (by first | assumption | omega | (simp only [List.length_append, List.length_cons, List.length_nil, List.length_set, List.length_replicate, List.length_take, List.length_drop]; omega) | (simp only [fits] at *; omega) | (simp only [List.length_append, List.length_cons, List.length_nil, List.length_set, List.length_replicate, List.length_take, List.length_drop] at *; omega) | (simp; done) | decide) (fun h => hp14 (by first | exact h | (simp at h ⊢; omega))) (by first | assumption | omega | (simp only [List.length_append, List.length_cons, List.length_nil, List.length_set, List.length_replicate, List.length_take, List.length_drop]; omega) | (simp only [fits] at *; omega) | (simp only [List.length_append, List.length_cons, List.length_nil, List.length_set, List.length_replicate, List.length_take, List.length_drop] at *; omega) | (simp; done) | decide) (by first | assumption | omega | (simp only [List.length_append, List.length_cons, List.length_nil, List.length_set, List.length_replicate, List.length_take, List.length_drop]; omega) | (simp only [fits] at *; omega) | (simp only [List.length_append, List.length_cons, List.length_nil, List.length_set, List.length_replicate, List.length_take, List.length_drop] at *; omega) | (simp; done) | decide)) [0, 0] (by kernel_rfl) (Lend.nil _) ?_)
        rintro _ _ ⟨A920, c921, zs22, rfl, rfl, hp23, hp24, hp25, hp26, hp27⟩
        refine RunR.step (dst := some 39) (op := .call { callee := .value (.func 45), args := #[.tmp 38], argTypes := #[22] }) (by kernel_rfl) (Step.call 45 [.slice A920 zs22.length c921] (by kernel_rfl) (by kernel_rfl) [] [vw A920 (nums .u8 zs22)] [row 5 1 (.slice A920 zs22.length c921) zs22.length (nums .u8 zs22), blk d26 81 [.slice A97 n98 c99, .slice none 0 0, .int .i64 0, .bool false], row 5 1 (.slice A97 n98 c99) n98 (nums .u8 zs10), row 84 2 (.slice none 0 0) 0 (chV ([] : List Ch)), chd .u8 ([] : List Ch), vw A7 (nums .u8 im), vw A8 (nums .u8 bs)] (d_Load_spec A920 c921 zs22 zs22.length hp25 (by first | assumption | omega | (simp only [List.length_append, List.length_cons, List.length_nil, List.length_set, List.length_replicate, List.length_take, List.length_drop]; omega) | (simp only [fits] at *; omega) | (simp only [List.length_append, List.length_cons, List.length_nil, List.length_set, List.length_replicate, List.length_take, List.length_drop] at *; omega) | (simp; done) | decide) (by first | assumption | omega | (simp only [List.length_append, List.length_cons, List.length_nil, List.length_set, List.length_replicate, List.length_take, List.length_drop]; omega) | (simp only [fits] at *; omega) | (simp only [List.length_append, List.length_cons, List.length_nil, List.length_set, List.length_replicate, List.length_take, List.length_drop] at *; omega) | (simp; done) | decide) (by first | rfl | assumption | omega | (simp only [List.length_append, List.length_cons, List.length_nil, List.length_set, List.length_replicate, List.length_take, List.length_drop]; omega) | (simp; done))) [] (by kernel_rfl) ((Lend.nil _).tells 0 (row 5 1 (.slice A920 zs22.length c921) zs22.length (nums .u8 zs22)) A920 (nums .u8 zs22) (by kernel_rfl) (tells_row _ _ _ _ _ _)) ?_)
        rintro _ _ (⟨rfl, rfl, hp28⟩ | ⟨d229, A930, n931, c932, zs33, rfl, rfl, hp34, hp35, hp36, hp37, hp38, hp39, hp40, hp41⟩)
        · skip
          exfalso; omega
        · skip
          refine RunR.sil hU [] 5 8 [0, 1, 2, 6, 7, 9, 10] [(0, .slice A7 im.length c7), (1, .int .i64 x), (2, .slice A8 bs.length c8), (6, .bool false), (7, .pointer (some ⟨d26, 0, none⟩)), (9, .pointer (some ⟨d229, 0, none⟩)), (10, .int .i64 0)] ((True) ∧ (True) ∧ (True) ∧ (True) ∧ (True) ∧ True) rfl (by kernel_rfl) ⟨trivial, trivial, trivial, trivial, trivial, trivial⟩ ?_
          refine RunR.done (by kernel_rfl) ?_
          refine kseq_n ?_
          refine RunC.seq ?_
          refine RunC.seq ?_
          refine RunC.region ?_
          refine RunR.sil hU [] 4 4 [0, 1, 2, 6, 7, 9, 44, 45] [(0, .slice A7 im.length c7), (1, .int .i64 x), (2, .slice A8 bs.length c8), (6, .bool false), (7, .pointer (some ⟨d26, 0, none⟩)), (9, .pointer (some ⟨d229, 0, none⟩)), (44, .bool false), (45, .pointer (some ⟨d229, 0, none⟩))] ((True) ∧ (True) ∧ (True) ∧ (True) ∧ True) rfl (by kernel_rfl) ⟨trivial, trivial, trivial, trivial, trivial⟩ ?_
          refine RunR.step (dst := some 46) (op := .call { callee := .value (.func 40), args := #[.tmp 45], argTypes := #[45] }) (by kernel_rfl) (Step.call 40 [.pointer (some ⟨d229, 0, none⟩)] (by kernel_rfl) (by kernel_rfl) [blk d229 81 [.slice A930 n931 c932, .slice none 0 0, .int .i64 0, .bool false]] [] [row 5 1 (.slice A930 n931 c932) n931 (nums .u8 zs33), row 84 2 (.slice none 0 0) 0 (chV ([] : List Ch)), chd .u8 ([] : List Ch), row 5 1 (.slice A920 zs22.length c921) zs22.length (nums .u8 zs22), blk d26 81 [.slice A97 n98 c99, .slice none 0 0, .int .i64 0, .bool false], row 5 1 (.slice A97 n98 c99) n98 (nums .u8 zs10), row 84 2 (.slice none 0 0) 0 (chV ([] : List Ch)), chd .u8 ([] : List Ch), vw A7 (nums .u8 im), vw A8 (nums .u8 bs)] (d_Blocks_spec d229 A930 n931 c932 none 0 0 0 false (by first | assumption | omega | (simp only [List.length_append, List.length_cons, List.length_nil, List.length_set, List.length_replicate, List.length_take, List.length_drop]; omega) | (simp only [fits] at *; omega) | (simp only [List.length_append, List.length_cons, List.length_nil, List.length_set, List.length_replicate, List.length_take, List.length_drop] at *; omega) | (simp; done) | decide) (by first | assumption | omega | (simp only [List.length_append, List.length_cons, List.length_nil, List.length_set, List.length_replicate, List.length_take, List.length_drop]; omega) | (simp only [fits] at *; omega) | (simp only [List.length_append, List.length_cons, List.length_nil, List.length_set, List.length_replicate, List.length_take, List.length_drop] at *; omega) | (simp; done) | decide)) [0] (by kernel_rfl) (Lend.nil _) ?_)
          rintro _ _ ⟨rfl, rfl⟩
          refine RunR.sil hU [] 1 6 [0, 1, 2, 6, 7, 9, 44, 46, 47] [(0, .slice A7 im.length c7), (1, .int .i64 x), (2, .slice A8 bs.length c8), (6, .bool false), (7, .pointer (some ⟨d26, 0, none⟩)), (9, .pointer (some ⟨d229, 0, none⟩)), (44, .bool false), (46, .int .i64 (((n931 : Nat) : Int) / 256)), (47, .pointer (some ⟨d26, 0, none⟩))] ((True) ∧ True) rfl (by kernel_rfl) ⟨trivial, trivial⟩ ?_
          refine RunR.step (dst := some 48) (op := .call { callee := .value (.func 40), args := #[.tmp 47], argTypes := #[45] }) (by kernel_rfl) (Step.call 40 [.pointer (some ⟨d26, 0, none⟩)] (by kernel_rfl) (by kernel_rfl) [blk d26 81 [.slice A97 n98 c99, .slice none 0 0, .int .i64 0, .bool false]] [] [blk d229 81 [.slice A930 n931 c932, .slice none 0 0, .int .i64 0, .bool false], row 5 1 (.slice A930 n931 c932) n931 (nums .u8 zs33), row 84 2 (.slice none 0 0) 0 (chV ([] : List Ch)), chd .u8 ([] : List Ch), row 5 1 (.slice A920 zs22.length c921) zs22.length (nums .u8 zs22), row 5 1 (.slice A97 n98 c99) n98 (nums .u8 zs10), row 84 2 (.slice none 0 0) 0 (chV ([] : List Ch)), chd .u8 ([] : List Ch), vw A7 (nums .u8 im), vw A8 (nums .u8 bs)] (d_Blocks_spec d26 A97 n98 c99 none 0 0 0 false (by first | assumption | omega | (simp only [List.length_append, List.length_cons, List.length_nil, List.length_set, List.length_replicate, List.length_take, List.length_drop]; omega) | (simp only [fits] at *; omega) | (simp only [List.length_append, List.length_cons, List.length_nil, List.length_set, List.length_replicate, List.length_take, List.length_drop] at *; omega) | (simp; done) | decide) (by first | assumption | omega | (simp only [List.length_append, List.length_cons, List.length_nil, List.length_set, List.length_replicate, List.length_take, List.length_drop]; omega) | (simp only [fits] at *; omega) | (simp only [List.length_append, List.length_cons, List.length_nil, List.length_set, List.length_replicate, List.length_take, List.length_drop] at *; omega) | (simp; done) | decide)) [5] (by kernel_rfl) (Lend.nil _) ?_)
          rintro _ _ ⟨rfl, rfl⟩
          refine RunR.sil hU [] 2 9 [0, 1, 2, 6, 7, 9, 50] [(0, .slice A7 im.length c7), (1, .int .i64 x), (2, .slice A8 bs.length c8), (6, .bool false), (7, .pointer (some ⟨d26, 0, none⟩)), (9, .pointer (some ⟨d229, 0, none⟩)), (50, .bool (!decide ((((n931 : Nat) : Int) / 256) = (((n98 : Nat) : Int) / 256))))] ((True) ∧ (True) ∧ True) rfl (by kernel_rfl) ⟨trivial, trivial, trivial⟩ ?_
          refine RunR.env [0, 1, 2, 6, 7, 9, 50] [(0, .slice A7 im.length c7), (1, .int .i64 x), (2, .slice A8 bs.length c8), (6, .bool false), (7, .pointer (some ⟨d26, 0, none⟩)), (9, .pointer (some ⟨d229, 0, none⟩)), (50, .bool (!decide ((((n931 : Nat) : Int) / 256) = (((n98 : Nat) : Int) / 256))))] (by kernel_rfl) ?_
          have hk42 : ((((n931 : Nat) : Int) / 256) = (((n98 : Nat) : Int) / 256)) := by omega
          refine RunR.enveq [(0, .slice A7 im.length c7), (1, .int .i64 x), (2, .slice A8 bs.length c8), (6, .bool false), (7, .pointer (some ⟨d26, 0, none⟩)), (9, .pointer (some ⟨d229, 0, none⟩)), (50, .bool false)] (by rw [decide_eq_true hk42]; try rfl) ?_
          refine RunR.done (by kernel_rfl) ?_
          refine kseq_n ?_
          refine RunC.cond (b := false) (by kernel_rfl) (fun h => by cases h) (fun _ => ?_)
          refine RunC.skip ?_
          refine kseq_n ?_
          refine RunC.seq ?_
          refine RunC.region ?_
          refine RunR.sil hU [] 3 3 [0, 2, 6, 7, 9, 51, 52, 53] [(0, .slice A7 im.length c7), (2, .slice A8 bs.length c8), (6, .bool false), (7, .pointer (some ⟨d26, 0, none⟩)), (9, .pointer (some ⟨d229, 0, none⟩)), (51, .pointer (some ⟨d229, 0, none⟩)), (52, .int .i64 x), (53, .slice A8 bs.length c8)] ((True) ∧ (True) ∧ (True) ∧ True) rfl (by kernel_rfl) ⟨trivial, trivial, trivial, trivial⟩ ?_
          refine RunR.step (dst := some 54) (op := .call { callee := .value (.func 46), args := #[.tmp 51, .tmp 52, .tmp 53], argTypes := #[45, 3, 22] }) (by kernel_rfl) (Step.call 46 [.pointer (some ⟨d229, 0, none⟩), .int .i64 x, .slice A8 bs.length c8] (by kernel_rfl) (by kernel_rfl) [blk d229 81 [.slice A930 n931 c932, .slice none 0 0, .int .i64 0, .bool false], row 5 1 (.slice A930 n931 c932) n931 (nums .u8 zs33)] [vw A8 (nums .u8 bs)] [blk d26 81 [.slice A97 n98 c99, .slice none 0 0, .int .i64 0, .bool false], row 84 2 (.slice none 0 0) 0 (chV ([] : List Ch)), chd .u8 ([] : List Ch), row 5 1 (.slice A920 zs22.length c921) zs22.length (nums .u8 zs22), row 5 1 (.slice A97 n98 c99) n98 (nums .u8 zs10), row 84 2 (.slice none 0 0) 0 (chV ([] : List Ch)), chd .u8 ([] : List Ch), vw A7 (nums .u8 im), vw A8 (nums .u8 bs)] (d_Tamper_spec d229 A930 n931 c932 zs33 none 0 0 0 false x A8 c8 bs bs.length hp34 (by first | rfl | assumption | omega | (simp only [List.length_append, List.length_cons, List.length_nil, List.length_set, List.length_replicate, List.length_take, List.length_drop]; omega) | (simp; done)) (by first | assumption | omega | (simp only [List.length_append, List.length_cons, List.length_nil, List.length_set, List.length_replicate, List.length_take, List.length_drop]; omega) | (simp only [fits] at *; omega) | (simp only [List.length_append, List.length_cons, List.length_nil, List.length_set, List.length_replicate, List.length_take, List.length_drop] at *; omega) | (simp; done) | decide) (fun h => hp37 (by first | exact h | (simp at h ⊢; omega))) (by first | assumption | omega | (simp only [List.length_append, List.length_cons, List.length_nil, List.length_set, List.length_replicate, List.length_take, List.length_drop]; omega) | (simp only [fits] at *; omega) | (simp only [List.length_append, List.length_cons, List.length_nil, List.length_set, List.length_replicate, List.length_take, List.length_drop] at *; omega) | (simp; done) | decide) (by first | assumption | omega | (simp only [List.length_append, List.length_cons, List.length_nil, List.length_set, List.length_replicate, List.length_take, List.length_drop]; omega) | (simp only [fits] at *; omega) | (simp only [List.length_append, List.length_cons, List.length_nil, List.length_set, List.length_replicate, List.length_take, List.length_drop] at *; omega) | (simp; done) | decide) (by first | assumption | exact fits_wrap _ _ | exact fits_bits2 _ _ _ _ | (refine ⟨?_, ?_⟩ <;> omega)) hIbs (by first | assumption | omega | (simp only [List.length_append, List.length_cons, List.length_nil, List.length_set, List.length_replicate, List.length_take, List.length_drop]; omega) | (simp only [fits] at *; omega) | (simp only [List.length_append, List.length_cons, List.length_nil, List.length_set, List.length_replicate, List.length_take, List.length_drop] at *; omega) | (simp; done) | decide) (by first | assumption | omega | (simp only [List.length_append, List.length_cons, List.length_nil, List.length_set, List.length_replicate, List.length_take, List.length_drop]; omega) | (simp only [fits] at *; omega) | (simp only [List.length_append, List.length_cons, List.length_nil, List.length_set, List.length_replicate, List.length_take, List.length_drop] at *; omega) | (simp; done) | decide) (by first | rfl | assumption | omega | (simp only [List.length_append, List.length_cons, List.length_nil, List.length_set, List.length_replicate, List.length_take, List.length_drop]; omega) | (simp; done))) [1, 1] (by kernel_rfl) ((Lend.nil _).tells 8 (vw A8 (nums .u8 bs)) A8 (nums .u8 bs) (by kernel_rfl) (tells_vw _ _)) ?_)
          rintro _ _ ⟨ss243, rfl, rfl, hp44, hp45, hp46⟩
          refine RunR.done (by kernel_rfl) ?_
          refine kseq_n ?_
          refine RunC.seq ?_
          refine RunC.region ?_
          refine RunR.sil hU [] 2 2 [0, 6, 7, 55, 56] [(0, .slice A7 im.length c7), (6, .bool false), (7, .pointer (some ⟨d26, 0, none⟩)), (55, .pointer (some ⟨d229, 0, none⟩)), (56, .slice A8 bs.length c8)] ((True) ∧ (True) ∧ True) rfl (by kernel_rfl) ⟨trivial, trivial, trivial⟩ ?_
          refine RunR.step (dst := some 57) (op := .call { callee := .value (.func 35), args := #[.tmp 56], argTypes := #[22] }) (by kernel_rfl) (Step.call 35 [.slice A8 bs.length c8] (by kernel_rfl) (by kernel_rfl) [] [vw A8 (nums .u8 bs)] [blk d229 81 [.slice A930 n931 c932, .slice none 0 0, .int .i64 0, .bool false], row 5 1 (.slice A930 n931 c932) n931 (nums .u8 ss243), blk d26 81 [.slice A97 n98 c99, .slice none 0 0, .int .i64 0, .bool false], row 84 2 (.slice none 0 0) 0 (chV ([] : List Ch)), chd .u8 ([] : List Ch), row 5 1 (.slice A920 zs22.length c921) zs22.length (nums .u8 zs22), row 5 1 (.slice A97 n98 c99) n98 (nums .u8 zs10), row 84 2 (.slice none 0 0) 0 (chV ([] : List Ch)), chd .u8 ([] : List Ch), vw A7 (nums .u8 im), vw A8 (nums .u8 bs)] (d_Full_spec A8 c8 bs bs.length hIbs (by first | assumption | omega | (simp only [List.length_append, List.length_cons, List.length_nil, List.length_set, List.length_replicate, List.length_take, List.length_drop]; omega) | (simp only [fits] at *; omega) | (simp only [List.length_append, List.length_cons, List.length_nil, List.length_set, List.length_replicate, List.length_take, List.length_drop] at *; omega) | (simp; done) | decide) (by first | assumption | omega | (simp only [List.length_append, List.length_cons, List.length_nil, List.length_set, List.length_replicate, List.length_take, List.length_drop]; omega) | (simp only [fits] at *; omega) | (simp only [List.length_append, List.length_cons, List.length_nil, List.length_set, List.length_replicate, List.length_take, List.length_drop] at *; omega) | (simp; done) | decide) (by first | rfl | assumption | omega | (simp only [List.length_append, List.length_cons, List.length_nil, List.length_set, List.length_replicate, List.length_take, List.length_drop]; omega) | (simp; done))) [] (by kernel_rfl) ((Lend.nil _).tells 10 (vw A8 (nums .u8 bs)) A8 (nums .u8 bs) (by kernel_rfl) (tells_vw _ _)) ?_)
          rintro _ _ ⟨A947, c948, zs49, rfl, rfl, hp50, hp51, hp52, hp53, hp54⟩
          refine RunR.step (dst := some 58) (op := .call { callee := .value (.func 34), args := #[.tmp 55, .const (.int .i64 0), .tmp 57], argTypes := #[45, 3, 22] }) (by kernel_rfl) (Step.call 34 [.pointer (some ⟨d229, 0, none⟩), .int .i64 0, .slice A947 256 c948] (by kernel_rfl) (by kernel_rfl) [blk d229 81 [.slice A930 n931 c932, .slice none 0 0, .int .i64 0, .bool false], row 5 1 (.slice A930 n931 c932) n931 (nums .u8 ss243), row 84 2 (.slice none 0 0) 0 (chV ([] : List Ch)), chd .u8 ([] : List Ch)] [vw A947 (nums .u8 zs49)] [row 5 1 (.slice A947 256 c948) 256 (nums .u8 zs49), blk d26 81 [.slice A97 n98 c99, .slice none 0 0, .int .i64 0, .bool false], row 5 1 (.slice A920 zs22.length c921) zs22.length (nums .u8 zs22), row 5 1 (.slice A97 n98 c99) n98 (nums .u8 zs10), row 84 2 (.slice none 0 0) 0 (chV ([] : List Ch)), chd .u8 ([] : List Ch), vw A7 (nums .u8 im), vw A8 (nums .u8 bs)] (d_Write_spec d229 A930 n931 c932 ss243 none 0 0 ([] : List Ch) 0 false 0 A947 c948 zs49 256 hp45 (by first | rfl | assumption | omega | (simp only [List.length_append, List.length_cons, List.length_nil, List.length_set, List.length_replicate, List.length_take, List.length_drop]; omega) | (simp; done)) (by first | assumption | omega | (simp only [List.length_append, List.length_cons, List.length_nil, List.length_set, List.length_replicate, List.length_take, List.length_drop]; omega) | (simp only [fits] at *; omega) | (simp only [List.length_append, List.length_cons, List.length_nil, List.length_set, List.length_replicate, List.length_take, List.length_drop] at *; omega) | (simp; done) | decide) (fun h => hp37 (by first | exact h | (simp at h ⊢; omega))) (by first | assumption | omega | (simp only [List.length_append, List.length_cons, List.length_nil, List.length_set, List.length_replicate, List.length_take, List.length_drop]; omega) | (simp only [fits] at *; omega) | (simp only [List.length_append, List.length_cons, List.length_nil, List.length_set, List.length_replicate, List.length_take, List.length_drop] at *; omega) | (simp; done) | decide) (by first | assumption | omega | (simp only [List.length_append, List.length_cons, List.length_nil, List.length_set, List.length_replicate, List.length_take, List.length_drop]; omega) | (simp only [fits] at *; omega) | (simp only [List.length_append, List.length_cons, List.length_nil, List.length_set, List.length_replicate, List.length_take, List.length_drop] at *; omega) | (simp; done) | decide) (by first | rfl | assumption | omega | (simp only [List.length_append, List.length_cons, List.length_nil, List.length_set, List.length_replicate, List.length_take, List.length_drop]; omega) | (simp; done)) (by first | assumption | omega | (simp only [List.length_append, List.length_cons, List.length_nil, List.length_set, List.length_replicate, List.length_take, List.length_drop]; omega) | (simp only [fits] at *; omega) | (simp only [List.length_append, List.length_cons, List.length_nil, List.length_set, List.length_replicate, List.length_take, List.length_drop] at *; omega) | (simp; done) | decide) (by exact ChOK.nil _) (by exact WOK.nil _) (fun h => absurd h (by first | decide | simp | omega)) (by first | assumption | omega | (simp only [List.length_append, List.length_cons, List.length_nil, List.length_set, List.length_replicate, List.length_take, List.length_drop]; omega) | (simp only [fits] at *; omega) | (simp only [List.length_append, List.length_cons, List.length_nil, List.length_set, List.length_replicate, List.length_take, List.length_drop] at *; omega) | (simp; done) | decide) (by first | assumption | exact fits_wrap _ _ | exact fits_bits2 _ _ _ _ | (refine ⟨?_, ?_⟩ <;> omega)) hp52 (by first | assumption | omega | (simp only [List.length_append, List.length_cons, List.length_nil, List.length_set, List.length_replicate, List.length_take, List.length_drop]; omega) | (simp only [fits] at *; omega) | (simp only [List.length_append, List.length_cons, List.length_nil, List.length_set, List.length_replicate, List.length_take, List.length_drop] at *; omega) | (simp; done) | decide) (by first | assumption | omega | (simp only [List.length_append, List.length_cons, List.length_nil, List.length_set, List.length_replicate, List.length_take, List.length_drop]; omega) | (simp only [fits] at *; omega) | (simp only [List.length_append, List.length_cons, List.length_nil, List.length_set, List.length_replicate, List.length_take, List.length_drop] at *; omega) | (simp; done) | decide) (by first | rfl | assumption | omega | (simp only [List.length_append, List.length_cons, List.length_nil, List.length_set, List.length_replicate, List.length_take, List.length_drop]; omega) | (simp; done))) [1, 1, 2, 2] (by kernel_rfl) ((Lend.nil _).tells 0 (row 5 1 (.slice A947 256 c948) 256 (nums .u8 zs49)) A947 (nums .u8 zs49) (by kernel_rfl) (tells_row _ _ _ _ _ _)) ?_)
          rintro _ _ ⟨e55, Wb56, m257, wc258, ws259, lf260, dn261, rfl, rfl, hp62, hp63, hp64, hp65, hp66, hp67, hp68⟩
          refine RunR.done (by kernel_rfl) ?_
          refine kseq_n ?_
          refine RunC.seq ?_
          refine RunC.region ?_
          refine RunR.sil hU [] 1 1 [0, 6, 7, 59] [(0, .slice A7 im.length c7), (6, .bool false), (7, .pointer (some ⟨d26, 0, none⟩)), (59, .pointer (some ⟨d26, 0, none⟩))] ((True) ∧ True) rfl (by kernel_rfl) ⟨trivial, trivial⟩ ?_
          refine RunR.step (dst := some 60) (op := .call { callee := .value (.func 38), args := #[.tmp 59], argTypes := #[45] }) (by kernel_rfl) (Step.call 38 [.pointer (some ⟨d26, 0, none⟩)] (by kernel_rfl) (by kernel_rfl) [blk d26 81 [.slice A97 n98 c99, .slice none 0 0, .int .i64 0, .bool false], row 5 1 (.slice A97 n98 c99) n98 (nums .u8 zs10)] [] [blk d229 81 [.slice A930 n931 c932, .slice Wb56 m257 wc258, .int .i64 lf260, .bool dn261], row 5 1 (.slice A930 n931 c932) n931 (nums .u8 ss243), row 84 2 (.slice Wb56 m257 wc258) m257 (chV ws259), chd .u8 ws259, row 5 1 (.slice A947 256 c948) 256 (nums .u8 zs49), row 5 1 (.slice A920 zs22.length c921) zs22.length (nums .u8 zs22), row 84 2 (.slice none 0 0) 0 (chV ([] : List Ch)), chd .u8 ([] : List Ch), vw A7 (nums .u8 im), vw A8 (nums .u8 bs)] (d_Image_spec d26 A97 n98 c99 zs10 none 0 0 0 false hp11 (by first | rfl | assumption | omega | (simp only [List.length_append, List.length_cons, List.length_nil, List.length_set, List.length_replicate, List.length_take, List.length_drop]; omega) | (simp; done)) (by first | assumption | omega | (simp only [List.length_append, List.length_cons, List.length_nil, List.length_set, List.length_replicate, List.length_take, List.length_drop]; omega) | (simp only [fits] at *; omega) | (simp only [List.length_append, List.length_cons, List.length_nil, List.length_set, List.length_replicate, List.length_take, List.length_drop] at *; omega) | (simp; done) | decide) (fun h => hp14 (by first | exact h | (simp at h ⊢; omega))) (by first | assumption | omega | (simp only [List.length_append, List.length_cons, List.length_nil, List.length_set, List.length_replicate, List.length_take, List.length_drop]; omega) | (simp only [fits] at *; omega) | (simp only [List.length_append, List.length_cons, List.length_nil, List.length_set, List.length_replicate, List.length_take, List.length_drop] at *; omega) | (simp; done) | decide) (by first | assumption | omega | (simp only [List.length_append, List.length_cons, List.length_nil, List.length_set, List.length_replicate, List.length_take, List.length_drop]; omega) | (simp only [fits] at *; omega) | (simp only [List.length_append, List.length_cons, List.length_nil, List.length_set, List.length_replicate, List.length_take, List.length_drop] at *; omega) | (simp; done) | decide)) [5, 6] (by kernel_rfl) (Lend.nil _) ?_)
          rintro _ _ ⟨A969, c970, zs71, rfl, rfl, hp72, hp73, hp74, hp75, hp76⟩
          refine RunR.sil hU [] 1 3 [6, 7, 60, 61] [(6, .bool false), (7, .pointer (some ⟨d26, 0, none⟩)), (60, .slice A969 zs71.length c970), (61, .slice A7 im.length c7)] ((True) ∧ True) rfl (by kernel_rfl) ⟨trivial, trivial⟩ ?_
          refine RunR.step (dst := some 62) (op := .call { callee := .value (.func 18), args := #[.tmp 60, .tmp 61], argTypes := #[22, 22] }) (by kernel_rfl) (Step.call 18 [.slice A969 zs71.length c970, .slice A7 im.length c7] (by kernel_rfl) (by kernel_rfl) [] [vw A969 (nums .u8 zs71), vw A7 (nums .u8 im)] [row 5 1 (.slice A969 zs71.length c970) zs71.length (nums .u8 zs71), blk d26 81 [.slice A97 n98 c99, .slice none 0 0, .int .i64 0, .bool false], row 5 1 (.slice A97 n98 c99) n98 (nums .u8 zs10), blk d229 81 [.slice A930 n931 c932, .slice Wb56 m257 wc258, .int .i64 lf260, .bool dn261], row 5 1 (.slice A930 n931 c932) n931 (nums .u8 ss243), row 84 2 (.slice Wb56 m257 wc258) m257 (chV ws259), chd .u8 ws259, row 5 1 (.slice A947 256 c948) 256 (nums .u8 zs49), row 5 1 (.slice A920 zs22.length c921) zs22.length (nums .u8 zs22), row 84 2 (.slice none 0 0) 0 (chV ([] : List Ch)), chd .u8 ([] : List Ch), vw A7 (nums .u8 im), vw A8 (nums .u8 bs)] (r_Equal_spec A969 c970 zs71 A7 c7 im zs71.length im.length hp74 (by first | assumption | omega | (simp only [List.length_append, List.length_cons, List.length_nil, List.length_set, List.length_replicate, List.length_take, List.length_drop]; omega) | (simp only [fits] at *; omega) | (simp only [List.length_append, List.length_cons, List.length_nil, List.length_set, List.length_replicate, List.length_take, List.length_drop] at *; omega) | (simp; done) | decide) hIim (by first | assumption | omega | (simp only [List.length_append, List.length_cons, List.length_nil, List.length_set, List.length_replicate, List.length_take, List.length_drop]; omega) | (simp only [fits] at *; omega) | (simp only [List.length_append, List.length_cons, List.length_nil, List.length_set, List.length_replicate, List.length_take, List.length_drop] at *; omega) | (simp; done) | decide) (by first | rfl | assumption | omega | (simp only [List.length_append, List.length_cons, List.length_nil, List.length_set, List.length_replicate, List.length_take, List.length_drop]; omega) | (simp; done)) (by first | rfl | assumption | omega | (simp only [List.length_append, List.length_cons, List.length_nil, List.length_set, List.length_replicate, List.length_take, List.length_drop]; omega) | (simp; done))) [] (by kernel_rfl) (((Lend.nil _).tells 11 (vw A7 (nums .u8 im)) A7 (nums .u8 im) (by kernel_rfl) (tells_vw _ _)).tells 0 (row 5 1 (.slice A969 zs71.length c970) zs71.length (nums .u8 zs71)) A969 (nums .u8 zs71) (by kernel_rfl) (tells_row _ _ _ _ _ _)) ?_)
          rintro _ _ ⟨rfl, rfl⟩
          refine RunR.sil hU [] 1 5 [6, 7, 63] [(6, .bool false), (7, .pointer (some ⟨d26, 0, none⟩)), (63, .bool (decide (zs71 = im)))] ((True) ∧ True) rfl (by kernel_rfl) ⟨trivial, trivial⟩ ?_
          refine RunR.env [6, 7, 63] [(6, .bool false), (7, .pointer (some ⟨d26, 0, none⟩)), (63, .bool (decide (zs71 = im)))] (by kernel_rfl) ?_
          have hk77 : (zs71 = im) := by simp only [hp17, hp18, hp23, hp40, hp41, hp44, hp50, hp72]
          refine RunR.enveq [(6, .bool false), (7, .pointer (some ⟨d26, 0, none⟩)), (63, .bool true)] (by rw [decide_eq_true hk77]; try rfl) ?_
          refine RunR.sil hU [] 1 6 [6, 63, 64] [(6, .bool false), (63, .bool true), (64, .pointer (some ⟨d26, 0, none⟩))] ((True) ∧ True) rfl (by kernel_rfl) ⟨trivial, trivial⟩ ?_
          refine RunR.step (dst := some 65) (op := .call { callee := .value (.func 44), args := #[.tmp 64], argTypes := #[45] }) (by kernel_rfl) (Step.call 44 [.pointer (some ⟨d26, 0, none⟩)] (by kernel_rfl) (by kernel_rfl) [blk d26 81 [.slice A97 n98 c99, .slice none 0 0, .int .i64 0, .bool false]] [] [row 5 1 (.slice A969 zs71.length c970) zs71.length (nums .u8 zs71), row 5 1 (.slice A97 n98 c99) n98 (nums .u8 zs10), blk d229 81 [.slice A930 n931 c932, .slice Wb56 m257 wc258, .int .i64 lf260, .bool dn261], row 5 1 (.slice A930 n931 c932) n931 (nums .u8 ss243), row 84 2 (.slice Wb56 m257 wc258) m257 (chV ws259), chd .u8 ws259, row 5 1 (.slice A947 256 c948) 256 (nums .u8 zs49), row 5 1 (.slice A920 zs22.length c921) zs22.length (nums .u8 zs22), row 84 2 (.slice none 0 0) 0 (chV ([] : List Ch)), chd .u8 ([] : List Ch), vw A7 (nums .u8 im), vw A8 (nums .u8 bs)] (d_Waiting_spec d26 A97 n98 c99 none 0 0 0 false) [1] (by kernel_rfl) (Lend.nil _) ?_)
          rintro _ _ ⟨rfl, rfl⟩
          refine RunR.sil hU [] 3 10 [6] [(6, .bool (decide (((0 : Nat) : Int) = 0)))] ((True) ∧ (True) ∧ (True) ∧ True) rfl (by kernel_rfl) ⟨trivial, trivial, trivial, trivial⟩ ?_
          refine RunR.done (by kernel_rfl) ?_
          refine kseq_n ?_
          refine RunC.ret ?_
          refine kret_r [.bool (decide (((0 : Nat) : Int) = 0))] [] [] ⟨rfl, trivial⟩ (by kernel_rfl) rfl ⟨rfl, rfl⟩
end Go.Proofs.Ytcpohiegijpghaa.LDiskTwins
