/- What these functions compute: a contract for each, walked through its code. -/
import Derived.Test.YtjhinpmnpdgadaaDoorZPure
import Derived.Test.YtjhinpmnpdgadaaDoorProg
import Derived.Test.YtjhinpmnpdgadaaDoorX1
namespace Go.Proofs.YtjhinpmnpdgadaaDoor.X2
open Go Go.Proofs.YtjhinpmnpdgadaaDoor.SL Go.Proofs.YtjhinpmnpdgadaaDoor.SL.W Go.Proofs.YtjhinpmnpdgadaaDoor.SL.Z Go.Proofs.YtjhinpmnpdgadaaDoor.X1
set_option linter.unusedVariables false
set_option linter.unusedSimpArgs false
set_option maxRecDepth 100000
set_option maxHeartbeats 40000000
def U : Tab where
  und := [(3, .int .i64), (5, .int .u8), (9, .string), (22, .slice 5), (68, .pointer 70), (69, .struct #[{ name := "addr", type := 68, offset := 0, embedded := false, tag := "", pkgPath := "strings", byteOffset := 0 }, { name := "buf", type := 22, offset := 1, embedded := false, tag := "", pkgPath := "strings", byteOffset := 8 }]), (70, .struct #[{ name := "addr", type := 68, offset := 0, embedded := false, tag := "", pkgPath := "strings", byteOffset := 0 }, { name := "buf", type := 22, offset := 1, embedded := false, tag := "", pkgPath := "strings", byteOffset := 8 }]), (82, .pointer 5), (84, .unsafePointer)]
  fld := [((69, 0), (0, 68)), ((69, 1), (1, 22)), ((70, 0), (0, 68)), ((70, 1), (1, 22))]
  sz := [(3, 1), (5, 1), (9, 1), (22, 1), (68, 1), (69, 2), (70, 2), (82, 1), (84, 1)]
  ti := [(3, (1, 8, .int .i64 0)), (5, (1, 1, .int .u8 0)), (9, (1, 16, .string ⟨#[]⟩)), (22, (1, 24, .slice none 0 0)), (68, (1, 8, .pointer none)), (69, (2, 32, .agg #[.pointer none, .slice none 0 0])), (70, (2, 32, .agg #[.pointer none, .slice none 0 0])), (82, (1, 8, .pointer none)), (84, (1, 8, .pointer none))]
  bld := [(69, [(0, 1), (1, 1)]), (70, [(0, 1), (1, 1)])]

theorem hU : U.OK Tryd.prog where
  und := by
    intro p hp
    simp only [U, List.mem_cons, List.not_mem_nil, or_false] at hp
    rcases hp with rfl | rfl | rfl | rfl | rfl | rfl | rfl | rfl | rfl
    · exact Tryd.underlying3
    · exact Tryd.underlying5
    · exact Tryd.underlying9
    · exact Tryd.underlying22
    · exact Tryd.underlying68
    · exact Tryd.underlying69
    · exact Tryd.underlying70
    · exact Tryd.underlying82
    · exact Tryd.underlying84
  fld := by
    intro p hp
    simp only [U, List.mem_cons, List.not_mem_nil, or_false] at hp
    rcases hp with rfl | rfl | rfl | rfl
    · exact ⟨_, _, Tryd.underlying69, rfl, rfl, rfl, Tryd.prog.types[68]!, by kernel_rfl, by decide +kernel⟩
    · exact ⟨_, _, Tryd.underlying69, rfl, rfl, rfl, Tryd.prog.types[22]!, by kernel_rfl, by decide +kernel⟩
    · exact ⟨_, _, Tryd.underlying70, rfl, rfl, rfl, Tryd.prog.types[68]!, by kernel_rfl, by decide +kernel⟩
    · exact ⟨_, _, Tryd.underlying70, rfl, rfl, rfl, Tryd.prog.types[22]!, by kernel_rfl, by decide +kernel⟩
  sz := by
    intro p hp
    simp only [U, List.mem_cons, List.not_mem_nil, or_false] at hp
    rcases hp with rfl | rfl | rfl | rfl | rfl | rfl | rfl | rfl | rfl
    · exact ⟨Tryd.prog.types[3]!, by kernel_rfl, by kernel_rfl⟩
    · exact ⟨Tryd.prog.types[5]!, by kernel_rfl, by kernel_rfl⟩
    · exact ⟨Tryd.prog.types[9]!, by kernel_rfl, by kernel_rfl⟩
    · exact ⟨Tryd.prog.types[22]!, by kernel_rfl, by kernel_rfl⟩
    · exact ⟨Tryd.prog.types[68]!, by kernel_rfl, by kernel_rfl⟩
    · exact ⟨Tryd.prog.types[69]!, by kernel_rfl, by kernel_rfl⟩
    · exact ⟨Tryd.prog.types[70]!, by kernel_rfl, by kernel_rfl⟩
    · exact ⟨Tryd.prog.types[82]!, by kernel_rfl, by kernel_rfl⟩
    · exact ⟨Tryd.prog.types[84]!, by kernel_rfl, by kernel_rfl⟩
  ti := by
    intro p hp
    simp only [U, List.mem_cons, List.not_mem_nil, or_false] at hp
    rcases hp with rfl | rfl | rfl | rfl | rfl | rfl | rfl | rfl | rfl
    · exact ⟨Tryd.prog.types[3]!, by kernel_rfl, by kernel_rfl, by kernel_rfl, by kernel_rfl⟩
    · exact ⟨Tryd.prog.types[5]!, by kernel_rfl, by kernel_rfl, by kernel_rfl, by kernel_rfl⟩
    · exact ⟨Tryd.prog.types[9]!, by kernel_rfl, by kernel_rfl, by kernel_rfl, by kernel_rfl⟩
    · exact ⟨Tryd.prog.types[22]!, by kernel_rfl, by kernel_rfl, by kernel_rfl, by kernel_rfl⟩
    · exact ⟨Tryd.prog.types[68]!, by kernel_rfl, by kernel_rfl, by kernel_rfl, by kernel_rfl⟩
    · exact ⟨Tryd.prog.types[69]!, by kernel_rfl, by kernel_rfl, by kernel_rfl, by kernel_rfl⟩
    · exact ⟨Tryd.prog.types[70]!, by kernel_rfl, by kernel_rfl, by kernel_rfl, by kernel_rfl⟩
    · exact ⟨Tryd.prog.types[82]!, by kernel_rfl, by kernel_rfl, by kernel_rfl, by kernel_rfl⟩
    · exact ⟨Tryd.prog.types[84]!, by kernel_rfl, by kernel_rfl, by kernel_rfl, by kernel_rfl⟩
  bld := by
    intro p hp
    simp only [U, List.mem_cons, List.not_mem_nil, or_false] at hp
    rcases hp with rfl | rfl
    · exact ⟨_, Tryd.underlying69, by kernel_rfl⟩
    · exact ⟨_, Tryd.underlying70, by kernel_rfl⟩
  mixed := by kernel_rfl

theorem b_copyCheck0_spec (p : Nat) (A : Option Addr) (n : Nat) (c : Nat) :
    CallsS Tryd.prog 58 [.pointer (some ⟨p, 0, none⟩)] [blk p 70 [.pointer none, .slice A n c]] (fun r D => r = .tuple #[] ∧ D = [blk p 70 [.pointer (some ⟨p, 0, none⟩), .slice A n c]]) := by
  refine CallsS.enter hU Tryd.f58 _ [] 20 Tryd.func58 rfl (by decide) rfl rfl (by kernel_rfl) fun w0 W => ?_
  refine RunC.seq ?_
  refine RunC.region ?_
  refine RunR.sil hU [] 3 3 [0, 4] [(0, .pointer (some ⟨p, 0, none⟩)), (4, .pointer (some ⟨p, 0, none⟩))] ((True) ∧ (True) ∧ (True) ∧ True) rfl (by kernel_rfl) ⟨trivial, trivial, trivial, trivial⟩ ?_
  refine RunR.step (dst := some 5) (op := .load 68 (.tmp 4)) (by kernel_rfl) (Step.load_blk hU 0 p (0) 70 [.pointer none, .slice A n c] (.pointer none) (by kernel_rfl) (by kernel_rfl) (by kernel_rfl) (by kernel_rfl) ?_)
  refine RunR.sil hU [] 1 5 [0, 6] [(0, .pointer (some ⟨p, 0, none⟩)), (6, .bool true)] ((True) ∧ True) rfl (by kernel_rfl) ⟨trivial, trivial⟩ ?_
  refine RunR.done (by kernel_rfl) ?_
  refine kseq_n ?_
  refine RunC.cond (b := true) (by kernel_rfl) (fun _ => ?_) (fun h => by cases h)
  refine RunC.region ?_
  refine RunR.sil hU [] 2 2 [7, 8] [(7, .pointer (some ⟨p, 0, none⟩)), (8, .pointer (some ⟨p, 0, none⟩))] ((True) ∧ (True) ∧ True) rfl (by kernel_rfl) ⟨trivial, trivial, trivial⟩ ?_
  refine RunR.step (dst := some 9) (op := .convert 68 84 (.tmp 8)) (by kernel_rfl) (Step.toUnsafe hU 0 p 70 70 2 [.pointer none, .slice A n c] (by kernel_rfl) (by kernel_rfl) (by kernel_rfl) (by decide) (by kernel_rfl) (by kernel_rfl) (by simp) (by kernel_rfl) ?_)
  refine RunR.step (dst := some 10) (op := .call { callee := .value (.func 65), args := #[.tmp 9], argTypes := #[84] }) (by kernel_rfl) (Step.extern 65 [.pointer (some ⟨p, 0, none⟩)] Tryd.f65 Extern.AbiNoEscape.same (.pointer (some ⟨p, 0, none⟩)) (by kernel_rfl) Tryd.func65 (by kernel_rfl) (by kernel_rfl) (by kernel_rfl) (by kernel_rfl) (fun w => Go.Lib.run_noEscape w _) (by kernel_rfl) ?_)
  refine RunR.step (dst := some 11) (op := .convert 84 68 (.tmp 10)) (by kernel_rfl) (Step.fromUnsafe hU 0 p 70 70 2 [.pointer none, .slice A n c] (by kernel_rfl) (by kernel_rfl) (by kernel_rfl) (by kernel_rfl) (by kernel_rfl) (by kernel_rfl) (by kernel_rfl) ?_)
  refine RunR.sil hU [] 2 7 [11, 13] [(11, .pointer (some ⟨p, 0, none⟩)), (13, .pointer (some ⟨p, 0, none⟩))] ((True) ∧ (True) ∧ True) rfl (by kernel_rfl) ⟨trivial, trivial, trivial⟩ ?_
  refine RunR.step (dst := none) (op := .store 68 (.tmp 13) (.tmp 11)) (by kernel_rfl) (Step.store_blk hU 0 p 0 70 [.pointer none, .slice A n c] (.pointer (some ⟨p, 0, none⟩)) (by kernel_rfl) (by kernel_rfl) (by kernel_rfl) 1 rfl [.pointer (some ⟨p, 0, none⟩)] (by kernel_rfl) rfl (by kernel_rfl) (by first | decide | simp) ?_)
  refine RunR.done (by kernel_rfl) ?_
  refine kret_n [] [0] [blk p 70 [.pointer (some ⟨p, 0, none⟩), .slice A n c]] trivial (by kernel_rfl) rfl ⟨rfl, rfl⟩

theorem b_copyCheck_spec (p : Nat) (A : Option Addr) (n : Nat) (c : Nat) :
    CallsS Tryd.prog 58 [.pointer (some ⟨p, 0, none⟩)] [blk p 70 [.pointer (some ⟨p, 0, none⟩), .slice A n c]] (fun r D => r = .tuple #[] ∧ D = [blk p 70 [.pointer (some ⟨p, 0, none⟩), .slice A n c]]) := by
  refine CallsS.enter hU Tryd.f58 _ [] 20 Tryd.func58 rfl (by decide) rfl rfl (by kernel_rfl) fun w0 W => ?_
  refine RunC.seq ?_
  refine RunC.region ?_
  refine RunR.sil hU [] 3 3 [0, 4] [(0, .pointer (some ⟨p, 0, none⟩)), (4, .pointer (some ⟨p, 0, none⟩))] ((True) ∧ (True) ∧ (True) ∧ True) rfl (by kernel_rfl) ⟨trivial, trivial, trivial, trivial⟩ ?_
  refine RunR.step (dst := some 5) (op := .load 68 (.tmp 4)) (by kernel_rfl) (Step.load_blk hU 0 p (0) 70 [.pointer (some ⟨p, 0, none⟩), .slice A n c] (.pointer (some ⟨p, 0, none⟩)) (by kernel_rfl) (by kernel_rfl) (by kernel_rfl) (by kernel_rfl) ?_)
  refine RunR.sil hU [] 1 5 [0, 6] [(0, .pointer (some ⟨p, 0, none⟩)), (6, .bool false)] ((True) ∧ True) rfl (by kernel_rfl) ⟨trivial, trivial⟩ ?_
  refine RunR.done (by kernel_rfl) ?_
  refine kseq_n ?_
  refine RunC.cond (b := false) (by kernel_rfl) (fun h => by cases h) (fun _ => ?_)
  refine RunC.seq ?_
  refine RunC.region ?_
  refine RunR.sil hU [] 3 3 [0, 16] [(0, .pointer (some ⟨p, 0, none⟩)), (16, .pointer (some ⟨p, 0, none⟩))] ((True) ∧ (True) ∧ (True) ∧ True) rfl (by kernel_rfl) ⟨trivial, trivial, trivial, trivial⟩ ?_
  refine RunR.step (dst := some 17) (op := .load 68 (.tmp 16)) (by kernel_rfl) (Step.load_blk hU 0 p (0) 70 [.pointer (some ⟨p, 0, none⟩), .slice A n c] (.pointer (some ⟨p, 0, none⟩)) (by kernel_rfl) (by kernel_rfl) (by kernel_rfl) (by kernel_rfl) ?_)
  refine RunR.sil hU [] 1 5 [17, 18] [(17, .pointer (some ⟨p, 0, none⟩)), (18, .pointer (some ⟨p, 0, none⟩))] ((True) ∧ True) rfl (by kernel_rfl) ⟨trivial, trivial⟩ ?_
  refine RunR.step (dst := some 19) (op := .binOp .neq 68 (.tmp 17) (.tmp 18) 68) (by kernel_rfl) (Step.ptrSame hU 70 2 (⟨p, 0, none⟩) (by kernel_rfl) (by kernel_rfl) (by kernel_rfl) (by kernel_rfl) (by kernel_rfl) ?_)
  refine RunR.done (by kernel_rfl) ?_
  refine kseq_n ?_
  refine RunC.cond (b := false) (by kernel_rfl) (fun h => by cases h) (fun _ => ?_)
  refine RunC.skip ?_
  refine kret_n [] [0] [blk p 70 [.pointer (some ⟨p, 0, none⟩), .slice A n c]] trivial (by kernel_rfl) rfl ⟨rfl, rfl⟩

theorem b_grow_spec (p : Nat) (k : Int) (hk : 0 ≤ k) (hkb : k ≤ 140737488351232) :
    CallsS Tryd.prog 59 [.pointer (some ⟨p, 0, none⟩), .int .i64 k] [blk p 70 [.pointer (some ⟨p, 0, none⟩), .slice none 0 0]] (fun r D => ∃ (A9 : Option Addr) (c9 : Nat), r = .tuple #[] ∧ D = [blk p 70 [.pointer (some ⟨p, 0, none⟩), .slice A9 0 c9], row 5 1 (.slice A9 0 c9) 0 (nums .u8 ([] : List Int))] ∧ (k ≤ (c9 : Int))) := by
  refine CallsS.enter hU Tryd.f59 _ [] 30 Tryd.func59 rfl (by decide) rfl rfl (by kernel_rfl) fun w0 W => ?_
  refine RunC.seq ?_
  refine RunC.regionU hU 16 [blk p 70 [.pointer (some ⟨p, 0, none⟩), .slice none 0 0]] [0] [15] (bm 16 0) (by kernel_rfl) (by kernel_rfl) (by kernel_rfl) ?_
  refine RunU.sil hU false 0 (bm 16 1) 5 (.pointer (some ⟨p, 0, none⟩)) (True) (by kernel_rfl) trivial (by kernel_rfl) (by kernel_rfl) (fun _ _ _ h => h) ?_
  refine RunU.sil hU false 1 (bm 16 3) 6 (.pointer (some ⟨p, 0, none⟩)) (True) (by kernel_rfl) trivial (by kernel_rfl) (by kernel_rfl) (fun _ _ _ h => h) ?_
  refine RunU.sil hU false 2 (bm 16 7) 7 (.pointer (some ⟨p, 1, none⟩)) (True) (by kernel_rfl) trivial (by kernel_rfl) (by kernel_rfl) (fun _ _ _ h => h) ?_
  refine RunU.read 3 (bm 16 15) 8 (.load 22 (.tmp 7)) (.slice none 0 0) [0] (by kernel_rfl) (Reads.load_blk hU 0 p (1) 70 [.pointer (some ⟨p, 0, none⟩), .slice none 0 0] (.slice none 0 0) (by kernel_rfl) (by kernel_rfl) (by kernel_rfl)) (by kernel_rfl) (by kernel_rfl) (by kernel_rfl) (by kernel_rfl) (fun _ _ _ h => h) ?_
  refine RunU.sil hU false 6 (bm 16 79) 11 (.int .i64 k) (True) (by kernel_rfl) trivial (by kernel_rfl) (by kernel_rfl) (fun _ _ _ h => h) ?_
  refine RunU.sil hU false 9 (bm 16 591) 14 (.pointer (some ⟨p, 0, none⟩)) (True) (by kernel_rfl) trivial (by kernel_rfl) (by kernel_rfl) (fun _ _ _ h => h) ?_
  refine RunU.sil hU false 10 (bm 16 1615) 15 (.pointer (some ⟨p, 0, none⟩)) (True) (by kernel_rfl) trivial (by kernel_rfl) (by kernel_rfl) (fun _ _ _ h => h) ?_
  refine RunU.sil hU false 11 (bm 16 3663) 16 (.pointer (some ⟨p, 1, none⟩)) (True) (by kernel_rfl) trivial (by kernel_rfl) (by kernel_rfl) (fun _ _ _ h => h) ?_
  refine RunU.read 12 (bm 16 7759) 17 (.load 22 (.tmp 16)) (.slice none 0 0) [0] (by kernel_rfl) (Reads.load_blk hU 0 p (1) 70 [.pointer (some ⟨p, 0, none⟩), .slice none 0 0] (.slice none 0 0) (by kernel_rfl) (by kernel_rfl) (by kernel_rfl)) (by kernel_rfl) (by kernel_rfl) (by kernel_rfl) (by kernel_rfl) (fun _ _ _ h => h) ?_
  refine RunU.sil hU false 13 (bm 16 15951) 18 (.int .i64 0) (True) (by kernel_rfl) trivial (by kernel_rfl) (by kernel_rfl) (fun _ _ _ h => h) ?_
  refine RunU.one (dst := some 9) (op := .call { callee := .builtin .cap, args := #[.tmp 8], argTypes := #[22] }) 4 (bm 16 15967) [0] (by kernel_rfl) (by kernel_rfl) (Step.cap hU 5 none 0 0 (by kernel_rfl) (by kernel_rfl) (by kernel_rfl) ?_)
  refine ⟨.inl (by kernel_rfl), ?_⟩
  refine RunU.env [0, 1, 5, 6, 7, 8, 9, 11, 14, 15, 16, 17, 18] [(0, .pointer (some ⟨p, 0, none⟩)), (1, .int .i64 k), (5, .pointer (some ⟨p, 0, none⟩)), (6, .pointer (some ⟨p, 0, none⟩)), (7, .pointer (some ⟨p, 1, none⟩)), (8, .slice none 0 0), (9, .int .i64 0), (11, .int .i64 k), (14, .pointer (some ⟨p, 0, none⟩)), (15, .pointer (some ⟨p, 0, none⟩)), (16, .pointer (some ⟨p, 1, none⟩)), (17, .slice none 0 0), (18, .int .i64 0)] (by kernel_rfl) ?_
  refine RunU.sil hU true 5 (bm 16 15999) 10 (.int .i64 0) (-9223372036854775808 ≤ ((2 : Int) * 0) ∧ ((2 : Int) * 0) < 9223372036854775808) (by kernel_rfl) (by decide) (by kernel_rfl) (by kernel_rfl) (fun _ _ _ h => h) ?_
  refine RunU.sil hU true 7 (bm 16 16127) 12 (.int .i64 (0 + k)) (-9223372036854775808 ≤ (0 + k) ∧ (0 + k) < 9223372036854775808) (by kernel_rfl) (by omega) (by kernel_rfl) (by kernel_rfl) (fun _ _ _ h => h) ?_
  refine RunU.one (dst := some 13) (op := .call { callee := .value (.func 66), args := #[.tmp 12], argTypes := #[3] }) 8 (bm 16 16383) [1] (by kernel_rfl) (by kernel_rfl) (Step.noZero hU (ps := #[3]) (ty := 22) (e := 5) 66 (0 + k) Tryd.f66 (by kernel_rfl) Tryd.func66 (by kernel_rfl) (by kernel_rfl) (by kernel_rfl) (by kernel_rfl) (by kernel_rfl) (by omega) (by omega) (by kernel_rfl) (fun b1 cq2 hc3 => ?_))
  refine ⟨.inl (by kernel_rfl), ?_⟩
  refine RunU.sil hU false 14 (bm 16 32767) 19 (.slice (some ⟨b1, 0, none⟩) 0 cq2) (0 ≤ (0 : Int) ∧ (0 : Int) ≤ ((cq2 : Nat) : Int)) (by kernel_rfl) (by omega) (by kernel_rfl) (by kernel_rfl) (fun _ _ _ h => h) ?_
  refine RunU.sil hU false 15 (bm 16 65535) 4 (.slice (some ⟨b1, 0, none⟩) 0 cq2) (True) (by kernel_rfl) trivial (by kernel_rfl) (by kernel_rfl) (fun _ _ _ h => h) ?_
  refine RunU.env [0, 4] [(0, .pointer (some ⟨p, 0, none⟩)), (4, .slice (some ⟨b1, 0, none⟩) 0 cq2)] (by kernel_rfl) ?_
  refine RunU.done (by kernel_rfl) ?_
  refine kseq_n ?_
  refine RunC.seq ?_
  refine RunC.region ?_
  refine RunR.sil hU [] 1 1 [0, 4, 20] [(0, .pointer (some ⟨p, 0, none⟩)), (4, .slice (some ⟨b1, 0, none⟩) 0 cq2), (20, .slice (some ⟨b1, 0, none⟩) 0 cq2)] ((True) ∧ True) rfl (by kernel_rfl) ⟨trivial, trivial⟩ ?_
  refine RunR.sil hU [] 3 4 [0, 4, 20, 23] [(0, .pointer (some ⟨p, 0, none⟩)), (4, .slice (some ⟨b1, 0, none⟩) 0 cq2), (20, .slice (some ⟨b1, 0, none⟩) 0 cq2), (23, .pointer (some ⟨p, 1, none⟩))] ((True) ∧ (True) ∧ (True) ∧ True) rfl (by kernel_rfl) ⟨trivial, trivial, trivial, trivial⟩ ?_
  refine RunR.step (dst := some 24) (op := .load 22 (.tmp 23)) (by kernel_rfl) (Step.load_blk hU 1 p (1) 70 [.pointer (some ⟨p, 0, none⟩), .slice none 0 0] (.slice none 0 0) (by kernel_rfl) (by kernel_rfl) (by kernel_rfl) (by kernel_rfl) ?_)
  refine RunR.turn ([vw none (nums .u8 ([] : List Int)), row 5 1 (.slice (some ⟨b1, 0, none⟩) 0 cq2) 0 (nums .u8 ([] : List Int)), blk p 70 [.pointer (some ⟨p, 0, none⟩), .slice none 0 0]]) (fun _ _ w hs => hs.nil_vw none) ?_
  refine RunR.step (dst := some 25) (op := .call { callee := .builtin .copy, args := #[.tmp 20, .tmp 24], argTypes := #[22, 22] }) (by kernel_rfl) (Step.copy_row hU 5 1 0 0 0 cq2 0 cq2 0 0 (some ⟨b1, 0, none⟩) (some ⟨b1, 0, none⟩) none ([] : List Int) (vw none (nums .u8 ([] : List Int))) .u8 ([] : List Int) (by kernel_rfl) (by kernel_rfl) (by kernel_rfl) (fun _ b h => h) (by kernel_rfl) (by kernel_rfl) (by kernel_rfl) (tells_vw _ _) (by first | rfl | omega) (by omega) (by kernel_rfl) ?_)
  have hl4 : (putl ([] : List Int) 0 (([] : List Int).take 0)).length = ([] : List Int).length := putl_len (by simp only [List.length_take]; omega)
  refine RunR.done (by kernel_rfl) ?_
  refine kseq_n ?_
  refine RunC.region ?_
  refine RunR.sil hU [] 2 2 [26, 27] [(26, .pointer (some ⟨p, 0, none⟩)), (27, .slice (some ⟨b1, 0, none⟩) 0 cq2)] ((True) ∧ (True) ∧ True) rfl (by kernel_rfl) ⟨trivial, trivial, trivial⟩ ?_
  refine RunR.sil hU [] 2 4 [27, 29] [(27, .slice (some ⟨b1, 0, none⟩) 0 cq2), (29, .pointer (some ⟨p, 1, none⟩))] ((True) ∧ (True) ∧ True) rfl (by kernel_rfl) ⟨trivial, trivial, trivial⟩ ?_
  refine RunR.step (dst := none) (op := .store 22 (.tmp 29) (.tmp 27)) (by kernel_rfl) (Step.store_blk hU 2 p 1 70 [.pointer (some ⟨p, 0, none⟩), .slice none 0 0] (.slice (some ⟨b1, 0, none⟩) 0 cq2) (by kernel_rfl) (by kernel_rfl) (by kernel_rfl) 1 rfl [.slice (some ⟨b1, 0, none⟩) 0 cq2] (by kernel_rfl) rfl (by kernel_rfl) (by first | decide | simp) ?_)
  refine RunR.done (by kernel_rfl) ?_
  refine kret_n [] [0, 0] [blk p 70 [.pointer (some ⟨p, 0, none⟩), .slice (some ⟨b1, 0, none⟩) 0 cq2], row 5 1 (.slice (some ⟨b1, 0, none⟩) 0 cq2) 0 (nums .u8 (putl ([] : List Int) 0 (([] : List Int).take 0)))] trivial (by kernel_rfl) rfl ⟨(some ⟨b1, 0, none⟩), cq2, rfl, rfl, (by first | assumption | omega | (simp only [List.length_append, List.length_cons, List.length_nil, List.length_set, List.length_replicate, List.length_take, List.length_drop]; omega) | (simp only [fits] at *; omega) | (simp only [List.length_append, List.length_cons, List.length_nil, List.length_set, List.length_replicate, List.length_take, List.length_drop] at *; omega) | (simp; done) | decide)⟩

theorem b_Grow_spec (p : Nat) (k : Int) (hk : 0 ≤ k) (hkb : k ≤ 140737488351232) :
    CallsS Tryd.prog 47 [.pointer (some ⟨p, 0, none⟩), .int .i64 k] [blk p 70 [.pointer none, .slice none 0 0]] (fun r D => ∃ (A9 : Option Addr) (c9 : Nat), r = .tuple #[] ∧ D = [blk p 70 [.pointer (some ⟨p, 0, none⟩), .slice A9 0 c9], row 5 1 (.slice A9 0 c9) 0 (nums .u8 ([] : List Int))] ∧ (k ≤ (c9 : Int))) := by
  refine CallsS.enter hU Tryd.f47 _ [] 25 Tryd.func47 rfl (by decide) rfl rfl (by kernel_rfl) fun w0 W => ?_
  refine RunC.seq ?_
  refine RunC.region ?_
  refine RunR.sil hU [] 1 1 [0, 1, 4] [(0, .pointer (some ⟨p, 0, none⟩)), (1, .int .i64 k), (4, .pointer (some ⟨p, 0, none⟩))] ((True) ∧ True) rfl (by kernel_rfl) ⟨trivial, trivial⟩ ?_
  refine RunR.step (dst := some 5) (op := .call { callee := .value (.func 58), args := #[.tmp 4], argTypes := #[68] }) (by kernel_rfl) (Step.call 58 [.pointer (some ⟨p, 0, none⟩)] (by kernel_rfl) (by kernel_rfl) [blk p 70 [.pointer none, .slice none 0 0]] [] [] (b_copyCheck0_spec p none 0 0) [0] (by kernel_rfl) (Lend.nil _) ?_)
  rintro _ _ ⟨rfl, rfl⟩
  refine RunR.done (by kernel_rfl) ?_
  refine kseq_n ?_
  refine RunC.seq ?_
  refine RunC.seq ?_
  refine RunC.region ?_
  refine RunR.sil hU [] 2 2 [0, 1, 7] [(0, .pointer (some ⟨p, 0, none⟩)), (1, .int .i64 k), (7, .bool (decide (k < 0)))] ((True) ∧ (True) ∧ True) rfl (by kernel_rfl) ⟨trivial, trivial, trivial⟩ ?_
  refine RunR.env [0, 1, 7] [(0, .pointer (some ⟨p, 0, none⟩)), (1, .int .i64 k), (7, .bool (decide (k < 0)))] (by kernel_rfl) ?_
  have hk1 : ¬ (k < 0) := by omega
  refine RunR.enveq [(0, .pointer (some ⟨p, 0, none⟩)), (1, .int .i64 k), (7, .bool false)] (by rw [decide_eq_false hk1]; try rfl) ?_
  refine RunR.done (by kernel_rfl) ?_
  refine kseq_n ?_
  refine RunC.cond (b := false) (by kernel_rfl) (fun h => by cases h) (fun _ => ?_)
  refine RunC.skip ?_
  refine kseq_n ?_
  refine RunC.seq ?_
  refine RunC.regionU hU 13 [blk p 70 [.pointer (some ⟨p, 0, none⟩), .slice none 0 0]] [0] [] (bm 13 0) (by kernel_rfl) (by kernel_rfl) (by kernel_rfl) ?_
  refine RunU.sil hU false 0 (bm 13 1) 9 (.pointer (some ⟨p, 0, none⟩)) (True) (by kernel_rfl) trivial (by kernel_rfl) (by kernel_rfl) (fun _ _ _ h => h) ?_
  refine RunU.sil hU false 1 (bm 13 3) 10 (.pointer (some ⟨p, 0, none⟩)) (True) (by kernel_rfl) trivial (by kernel_rfl) (by kernel_rfl) (fun _ _ _ h => h) ?_
  refine RunU.sil hU false 2 (bm 13 7) 11 (.pointer (some ⟨p, 1, none⟩)) (True) (by kernel_rfl) trivial (by kernel_rfl) (by kernel_rfl) (fun _ _ _ h => h) ?_
  refine RunU.read 3 (bm 13 15) 12 (.load 22 (.tmp 11)) (.slice none 0 0) [0] (by kernel_rfl) (Reads.load_blk hU 0 p (1) 70 [.pointer (some ⟨p, 0, none⟩), .slice none 0 0] (.slice none 0 0) (by kernel_rfl) (by kernel_rfl) (by kernel_rfl)) (by kernel_rfl) (by kernel_rfl) (by kernel_rfl) (by kernel_rfl) (fun _ _ _ h => h) ?_
  refine RunU.sil hU false 5 (bm 13 47) 14 (.pointer (some ⟨p, 0, none⟩)) (True) (by kernel_rfl) trivial (by kernel_rfl) (by kernel_rfl) (fun _ _ _ h => h) ?_
  refine RunU.sil hU false 6 (bm 13 111) 15 (.pointer (some ⟨p, 0, none⟩)) (True) (by kernel_rfl) trivial (by kernel_rfl) (by kernel_rfl) (fun _ _ _ h => h) ?_
  refine RunU.sil hU false 7 (bm 13 239) 16 (.pointer (some ⟨p, 1, none⟩)) (True) (by kernel_rfl) trivial (by kernel_rfl) (by kernel_rfl) (fun _ _ _ h => h) ?_
  refine RunU.read 8 (bm 13 495) 17 (.load 22 (.tmp 16)) (.slice none 0 0) [0] (by kernel_rfl) (Reads.load_blk hU 0 p (1) 70 [.pointer (some ⟨p, 0, none⟩), .slice none 0 0] (.slice none 0 0) (by kernel_rfl) (by kernel_rfl) (by kernel_rfl)) (by kernel_rfl) (by kernel_rfl) (by kernel_rfl) (by kernel_rfl) (fun _ _ _ h => h) ?_
  refine RunU.sil hU false 9 (bm 13 1007) 18 (.int .i64 0) (True) (by kernel_rfl) trivial (by kernel_rfl) (by kernel_rfl) (fun _ _ _ h => h) ?_
  refine RunU.sil hU false 11 (bm 13 3055) 20 (.int .i64 k) (True) (by kernel_rfl) trivial (by kernel_rfl) (by kernel_rfl) (fun _ _ _ h => h) ?_
  refine RunU.one (dst := some 13) (op := .call { callee := .builtin .cap, args := #[.tmp 12], argTypes := #[22] }) 4 (bm 13 3071) [0] (by kernel_rfl) (by kernel_rfl) (Step.cap hU 5 none 0 0 (by kernel_rfl) (by kernel_rfl) (by kernel_rfl) ?_)
  refine ⟨.inl (by kernel_rfl), ?_⟩
  refine RunU.env [0, 1, 7, 9, 10, 11, 12, 13, 14, 15, 16, 17, 18, 20] [(0, .pointer (some ⟨p, 0, none⟩)), (1, .int .i64 k), (7, .bool false), (9, .pointer (some ⟨p, 0, none⟩)), (10, .pointer (some ⟨p, 0, none⟩)), (11, .pointer (some ⟨p, 1, none⟩)), (12, .slice none 0 0), (13, .int .i64 0), (14, .pointer (some ⟨p, 0, none⟩)), (15, .pointer (some ⟨p, 0, none⟩)), (16, .pointer (some ⟨p, 1, none⟩)), (17, .slice none 0 0), (18, .int .i64 0), (20, .int .i64 k)] (by kernel_rfl) ?_
  refine RunU.sil hU true 10 (bm 13 4095) 19 (.int .i64 0) (-9223372036854775808 ≤ ((0 : Int) - 0) ∧ ((0 : Int) - 0) < 9223372036854775808) (by kernel_rfl) (by decide) (by kernel_rfl) (by kernel_rfl) (fun _ _ _ h => h) ?_
  refine RunU.sil hU false 12 (bm 13 8191) 21 (.bool (decide (0 < k))) (True) (by kernel_rfl) trivial (by kernel_rfl) (by kernel_rfl) (fun _ _ _ h => h) ?_
  refine RunU.env [0, 1, 21] [(0, .pointer (some ⟨p, 0, none⟩)), (1, .int .i64 k), (21, .bool (decide (0 < k)))] (by kernel_rfl) ?_
  refine RunU.done (by kernel_rfl) ?_
  refine kseq_n ?_
  refine RunC.condp (0 < k) (by kernel_rfl) (fun h2 => ?_) (fun h2 => ?_)
  · skip
    refine RunC.region ?_
    refine RunR.sil hU [] 2 2 [22, 23] [(22, .pointer (some ⟨p, 0, none⟩)), (23, .int .i64 k)] ((True) ∧ (True) ∧ True) rfl (by kernel_rfl) ⟨trivial, trivial, trivial⟩ ?_
    refine RunR.step (dst := some 24) (op := .call { callee := .value (.func 59), args := #[.tmp 22, .tmp 23], argTypes := #[68, 3] }) (by kernel_rfl) (Step.call 59 [.pointer (some ⟨p, 0, none⟩), .int .i64 k] (by kernel_rfl) (by kernel_rfl) [blk p 70 [.pointer (some ⟨p, 0, none⟩), .slice none 0 0]] [] [] (b_grow_spec p k (by first | assumption | omega | (simp only [List.length_append, List.length_cons, List.length_nil, List.length_set, List.length_replicate, List.length_take, List.length_drop]; omega) | (simp only [fits] at *; omega) | (simp only [List.length_append, List.length_cons, List.length_nil, List.length_set, List.length_replicate, List.length_take, List.length_drop] at *; omega) | (simp; done) | decide) (by first | assumption | omega | (simp only [List.length_append, List.length_cons, List.length_nil, List.length_set, List.length_replicate, List.length_take, List.length_drop]; omega) | (simp only [fits] at *; omega) | (simp only [List.length_append, List.length_cons, List.length_nil, List.length_set, List.length_replicate, List.length_take, List.length_drop] at *; omega) | (simp; done) | decide)) [0] (by kernel_rfl) (Lend.nil _) ?_)
    rintro _ _ ⟨A93, c94, rfl, rfl, hp5⟩
    refine RunR.done (by kernel_rfl) ?_
    refine kret_n [] [0, 0] [blk p 70 [.pointer (some ⟨p, 0, none⟩), .slice A93 0 c94], row 5 1 (.slice A93 0 c94) 0 (nums .u8 ([] : List Int))] trivial (by kernel_rfl) rfl ⟨A93, c94, rfl, rfl, (by first | assumption | omega | (simp only [List.length_append, List.length_cons, List.length_nil, List.length_set, List.length_replicate, List.length_take, List.length_drop]; omega) | (simp only [fits] at *; omega) | (simp only [List.length_append, List.length_cons, List.length_nil, List.length_set, List.length_replicate, List.length_take, List.length_drop] at *; omega) | (simp; done) | decide)⟩
  · skip
    refine RunC.skip ?_
    refine kret_nt ([row 5 1 (.slice none 0 0) 0 (nums .u8 ([] : List Int)), blk p 70 [.pointer (some ⟨p, 0, none⟩), .slice none 0 0]]) (fun w0 W w hs => (hs).nil_row 5 1) [] [1, 0] [blk p 70 [.pointer (some ⟨p, 0, none⟩), .slice none 0 0], row 5 1 (.slice none 0 0) 0 (nums .u8 ([] : List Int))] trivial (by kernel_rfl) rfl ⟨none, 0, rfl, rfl, (by first | assumption | omega | (simp only [List.length_append, List.length_cons, List.length_nil, List.length_set, List.length_replicate, List.length_take, List.length_drop]; omega) | (simp only [fits] at *; omega) | (simp only [List.length_append, List.length_cons, List.length_nil, List.length_set, List.length_replicate, List.length_take, List.length_drop] at *; omega) | (simp; done) | decide)⟩

theorem b_WriteString_spec (p : Nat) (A : Option Addr) (c : Nat) (xs : List Int) (s : ByteArray) (hx : In .u8 xs) (hxs : xs.length + (s : ByteArray).size ≤ 140737488351232) :
    CallsS Tryd.prog 48 [.pointer (some ⟨p, 0, none⟩), .string s] [blk p 70 [.pointer (some ⟨p, 0, none⟩), .slice A xs.length c], row 5 1 (.slice A xs.length c) xs.length (nums .u8 xs)] (fun r D => ∃ (A9 : Option Addr) (c9 : Nat) (zs : List Int), r = .tuple #[.int .i64 ((s : ByteArray).size : Int), .nilIface] ∧ D = [blk p 70 [.pointer (some ⟨p, 0, none⟩), .slice A9 zs.length c9], row 5 1 (.slice A9 zs.length c9) zs.length (nums .u8 zs)] ∧ (zs = xs ++ sb s) ∧ (In .u8 zs) ∧ (0 < zs.length → Option.isSome A9 = true) ∧ (zs.length ≤ c9)) := by
  refine CallsS.enter hU Tryd.f48 _ [.tmp 4, .tmp 5] 19 Tryd.func48 rfl (by decide) rfl rfl (by kernel_rfl) fun w0 W => ?_
  refine RunC.seq ?_
  refine RunC.region ?_
  refine RunR.sil hU [] 2 2 [0, 1, 4, 5] [(0, .pointer (some ⟨p, 0, none⟩)), (1, .string s), (4, .int .i64 0), (5, .nilIface)] ((True) ∧ (True) ∧ True) rfl (by kernel_rfl) ⟨trivial, trivial, trivial⟩ ?_
  refine RunR.done (by kernel_rfl) ?_
  refine kseq_n ?_
  refine RunC.seq ?_
  refine RunC.region ?_
  refine RunR.sil hU [] 1 1 [0, 1, 4, 5, 6] [(0, .pointer (some ⟨p, 0, none⟩)), (1, .string s), (4, .int .i64 0), (5, .nilIface), (6, .pointer (some ⟨p, 0, none⟩))] ((True) ∧ True) rfl (by kernel_rfl) ⟨trivial, trivial⟩ ?_
  refine RunR.step (dst := some 7) (op := .call { callee := .value (.func 58), args := #[.tmp 6], argTypes := #[68] }) (by kernel_rfl) (Step.call 58 [.pointer (some ⟨p, 0, none⟩)] (by kernel_rfl) (by kernel_rfl) [blk p 70 [.pointer (some ⟨p, 0, none⟩), .slice A xs.length c]] [] [row 5 1 (.slice A xs.length c) xs.length (nums .u8 xs)] (b_copyCheck_spec p A xs.length c) [0] (by kernel_rfl) (Lend.nil _) ?_)
  rintro _ _ ⟨rfl, rfl⟩
  refine RunR.done (by kernel_rfl) ?_
  refine kseq_n ?_
  refine RunC.seq ?_
  refine RunC.region ?_
  refine RunR.sil hU [] 4 4 [1, 4, 5, 8, 11] [(1, .string s), (4, .int .i64 0), (5, .nilIface), (8, .pointer (some ⟨p, 0, none⟩)), (11, .pointer (some ⟨p, 1, none⟩))] ((True) ∧ (True) ∧ (True) ∧ (True) ∧ True) rfl (by kernel_rfl) ⟨trivial, trivial, trivial, trivial, trivial⟩ ?_
  refine RunR.step (dst := some 12) (op := .load 22 (.tmp 11)) (by kernel_rfl) (Step.load_blk hU 0 p (1) 70 [.pointer (some ⟨p, 0, none⟩), .slice A xs.length c] (.slice A xs.length c) (by kernel_rfl) (by kernel_rfl) (by kernel_rfl) (by kernel_rfl) ?_)
  refine RunR.sil hU [] 1 6 [1, 4, 5, 8, 12, 13] [(1, .string s), (4, .int .i64 0), (5, .nilIface), (8, .pointer (some ⟨p, 0, none⟩)), (12, .slice A xs.length c), (13, .string s)] ((True) ∧ True) rfl (by kernel_rfl) ⟨trivial, trivial⟩ ?_
  refine RunR.step (dst := some 14) (op := .call { callee := .builtin .append, args := #[.tmp 12, .tmp 13], argTypes := #[22, 9] }) (by kernel_rfl) (Step.append_str hU 5 (.int .u8 0) 1 (.slice A xs.length c) xs.length xs s rfl rfl rfl (by kernel_rfl) (by kernel_rfl) (by kernel_rfl) (by kernel_rfl) (by first | rfl | omega) (by omega) (by kernel_rfl) (fun Aq1 cq2 hc3 hA4 => ?_))
  have hl5 : (xs ++ sb s).length = xs.length + (s : ByteArray).size := by rw [List.length_append, Go.Proofs.YtjhinpmnpdgadaaDoor.SL.sb_len]
  refine RunR.sil hU [] 2 9 [1, 4, 5, 14, 16] [(1, .string s), (4, .int .i64 0), (5, .nilIface), (14, .slice Aq1 ((xs ++ sb s).length) cq2), (16, .pointer (some ⟨p, 1, none⟩))] ((True) ∧ (True) ∧ True) rfl (by kernel_rfl) ⟨trivial, trivial, trivial⟩ ?_
  refine RunR.step (dst := none) (op := .store 22 (.tmp 16) (.tmp 14)) (by kernel_rfl) (Step.store_blk hU 1 p 1 70 [.pointer (some ⟨p, 0, none⟩), .slice A xs.length c] (.slice Aq1 ((xs ++ sb s).length) cq2) (by kernel_rfl) (by kernel_rfl) (by kernel_rfl) 1 rfl [.slice Aq1 ((xs ++ sb s).length) cq2] (by kernel_rfl) rfl (by kernel_rfl) (by first | decide | simp) ?_)
  refine RunR.done (by kernel_rfl) ?_
  refine kseq_n ?_
  refine RunC.seq ?_
  refine RunC.region ?_
  refine RunR.sil hU [] 4 4 [4, 5] [(4, .int .i64 ((s : ByteArray).size : Int)), (5, .nilIface)] ((True) ∧ (True) ∧ (True) ∧ (True) ∧ True) rfl (by kernel_rfl) ⟨trivial, trivial, trivial, trivial, trivial⟩ ?_
  refine RunR.done (by kernel_rfl) ?_
  refine kseq_n ?_
  refine RunC.ret ?_
  refine kret_r [.int .i64 ((s : ByteArray).size : Int), .nilIface] [0, 0] [blk p 70 [.pointer (some ⟨p, 0, none⟩), .slice Aq1 ((xs ++ sb s).length) cq2], row 5 1 (.slice Aq1 ((xs ++ sb s).length) cq2) ((xs ++ sb s).length) (nums .u8 (xs ++ sb s))] ⟨rfl, rfl, trivial⟩ (by kernel_rfl) rfl ⟨Aq1, cq2, (xs ++ sb s), rfl, rfl, (by first | assumption | omega | (simp only [List.length_append, List.length_cons, List.length_nil, List.length_set, List.length_replicate, List.length_take, List.length_drop]; omega) | (simp only [fits] at *; omega) | (simp only [List.length_append, List.length_cons, List.length_nil, List.length_set, List.length_replicate, List.length_take, List.length_drop] at *; omega) | (simp; done) | decide), (by (repeat first | assumption | (simp only [fits]; omega) | with_reducible first | exact fits_wrap _ _ | exact fits_bits2 _ _ _ _ | exact In.nil _ | exact In.sb _ | exact In.replicate _ _ | apply In.append | apply In.cons | apply In.set | apply In.take | apply In.drop | apply In.rev)), (fun h => hA4 (by first | exact h | (simp at h ⊢; omega))), (by first | assumption | omega | (simp only [List.length_append, List.length_cons, List.length_nil, List.length_set, List.length_replicate, List.length_take, List.length_drop]; omega) | (simp only [fits] at *; omega) | (simp only [List.length_append, List.length_cons, List.length_nil, List.length_set, List.length_replicate, List.length_take, List.length_drop] at *; omega) | (simp; done) | decide)⟩

theorem b_String_spec (p : Nat) (A : Option Addr) (c : Nat) (xs : List Int) (hx : In .u8 xs) (h0 : 0 < xs.length) (hc : xs.length ≤ c) (hA : Option.isSome A = true) :
    CallsS Tryd.prog 49 [.pointer (some ⟨p, 0, none⟩)] [blk p 70 [.pointer (some ⟨p, 0, none⟩), .slice A xs.length c], row 5 1 (.slice A xs.length c) xs.length (nums .u8 xs)] (fun r D => r = .string (strOfNums xs) ∧ D = []) := by
  refine CallsS.enter hU Tryd.f49 _ [.tmp 2] 14 Tryd.func49 rfl (by decide) rfl rfl (by kernel_rfl) fun w0 W => ?_
  refine RunC.seq ?_
  refine RunC.region ?_
  refine RunR.sil hU [] 1 1 [0, 2] [(0, .pointer (some ⟨p, 0, none⟩)), (2, .string ⟨#[]⟩)] ((True) ∧ True) rfl (by kernel_rfl) ⟨trivial, trivial⟩ ?_
  refine RunR.done (by kernel_rfl) ?_
  refine kseq_n ?_
  refine RunC.seq ?_
  refine RunC.regionU hU 12 [blk p 70 [.pointer (some ⟨p, 0, none⟩), .slice A xs.length c]] [0] [10, 11] (bm 12 0) (by kernel_rfl) (by kernel_rfl) (by kernel_rfl) ?_
  refine RunU.sil hU false 0 (bm 12 1) 3 (.pointer (some ⟨p, 0, none⟩)) (True) (by kernel_rfl) trivial (by kernel_rfl) (by kernel_rfl) (fun _ _ _ h => h) ?_
  refine RunU.sil hU false 1 (bm 12 3) 4 (.pointer (some ⟨p, 0, none⟩)) (True) (by kernel_rfl) trivial (by kernel_rfl) (by kernel_rfl) (fun _ _ _ h => h) ?_
  refine RunU.sil hU false 2 (bm 12 7) 5 (.pointer (some ⟨p, 1, none⟩)) (True) (by kernel_rfl) trivial (by kernel_rfl) (by kernel_rfl) (fun _ _ _ h => h) ?_
  refine RunU.read 3 (bm 12 15) 6 (.load 22 (.tmp 5)) (.slice A xs.length c) [0] (by kernel_rfl) (Reads.load_blk hU 0 p (1) 70 [.pointer (some ⟨p, 0, none⟩), .slice A xs.length c] (.slice A xs.length c) (by kernel_rfl) (by kernel_rfl) (by kernel_rfl)) (by kernel_rfl) (by kernel_rfl) (by kernel_rfl) (by kernel_rfl) (fun _ _ _ h => h) ?_
  refine RunU.sil hU false 5 (bm 12 47) 8 (.pointer (some ⟨p, 0, none⟩)) (True) (by kernel_rfl) trivial (by kernel_rfl) (by kernel_rfl) (fun _ _ _ h => h) ?_
  refine RunU.sil hU false 6 (bm 12 111) 9 (.pointer (some ⟨p, 0, none⟩)) (True) (by kernel_rfl) trivial (by kernel_rfl) (by kernel_rfl) (fun _ _ _ h => h) ?_
  refine RunU.sil hU false 7 (bm 12 239) 10 (.pointer (some ⟨p, 1, none⟩)) (True) (by kernel_rfl) trivial (by kernel_rfl) (by kernel_rfl) (fun _ _ _ h => h) ?_
  refine RunU.read 8 (bm 12 495) 11 (.load 22 (.tmp 10)) (.slice A xs.length c) [0] (by kernel_rfl) (Reads.load_blk hU 0 p (1) 70 [.pointer (some ⟨p, 0, none⟩), .slice A xs.length c] (.slice A xs.length c) (by kernel_rfl) (by kernel_rfl) (by kernel_rfl)) (by kernel_rfl) (by kernel_rfl) (by kernel_rfl) (by kernel_rfl) (fun _ _ _ h => h) ?_
  refine RunU.sil hU false 9 (bm 12 1007) 12 (.int .i64 ((xs.length : Nat) : Int)) (True) (by kernel_rfl) trivial (by kernel_rfl) (by kernel_rfl) (fun _ _ _ h => h) ?_
  refine RunU.one (dst := some 7) (op := .call { callee := .builtin .unsafeSliceData, args := #[.tmp 6], argTypes := #[22] }) 4 (bm 12 1023) [0] (by kernel_rfl) (by kernel_rfl) (Step.sliceData hU A xs.length c (by kernel_rfl) (by assumption) (by omega) (by kernel_rfl) ?_)
  refine ⟨.inl (by kernel_rfl), ?_⟩
  refine RunU.one (dst := some 13) (op := .call { callee := .builtin .unsafeString, args := #[.tmp 7, .tmp 12], argTypes := #[82, 3] }) 10 (bm 12 2047) [] (by kernel_rfl) (by kernel_rfl) (Step.unsafeStr hU 5 1 A xs.length c xs (by kernel_rfl) (by kernel_rfl) (by kernel_rfl) (by kernel_rfl) (by kernel_rfl) (by assumption) (by omega) (by kernel_rfl) ?_)
  refine ⟨.inr (by kernel_rfl), ?_⟩
  refine RunU.sil hU false 11 (bm 12 4095) 2 (.string (strOfNums xs)) (True) (by kernel_rfl) trivial (by kernel_rfl) (by kernel_rfl) (fun _ _ _ h => h) ?_
  refine RunU.env [2] [(2, .string (strOfNums xs))] (by kernel_rfl) ?_
  refine RunU.done (by kernel_rfl) ?_
  refine kseq_n ?_
  refine RunC.ret ?_
  refine kret_r [.string (strOfNums xs)] [] [] ⟨rfl, trivial⟩ (by kernel_rfl) rfl ⟨rfl, rfl⟩
end Go.Proofs.YtjhinpmnpdgadaaDoor.X2
