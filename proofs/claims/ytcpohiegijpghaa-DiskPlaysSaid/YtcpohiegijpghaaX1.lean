/- What these functions compute: a contract for each, walked through its code. -/
import Derived.Test.YtcpohiegijpghaaNPure
import Derived.Test.YtcpohiegijpghaaProg
namespace Go.Proofs.Ytcpohiegijpghaa.X1
open Go Go.Proofs.Ytcpohiegijpghaa.SL Go.Proofs.Ytcpohiegijpghaa.SL.W Go.Proofs.Ytcpohiegijpghaa.SL.D
set_option linter.unusedVariables false
set_option linter.unusedSimpArgs false
set_option maxRecDepth 100000
set_option maxHeartbeats 40000000
def U : Tab where
  und := [(3, .int .i64), (4, .bool), (5, .int .u8), (22, .slice 5), (74, .slice 84), (80, .struct #[{ name := "safe", type := 22, offset := 0, embedded := false, tag := "", pkgPath := "orlop/disk", byteOffset := 0 }, { name := "wait", type := 74, offset := 1, embedded := false, tag := "", pkgPath := "orlop/disk", byteOffset := 24 }, { name := "left", type := 3, offset := 2, embedded := false, tag := "", pkgPath := "orlop/disk", byteOffset := 48 }, { name := "down", type := 4, offset := 3, embedded := false, tag := "", pkgPath := "orlop/disk", byteOffset := 56 }]), (81, .struct #[{ name := "safe", type := 22, offset := 0, embedded := false, tag := "", pkgPath := "orlop/disk", byteOffset := 0 }, { name := "wait", type := 74, offset := 1, embedded := false, tag := "", pkgPath := "orlop/disk", byteOffset := 24 }, { name := "left", type := 3, offset := 2, embedded := false, tag := "", pkgPath := "orlop/disk", byteOffset := 48 }, { name := "down", type := 4, offset := 3, embedded := false, tag := "", pkgPath := "orlop/disk", byteOffset := 56 }]), (83, .struct #[{ name := "Block", type := 3, offset := 0, embedded := false, tag := "", pkgPath := "", byteOffset := 0 }, { name := "Data", type := 22, offset := 1, embedded := false, tag := "", pkgPath := "", byteOffset := 8 }]), (84, .struct #[{ name := "Block", type := 3, offset := 0, embedded := false, tag := "", pkgPath := "", byteOffset := 0 }, { name := "Data", type := 22, offset := 1, embedded := false, tag := "", pkgPath := "", byteOffset := 8 }])]
  fld := [((80, 0), (0, 22)), ((80, 1), (1, 74)), ((80, 2), (2, 3)), ((80, 3), (3, 4)), ((81, 0), (0, 22)), ((81, 1), (1, 74)), ((81, 2), (2, 3)), ((81, 3), (3, 4)), ((83, 0), (0, 3)), ((83, 1), (1, 22)), ((84, 0), (0, 3)), ((84, 1), (1, 22))]
  sz := [(3, 1), (4, 1), (5, 1), (22, 1), (74, 1), (80, 4), (81, 4), (83, 2), (84, 2)]
  ti := [(3, (1, 8, .int .i64 0)), (4, (1, 1, .bool false)), (5, (1, 1, .int .u8 0)), (22, (1, 24, .slice none 0 0)), (74, (1, 24, .slice none 0 0)), (80, (4, 64, .agg #[.slice none 0 0, .slice none 0 0, .int .i64 0, .bool false])), (81, (4, 64, .agg #[.slice none 0 0, .slice none 0 0, .int .i64 0, .bool false])), (83, (2, 32, .agg #[.int .i64 0, .slice none 0 0])), (84, (2, 32, .agg #[.int .i64 0, .slice none 0 0]))]
  bld := [(80, [(0, 1), (1, 1), (2, 1), (3, 1)]), (81, [(0, 1), (1, 1), (2, 1), (3, 1)]), (83, [(0, 1), (1, 1)]), (84, [(0, 1), (1, 1)])]

theorem hU : U.OK Try.prog where
  und := by
    intro p hp
    simp only [U, List.mem_cons, List.not_mem_nil, or_false] at hp
    rcases hp with rfl | rfl | rfl | rfl | rfl | rfl | rfl | rfl | rfl
    · exact Try.underlying3
    · exact Try.underlying4
    · exact Try.underlying5
    · exact Try.underlying22
    · exact Try.underlying74
    · exact Try.underlying80
    · exact Try.underlying81
    · exact Try.underlying83
    · exact Try.underlying84
  fld := by
    intro p hp
    simp only [U, List.mem_cons, List.not_mem_nil, or_false] at hp
    rcases hp with rfl | rfl | rfl | rfl | rfl | rfl | rfl | rfl | rfl | rfl | rfl | rfl
    · exact ⟨_, _, Try.underlying80, rfl, rfl, rfl, Try.prog.types[22]!, by kernel_rfl, by decide +kernel⟩
    · exact ⟨_, _, Try.underlying80, rfl, rfl, rfl, Try.prog.types[74]!, by kernel_rfl, by decide +kernel⟩
    · exact ⟨_, _, Try.underlying80, rfl, rfl, rfl, Try.prog.types[3]!, by kernel_rfl, by decide +kernel⟩
    · exact ⟨_, _, Try.underlying80, rfl, rfl, rfl, Try.prog.types[4]!, by kernel_rfl, by decide +kernel⟩
    · exact ⟨_, _, Try.underlying81, rfl, rfl, rfl, Try.prog.types[22]!, by kernel_rfl, by decide +kernel⟩
    · exact ⟨_, _, Try.underlying81, rfl, rfl, rfl, Try.prog.types[74]!, by kernel_rfl, by decide +kernel⟩
    · exact ⟨_, _, Try.underlying81, rfl, rfl, rfl, Try.prog.types[3]!, by kernel_rfl, by decide +kernel⟩
    · exact ⟨_, _, Try.underlying81, rfl, rfl, rfl, Try.prog.types[4]!, by kernel_rfl, by decide +kernel⟩
    · exact ⟨_, _, Try.underlying83, rfl, rfl, rfl, Try.prog.types[3]!, by kernel_rfl, by decide +kernel⟩
    · exact ⟨_, _, Try.underlying83, rfl, rfl, rfl, Try.prog.types[22]!, by kernel_rfl, by decide +kernel⟩
    · exact ⟨_, _, Try.underlying84, rfl, rfl, rfl, Try.prog.types[3]!, by kernel_rfl, by decide +kernel⟩
    · exact ⟨_, _, Try.underlying84, rfl, rfl, rfl, Try.prog.types[22]!, by kernel_rfl, by decide +kernel⟩
  sz := by
    intro p hp
    simp only [U, List.mem_cons, List.not_mem_nil, or_false] at hp
    rcases hp with rfl | rfl | rfl | rfl | rfl | rfl | rfl | rfl | rfl
    · exact ⟨Try.prog.types[3]!, by kernel_rfl, by kernel_rfl⟩
    · exact ⟨Try.prog.types[4]!, by kernel_rfl, by kernel_rfl⟩
    · exact ⟨Try.prog.types[5]!, by kernel_rfl, by kernel_rfl⟩
    · exact ⟨Try.prog.types[22]!, by kernel_rfl, by kernel_rfl⟩
    · exact ⟨Try.prog.types[74]!, by kernel_rfl, by kernel_rfl⟩
    · exact ⟨Try.prog.types[80]!, by kernel_rfl, by kernel_rfl⟩
    · exact ⟨Try.prog.types[81]!, by kernel_rfl, by kernel_rfl⟩
    · exact ⟨Try.prog.types[83]!, by kernel_rfl, by kernel_rfl⟩
    · exact ⟨Try.prog.types[84]!, by kernel_rfl, by kernel_rfl⟩
  ti := by
    intro p hp
    simp only [U, List.mem_cons, List.not_mem_nil, or_false] at hp
    rcases hp with rfl | rfl | rfl | rfl | rfl | rfl | rfl | rfl | rfl
    · exact ⟨Try.prog.types[3]!, by kernel_rfl, by kernel_rfl, by kernel_rfl, by kernel_rfl⟩
    · exact ⟨Try.prog.types[4]!, by kernel_rfl, by kernel_rfl, by kernel_rfl, by kernel_rfl⟩
    · exact ⟨Try.prog.types[5]!, by kernel_rfl, by kernel_rfl, by kernel_rfl, by kernel_rfl⟩
    · exact ⟨Try.prog.types[22]!, by kernel_rfl, by kernel_rfl, by kernel_rfl, by kernel_rfl⟩
    · exact ⟨Try.prog.types[74]!, by kernel_rfl, by kernel_rfl, by kernel_rfl, by kernel_rfl⟩
    · exact ⟨Try.prog.types[80]!, by kernel_rfl, by kernel_rfl, by kernel_rfl, by kernel_rfl⟩
    · exact ⟨Try.prog.types[81]!, by kernel_rfl, by kernel_rfl, by kernel_rfl, by kernel_rfl⟩
    · exact ⟨Try.prog.types[83]!, by kernel_rfl, by kernel_rfl, by kernel_rfl, by kernel_rfl⟩
    · exact ⟨Try.prog.types[84]!, by kernel_rfl, by kernel_rfl, by kernel_rfl, by kernel_rfl⟩
  bld := by
    intro p hp
    simp only [U, List.mem_cons, List.not_mem_nil, or_false] at hp
    rcases hp with rfl | rfl | rfl | rfl
    · exact ⟨_, Try.underlying80, by kernel_rfl⟩
    · exact ⟨_, Try.underlying81, by kernel_rfl⟩
    · exact ⟨_, Try.underlying83, by kernel_rfl⟩
    · exact ⟨_, Try.underlying84, by kernel_rfl⟩
  mixed := by kernel_rfl

theorem r_Equal_spec (A : Option Addr) (c : Nat) (xs : List Int) (A2 : Option Addr) (c2 : Nat) (ys : List Int) (l_xs : Nat) (l_ys : Nat) (hx : In .u8 xs) (hn : xs.length ≤ 140737488351232) (hy : In .u8 ys) (hm : ys.length ≤ 140737488351232) (hl_xs : xs.length = l_xs) (hl_ys : ys.length = l_ys) :
    CallsS Try.prog 18 [.slice A l_xs c, .slice A2 l_ys c2] [vw A (nums .u8 xs), vw A2 (nums .u8 ys)] (fun r D => r = .bool (decide (xs = ys)) ∧ D = []) := by
  subst hl_xs
  subst hl_ys
  refine CallsS.enter hU Try.f18 _ [.tmp 4] 26 Try.func18 rfl (by decide) rfl rfl (by kernel_rfl) fun w0 W => ?_
  refine RunC.know (p := 0 < xs.length → Option.isSome A = true) (fun _ _ w hs => vw_some hs 0 rfl (by first | (simp [nums_length]; done) | exact dosV_len _ | exact bls_len _ | exact chV_len _)) (fun hA1 => ?_)
  refine RunC.know (p := 0 < ys.length → Option.isSome A2 = true) (fun _ _ w hs => vw_some hs 1 rfl (by first | (simp [nums_length]; done) | exact dosV_len _ | exact bls_len _ | exact chV_len _)) (fun hA2 => ?_)
  refine RunC.seq ?_
  refine RunC.region ?_
  refine RunR.sil hU [] 1 1 [0, 1, 4] [(0, .slice A xs.length c), (1, .slice A2 ys.length c2), (4, .bool false)] ((True) ∧ True) rfl (by kernel_rfl) ⟨trivial, trivial⟩ ?_
  refine RunR.done (by kernel_rfl) ?_
  refine kseq_n ?_
  refine RunC.seq ?_
  refine RunC.seq ?_
  refine RunC.region ?_
  refine RunR.sil hU [] 5 5 [0, 1, 4, 10] [(0, .slice A xs.length c), (1, .slice A2 ys.length c2), (4, .bool false), (10, .bool (!decide (((xs.length : Nat) : Int) = ((ys.length : Nat) : Int))))] ((True) ∧ (True) ∧ (True) ∧ (True) ∧ (True) ∧ True) rfl (by kernel_rfl) ⟨trivial, trivial, trivial, trivial, trivial, trivial⟩ ?_
  refine RunR.done (by kernel_rfl) ?_
  refine kseq_n ?_
  refine RunC.condn (((xs.length : Nat) : Int) = ((ys.length : Nat) : Int)) (by kernel_rfl) (fun h3 => ?_) (fun h3 => ?_)
  · skip
    refine RunC.seq ?_
    refine RunC.region ?_
    refine RunR.sil hU [] 1 1 [0, 1, 4] [(0, .slice A xs.length c), (1, .slice A2 ys.length c2), (4, .bool false)] ((True) ∧ True) rfl (by kernel_rfl) ⟨trivial, trivial⟩ ?_
    refine RunR.done (by kernel_rfl) ?_
    refine kseq_n ?_
    refine RunC.ret ?_
    refine kseq_r ?_
    refine kret_r [.bool false] [] [] ⟨rfl, trivial⟩ (by kernel_rfl) rfl ⟨(by first | rfl | (exact congrArg Value.bool (decide_eq_false (fun e => absurd (congrArg List.length e) (by omega))).symm)), (by first | rfl | (exact congrArg Value.bool (decide_eq_false (fun e => absurd (congrArg List.length e) (by omega))).symm))⟩
  · skip
    refine RunC.skip ?_
    refine kseq_n ?_
    refine RunC.seq ?_
    refine RunC.seq ?_
    refine RunC.region ?_
    refine RunR.sil hU [] 1 1 [0, 1, 4, 5] [(0, .slice A xs.length c), (1, .slice A2 ys.length c2), (4, .bool false), (5, .int .i64 0)] ((True) ∧ True) rfl (by kernel_rfl) ⟨trivial, trivial⟩ ?_
    refine RunR.done (by kernel_rfl) ?_
    refine kseq_n ?_
    refine RunC.block ?_
    refine RunC.env [0, 1, 5] [(0, .slice A xs.length c), (1, .slice A2 ys.length c2), (5, .int .i64 0)] (by kernel_rfl) ?_
    refine RunC.only [0, 0] [vw A (nums .u8 xs), vw A2 (nums .u8 ys)] (by kernel_rfl) ?_
    refine RunC.loop (σ := Nat) (fun n_ t_ D_ => ∃ (i : Int), (0 ≤ i) ∧ (i ≤ (xs.length : Int)) ∧ (xs.take i.toNat = ys.take i.toNat) ∧ n_ = ((xs.length - i).toNat : Nat) ∧ t_ = [(0, .slice A xs.length c), (1, .slice A2 ys.length c2), (5, .int .i64 i)] ∧ D_ = [vw A (nums .u8 xs), vw A2 (nums .u8 ys)]) id _ ⟨0, (by first | assumption | omega | (simp only [List.length_append, List.length_cons, List.length_nil, List.length_set, List.length_replicate, List.length_take, List.length_drop]; omega) | (simp only [fits] at *; omega) | (simp only [List.length_append, List.length_cons, List.length_nil, List.length_set, List.length_replicate, List.length_take, List.length_drop] at *; omega) | (simp; done) | decide), (by first | assumption | omega | (simp only [List.length_append, List.length_cons, List.length_nil, List.length_set, List.length_replicate, List.length_take, List.length_drop]; omega) | (simp only [fits] at *; omega) | (simp only [List.length_append, List.length_cons, List.length_nil, List.length_set, List.length_replicate, List.length_take, List.length_drop] at *; omega) | (simp; done) | decide), (by simp), rfl, rfl, rfl⟩ ?_
    rintro n_ _ _ ⟨i, hi, hin, he, rfl, rfl, rfl⟩
    refine RunC.seq ?_
    refine RunC.seq ?_
    refine RunC.region ?_
    refine RunR.sil hU [] 4 4 [0, 1, 5, 14] [(0, .slice A xs.length c), (1, .slice A2 ys.length c2), (5, .int .i64 i), (14, .bool (decide (i < ((xs.length : Nat) : Int))))] ((True) ∧ (True) ∧ (True) ∧ (True) ∧ True) rfl (by kernel_rfl) ⟨trivial, trivial, trivial, trivial, trivial⟩ ?_
    refine RunR.done (by kernel_rfl) ?_
    refine kseq_n ?_
    refine RunC.condp (i < ((xs.length : Nat) : Int)) (by kernel_rfl) (fun h4 => ?_) (fun h4 => ?_)
    · skip
      refine RunC.skip ?_
      refine kseq_n ?_
      refine RunC.seq ?_
      refine RunC.block ?_
      refine RunC.seq ?_
      refine RunC.regionU hU 9 [vw A (nums .u8 xs), vw A2 (nums .u8 ys)] [0, 1] [] (bm 9 0) (by kernel_rfl) (by kernel_rfl) (by kernel_rfl) ?_
      refine RunU.sil hU false 0 (bm 9 1) 17 (.slice A xs.length c) (True) (by kernel_rfl) trivial (by kernel_rfl) (by kernel_rfl) (fun _ _ _ h => h) ?_
      refine RunU.sil hU false 1 (bm 9 3) 18 (.int .i64 i) (True) (by kernel_rfl) trivial (by kernel_rfl) (by kernel_rfl) (fun _ _ _ h => h) ?_
      refine RunU.sil hU false 2 (bm 9 7) 19 (.pointer (elemAt A i 1)) ((0 ≤ i ∧ i < ((xs.length : Nat) : Int)) ∧ Option.isSome A = true) (by kernel_rfl) ⟨by omega, hA1 (by omega)⟩ (by kernel_rfl) (by kernel_rfl) (fun _ _ _ h => h) ?_
      refine RunU.read 3 (bm 9 15) 20 (.load 5 (.tmp 19)) (.int .u8 (xs.getD (i).toNat 0)) [0, 1] (by kernel_rfl) (Reads.load_num hU 0 (vw A (nums .u8 xs)) A i .u8 xs rfl (by kernel_rfl) (by kernel_rfl) (tells_vw _ _) (by omega)) (by kernel_rfl) (by kernel_rfl) (by kernel_rfl) (by kernel_rfl) (fun _ _ _ h => h) ?_
      have hb5 : 0 ≤ xs.getD ((i).toNat) 0 ∧ xs.getD ((i).toNat) 0 < 256 := hx.at_ _
      refine RunU.sil hU false 4 (bm 9 31) 21 (.slice A2 ys.length c2) (True) (by kernel_rfl) trivial (by kernel_rfl) (by kernel_rfl) (fun _ _ _ h => h) ?_
      refine RunU.sil hU false 5 (bm 9 63) 22 (.int .i64 i) (True) (by kernel_rfl) trivial (by kernel_rfl) (by kernel_rfl) (fun _ _ _ h => h) ?_
      refine RunU.sil hU false 6 (bm 9 127) 23 (.pointer (elemAt A2 i 1)) ((0 ≤ i ∧ i < ((ys.length : Nat) : Int)) ∧ Option.isSome A2 = true) (by kernel_rfl) ⟨by omega, hA2 (by omega)⟩ (by kernel_rfl) (by kernel_rfl) (fun _ _ _ h => h) ?_
      refine RunU.read 7 (bm 9 255) 24 (.load 5 (.tmp 23)) (.int .u8 (ys.getD (i).toNat 0)) [0, 1] (by kernel_rfl) (Reads.load_num hU 1 (vw A2 (nums .u8 ys)) A2 i .u8 ys rfl (by kernel_rfl) (by kernel_rfl) (tells_vw _ _) (by omega)) (by kernel_rfl) (by kernel_rfl) (by kernel_rfl) (by kernel_rfl) (fun _ _ _ h => h) ?_
      have hb6 : 0 ≤ ys.getD ((i).toNat) 0 ∧ ys.getD ((i).toNat) 0 < 256 := hy.at_ _
      refine RunU.sil hU false 8 (bm 9 511) 25 (.bool (!decide ((xs.getD (i).toNat 0) = (ys.getD (i).toNat 0)))) (True) (by kernel_rfl) trivial (by kernel_rfl) (by kernel_rfl) (fun _ _ _ h => h) ?_
      refine RunU.env [0, 1, 5, 25] [(0, .slice A xs.length c), (1, .slice A2 ys.length c2), (5, .int .i64 i), (25, .bool (!decide ((xs.getD (i).toNat 0) = (ys.getD (i).toNat 0))))] (by kernel_rfl) ?_
      refine RunU.done (by kernel_rfl) ?_
      refine kseq_n ?_
      refine RunC.condn ((xs.getD (i).toNat 0) = (ys.getD (i).toNat 0)) (by kernel_rfl) (fun h7 => ?_) (fun h7 => ?_)
      · skip
        refine RunC.seq ?_
        refine RunC.region ?_
        refine RunR.sil hU [] 1 1 [0, 1, 4, 5] [(0, .slice A xs.length c), (1, .slice A2 ys.length c2), (4, .bool false), (5, .int .i64 i)] ((True) ∧ True) rfl (by kernel_rfl) ⟨trivial, trivial⟩ ?_
        refine RunR.done (by kernel_rfl) ?_
        refine kseq_n ?_
        refine RunC.ret ?_
        refine kblock_r ?_
        refine kseq_r ?_
        refine kloop_r ?_
        refine kblock_r ?_
        refine kseq_r ?_
        refine kret_r [.bool false] [] [] ⟨rfl, trivial⟩ (by kernel_rfl) rfl ⟨(by first | rfl | (exact congrArg Value.bool (decide_eq_false (ne_of_getD (by assumption))).symm)), (by first | rfl | (exact congrArg Value.bool (decide_eq_false (ne_of_getD (by assumption))).symm))⟩
      · skip
        refine RunC.skip ?_
        refine kblock_n ?_
        refine kseq_n ?_
        refine RunC.region ?_
        refine RunR.sil hU [1] 3 3 [0, 1, 5] [(0, .slice A xs.length c), (1, .slice A2 ys.length c2), (5, .int .i64 (i + 1))] ((True) ∧ (-9223372036854775808 ≤ (i + 1) ∧ (i + 1) < 9223372036854775808) ∧ (True) ∧ True) rfl (by kernel_rfl) ⟨trivial, (by omega), trivial, trivial⟩ ?_
        refine RunR.done (by kernel_rfl) ?_
        refine kloop_n _ [0, 1, 5] [0, 0] [(0, .slice A xs.length c), (1, .slice A2 ys.length c2), (5, .int .i64 (i + 1))] [vw A (nums .u8 xs), vw A2 (nums .u8 ys)] (by kernel_rfl) (by kernel_rfl) ?_ ⟨(i + 1), (by first | assumption | omega | (simp only [List.length_append, List.length_cons, List.length_nil, List.length_set, List.length_replicate, List.length_take, List.length_drop]; omega) | (simp only [fits] at *; omega) | (simp only [List.length_append, List.length_cons, List.length_nil, List.length_set, List.length_replicate, List.length_take, List.length_drop] at *; omega) | (simp; done) | decide), (by first | assumption | omega | (simp only [List.length_append, List.length_cons, List.length_nil, List.length_set, List.length_replicate, List.length_take, List.length_drop]; omega) | (simp only [fits] at *; omega) | (simp only [List.length_append, List.length_cons, List.length_nil, List.length_set, List.length_replicate, List.length_take, List.length_drop] at *; omega) | (simp; done) | decide), (by rw [show (i + 1).toNat = i.toNat + 1 by omega]; exact (take_eq_succ (by omega) (by omega)).2 ⟨he, by omega⟩), rfl, (by first | rfl | simp only [List.length_set]), (by first | rfl | simp only [List.length_set])⟩
        show ((xs.length - (i + 1)).toNat : Nat) < ((xs.length - i).toNat : Nat)
        omega
    · skip
      refine RunC.exit ?_
      refine kseq_e ?_
      refine kloop_e ?_
      refine kblock_e ?_
      refine kseq_n ?_
      refine RunC.seq ?_
      refine RunC.region ?_
      refine RunR.sil hU [] 1 1 [4] [(4, .bool true)] ((True) ∧ True) rfl (by kernel_rfl) ⟨trivial, trivial⟩ ?_
      refine RunR.done (by kernel_rfl) ?_
      refine kseq_n ?_
      refine RunC.ret ?_
      refine kret_r [.bool true] [] [] ⟨rfl, trivial⟩ (by kernel_rfl) rfl ⟨(by first | rfl | (exact congrArg Value.bool (decide_eq_true (eq_of_take (by omega) (by omega) he)).symm)), (by first | rfl | (exact congrArg Value.bool (decide_eq_true (eq_of_take (by omega) (by omega) he)).symm))⟩

theorem d_Clone_spec (A8 : Option Addr) (c8 : Nat) (xs : List Int) (l_xs : Nat) (hIxs : In .u8 xs) (hCxs : xs.length ≤ c8) (hBxs : xs.length ≤ 140737488351232) (hl_xs : xs.length = l_xs) :
    CallsS Try.prog 64 [.slice A8 l_xs c8] [vw A8 (nums .u8 xs)] (fun r D => ∃ (A9 : Option Addr) (c9 : Nat) (zs : List Int), r = .slice A9 zs.length c9 ∧ D = [row 5 1 (.slice A9 zs.length c9) zs.length (nums .u8 zs)] ∧ (zs = xs) ∧ (zs.length = xs.length) ∧ (In .u8 zs) ∧ (zs.length ≤ c9) ∧ (0 < zs.length → Option.isSome A9 = true)) := by
  subst hl_xs
  refine CallsS.enter hU Try.f64 _ [.tmp 2] 8 Try.func64 rfl (by decide) rfl rfl (by kernel_rfl) fun w0 W => ?_
  refine RunC.know (p := 0 < xs.length → Option.isSome A8 = true) (fun _ _ w hs => vw_some hs 0 rfl (by first | (simp [nums_length]; done) | exact dosV_len _ | exact bls_len _ | exact chV_len _)) (fun hA1 => ?_)
  refine RunC.seq ?_
  refine RunC.region ?_
  refine RunR.sil hU [] 1 1 [0, 2] [(0, .slice A8 xs.length c8), (2, .slice none 0 0)] ((True) ∧ True) rfl (by kernel_rfl) ⟨trivial, trivial⟩ ?_
  refine RunR.done (by kernel_rfl) ?_
  refine kseq_n ?_
  refine RunC.seq ?_
  refine RunC.seq ?_
  refine RunC.region ?_
  refine RunR.sil hU [] 2 2 [0, 2, 4] [(0, .slice A8 xs.length c8), (2, .slice none 0 0), (4, .bool (Option.isNone A8))] ((True) ∧ (True) ∧ True) rfl (by kernel_rfl) ⟨trivial, trivial, trivial⟩ ?_
  refine RunR.done (by kernel_rfl) ?_
  refine kseq_n ?_
  refine RunC.cond (b := Option.isNone A8) (by kernel_rfl) (fun h2 => ?_) (fun h2 => ?_)
  · skip
    refine RunC.seq ?_
    refine RunC.region ?_
    refine RunR.sil hU [] 1 1 [0, 2] [(0, .slice A8 xs.length c8), (2, .slice none 0 0)] ((True) ∧ True) rfl (by kernel_rfl) ⟨trivial, trivial⟩ ?_
    refine RunR.done (by kernel_rfl) ?_
    refine kseq_n ?_
    refine RunC.ret ?_
    refine kseq_r ?_
    refine kret_rt ([row 5 1 (.slice none 0 0) 0 (nums .u8 ([] : List Int)), vw A8 (nums .u8 xs)]) (fun w0 W w hs => (hs).nil_row 5 1) [.slice none 0 0] [0] [row 5 1 (.slice none 0 0) 0 (nums .u8 ([] : List Int))] ⟨rfl, trivial⟩ (by kernel_rfl) rfl ⟨none, 0, ([] : List Int), rfl, rfl, (by exact (nil_of_none (by assumption) (by assumption)).symm), (by rw [nil_of_none (xs := xs) (by assumption) (by assumption)]), (by exact In.nil _), (by exact Nat.le_refl _), (by intro h; simp at h)⟩
  · skip
    refine RunC.skip ?_
    refine kseq_n ?_
    refine RunC.seq ?_
    refine RunC.region ?_
    refine RunR.step (dst := some 5) (op := .buildSlice 22 0 #[]) (by kernel_rfl) (Step.lit_nums hU 5 1 .u8 (.int .u8 0) ([] : List Int) rfl rfl (by kernel_rfl) rfl rfl (by kernel_rfl) (fun b3 => ?_))
    have hl4 : (([] : List Int)).length = 0 := rfl
    refine RunR.sil hU [] 1 2 [2, 5, 6] [(2, .slice none 0 0), (5, .slice (some ⟨b3, 0, none⟩) 0 0), (6, .slice A8 xs.length c8)] ((True) ∧ True) rfl (by kernel_rfl) ⟨trivial, trivial⟩ ?_
    have hl9 : (([] : List Int)).length = 0 := rfl
    refine RunR.step (dst := some 7) (op := .call { callee := .builtin .append, args := #[.tmp 5, .tmp 6], argTypes := #[22, 22] }) (by kernel_rfl) (Step.append_nums hU 5 1 (.int .u8 0) .u8 0 1 (some ⟨b3, 0, none⟩) 0 0 ([] : List Int) A8 xs.length c8 (vw A8 (nums .u8 xs)) xs rfl rfl rfl (by kernel_rfl) (by kernel_rfl) (by kernel_rfl) (by kernel_rfl) (tells_vw _ _) (by first | rfl | omega | (simp; omega)) (by first | rfl | omega | (simp; omega)) (by omega) (by omega) (by kernel_rfl) (fun Aq5 cq6 hc7 hA8 => ?_))
    simp only [List.nil_append] at hc7 hA8
    refine RunR.sil hU [] 1 4 [2] [(2, .slice Aq5 xs.length cq6)] ((True) ∧ True) rfl (by kernel_rfl) ⟨trivial, trivial⟩ ?_
    refine RunR.done (by kernel_rfl) ?_
    refine kseq_n ?_
    refine RunC.ret ?_
    refine kret_r [.slice Aq5 xs.length cq6] [0] [row 5 1 (.slice Aq5 xs.length cq6) xs.length (nums .u8 xs)] ⟨rfl, trivial⟩ (by kernel_rfl) rfl ⟨Aq5, cq6, xs, rfl, rfl, (by rfl), (by rfl), (by exact hIxs), (by assumption), (by assumption)⟩

theorem d_Blocks_spec (d : Nat) (A : Option Addr) (n : Nat) (c : Nat) (Wa : Option Addr) (m : Nat) (wc : Nat) (lf : Int) (dn : Bool) (hn6 : n % 256 = 0) (hnb : n ≤ 557056) :
    CallsS Try.prog 40 [.pointer (some ⟨d, 0, none⟩)] [blk d 81 [.slice A n c, .slice Wa m wc, .int .i64 lf, .bool dn]] (fun r D => r = .int .i64 (((n : Nat) : Int) / 256) ∧ D = [blk d 81 [.slice A n c, .slice Wa m wc, .int .i64 lf, .bool dn]]) := by
  refine CallsS.enter hU Try.f40 _ [.tmp 2] 9 Try.func40 rfl (by decide) rfl rfl (by kernel_rfl) fun w0 W => ?_
  refine RunC.seq ?_
  refine RunC.region ?_
  refine RunR.sil hU [] 1 1 [0, 2] [(0, .pointer (some ⟨d, 0, none⟩)), (2, .int .i64 0)] ((True) ∧ True) rfl (by kernel_rfl) ⟨trivial, trivial⟩ ?_
  refine RunR.done (by kernel_rfl) ?_
  refine kseq_n ?_
  refine RunC.seq ?_
  refine RunC.region ?_
  refine RunR.sil hU [] 3 3 [2, 5] [(2, .int .i64 0), (5, .pointer (some ⟨d, 0, none⟩))] ((True) ∧ (True) ∧ (True) ∧ True) rfl (by kernel_rfl) ⟨trivial, trivial, trivial, trivial⟩ ?_
  refine RunR.step (dst := some 6) (op := .load 22 (.tmp 5)) (by kernel_rfl) (Step.load_blk hU 0 d (0) 81 [.slice A n c, .slice Wa m wc, .int .i64 lf, .bool dn] (.slice A n c) (by kernel_rfl) (by kernel_rfl) (by kernel_rfl) (by kernel_rfl) ?_)
  refine RunR.sil hU [5] 3 7 [2] [(2, .int .i64 (((n : Nat) : Int) / (256 : Int)))] ((True) ∧ (0 ≤ ((n : Nat) : Int) ∧ 0 < (256 : Int) ∧ -9223372036854775808 ≤ (((n : Nat) : Int) / (256 : Int)) ∧ (((n : Nat) : Int) / (256 : Int)) < 9223372036854775808) ∧ (True) ∧ True) rfl (by kernel_rfl) ⟨trivial, (by omega), trivial, trivial⟩ ?_
  refine RunR.done (by kernel_rfl) ?_
  refine kseq_n ?_
  refine RunC.ret ?_
  refine kret_r [.int .i64 (((n : Nat) : Int) / (256 : Int))] [0] [blk d 81 [.slice A n c, .slice Wa m wc, .int .i64 lf, .bool dn]] ⟨rfl, trivial⟩ (by kernel_rfl) rfl ⟨rfl, rfl⟩

theorem d_there_spec (d : Nat) (A : Option Addr) (n : Nat) (c : Nat) (Wa : Option Addr) (m : Nat) (wc : Nat) (lf : Int) (dn : Bool) (b : Int) (hn6 : n % 256 = 0) (hnb : n ≤ 557056) :
    CallsS Try.prog 62 [.pointer (some ⟨d, 0, none⟩), .int .i64 b] [blk d 81 [.slice A n c, .slice Wa m wc, .int .i64 lf, .bool dn]] (fun r D => r = .bool (decide (0 ≤ b ∧ 256 * b + 256 ≤ (n : Int))) ∧ D = [blk d 81 [.slice A n c, .slice Wa m wc, .int .i64 lf, .bool dn]]) := by
  refine CallsS.enter hU Try.f62 _ [.tmp 4] 13 Try.func62 rfl (by decide) rfl rfl (by kernel_rfl) fun w0 W => ?_
  refine RunC.seq ?_
  refine RunC.region ?_
  refine RunR.sil hU [] 1 1 [0, 1, 4] [(0, .pointer (some ⟨d, 0, none⟩)), (1, .int .i64 b), (4, .bool false)] ((True) ∧ True) rfl (by kernel_rfl) ⟨trivial, trivial⟩ ?_
  refine RunR.done (by kernel_rfl) ?_
  refine kseq_n ?_
  refine RunC.seq ?_
  refine RunC.region ?_
  refine RunR.sil hU [] 3 3 [0, 1, 4, 7] [(0, .pointer (some ⟨d, 0, none⟩)), (1, .int .i64 b), (4, .bool false), (7, .bool (decide (b ≥ 0)))] ((True) ∧ (True) ∧ (True) ∧ True) rfl (by kernel_rfl) ⟨trivial, trivial, trivial, trivial⟩ ?_
  refine RunR.env [0, 1, 4, 7] [(0, .pointer (some ⟨d, 0, none⟩)), (1, .int .i64 b), (4, .bool false), (7, .bool (decide (b ≥ 0)))] (by kernel_rfl) ?_
  by_cases h1 : b ≥ 0
  · skip
    refine RunR.enveq [(0, .pointer (some ⟨d, 0, none⟩)), (1, .int .i64 b), (4, .bool false), (7, .bool true)] (by rw [decide_eq_true h1]; try rfl) ?_
    refine RunR.sil hU [] 2 5 [4, 7, 8, 9] [(4, .bool false), (7, .bool true), (8, .int .i64 b), (9, .pointer (some ⟨d, 0, none⟩))] ((True) ∧ (True) ∧ True) rfl (by kernel_rfl) ⟨trivial, trivial, trivial⟩ ?_
    refine RunR.step (dst := some 10) (op := .call { callee := .value (.func 40), args := #[.tmp 9], argTypes := #[45] }) (by kernel_rfl) (Step.call 40 [.pointer (some ⟨d, 0, none⟩)] (by kernel_rfl) (by kernel_rfl) [blk d 81 [.slice A n c, .slice Wa m wc, .int .i64 lf, .bool dn]] [] [] (d_Blocks_spec d A n c Wa m wc lf dn (by first | assumption | omega | (simp only [List.length_append, List.length_cons, List.length_nil, List.length_set, List.length_replicate, List.length_take, List.length_drop]; omega) | (simp only [fits] at *; omega) | (simp only [List.length_append, List.length_cons, List.length_nil, List.length_set, List.length_replicate, List.length_take, List.length_drop] at *; omega) | (simp; done) | decide) (by first | assumption | omega | (simp only [List.length_append, List.length_cons, List.length_nil, List.length_set, List.length_replicate, List.length_take, List.length_drop]; omega) | (simp only [fits] at *; omega) | (simp only [List.length_append, List.length_cons, List.length_nil, List.length_set, List.length_replicate, List.length_take, List.length_drop] at *; omega) | (simp; done) | decide)) [0] (by kernel_rfl) (Lend.nil _) ?_)
    rintro _ _ ⟨rfl, rfl⟩
    refine RunR.sil hU [] 3 9 [4] [(4, .bool (decide (b < (((n : Nat) : Int) / 256))))] ((True) ∧ (True) ∧ (True) ∧ True) rfl (by kernel_rfl) ⟨trivial, trivial, trivial, trivial⟩ ?_
    refine RunR.done (by kernel_rfl) ?_
    refine kseq_n ?_
    refine RunC.ret ?_
    refine kret_r [.bool (decide (b < (((n : Nat) : Int) / 256)))] [0] [blk d 81 [.slice A n c, .slice Wa m wc, .int .i64 lf, .bool dn]] ⟨rfl, trivial⟩ (by kernel_rfl) rfl ⟨(by first | rfl | (exact congrArg Value.bool (decide_eq_decide.2 (by omega)))), (by first | rfl | (exact congrArg Value.bool (decide_eq_decide.2 (by omega))))⟩
  · skip
    refine RunR.enveq [(0, .pointer (some ⟨d, 0, none⟩)), (1, .int .i64 b), (4, .bool false), (7, .bool false)] (by rw [decide_eq_false h1]; try rfl) ?_
    refine RunR.sil hU [] 6 9 [4] [(4, .bool false)] ((True) ∧ (True) ∧ True) rfl (by kernel_rfl) ⟨trivial, trivial, trivial⟩ ?_
    refine RunR.done (by kernel_rfl) ?_
    refine kseq_n ?_
    refine RunC.ret ?_
    refine kret_r [.bool false] [0] [blk d 81 [.slice A n c, .slice Wa m wc, .int .i64 lf, .bool dn]] ⟨rfl, trivial⟩ (by kernel_rfl) rfl ⟨(by first | rfl | (exact congrArg Value.bool (decide_eq_false (by omega)).symm)), (by first | rfl | (exact congrArg Value.bool (decide_eq_false (by omega)).symm))⟩

theorem d_act_spec (d : Nat) (A : Option Addr) (n : Nat) (c : Nat) (Wa : Option Addr) (m : Nat) (wc : Nat) (lf : Int) (dn : Bool) (hlf : 0 ≤ lf ∧ lf < 9223372036854775808) :
    CallsS Try.prog 63 [.pointer (some ⟨d, 0, none⟩)] [blk d 81 [.slice A n c, .slice Wa m wc, .int .i64 lf, .bool dn]] (fun r D => ∃ (lf2 : Int) (dn2 : Bool), r = .bool dn2 ∧ D = [blk d 81 [.slice A n c, .slice Wa m wc, .int .i64 lf2, .bool dn2]] ∧ ((lf2, dn2) = actP lf dn) ∧ (0 ≤ lf2 ∧ lf2 < 9223372036854775808)) := by
  refine CallsS.enter hU Try.f63 _ [.tmp 2] 27 Try.func63 rfl (by decide) rfl rfl (by kernel_rfl) fun w0 W => ?_
  refine RunC.seq ?_
  refine RunC.region ?_
  refine RunR.sil hU [] 1 1 [0, 2] [(0, .pointer (some ⟨d, 0, none⟩)), (2, .bool false)] ((True) ∧ True) rfl (by kernel_rfl) ⟨trivial, trivial⟩ ?_
  refine RunR.done (by kernel_rfl) ?_
  refine kseq_n ?_
  refine RunC.seq ?_
  refine RunC.seq ?_
  refine RunC.region ?_
  refine RunR.sil hU [] 3 3 [0, 2, 5] [(0, .pointer (some ⟨d, 0, none⟩)), (2, .bool false), (5, .pointer (some ⟨d, 2, none⟩))] ((True) ∧ (True) ∧ (True) ∧ True) rfl (by kernel_rfl) ⟨trivial, trivial, trivial, trivial⟩ ?_
  refine RunR.step (dst := some 6) (op := .load 3 (.tmp 5)) (by kernel_rfl) (Step.load_blk hU 0 d (2) 81 [.slice A n c, .slice Wa m wc, .int .i64 lf, .bool dn] (.int .i64 lf) (by kernel_rfl) (by kernel_rfl) (by kernel_rfl) (by kernel_rfl) ?_)
  refine RunR.sil hU [] 1 5 [0, 2, 7] [(0, .pointer (some ⟨d, 0, none⟩)), (2, .bool false), (7, .bool (decide (lf > 0)))] ((True) ∧ True) rfl (by kernel_rfl) ⟨trivial, trivial⟩ ?_
  refine RunR.done (by kernel_rfl) ?_
  refine kseq_n ?_
  refine RunC.condp (lf > 0) (by kernel_rfl) (fun h1 => ?_) (fun h1 => ?_)
  · skip
    refine RunC.seq ?_
    refine RunC.region ?_
    refine RunR.sil hU [] 3 3 [0, 2, 8, 10] [(0, .pointer (some ⟨d, 0, none⟩)), (2, .bool false), (8, .pointer (some ⟨d, 0, none⟩)), (10, .pointer (some ⟨d, 2, none⟩))] ((True) ∧ (True) ∧ (True) ∧ True) rfl (by kernel_rfl) ⟨trivial, trivial, trivial, trivial⟩ ?_
    refine RunR.step (dst := some 11) (op := .load 3 (.tmp 10)) (by kernel_rfl) (Step.load_blk hU 0 d (2) 81 [.slice A n c, .slice Wa m wc, .int .i64 lf, .bool dn] (.int .i64 lf) (by kernel_rfl) (by kernel_rfl) (by kernel_rfl) (by kernel_rfl) ?_)
    refine RunR.sil hU [4] 3 7 [0, 2, 12, 14] [(0, .pointer (some ⟨d, 0, none⟩)), (2, .bool false), (12, .int .i64 (lf - 1)), (14, .pointer (some ⟨d, 2, none⟩))] ((-9223372036854775808 ≤ (lf - 1) ∧ (lf - 1) < 9223372036854775808) ∧ (True) ∧ (True) ∧ True) rfl (by kernel_rfl) ⟨(by omega), trivial, trivial, trivial⟩ ?_
    refine RunR.step (dst := none) (op := .store 3 (.tmp 14) (.tmp 12)) (by kernel_rfl) (Step.store_blk hU 0 d 2 81 [.slice A n c, .slice Wa m wc, .int .i64 lf, .bool dn] (.int .i64 (lf - 1)) (by kernel_rfl) (by kernel_rfl) (by kernel_rfl) 1 rfl [.int .i64 (lf - 1)] (by kernel_rfl) rfl (by kernel_rfl) (by first | decide | simp) ?_)
    refine RunR.done (by kernel_rfl) ?_
    refine kseq_n ?_
    refine RunC.region ?_
    refine RunR.sil hU [] 4 4 [0, 2, 15, 18] [(0, .pointer (some ⟨d, 0, none⟩)), (2, .bool false), (15, .pointer (some ⟨d, 0, none⟩)), (18, .pointer (some ⟨d, 2, none⟩))] ((True) ∧ (True) ∧ (True) ∧ (True) ∧ True) rfl (by kernel_rfl) ⟨trivial, trivial, trivial, trivial, trivial⟩ ?_
    refine RunR.step (dst := some 19) (op := .load 3 (.tmp 18)) (by kernel_rfl) (Step.load_blk hU 0 d (2) 81 [.slice A n c, .slice Wa m wc, .int .i64 (lf - 1), .bool dn] (.int .i64 (lf - 1)) (by kernel_rfl) (by kernel_rfl) (by kernel_rfl) (by kernel_rfl) ?_)
    refine RunR.sil hU [] 3 8 [0, 2, 20, 22] [(0, .pointer (some ⟨d, 0, none⟩)), (2, .bool false), (20, .bool (decide ((lf - 1) = 0))), (22, .pointer (some ⟨d, 3, none⟩))] ((True) ∧ (True) ∧ (True) ∧ True) rfl (by kernel_rfl) ⟨trivial, trivial, trivial, trivial⟩ ?_
    refine RunR.step (dst := none) (op := .store 4 (.tmp 22) (.tmp 20)) (by kernel_rfl) (Step.store_blk hU 0 d 3 81 [.slice A n c, .slice Wa m wc, .int .i64 (lf - 1), .bool dn] (.bool (decide ((lf - 1) = 0))) (by kernel_rfl) (by kernel_rfl) (by kernel_rfl) 1 rfl [.bool (decide ((lf - 1) = 0))] (by kernel_rfl) rfl (by kernel_rfl) (by first | decide | simp) ?_)
    refine RunR.done (by kernel_rfl) ?_
    refine kseq_n ?_
    refine RunC.seq ?_
    refine RunC.region ?_
    refine RunR.sil hU [] 3 3 [2, 25] [(2, .bool false), (25, .pointer (some ⟨d, 3, none⟩))] ((True) ∧ (True) ∧ (True) ∧ True) rfl (by kernel_rfl) ⟨trivial, trivial, trivial, trivial⟩ ?_
    refine RunR.step (dst := some 26) (op := .load 4 (.tmp 25)) (by kernel_rfl) (Step.load_blk hU 0 d (3) 81 [.slice A n c, .slice Wa m wc, .int .i64 (lf - 1), .bool (decide ((lf - 1) = 0))] (.bool (decide ((lf - 1) = 0))) (by kernel_rfl) (by kernel_rfl) (by kernel_rfl) (by kernel_rfl) ?_)
    refine RunR.sil hU [] 1 5 [2] [(2, .bool (decide ((lf - 1) = 0)))] ((True) ∧ True) rfl (by kernel_rfl) ⟨trivial, trivial⟩ ?_
    refine RunR.done (by kernel_rfl) ?_
    refine kseq_n ?_
    refine RunC.ret ?_
    refine kret_r [.bool (decide ((lf - 1) = 0))] [0] [blk d 81 [.slice A n c, .slice Wa m wc, .int .i64 (lf - 1), .bool (decide ((lf - 1) = 0))]] ⟨rfl, trivial⟩ (by kernel_rfl) rfl ⟨(lf - 1), (decide ((lf - 1) = 0)), rfl, rfl, (by rw [actP, if_pos (by assumption)]), (by omega)⟩
  · skip
    refine RunC.skip ?_
    refine kseq_n ?_
    refine RunC.seq ?_
    refine RunC.region ?_
    refine RunR.sil hU [] 3 3 [2, 25] [(2, .bool false), (25, .pointer (some ⟨d, 3, none⟩))] ((True) ∧ (True) ∧ (True) ∧ True) rfl (by kernel_rfl) ⟨trivial, trivial, trivial, trivial⟩ ?_
    refine RunR.step (dst := some 26) (op := .load 4 (.tmp 25)) (by kernel_rfl) (Step.load_blk hU 0 d (3) 81 [.slice A n c, .slice Wa m wc, .int .i64 lf, .bool dn] (.bool dn) (by kernel_rfl) (by kernel_rfl) (by kernel_rfl) (by kernel_rfl) ?_)
    refine RunR.sil hU [] 1 5 [2] [(2, .bool dn)] ((True) ∧ True) rfl (by kernel_rfl) ⟨trivial, trivial⟩ ?_
    refine RunR.done (by kernel_rfl) ?_
    refine kseq_n ?_
    refine RunC.ret ?_
    refine kret_r [.bool dn] [0] [blk d 81 [.slice A n c, .slice Wa m wc, .int .i64 lf, .bool dn]] ⟨rfl, trivial⟩ (by kernel_rfl) rfl ⟨lf, dn, rfl, rfl, (by rw [actP, if_neg (by assumption)]), (by omega)⟩

theorem d_Down_spec (d : Nat) (A : Option Addr) (n : Nat) (c : Nat) (Wa : Option Addr) (m : Nat) (wc : Nat) (lf : Int) (dn : Bool) :
    CallsS Try.prog 43 [.pointer (some ⟨d, 0, none⟩)] [blk d 81 [.slice A n c, .slice Wa m wc, .int .i64 lf, .bool dn]] (fun r D => r = .bool dn ∧ D = [blk d 81 [.slice A n c, .slice Wa m wc, .int .i64 lf, .bool dn]]) := by
  refine CallsS.enter hU Try.f43 _ [.tmp 2] 7 Try.func43 rfl (by decide) rfl rfl (by kernel_rfl) fun w0 W => ?_
  refine RunC.seq ?_
  refine RunC.region ?_
  refine RunR.sil hU [] 1 1 [0, 2] [(0, .pointer (some ⟨d, 0, none⟩)), (2, .bool false)] ((True) ∧ True) rfl (by kernel_rfl) ⟨trivial, trivial⟩ ?_
  refine RunR.done (by kernel_rfl) ?_
  refine kseq_n ?_
  refine RunC.seq ?_
  refine RunC.region ?_
  refine RunR.sil hU [] 3 3 [2, 5] [(2, .bool false), (5, .pointer (some ⟨d, 3, none⟩))] ((True) ∧ (True) ∧ (True) ∧ True) rfl (by kernel_rfl) ⟨trivial, trivial, trivial, trivial⟩ ?_
  refine RunR.step (dst := some 6) (op := .load 4 (.tmp 5)) (by kernel_rfl) (Step.load_blk hU 0 d (3) 81 [.slice A n c, .slice Wa m wc, .int .i64 lf, .bool dn] (.bool dn) (by kernel_rfl) (by kernel_rfl) (by kernel_rfl) (by kernel_rfl) ?_)
  refine RunR.sil hU [] 1 5 [2] [(2, .bool dn)] ((True) ∧ True) rfl (by kernel_rfl) ⟨trivial, trivial⟩ ?_
  refine RunR.done (by kernel_rfl) ?_
  refine kseq_n ?_
  refine RunC.ret ?_
  refine kret_r [.bool dn] [0] [blk d 81 [.slice A n c, .slice Wa m wc, .int .i64 lf, .bool dn]] ⟨rfl, trivial⟩ (by kernel_rfl) rfl ⟨rfl, rfl⟩

theorem d_Waiting_spec (d : Nat) (A : Option Addr) (n : Nat) (c : Nat) (Wa : Option Addr) (m : Nat) (wc : Nat) (lf : Int) (dn : Bool) :
    CallsS Try.prog 44 [.pointer (some ⟨d, 0, none⟩)] [blk d 81 [.slice A n c, .slice Wa m wc, .int .i64 lf, .bool dn]] (fun r D => r = .int .i64 ((m : Nat) : Int) ∧ D = [blk d 81 [.slice A n c, .slice Wa m wc, .int .i64 lf, .bool dn]]) := by
  refine CallsS.enter hU Try.f44 _ [.tmp 2] 8 Try.func44 rfl (by decide) rfl rfl (by kernel_rfl) fun w0 W => ?_
  refine RunC.seq ?_
  refine RunC.region ?_
  refine RunR.sil hU [] 1 1 [0, 2] [(0, .pointer (some ⟨d, 0, none⟩)), (2, .int .i64 0)] ((True) ∧ True) rfl (by kernel_rfl) ⟨trivial, trivial⟩ ?_
  refine RunR.done (by kernel_rfl) ?_
  refine kseq_n ?_
  refine RunC.seq ?_
  refine RunC.region ?_
  refine RunR.sil hU [] 3 3 [2, 5] [(2, .int .i64 0), (5, .pointer (some ⟨d, 1, none⟩))] ((True) ∧ (True) ∧ (True) ∧ True) rfl (by kernel_rfl) ⟨trivial, trivial, trivial, trivial⟩ ?_
  refine RunR.step (dst := some 6) (op := .load 74 (.tmp 5)) (by kernel_rfl) (Step.load_blk hU 0 d (1) 81 [.slice A n c, .slice Wa m wc, .int .i64 lf, .bool dn] (.slice Wa m wc) (by kernel_rfl) (by kernel_rfl) (by kernel_rfl) (by kernel_rfl) ?_)
  refine RunR.sil hU [] 2 6 [2] [(2, .int .i64 ((m : Nat) : Int))] ((True) ∧ (True) ∧ True) rfl (by kernel_rfl) ⟨trivial, trivial, trivial⟩ ?_
  refine RunR.done (by kernel_rfl) ?_
  refine kseq_n ?_
  refine RunC.ret ?_
  refine kret_r [.int .i64 ((m : Nat) : Int)] [0] [blk d 81 [.slice A n c, .slice Wa m wc, .int .i64 lf, .bool dn]] ⟨rfl, trivial⟩ (by kernel_rfl) rfl ⟨rfl, rfl⟩

theorem d_Arm_spec (d : Nat) (A : Option Addr) (n : Nat) (c : Nat) (Wa : Option Addr) (m : Nat) (wc : Nat) (lf : Int) (dn : Bool) (x : Int) (hx : fits .i64 x) :
    CallsS Try.prog 42 [.pointer (some ⟨d, 0, none⟩), .int .i64 x] [blk d 81 [.slice A n c, .slice Wa m wc, .int .i64 lf, .bool dn]] (fun r D => ∃ (lf2 : Int), r = .tuple #[] ∧ D = [blk d 81 [.slice A n c, .slice Wa m wc, .int .i64 lf2, .bool dn]] ∧ (lf2 = max x 0) ∧ (0 ≤ lf2 ∧ lf2 < 9223372036854775808)) := by
  refine CallsS.enter hU Try.f42 _ [] 9 Try.func42 rfl (by decide) rfl rfl (by kernel_rfl) fun w0 W => ?_
  have hx2 := hx; simp only [fits] at hx2
  refine RunC.region ?_
  have hm1 : ((if 0 > x then 0 else x) = x ∨ (if 0 > x then 0 else x) = (0 : Int)) ∧ (if 0 > x then 0 else x) ≥ x ∧ (if 0 > x then 0 else x) ≥ (0 : Int) := by split <;> omega
  refine RunR.sil hU [] 5 5 [6, 8] [(6, .int .i64 (if 0 > x then 0 else x)), (8, .pointer (some ⟨d, 2, none⟩))] ((True) ∧ (True) ∧ (True) ∧ (True) ∧ (True) ∧ True) rfl (by kernel_rfl) ⟨trivial, trivial, trivial, trivial, trivial, trivial⟩ ?_
  refine RunR.step (dst := none) (op := .store 3 (.tmp 8) (.tmp 6)) (by kernel_rfl) (Step.store_blk hU 0 d 2 81 [.slice A n c, .slice Wa m wc, .int .i64 lf, .bool dn] (.int .i64 (if 0 > x then 0 else x)) (by kernel_rfl) (by kernel_rfl) (by kernel_rfl) 1 rfl [.int .i64 (if 0 > x then 0 else x)] (by kernel_rfl) rfl (by kernel_rfl) (by first | decide | simp) ?_)
  refine RunR.done (by kernel_rfl) ?_
  refine kret_n [] [0] [blk d 81 [.slice A n c, .slice Wa m wc, .int .i64 (if 0 > x then 0 else x), .bool dn]] trivial (by kernel_rfl) rfl ⟨(if 0 > x then 0 else x), rfl, rfl, (by omega), (by omega)⟩

theorem d_Image_spec (d : Nat) (A : Option Addr) (n : Nat) (c : Nat) (ss : List Int) (Wa : Option Addr) (m : Nat) (wc : Nat) (lf : Int) (dn : Bool) (hss : In .u8 ss) (hnl : ss.length = n) (hnc : n ≤ c) (hAs : 0 < n → Option.isSome A = true) (hn6 : n % 256 = 0) (hnb : n ≤ 557056) :
    CallsS Try.prog 38 [.pointer (some ⟨d, 0, none⟩)] [blk d 81 [.slice A n c, .slice Wa m wc, .int .i64 lf, .bool dn], row 5 1 (.slice A n c) n (nums .u8 ss)] (fun r D => ∃ (A9 : Option Addr) (c9 : Nat) (zs : List Int), r = .slice A9 zs.length c9 ∧ D = [row 5 1 (.slice A9 zs.length c9) zs.length (nums .u8 zs), blk d 81 [.slice A n c, .slice Wa m wc, .int .i64 lf, .bool dn], row 5 1 (.slice A n c) n (nums .u8 ss)] ∧ (zs = ss) ∧ (zs.length = n) ∧ (In .u8 zs) ∧ (zs.length ≤ c9) ∧ (0 < zs.length → Option.isSome A9 = true)) := by
  refine CallsS.enter hU Try.f38 _ [.tmp 2] 8 Try.func38 rfl (by decide) rfl rfl (by kernel_rfl) fun w0 W => ?_
  refine RunC.seq ?_
  refine RunC.region ?_
  refine RunR.sil hU [] 1 1 [0, 2] [(0, .pointer (some ⟨d, 0, none⟩)), (2, .slice none 0 0)] ((True) ∧ True) rfl (by kernel_rfl) ⟨trivial, trivial⟩ ?_
  refine RunR.done (by kernel_rfl) ?_
  refine kseq_n ?_
  refine RunC.seq ?_
  refine RunC.region ?_
  refine RunR.sil hU [] 3 3 [2, 5] [(2, .slice none 0 0), (5, .pointer (some ⟨d, 0, none⟩))] ((True) ∧ (True) ∧ (True) ∧ True) rfl (by kernel_rfl) ⟨trivial, trivial, trivial, trivial⟩ ?_
  refine RunR.step (dst := some 6) (op := .load 22 (.tmp 5)) (by kernel_rfl) (Step.load_blk hU 0 d (0) 81 [.slice A n c, .slice Wa m wc, .int .i64 lf, .bool dn] (.slice A n c) (by kernel_rfl) (by kernel_rfl) (by kernel_rfl) (by kernel_rfl) ?_)
  refine RunR.step (dst := some 7) (op := .call { callee := .value (.func 64), args := #[.tmp 6], argTypes := #[22] }) (by kernel_rfl) (Step.call 64 [.slice A n c] (by kernel_rfl) (by kernel_rfl) [] [vw A (nums .u8 ss)] [blk d 81 [.slice A n c, .slice Wa m wc, .int .i64 lf, .bool dn], row 5 1 (.slice A n c) n (nums .u8 ss)] (d_Clone_spec A c ss n hss (by first | assumption | omega | (simp only [List.length_append, List.length_cons, List.length_nil, List.length_set, List.length_replicate, List.length_take, List.length_drop]; omega) | (simp only [fits] at *; omega) | (simp only [List.length_append, List.length_cons, List.length_nil, List.length_set, List.length_replicate, List.length_take, List.length_drop] at *; omega) | (simp; done) | decide) (by first | assumption | omega | (simp only [List.length_append, List.length_cons, List.length_nil, List.length_set, List.length_replicate, List.length_take, List.length_drop]; omega) | (simp only [fits] at *; omega) | (simp only [List.length_append, List.length_cons, List.length_nil, List.length_set, List.length_replicate, List.length_take, List.length_drop] at *; omega) | (simp; done) | decide) (by first | rfl | assumption | omega | (simp only [List.length_append, List.length_cons, List.length_nil, List.length_set, List.length_replicate, List.length_take, List.length_drop]; omega) | (simp; done))) [] (by kernel_rfl) ((Lend.nil _).tells 1 (row 5 1 (.slice A n c) n (nums .u8 ss)) A (nums .u8 ss) (by kernel_rfl) (tells_row _ _ _ _ _ _)) ?_)
  rintro _ _ ⟨A91, c92, zs3, rfl, rfl, hp4, hp5, hp6, hp7, hp8⟩
  refine RunR.sil hU [] 1 6 [2] [(2, .slice A91 zs3.length c92)] ((True) ∧ True) rfl (by kernel_rfl) ⟨trivial, trivial⟩ ?_
  refine RunR.done (by kernel_rfl) ?_
  refine kseq_n ?_
  refine RunC.ret ?_
  refine kret_r [.slice A91 zs3.length c92] [0, 0, 0] [row 5 1 (.slice A91 zs3.length c92) zs3.length (nums .u8 zs3), blk d 81 [.slice A n c, .slice Wa m wc, .int .i64 lf, .bool dn], row 5 1 (.slice A n c) n (nums .u8 ss)] ⟨rfl, trivial⟩ (by kernel_rfl) rfl ⟨A91, c92, zs3, rfl, rfl, (by first | assumption | omega | (simp only [List.length_append, List.length_cons, List.length_nil, List.length_set, List.length_replicate, List.length_take, List.length_drop]; omega) | (simp only [fits] at *; omega) | (simp only [List.length_append, List.length_cons, List.length_nil, List.length_set, List.length_replicate, List.length_take, List.length_drop] at *; omega) | (simp; done) | decide), (by first | rfl | assumption | omega | (simp only [List.length_append, List.length_cons, List.length_nil, List.length_set, List.length_replicate, List.length_take, List.length_drop]; omega) | (simp; done)), hp6, (by first | assumption | omega | (simp only [List.length_append, List.length_cons, List.length_nil, List.length_set, List.length_replicate, List.length_take, List.length_drop]; omega) | (simp only [fits] at *; omega) | (simp only [List.length_append, List.length_cons, List.length_nil, List.length_set, List.length_replicate, List.length_take, List.length_drop] at *; omega) | (simp; done) | decide), (fun h => hp8 (by first | exact h | (simp at h ⊢; omega)))⟩

theorem d_New_spec (x : Int) (hx : fits .i64 x) :
    CallsS Try.prog 33 [.int .i64 x] [] (fun r D => ∃ (d2 : Nat) (A9 : Option Addr) (n9 : Nat) (c9 : Nat) (zs : List Int), r = .pointer (some ⟨d2, 0, none⟩) ∧ D = [blk d2 81 [.slice A9 n9 c9, .slice none 0 0, .int .i64 0, .bool false], row 5 1 (.slice A9 n9 c9) n9 (nums .u8 zs), row 84 2 (.slice none 0 0) 0 (chV ([] : List Ch)), chd .u8 ([] : List Ch)] ∧ (In .u8 zs) ∧ (zs.length = n9) ∧ (n9 ≤ c9) ∧ (0 < n9 → Option.isSome A9 = true) ∧ (n9 % 256 = 0) ∧ (n9 ≤ 557056) ∧ (zs = List.replicate n9 0) ∧ ((n9 : Int) = 256 * max 0 (min x 2176))) := by
  refine CallsS.enter hU Try.f33 _ [.tmp 2] 10 Try.func33 rfl (by decide) rfl rfl (by kernel_rfl) fun w0 W => ?_
  have hx2 := hx; simp only [fits] at hx2
  refine RunC.seq ?_
  refine RunC.region ?_
  refine RunR.sil hU [] 1 1 [0, 2] [(0, .int .i64 x), (2, .pointer none)] ((True) ∧ True) rfl (by kernel_rfl) ⟨trivial, trivial⟩ ?_
  refine RunR.done (by kernel_rfl) ?_
  refine kseq_n ?_
  refine RunC.seq ?_
  refine RunC.region ?_
  have hm1 : ((if 0 > x then 0 else x) = x ∨ (if 0 > x then 0 else x) = (0 : Int)) ∧ (if 0 > x then 0 else x) ≥ x ∧ (if 0 > x then 0 else x) ≥ (0 : Int) := by split <;> omega
  have hm2 : ((if 2176 < (if 0 > x then 0 else x) then 2176 else if 0 > x then 0 else x) = (if 0 > x then 0 else x) ∨ (if 2176 < (if 0 > x then 0 else x) then 2176 else if 0 > x then 0 else x) = (2176 : Int)) ∧ (if 2176 < (if 0 > x then 0 else x) then 2176 else if 0 > x then 0 else x) ≤ (if 0 > x then 0 else x) ∧ (if 2176 < (if 0 > x then 0 else x) then 2176 else if 0 > x then 0 else x) ≤ (2176 : Int) := by split <;> omega
  refine RunR.sil hU [3] 4 4 [2, 6] [(2, .pointer none), (6, .int .i64 (256 * (if 2176 < (if 0 > x then 0 else x) then 2176 else if 0 > x then 0 else x)))] ((True) ∧ (True) ∧ (True) ∧ (-9223372036854775808 ≤ (256 * (if 2176 < (if 0 > x then 0 else x) then 2176 else if 0 > x then 0 else x)) ∧ (256 * (if 2176 < (if 0 > x then 0 else x) then 2176 else if 0 > x then 0 else x)) < 9223372036854775808) ∧ True) rfl (by kernel_rfl) ⟨trivial, trivial, trivial, (by omega), trivial⟩ ?_
  refine RunR.step (dst := some 7) (op := .makeSlice 22 (.tmp 6) (.tmp 6)) (by kernel_rfl) (Step.make_nums hU 5 1 .u8 .i64 .i64 (256 * (if 2176 < (if 0 > x then 0 else x) then 2176 else if 0 > x then 0 else x)) rfl rfl (by kernel_rfl) (by kernel_rfl) (by omega) (by omega) (by kernel_rfl) (fun b3 => ?_))
  have hl4 : (List.replicate ((256 * (if 2176 < (if 0 > x then 0 else x) then 2176 else if 0 > x then 0 else x)).toNat) (0 : Int)).length = (256 * (if 2176 < (if 0 > x then 0 else x) then 2176 else if 0 > x then 0 else x)).toNat := List.length_replicate
  refine RunR.sil hU [] 1 6 [2, 8] [(2, .pointer none), (8, .agg #[.slice (some ⟨b3, 0, none⟩) ((256 * (if 2176 < (if 0 > x then 0 else x) then 2176 else if 0 > x then 0 else x)).toNat) ((256 * (if 2176 < (if 0 > x then 0 else x) then 2176 else if 0 > x then 0 else x)).toNat), .slice none 0 0, .int .i64 0, .bool false])] ((True) ∧ True) rfl (by kernel_rfl) ⟨trivial, trivial⟩ ?_
  refine RunR.step (dst := some 9) (op := .box 81 (.tmp 8)) (by kernel_rfl) (Step.box (.agg #[.slice (some ⟨b3, 0, none⟩) ((256 * (if 2176 < (if 0 > x then 0 else x) then 2176 else if 0 > x then 0 else x)).toNat) ((256 * (if 2176 < (if 0 > x then 0 else x) then 2176 else if 0 > x then 0 else x)).toNat), .slice none 0 0, .int .i64 0, .bool false]) (by kernel_rfl) (by kernel_rfl) (fun b5 => ?_))
  refine RunR.sil hU [] 1 8 [2] [(2, .pointer (some ⟨b5, 0, none⟩))] ((True) ∧ True) rfl (by kernel_rfl) ⟨trivial, trivial⟩ ?_
  refine RunR.done (by kernel_rfl) ?_
  refine kseq_n ?_
  refine RunC.ret ?_
  refine kret_rt ([chd .u8 ([] : List Ch), row 84 2 (.slice none 0 0) 0 (chV ([] : List Ch)), blk b5 81 [.slice (some ⟨b3, 0, none⟩) ((256 * (if 2176 < (if 0 > x then 0 else x) then 2176 else if 0 > x then 0 else x)).toNat) ((256 * (if 2176 < (if 0 > x then 0 else x) then 2176 else if 0 > x then 0 else x)).toNat), .slice none 0 0, .int .i64 0, .bool false], row 5 1 (.slice (some ⟨b3, 0, none⟩) ((256 * (if 2176 < (if 0 > x then 0 else x) then 2176 else if 0 > x then 0 else x)).toNat) ((256 * (if 2176 < (if 0 > x then 0 else x) then 2176 else if 0 > x then 0 else x)).toNat)) ((256 * (if 2176 < (if 0 > x then 0 else x) then 2176 else if 0 > x then 0 else x)).toNat) (nums .u8 (List.replicate ((256 * (if 2176 < (if 0 > x then 0 else x) then 2176 else if 0 > x then 0 else x)).toNat) (0 : Int)))]) (fun w0 W w hs => ((hs).nil_row 84 2).chd0 .u8) [.pointer (some ⟨b5, 0, none⟩)] [2, 2, 1, 0] [blk b5 81 [.slice (some ⟨b3, 0, none⟩) ((256 * (if 2176 < (if 0 > x then 0 else x) then 2176 else if 0 > x then 0 else x)).toNat) ((256 * (if 2176 < (if 0 > x then 0 else x) then 2176 else if 0 > x then 0 else x)).toNat), .slice none 0 0, .int .i64 0, .bool false], row 5 1 (.slice (some ⟨b3, 0, none⟩) ((256 * (if 2176 < (if 0 > x then 0 else x) then 2176 else if 0 > x then 0 else x)).toNat) ((256 * (if 2176 < (if 0 > x then 0 else x) then 2176 else if 0 > x then 0 else x)).toNat)) ((256 * (if 2176 < (if 0 > x then 0 else x) then 2176 else if 0 > x then 0 else x)).toNat) (nums .u8 (List.replicate ((256 * (if 2176 < (if 0 > x then 0 else x) then 2176 else if 0 > x then 0 else x)).toNat) (0 : Int))), row 84 2 (.slice none 0 0) 0 (chV ([] : List Ch)), chd .u8 ([] : List Ch)] ⟨rfl, trivial⟩ (by kernel_rfl) rfl ⟨b5, (some ⟨b3, 0, none⟩), ((256 * (if 2176 < (if 0 > x then 0 else x) then 2176 else if 0 > x then 0 else x)).toNat), ((256 * (if 2176 < (if 0 > x then 0 else x) then 2176 else if 0 > x then 0 else x)).toNat), (List.replicate ((256 * (if 2176 < (if 0 > x then 0 else x) then 2176 else if 0 > x then 0 else x)).toNat) (0 : Int)), rfl, rfl, (by exact In.replicate _ _), (by exact List.length_replicate), (by exact Nat.le_refl _), (by intro _; rfl), (by omega), (by omega), (by rfl), (by omega)⟩

theorem d_Full_spec (A8 : Option Addr) (c8 : Nat) (bs : List Int) (l_bs : Nat) (hIbs : In .u8 bs) (hCbs : bs.length ≤ c8) (hBbs : bs.length ≤ 140737488351232) (hl_bs : bs.length = l_bs) :
    CallsS Try.prog 35 [.slice A8 l_bs c8] [vw A8 (nums .u8 bs)] (fun r D => ∃ (A9 : Option Addr) (c9 : Nat) (zs : List Int), r = .slice A9 256 c9 ∧ D = [row 5 1 (.slice A9 256 c9) 256 (nums .u8 zs)] ∧ (zs = fullL bs) ∧ (zs.length = 256) ∧ (In .u8 zs) ∧ (256 ≤ c9) ∧ (0 < 256 → Option.isSome A9 = true)) := by
  subst hl_bs
  refine CallsS.enter hU Try.f35 _ [.tmp 2] 26 Try.func35 rfl (by decide) rfl rfl (by kernel_rfl) fun w0 W => ?_
  refine RunC.know (p := 0 < bs.length → Option.isSome A8 = true) (fun _ _ w hs => vw_some hs 0 rfl (by first | (simp [nums_length]; done) | exact dosV_len _ | exact bls_len _ | exact chV_len _)) (fun hA1 => ?_)
  refine RunC.seq ?_
  refine RunC.region ?_
  refine RunR.sil hU [] 1 1 [0, 2] [(0, .slice A8 bs.length c8), (2, .slice none 0 0)] ((True) ∧ True) rfl (by kernel_rfl) ⟨trivial, trivial⟩ ?_
  refine RunR.done (by kernel_rfl) ?_
  refine kseq_n ?_
  refine RunC.seq ?_
  refine RunC.region ?_
  refine RunR.step (dst := some 5) (op := .buildSlice 22 0 #[]) (by kernel_rfl) (Step.lit_nums hU 5 1 .u8 (.int .u8 0) ([] : List Int) rfl rfl (by kernel_rfl) rfl rfl (by kernel_rfl) (fun b2 => ?_))
  have hl3 : (([] : List Int)).length = 0 := rfl
  refine RunR.sil hU [] 1 2 [0, 2, 5, 6] [(0, .slice A8 bs.length c8), (2, .slice none 0 0), (5, .slice (some ⟨b2, 0, none⟩) 0 0), (6, .slice A8 bs.length c8)] ((True) ∧ True) rfl (by kernel_rfl) ⟨trivial, trivial⟩ ?_
  have hl8 : (([] : List Int)).length = 0 := rfl
  refine RunR.step (dst := some 7) (op := .call { callee := .builtin .append, args := #[.tmp 5, .tmp 6], argTypes := #[22, 22] }) (by kernel_rfl) (Step.append_nums hU 5 1 (.int .u8 0) .u8 0 1 (some ⟨b2, 0, none⟩) 0 0 ([] : List Int) A8 bs.length c8 (vw A8 (nums .u8 bs)) bs rfl rfl rfl (by kernel_rfl) (by kernel_rfl) (by kernel_rfl) (by kernel_rfl) (tells_vw _ _) (by first | rfl | omega | (simp; omega)) (by first | rfl | omega | (simp; omega)) (by omega) (by omega) (by kernel_rfl) (fun Aq4 cq5 hc6 hA7 => ?_))
  simp only [List.nil_append] at hc6 hA7
  refine RunR.sil hU [] 1 4 [0, 2, 3] [(0, .slice A8 bs.length c8), (2, .slice none 0 0), (3, .slice Aq4 bs.length cq5)] ((True) ∧ True) rfl (by kernel_rfl) ⟨trivial, trivial⟩ ?_
  refine RunR.done (by kernel_rfl) ?_
  refine kseq_n ?_
  refine RunC.seq ?_
  refine RunC.block ?_
  refine RunC.env [0, 2, 3] [(0, .slice A8 bs.length c8), (2, .slice none 0 0), (3, .slice Aq4 bs.length cq5)] (by kernel_rfl) ?_
  refine RunC.only [0, 0] [row 5 1 (.slice Aq4 bs.length cq5) bs.length (nums .u8 bs), vw A8 (nums .u8 bs)] (by kernel_rfl) ?_
  refine RunC.loop (σ := Nat) (fun n_ t_ D_ => ∃ (j : Nat) (os : List Int) (A5 : Option Addr) (c5 : Nat), (os = bs ++ List.replicate j (bs.getD (bs.length - 1) 0)) ∧ (j = 0 ∨ bs.length + j ≤ 256) ∧ (os.length = bs.length + j) ∧ (In .u8 os) ∧ (os.length ≤ c5) ∧ (0 < os.length → Option.isSome A5 = true) ∧ n_ = (256 - os.length : Nat) ∧ t_ = [(0, .slice A8 bs.length c8), (2, .slice none 0 0), (3, .slice A5 os.length c5)] ∧ D_ = [row 5 1 (.slice A5 os.length c5) os.length (nums .u8 os), vw A8 (nums .u8 bs)]) id _ ⟨0, bs, Aq4, cq5, (by rw [List.replicate_zero, List.append_nil]), (by exact .inl rfl), (by rfl), hIbs, (by first | assumption | omega | (simp only [List.length_append, List.length_cons, List.length_nil, List.length_set, List.length_replicate, List.length_take, List.length_drop]; omega) | (simp only [fits] at *; omega) | (simp only [List.length_append, List.length_cons, List.length_nil, List.length_set, List.length_replicate, List.length_take, List.length_drop] at *; omega) | (simp; done) | decide), (fun h => hA7 (by first | exact h | (simp at h ⊢; omega))), rfl, rfl, rfl⟩ ?_
  rintro n_ _ _ ⟨j, os, A5, c5, ho, hj, hol, hios, hcos, hAos, rfl, rfl, rfl⟩
  refine RunC.seq ?_
  refine RunC.seq ?_
  refine RunC.region ?_
  refine RunR.sil hU [] 3 3 [0, 2, 3, 10] [(0, .slice A8 bs.length c8), (2, .slice none 0 0), (3, .slice A5 os.length c5), (10, .bool (decide (((os.length : Nat) : Int) < 256)))] ((True) ∧ (True) ∧ (True) ∧ True) rfl (by kernel_rfl) ⟨trivial, trivial, trivial, trivial⟩ ?_
  refine RunR.done (by kernel_rfl) ?_
  refine kseq_n ?_
  refine RunC.condp (((os.length : Nat) : Int) < 256) (by kernel_rfl) (fun h9 => ?_) (fun h9 => ?_)
  · skip
    refine RunC.skip ?_
    refine kseq_n ?_
    refine RunC.block ?_
    refine RunC.seq ?_
    refine RunC.region ?_
    refine RunR.sil hU [] 1 1 [0, 2, 3, 4] [(0, .slice A8 bs.length c8), (2, .slice none 0 0), (3, .slice A5 os.length c5), (4, .int .u8 0)] ((True) ∧ True) rfl (by kernel_rfl) ⟨trivial, trivial⟩ ?_
    refine RunR.done (by kernel_rfl) ?_
    refine kseq_n ?_
    refine RunC.seq ?_
    refine RunC.seq ?_
    refine RunC.region ?_
    refine RunR.sil hU [] 3 3 [0, 2, 3, 4, 13] [(0, .slice A8 bs.length c8), (2, .slice none 0 0), (3, .slice A5 os.length c5), (4, .int .u8 0), (13, .bool (decide (((bs.length : Nat) : Int) > 0)))] ((True) ∧ (True) ∧ (True) ∧ True) rfl (by kernel_rfl) ⟨trivial, trivial, trivial, trivial⟩ ?_
    refine RunR.done (by kernel_rfl) ?_
    refine kseq_n ?_
    refine RunC.condp (((bs.length : Nat) : Int) > 0) (by kernel_rfl) (fun h10 => ?_) (fun h10 => ?_)
    · skip
      refine RunC.region ?_
      refine RunR.sil hU [3] 5 5 [0, 2, 3, 4, 18] [(0, .slice A8 bs.length c8), (2, .slice none 0 0), (3, .slice A5 os.length c5), (4, .int .u8 0), (18, .pointer (elemAt A8 (((bs.length : Nat) : Int) - 1) 1))] ((True) ∧ (True) ∧ (True) ∧ (-9223372036854775808 ≤ (((bs.length : Nat) : Int) - 1) ∧ (((bs.length : Nat) : Int) - 1) < 9223372036854775808) ∧ ((0 ≤ (((bs.length : Nat) : Int) - 1) ∧ (((bs.length : Nat) : Int) - 1) < ((bs.length : Nat) : Int)) ∧ Option.isSome A8 = true) ∧ True) rfl (by kernel_rfl) ⟨trivial, trivial, trivial, (by omega), ⟨by omega, hA1 (by omega)⟩, trivial⟩ ?_
      refine RunR.step (dst := some 19) (op := .load 5 (.tmp 18)) (by kernel_rfl) (Step.load_num hU 1 (vw A8 (nums .u8 bs)) A8 (((bs.length : Nat) : Int) - 1) .u8 bs rfl (by kernel_rfl) (by kernel_rfl) (tells_vw _ _) (by kernel_rfl) (by omega) ?_)
      have hb11 : 0 ≤ bs.getD ((((bs.length : Nat) : Int) - 1).toNat) 0 ∧ bs.getD ((((bs.length : Nat) : Int) - 1).toNat) 0 < 256 := hIbs.at_ _
      refine RunR.sil hU [] 1 7 [0, 2, 3, 4] [(0, .slice A8 bs.length c8), (2, .slice none 0 0), (3, .slice A5 os.length c5), (4, .int .u8 (bs.getD (((bs.length : Nat) : Int) - 1).toNat 0))] ((True) ∧ True) rfl (by kernel_rfl) ⟨trivial, trivial⟩ ?_
      refine RunR.done (by kernel_rfl) ?_
      refine kseq_n ?_
      refine RunC.region ?_
      refine RunR.sil hU [] 2 2 [0, 2, 3, 20, 21] [(0, .slice A8 bs.length c8), (2, .slice none 0 0), (3, .slice A5 os.length c5), (20, .slice A5 os.length c5), (21, .int .u8 (bs.getD (((bs.length : Nat) : Int) - 1).toNat 0))] ((True) ∧ (True) ∧ True) rfl (by kernel_rfl) ⟨trivial, trivial, trivial⟩ ?_
      refine RunR.step (dst := some 22) (op := .buildSlice 22 1 #[(0, .tmp 21)]) (by kernel_rfl) (Step.lit_nums hU 5 1 .u8 (.int .u8 0) ([bs.getD (((bs.length : Nat) : Int) - 1).toNat 0] : List Int) rfl rfl (by kernel_rfl) rfl rfl (by kernel_rfl) (fun b12 => ?_))
      have hl13 : (([bs.getD (((bs.length : Nat) : Int) - 1).toNat 0] : List Int)).length = 1 := rfl
      have hl18 : (([bs.getD (((bs.length : Nat) : Int) - 1).toNat 0] : List Int)).length = 1 := rfl
      refine RunR.step (dst := some 23) (op := .call { callee := .builtin .append, args := #[.tmp 20, .tmp 22], argTypes := #[22, 22] }) (by kernel_rfl) (Step.append_nums hU 5 1 (.int .u8 0) .u8 1 0 A5 os.length c5 os (some ⟨b12, 0, none⟩) 1 1 (row 5 1 (.slice (some ⟨b12, 0, none⟩) 1 1) 1 (nums .u8 ([bs.getD (((bs.length : Nat) : Int) - 1).toNat 0] : List Int))) ([bs.getD (((bs.length : Nat) : Int) - 1).toNat 0] : List Int) rfl rfl rfl (by kernel_rfl) (by kernel_rfl) (by kernel_rfl) (by kernel_rfl) (tells_row _ _ _ _ _ _) (by first | rfl | omega | (simp; omega)) (by first | rfl | omega | (simp; omega)) (by omega) (by omega) (by kernel_rfl) (fun Aq14 cq15 hc16 hA17 => ?_))
      have hl19 : (os ++ ([bs.getD (((bs.length : Nat) : Int) - 1).toNat 0] : List Int)).length = os.length + ([bs.getD (((bs.length : Nat) : Int) - 1).toNat 0] : List Int).length := List.length_append
      simp only [List.length_cons, List.length_nil] at hl19
      refine RunR.sil hU [] 1 5 [0, 2, 3] [(0, .slice A8 bs.length c8), (2, .slice none 0 0), (3, .slice Aq14 ((os ++ ([bs.getD (((bs.length : Nat) : Int) - 1).toNat 0] : List Int)).length) cq15)] ((True) ∧ True) rfl (by kernel_rfl) ⟨trivial, trivial⟩ ?_
      refine RunR.done (by kernel_rfl) ?_
      refine kblock_n ?_
      refine kloop_n _ [0, 2, 3] [0, 1] [(0, .slice A8 bs.length c8), (2, .slice none 0 0), (3, .slice Aq14 ((os ++ ([bs.getD (((bs.length : Nat) : Int) - 1).toNat 0] : List Int)).length) cq15)] [row 5 1 (.slice Aq14 ((os ++ ([bs.getD (((bs.length : Nat) : Int) - 1).toNat 0] : List Int)).length) cq15) ((os ++ ([bs.getD (((bs.length : Nat) : Int) - 1).toNat 0] : List Int)).length) (nums .u8 (os ++ ([bs.getD (((bs.length : Nat) : Int) - 1).toNat 0] : List Int))), vw A8 (nums .u8 bs)] (by kernel_rfl) (by kernel_rfl) ?_ ⟨(j + 1), (os ++ ([bs.getD (((bs.length : Nat) : Int) - 1).toNat 0] : List Int)), Aq14, cq15, (by rw [ho, List.append_assoc, List.replicate_succ']; first | rfl | (rw [show ((bs.length : Int) - 1).toNat = bs.length - 1 by omega]) | (rw [nil_of_len0 (xs := bs) (by omega)]; rfl)), (by first | assumption | omega | (simp only [List.length_append, List.length_cons, List.length_nil, List.length_set, List.length_replicate, List.length_take, List.length_drop]; omega) | (simp only [fits] at *; omega) | (simp only [List.length_append, List.length_cons, List.length_nil, List.length_set, List.length_replicate, List.length_take, List.length_drop] at *; omega) | (simp; done) | decide), (by rw [List.length_append]; simp; omega), (by (repeat first | assumption | (simp only [fits]; omega) | with_reducible first | exact fits_wrap _ _ | exact fits_bits2 _ _ _ _ | exact In.nil _ | exact In.sb _ | exact In.replicate _ _ | apply In.append | apply In.cons | apply In.set | apply In.take | apply In.drop | apply In.rev)), (by first | assumption | omega | (simp only [List.length_append, List.length_cons, List.length_nil, List.length_set, List.length_replicate, List.length_take, List.length_drop]; omega) | (simp only [fits] at *; omega) | (simp only [List.length_append, List.length_cons, List.length_nil, List.length_set, List.length_replicate, List.length_take, List.length_drop] at *; omega) | (simp; done) | decide), (fun h => hA17 (by first | exact h | (simp at h ⊢; omega))), rfl, (by first | rfl | simp only [List.length_set]), (by first | rfl | simp only [List.length_set])⟩
      show (256 - (os ++ ([bs.getD (((bs.length : Nat) : Int) - 1).toNat 0] : List Int)).length : Nat) < (256 - os.length : Nat)
      simp only [List.length_append, List.length_cons, List.length_nil]; omega
    · skip
      refine RunC.skip ?_
      refine kseq_n ?_
      refine RunC.region ?_
      refine RunR.sil hU [] 2 2 [0, 2, 3, 20, 21] [(0, .slice A8 bs.length c8), (2, .slice none 0 0), (3, .slice A5 os.length c5), (20, .slice A5 os.length c5), (21, .int .u8 0)] ((True) ∧ (True) ∧ True) rfl (by kernel_rfl) ⟨trivial, trivial, trivial⟩ ?_
      refine RunR.step (dst := some 22) (op := .buildSlice 22 1 #[(0, .tmp 21)]) (by kernel_rfl) (Step.lit_nums hU 5 1 .u8 (.int .u8 0) ([0] : List Int) rfl rfl (by kernel_rfl) rfl rfl (by kernel_rfl) (fun b20 => ?_))
      have hl21 : (([0] : List Int)).length = 1 := rfl
      have hl26 : (([0] : List Int)).length = 1 := rfl
      refine RunR.step (dst := some 23) (op := .call { callee := .builtin .append, args := #[.tmp 20, .tmp 22], argTypes := #[22, 22] }) (by kernel_rfl) (Step.append_nums hU 5 1 (.int .u8 0) .u8 1 0 A5 os.length c5 os (some ⟨b20, 0, none⟩) 1 1 (row 5 1 (.slice (some ⟨b20, 0, none⟩) 1 1) 1 (nums .u8 ([0] : List Int))) ([0] : List Int) rfl rfl rfl (by kernel_rfl) (by kernel_rfl) (by kernel_rfl) (by kernel_rfl) (tells_row _ _ _ _ _ _) (by first | rfl | omega | (simp; omega)) (by first | rfl | omega | (simp; omega)) (by omega) (by omega) (by kernel_rfl) (fun Aq22 cq23 hc24 hA25 => ?_))
      have hl27 : (os ++ ([0] : List Int)).length = os.length + ([0] : List Int).length := List.length_append
      simp only [List.length_cons, List.length_nil] at hl27
      refine RunR.sil hU [] 1 5 [0, 2, 3] [(0, .slice A8 bs.length c8), (2, .slice none 0 0), (3, .slice Aq22 ((os ++ ([0] : List Int)).length) cq23)] ((True) ∧ True) rfl (by kernel_rfl) ⟨trivial, trivial⟩ ?_
      refine RunR.done (by kernel_rfl) ?_
      refine kblock_n ?_
      refine kloop_n _ [0, 2, 3] [0, 1] [(0, .slice A8 bs.length c8), (2, .slice none 0 0), (3, .slice Aq22 ((os ++ ([0] : List Int)).length) cq23)] [row 5 1 (.slice Aq22 ((os ++ ([0] : List Int)).length) cq23) ((os ++ ([0] : List Int)).length) (nums .u8 (os ++ ([0] : List Int))), vw A8 (nums .u8 bs)] (by kernel_rfl) (by kernel_rfl) ?_ ⟨(j + 1), (os ++ ([0] : List Int)), Aq22, cq23, (by rw [ho, List.append_assoc, List.replicate_succ']; first | rfl | (rw [show ((bs.length : Int) - 1).toNat = bs.length - 1 by omega]) | (rw [nil_of_len0 (xs := bs) (by omega)]; rfl)), (by first | assumption | omega | (simp only [List.length_append, List.length_cons, List.length_nil, List.length_set, List.length_replicate, List.length_take, List.length_drop]; omega) | (simp only [fits] at *; omega) | (simp only [List.length_append, List.length_cons, List.length_nil, List.length_set, List.length_replicate, List.length_take, List.length_drop] at *; omega) | (simp; done) | decide), (by rw [List.length_append]; simp; omega), (by (repeat first | assumption | (simp only [fits]; omega) | with_reducible first | exact fits_wrap _ _ | exact fits_bits2 _ _ _ _ | exact In.nil _ | exact In.sb _ | exact In.replicate _ _ | apply In.append | apply In.cons | apply In.set | apply In.take | apply In.drop | apply In.rev)), (by first | assumption | omega | (simp only [List.length_append, List.length_cons, List.length_nil, List.length_set, List.length_replicate, List.length_take, List.length_drop]; omega) | (simp only [fits] at *; omega) | (simp only [List.length_append, List.length_cons, List.length_nil, List.length_set, List.length_replicate, List.length_take, List.length_drop] at *; omega) | (simp; done) | decide), (fun h => hA25 (by first | exact h | (simp at h ⊢; omega))), rfl, (by first | rfl | simp only [List.length_set]), (by first | rfl | simp only [List.length_set])⟩
      show (256 - (os ++ ([0] : List Int)).length : Nat) < (256 - os.length : Nat)
      simp only [List.length_append, List.length_cons, List.length_nil]; omega
  · skip
    refine RunC.exit ?_
    refine kseq_e ?_
    refine kloop_e ?_
    refine kblock_e ?_
    refine kseq_n ?_
    refine RunC.seq ?_
    refine RunC.region ?_
    refine RunR.sil hU [] 2 2 [2, 25] [(2, .slice none 0 0), (25, .slice A5 256 c5)] ((True) ∧ (0 ≤ (256 : Int) ∧ (256 : Int) ≤ ((c5 : Nat) : Int)) ∧ True) rfl (by kernel_rfl) ⟨trivial, (by omega), trivial⟩ ?_
    obtain ⟨zs28, hz29⟩ : ∃ z : List Int, z = os.take 256 := ⟨_, rfl⟩
    have hl30 : zs28.length = 256 := by rw [hz29, List.length_take]; omega
    have hB31_t : Tells (row 5 1 (.slice A5 os.length c5) os.length (nums .u8 os)) (A5) (nums .u8 zs28) := by rw [hz29]; exact tells_take_nums (tells_row _ _ _ _ _ _) _
    refine RunR.env [2, 25] [(2, .slice none 0 0), (25, .slice A5 256 c5)] (by kernel_rfl) ?_
    refine RunR.enveq [(2, .slice none 0 0), (25, .slice A5 zs28.length c5)] (by rw [hl30]) ?_
    have hr32 : In .u8 zs28 := by rw [hz29]; exact hios.take _
    refine RunR.sil hU [] 1 3 [2] [(2, .slice A5 zs28.length c5)] ((True) ∧ True) rfl (by kernel_rfl) ⟨trivial, trivial⟩ ?_
    refine RunR.done (by kernel_rfl) ?_
    refine kseq_n ?_
    refine RunC.ret ?_
    refine kret_rt ([row 5 1 (.slice A5 256 c5) 256 (nums .u8 (os.take 256)), vw A8 (nums .u8 bs)]) (fun w0 W w hs => hs.rowCutN 0 256 rfl (by omega)) [.slice A5 zs28.length c5] [0] [row 5 1 (.slice A5 256 c5) 256 (nums .u8 (os.take 256))] ⟨rfl, trivial⟩ (by kernel_rfl) rfl ⟨A5, c5, (os.take 256), (by first | rfl | (exact congrArg (fun n => Value.slice _ n _) (by first | omega | simp))), (by first | rfl | (exact congrArg (fun n => Value.slice _ n _) (by first | omega | simp))), (by rw [ho]; exact full_end hj (by omega)), (by rw [List.length_take]; omega), (by exact hios.take _), (by omega), (by intro _; exact hAos (by omega))⟩

theorem d_Load_spec (A8 : Option Addr) (c8 : Nat) (bs : List Int) (l_bs : Nat) (hIbs : In .u8 bs) (hCbs : bs.length ≤ c8) (hBbs : bs.length ≤ 140737488351232) (hl_bs : bs.length = l_bs) :
    CallsS Try.prog 45 [.slice A8 l_bs c8] [vw A8 (nums .u8 bs)] (fun r D => (r = .tuple #[.pointer none, .int .i64 1] ∧ D = [] ∧ (¬ bs.length % 256 = 0 ∨ 557056 < bs.length)) ∨ (∃ (d2 : Nat) (A9 : Option Addr) (n9 : Nat) (c9 : Nat) (zs : List Int), r = .tuple #[.pointer (some ⟨d2, 0, none⟩), .int .i64 0] ∧ D = [blk d2 81 [.slice A9 n9 c9, .slice none 0 0, .int .i64 0, .bool false], row 5 1 (.slice A9 n9 c9) n9 (nums .u8 zs), row 84 2 (.slice none 0 0) 0 (chV ([] : List Ch)), chd .u8 ([] : List Ch)] ∧ (In .u8 zs) ∧ (zs.length = n9) ∧ (n9 ≤ c9) ∧ (0 < n9 → Option.isSome A9 = true) ∧ (n9 % 256 = 0) ∧ (n9 ≤ 557056) ∧ (zs = bs) ∧ (n9 = bs.length))) := by
  subst hl_bs
  refine CallsS.enter hU Try.f45 _ [.tmp 2, .tmp 3] 17 Try.func45 rfl (by decide) rfl rfl (by kernel_rfl) fun w0 W => ?_
  refine RunC.know (p := 0 < bs.length → Option.isSome A8 = true) (fun _ _ w hs => vw_some hs 0 rfl (by first | (simp [nums_length]; done) | exact dosV_len _ | exact bls_len _ | exact chV_len _)) (fun hA1 => ?_)
  refine RunC.seq ?_
  refine RunC.region ?_
  refine RunR.sil hU [] 2 2 [0, 2, 3] [(0, .slice A8 bs.length c8), (2, .pointer none), (3, .int .i64 0)] ((True) ∧ (True) ∧ True) rfl (by kernel_rfl) ⟨trivial, trivial, trivial⟩ ?_
  refine RunR.done (by kernel_rfl) ?_
  refine kseq_n ?_
  refine RunC.seq ?_
  refine RunC.seq ?_
  refine RunC.region ?_
  refine RunR.sil hU [2] 5 5 [0, 2, 3, 8] [(0, .slice A8 bs.length c8), (2, .pointer none), (3, .int .i64 0), (8, .bool (!decide ((((bs.length : Nat) : Int) % (256 : Int)) = 0)))] ((True) ∧ (True) ∧ (0 ≤ ((bs.length : Nat) : Int) ∧ 0 < (256 : Int)) ∧ (True) ∧ (True) ∧ True) rfl (by kernel_rfl) ⟨trivial, trivial, (by omega), trivial, trivial, trivial⟩ ?_
  refine RunR.env [0, 2, 3, 8] [(0, .slice A8 bs.length c8), (2, .pointer none), (3, .int .i64 0), (8, .bool (!decide ((((bs.length : Nat) : Int) % (256 : Int)) = 0)))] (by kernel_rfl) ?_
  by_cases h2 : (((bs.length : Nat) : Int) % (256 : Int)) = 0
  · skip
    refine RunR.enveq [(0, .slice A8 bs.length c8), (2, .pointer none), (3, .int .i64 0), (8, .bool false)] (by rw [decide_eq_true h2]; try rfl) ?_
    refine RunR.sil hU [] 4 9 [0, 2, 3, 12] [(0, .slice A8 bs.length c8), (2, .pointer none), (3, .int .i64 0), (12, .bool (decide (((bs.length : Nat) : Int) > 557056)))] ((True) ∧ (True) ∧ (True) ∧ (True) ∧ True) rfl (by kernel_rfl) ⟨trivial, trivial, trivial, trivial, trivial⟩ ?_
    refine RunR.done (by kernel_rfl) ?_
    refine kseq_n ?_
    refine RunC.condp (((bs.length : Nat) : Int) > 557056) (by kernel_rfl) (fun h3 => ?_) (fun h3 => ?_)
    · skip
      refine RunC.seq ?_
      refine RunC.region ?_
      refine RunR.sil hU [] 2 2 [0, 2, 3] [(0, .slice A8 bs.length c8), (2, .pointer none), (3, .int .i64 1)] ((True) ∧ (True) ∧ True) rfl (by kernel_rfl) ⟨trivial, trivial, trivial⟩ ?_
      refine RunR.done (by kernel_rfl) ?_
      refine kseq_n ?_
      refine RunC.ret ?_
      refine kseq_r ?_
      refine kret_r [.pointer none, .int .i64 1] [] [] ⟨rfl, rfl, trivial⟩ (by kernel_rfl) rfl (.inl ⟨rfl, rfl, (by omega)⟩)
    · skip
      refine RunC.skip ?_
      refine kseq_n ?_
      refine RunC.seq ?_
      refine RunC.region ?_
      refine RunR.sil hU [] 1 1 [2, 3, 13] [(2, .pointer none), (3, .int .i64 0), (13, .slice A8 bs.length c8)] ((True) ∧ True) rfl (by kernel_rfl) ⟨trivial, trivial⟩ ?_
      refine RunR.step (dst := some 14) (op := .call { callee := .value (.func 64), args := #[.tmp 13], argTypes := #[22] }) (by kernel_rfl) (Step.call 64 [.slice A8 bs.length c8] (by kernel_rfl) (by kernel_rfl) [] [vw A8 (nums .u8 bs)] [vw A8 (nums .u8 bs)] (d_Clone_spec A8 c8 bs bs.length hIbs (by first | assumption | omega | (simp only [List.length_append, List.length_cons, List.length_nil, List.length_set, List.length_replicate, List.length_take, List.length_drop]; omega) | (simp only [fits] at *; omega) | (simp only [List.length_append, List.length_cons, List.length_nil, List.length_set, List.length_replicate, List.length_take, List.length_drop] at *; omega) | (simp; done) | decide) (by first | assumption | omega | (simp only [List.length_append, List.length_cons, List.length_nil, List.length_set, List.length_replicate, List.length_take, List.length_drop]; omega) | (simp only [fits] at *; omega) | (simp only [List.length_append, List.length_cons, List.length_nil, List.length_set, List.length_replicate, List.length_take, List.length_drop] at *; omega) | (simp; done) | decide) (by first | rfl | assumption | omega | (simp only [List.length_append, List.length_cons, List.length_nil, List.length_set, List.length_replicate, List.length_take, List.length_drop]; omega) | (simp; done))) [] (by kernel_rfl) ((Lend.nil _).tells 0 (vw A8 (nums .u8 bs)) A8 (nums .u8 bs) (by kernel_rfl) (tells_vw _ _)) ?_)
      rintro _ _ ⟨A94, c95, zs6, rfl, rfl, hp7, hp8, hp9, hp10, hp11⟩
      refine RunR.sil hU [] 1 3 [2, 3, 15] [(2, .pointer none), (3, .int .i64 0), (15, .agg #[.slice A94 zs6.length c95, .slice none 0 0, .int .i64 0, .bool false])] ((True) ∧ True) rfl (by kernel_rfl) ⟨trivial, trivial⟩ ?_
      refine RunR.step (dst := some 16) (op := .box 81 (.tmp 15)) (by kernel_rfl) (Step.box (.agg #[.slice A94 zs6.length c95, .slice none 0 0, .int .i64 0, .bool false]) (by kernel_rfl) (by kernel_rfl) (fun b12 => ?_))
      refine RunR.sil hU [] 2 6 [2, 3] [(2, .pointer (some ⟨b12, 0, none⟩)), (3, .int .i64 0)] ((True) ∧ (True) ∧ True) rfl (by kernel_rfl) ⟨trivial, trivial, trivial⟩ ?_
      refine RunR.done (by kernel_rfl) ?_
      refine kseq_n ?_
      refine RunC.ret ?_
      refine kret_rt ([chd .u8 ([] : List Ch), row 84 2 (.slice none 0 0) 0 (chV ([] : List Ch)), blk b12 81 [.slice A94 zs6.length c95, .slice none 0 0, .int .i64 0, .bool false], row 5 1 (.slice A94 zs6.length c95) zs6.length (nums .u8 zs6), vw A8 (nums .u8 bs)]) (fun w0 W w hs => ((hs).nil_row 84 2).chd0 .u8) [.pointer (some ⟨b12, 0, none⟩), .int .i64 0] [2, 2, 1, 0] [blk b12 81 [.slice A94 zs6.length c95, .slice none 0 0, .int .i64 0, .bool false], row 5 1 (.slice A94 zs6.length c95) zs6.length (nums .u8 zs6), row 84 2 (.slice none 0 0) 0 (chV ([] : List Ch)), chd .u8 ([] : List Ch)] ⟨rfl, rfl, trivial⟩ (by kernel_rfl) rfl (.inr ⟨b12, A94, zs6.length, c95, zs6, rfl, rfl, hp9, (by first | rfl | assumption | omega | (simp only [List.length_append, List.length_cons, List.length_nil, List.length_set, List.length_replicate, List.length_take, List.length_drop]; omega) | (simp; done)), (by first | assumption | omega | (simp only [List.length_append, List.length_cons, List.length_nil, List.length_set, List.length_replicate, List.length_take, List.length_drop]; omega) | (simp only [fits] at *; omega) | (simp only [List.length_append, List.length_cons, List.length_nil, List.length_set, List.length_replicate, List.length_take, List.length_drop] at *; omega) | (simp; done) | decide), (fun h => hp11 (by first | exact h | (simp at h ⊢; omega))), (by omega), (by omega), (by first | assumption | omega | (simp only [List.length_append, List.length_cons, List.length_nil, List.length_set, List.length_replicate, List.length_take, List.length_drop]; omega) | (simp only [fits] at *; omega) | (simp only [List.length_append, List.length_cons, List.length_nil, List.length_set, List.length_replicate, List.length_take, List.length_drop] at *; omega) | (simp; done) | decide), (by omega)⟩)
  · skip
    refine RunR.enveq [(0, .slice A8 bs.length c8), (2, .pointer none), (3, .int .i64 0), (8, .bool true)] (by rw [decide_eq_false h2]; try rfl) ?_
    refine RunR.sil hU [] 4 9 [0, 2, 3, 12] [(0, .slice A8 bs.length c8), (2, .pointer none), (3, .int .i64 0), (12, .bool true)] ((True) ∧ True) rfl (by kernel_rfl) ⟨trivial, trivial⟩ ?_
    refine RunR.done (by kernel_rfl) ?_
    refine kseq_n ?_
    refine RunC.cond (b := true) (by kernel_rfl) (fun _ => ?_) (fun h => by cases h)
    refine RunC.seq ?_
    refine RunC.region ?_
    refine RunR.sil hU [] 2 2 [0, 2, 3] [(0, .slice A8 bs.length c8), (2, .pointer none), (3, .int .i64 1)] ((True) ∧ (True) ∧ True) rfl (by kernel_rfl) ⟨trivial, trivial, trivial⟩ ?_
    refine RunR.done (by kernel_rfl) ?_
    refine kseq_n ?_
    refine RunC.ret ?_
    refine kseq_r ?_
    refine kret_r [.pointer none, .int .i64 1] [] [] ⟨rfl, rfl, trivial⟩ (by kernel_rfl) rfl (.inl ⟨rfl, rfl, (by omega)⟩)
end Go.Proofs.Ytcpohiegijpghaa.X1
