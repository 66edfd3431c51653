/- What these functions compute: a contract for each, walked through its code. -/
import Derived.Test.YtaaplakahkgclaaSLzk
import Derived.Test.YtaaplakahkgclaaBPure
import Derived.Test.YtaaplakahkgclaaProg
import Derived.Test.YtaaplakahkgclaaX1
import Derived.Test.YtaaplakahkgclaaX2
import Derived.Test.YtaaplakahkgclaaX3
namespace Go.Proofs.Ytaaplakahkgclaa.X4
open Go Go.Proofs.Ytaaplakahkgclaa.SL Go.Proofs.Ytaaplakahkgclaa.SL.W Go.Proofs.Ytaaplakahkgclaa.SL.D Go.Proofs.Ytaaplakahkgclaa.X1 Go.Proofs.Ytaaplakahkgclaa.X2 Go.Proofs.Ytaaplakahkgclaa.X3
set_option linter.unusedVariables false
set_option linter.unusedSimpArgs false
set_option maxRecDepth 100000
set_option maxHeartbeats 40000000
def U : Tab where
  und := [(3, .int .i64), (4, .bool), (5, .int .u8), (23, .slice 5), (28, .slice 51), (33, .int .i64), (50, .struct #[{ name := "Block", type := 3, offset := 0, embedded := false, tag := "", pkgPath := "", byteOffset := 0 }, { name := "Data", type := 23, offset := 1, embedded := false, tag := "", pkgPath := "", byteOffset := 8 }]), (51, .struct #[{ name := "Block", type := 3, offset := 0, embedded := false, tag := "", pkgPath := "", byteOffset := 0 }, { name := "Data", type := 23, offset := 1, embedded := false, tag := "", pkgPath := "", byteOffset := 8 }]), (69, .struct #[{ name := "safe", type := 23, offset := 0, embedded := false, tag := "", pkgPath := "orlop/disk", byteOffset := 0 }, { name := "wait", type := 28, offset := 1, embedded := false, tag := "", pkgPath := "orlop/disk", byteOffset := 24 }, { name := "left", type := 3, offset := 2, embedded := false, tag := "", pkgPath := "orlop/disk", byteOffset := 48 }, { name := "down", type := 4, offset := 3, embedded := false, tag := "", pkgPath := "orlop/disk", byteOffset := 56 }]), (70, .struct #[{ name := "safe", type := 23, offset := 0, embedded := false, tag := "", pkgPath := "orlop/disk", byteOffset := 0 }, { name := "wait", type := 28, offset := 1, embedded := false, tag := "", pkgPath := "orlop/disk", byteOffset := 24 }, { name := "left", type := 3, offset := 2, embedded := false, tag := "", pkgPath := "orlop/disk", byteOffset := 48 }, { name := "down", type := 4, offset := 3, embedded := false, tag := "", pkgPath := "orlop/disk", byteOffset := 56 }])]
  fld := [((50, 0), (0, 3)), ((50, 1), (1, 23)), ((51, 0), (0, 3)), ((51, 1), (1, 23)), ((69, 0), (0, 23)), ((69, 1), (1, 28)), ((69, 2), (2, 3)), ((69, 3), (3, 4)), ((70, 0), (0, 23)), ((70, 1), (1, 28)), ((70, 2), (2, 3)), ((70, 3), (3, 4))]
  sz := [(3, 1), (4, 1), (5, 1), (23, 1), (28, 1), (33, 1), (50, 2), (51, 2), (69, 4), (70, 4)]
  ti := [(3, (1, 8, .int .i64 0)), (4, (1, 1, .bool false)), (5, (1, 1, .int .u8 0)), (23, (1, 24, .slice none 0 0)), (28, (1, 24, .slice none 0 0)), (33, (1, 8, .int .i64 0)), (50, (2, 32, .agg #[.int .i64 0, .slice none 0 0])), (51, (2, 32, .agg #[.int .i64 0, .slice none 0 0])), (69, (4, 64, .agg #[.slice none 0 0, .slice none 0 0, .int .i64 0, .bool false])), (70, (4, 64, .agg #[.slice none 0 0, .slice none 0 0, .int .i64 0, .bool false]))]
  bld := [(50, [(0, 1), (1, 1)]), (51, [(0, 1), (1, 1)]), (69, [(0, 1), (1, 1), (2, 1), (3, 1)]), (70, [(0, 1), (1, 1), (2, 1), (3, 1)])]

theorem hU : U.OK Try.prog where
  und := by
    intro p hp
    simp only [U, List.mem_cons, List.not_mem_nil, or_false] at hp
    rcases hp with rfl | rfl | rfl | rfl | rfl | rfl | rfl | rfl | rfl | rfl
    · exact Try.underlying3
    · exact Try.underlying4
    · exact Try.underlying5
    · exact Try.underlying23
    · exact Try.underlying28
    · exact Try.underlying33
    · exact Try.underlying50
    · exact Try.underlying51
    · exact Try.underlying69
    · exact Try.underlying70
  fld := by
    intro p hp
    simp only [U, List.mem_cons, List.not_mem_nil, or_false] at hp
    rcases hp with rfl | rfl | rfl | rfl | rfl | rfl | rfl | rfl | rfl | rfl | rfl | rfl
    · exact ⟨_, _, Try.underlying50, rfl, rfl, rfl, Try.prog.types[3]!, by kernel_rfl, by decide +kernel⟩
    · exact ⟨_, _, Try.underlying50, rfl, rfl, rfl, Try.prog.types[23]!, by kernel_rfl, by decide +kernel⟩
    · exact ⟨_, _, Try.underlying51, rfl, rfl, rfl, Try.prog.types[3]!, by kernel_rfl, by decide +kernel⟩
    · exact ⟨_, _, Try.underlying51, rfl, rfl, rfl, Try.prog.types[23]!, by kernel_rfl, by decide +kernel⟩
    · exact ⟨_, _, Try.underlying69, rfl, rfl, rfl, Try.prog.types[23]!, by kernel_rfl, by decide +kernel⟩
    · exact ⟨_, _, Try.underlying69, rfl, rfl, rfl, Try.prog.types[28]!, by kernel_rfl, by decide +kernel⟩
    · exact ⟨_, _, Try.underlying69, rfl, rfl, rfl, Try.prog.types[3]!, by kernel_rfl, by decide +kernel⟩
    · exact ⟨_, _, Try.underlying69, rfl, rfl, rfl, Try.prog.types[4]!, by kernel_rfl, by decide +kernel⟩
    · exact ⟨_, _, Try.underlying70, rfl, rfl, rfl, Try.prog.types[23]!, by kernel_rfl, by decide +kernel⟩
    · exact ⟨_, _, Try.underlying70, rfl, rfl, rfl, Try.prog.types[28]!, by kernel_rfl, by decide +kernel⟩
    · exact ⟨_, _, Try.underlying70, rfl, rfl, rfl, Try.prog.types[3]!, by kernel_rfl, by decide +kernel⟩
    · exact ⟨_, _, Try.underlying70, rfl, rfl, rfl, Try.prog.types[4]!, by kernel_rfl, by decide +kernel⟩
  sz := by
    intro p hp
    simp only [U, List.mem_cons, List.not_mem_nil, or_false] at hp
    rcases hp with rfl | rfl | rfl | rfl | rfl | rfl | rfl | rfl | rfl | rfl
    · exact ⟨Try.prog.types[3]!, by kernel_rfl, by kernel_rfl⟩
    · exact ⟨Try.prog.types[4]!, by kernel_rfl, by kernel_rfl⟩
    · exact ⟨Try.prog.types[5]!, by kernel_rfl, by kernel_rfl⟩
    · exact ⟨Try.prog.types[23]!, by kernel_rfl, by kernel_rfl⟩
    · exact ⟨Try.prog.types[28]!, by kernel_rfl, by kernel_rfl⟩
    · exact ⟨Try.prog.types[33]!, by kernel_rfl, by kernel_rfl⟩
    · exact ⟨Try.prog.types[50]!, by kernel_rfl, by kernel_rfl⟩
    · exact ⟨Try.prog.types[51]!, by kernel_rfl, by kernel_rfl⟩
    · exact ⟨Try.prog.types[69]!, by kernel_rfl, by kernel_rfl⟩
    · exact ⟨Try.prog.types[70]!, by kernel_rfl, by kernel_rfl⟩
  ti := by
    intro p hp
    simp only [U, List.mem_cons, List.not_mem_nil, or_false] at hp
    rcases hp with rfl | rfl | rfl | rfl | rfl | rfl | rfl | rfl | rfl | rfl
    · exact ⟨Try.prog.types[3]!, by kernel_rfl, by kernel_rfl, by kernel_rfl, by kernel_rfl⟩
    · exact ⟨Try.prog.types[4]!, by kernel_rfl, by kernel_rfl, by kernel_rfl, by kernel_rfl⟩
    · exact ⟨Try.prog.types[5]!, by kernel_rfl, by kernel_rfl, by kernel_rfl, by kernel_rfl⟩
    · exact ⟨Try.prog.types[23]!, by kernel_rfl, by kernel_rfl, by kernel_rfl, by kernel_rfl⟩
    · exact ⟨Try.prog.types[28]!, by kernel_rfl, by kernel_rfl, by kernel_rfl, by kernel_rfl⟩
    · exact ⟨Try.prog.types[33]!, by kernel_rfl, by kernel_rfl, by kernel_rfl, by kernel_rfl⟩
    · exact ⟨Try.prog.types[50]!, by kernel_rfl, by kernel_rfl, by kernel_rfl, by kernel_rfl⟩
    · exact ⟨Try.prog.types[51]!, by kernel_rfl, by kernel_rfl, by kernel_rfl, by kernel_rfl⟩
    · exact ⟨Try.prog.types[69]!, by kernel_rfl, by kernel_rfl, by kernel_rfl, by kernel_rfl⟩
    · exact ⟨Try.prog.types[70]!, by kernel_rfl, by kernel_rfl, by kernel_rfl, by kernel_rfl⟩
  bld := by
    intro p hp
    simp only [U, List.mem_cons, List.not_mem_nil, or_false] at hp
    rcases hp with rfl | rfl | rfl | rfl
    · exact ⟨_, Try.underlying50, by kernel_rfl⟩
    · exact ⟨_, Try.underlying51, by kernel_rfl⟩
    · exact ⟨_, Try.underlying69, by kernel_rfl⟩
    · exact ⟨_, Try.underlying70, by kernel_rfl⟩
  mixed := by kernel_rfl

theorem sl_Backward__it (Wa : Option Addr) (m : Nat) (wc : Nat) (ws : List Ch) (b1 : Nat) (hml : ws.length = m) (hmb : m ≤ 1000000) (hok : ChOK .u8 ws) (hWs : 0 < m → Option.isSome Wa = true) :
    IterS Try.prog 87 [pt b1] (ws.length) (fun i_ => [.int .i64 ((ws.length : Int) - 1 - (i_ : Nat)), .agg #[.int .i64 ((chR ws i_).1), .slice ((chR ws i_).2.1) ((chR ws i_).2.2.2.length) ((chR ws i_).2.2.1)]]) (fun i_ => []) [blk b1 28 [.slice Wa m wc]] [vw Wa (chV ws)] := by
  intro l B Sx S hB hSx hS hY
  refine CallsS.enter hU Try.f87 _ [] 19 Try.func87 rfl (by decide) rfl rfl (by kernel_rfl) fun w0 W => ?_
  refine RunC.only [0, 0, 0, 0] [S 0, blk b1 28 [.slice Wa m wc], B, vw Wa (chV ws)] (by kernel_rfl) ?_
  refine RunC.sr ?_
  refine RunR.st (some 4) (.load 28 (.tmp 1)) (Step.load_blk hU 1 b1 (0) 28 [.slice Wa m wc] (.slice Wa m wc) (by kernel_rfl) (by kernel_rfl) (by kernel_rfl) (by kernel_rfl) ?_)
  refine RunR.sil hU [2] 3 4 [0, 1, 3] [(0, .func (.yield l) #[] #[]), (1, pt b1), (3, .int .i64 (((m : Nat) : Int) - 1))] ((True) ∧ (-9223372036854775808 ≤ (((m : Nat) : Int) - 1) ∧ (((m : Nat) : Int) - 1) < 9223372036854775808) ∧ (True) ∧ True) rfl (by kernel_rfl) ⟨trivial, (by omega), trivial, trivial⟩ ?_
  refine RunR.nn ?_
  refine RunC.block ?_
  refine RunC.env [0, 1, 3] [(0, .func (.yield l) #[] #[]), (1, pt b1), (3, .int .i64 (((m : Nat) : Int) - 1))] (by kernel_rfl) ?_
  refine RunC.only [0, 0, 0, 0] [S 0, blk b1 28 [.slice Wa m wc], B, vw Wa (chV ws)] (by kernel_rfl) ?_
  refine RunC.loop (σ := Nat) (fun n_ t_ D_ => ∃ (i : Int) (q : Nat), (i = (ws.length : Int) - 1 - (q : Nat)) ∧ (q ≤ ws.length) ∧ n_ = ((i + 1).toNat : Nat) ∧ t_ = [(0, .func (.yield l) #[] #[]), (1, pt b1), (3, .int .i64 i)] ∧ D_ = [S q, blk b1 28 [.slice Wa m wc], B, vw Wa (chV ws)]) id _ ⟨(((m : Nat) : Int) - 1), 0, (by first | assumption | omega | (simp only [List.length_append, List.length_cons, List.length_nil, List.length_set, List.length_replicate, List.length_take, List.length_drop]; omega) | (simp only [fits] at *; omega) | (simp only [List.length_append, List.length_cons, List.length_nil, List.length_set, List.length_replicate, List.length_take, List.length_drop] at *; omega) | (simp; done) | decide), (by first | assumption | omega | (simp only [List.length_append, List.length_cons, List.length_nil, List.length_set, List.length_replicate, List.length_take, List.length_drop]; omega) | (simp only [fits] at *; omega) | (simp only [List.length_append, List.length_cons, List.length_nil, List.length_set, List.length_replicate, List.length_take, List.length_drop] at *; omega) | (simp; done) | decide), rfl, rfl, rfl⟩ ?_
  rintro n_ _ _ ⟨i, q, hi, hq, rfl, rfl, rfl⟩
  refine RunC.seq ?_
  refine RunC.sr ?_
  refine RunR.sl hU [] 2 2 [0, 1, 3, 8] [(0, .func (.yield l) #[] #[]), (1, pt b1), (3, .int .i64 i), (8, .bool (decide (i ≥ 0)))] 2 ?_
  refine RunR.nn ?_
  refine RunC.condp (i ≥ 0) (by kernel_rfl) (fun h1 => ?_) (fun h1 => ?_)
  · skip
    refine RunC.ks ?_
    refine RunC.seq ?_
    refine RunC.block ?_
    refine RunC.sr ?_
    refine RunR.sl hU [] 2 2 [0, 1, 3, 11, 12] [(0, .func (.yield l) #[] #[]), (1, pt b1), (3, .int .i64 i), (11, .func (.yield l) #[] #[]), (12, .int .i64 i)] 2 ?_
    refine RunR.st (some 13) (.load 28 (.tmp 1)) (Step.load_blk hU 1 b1 (0) 28 [.slice Wa m wc] (.slice Wa m wc) (by kernel_rfl) (by kernel_rfl) (by kernel_rfl) (by kernel_rfl) ?_)
    refine RunR.sil hU [] 2 5 [0, 1, 3, 11, 12, 15] [(0, .func (.yield l) #[] #[]), (1, pt b1), (3, .int .i64 i), (11, .func (.yield l) #[] #[]), (12, .int .i64 i), (15, .pointer (elemAt Wa i 2))] ((True) ∧ ((0 ≤ i ∧ i < ((m : Nat) : Int)) ∧ Option.isSome Wa = true) ∧ True) rfl (by kernel_rfl) ⟨trivial, ⟨by omega, hWs (by omega)⟩, trivial⟩ ?_
    obtain ⟨k2, Ae3, ce4, xe5, hg6, hf7, hr8, hc9, hl10⟩ := ch_at (by assumption : ChOK .u8 ws) (i := (i).toNat) (by omega)
    have hf11 := hf7; simp only [fits] at hf11
    refine RunR.st (some 16) (.load 51 (.tmp 15)) (Step.load_of hU 3 (vw Wa (chV ws)) Wa i 2 (chV ws) (.agg #[.int .i64 k2, .slice Ae3 xe5.length ce4]) (by kernel_rfl) (by kernel_rfl) (tells_vw _ _) (loadv_ch (by kernel_rfl) (by kernel_rfl) hg6) (by kernel_rfl) (by rw [chV_len]; omega) ?_)
    have e_ := chR_of (q := q) hg6 (by omega)
    refine RunR.ev [0, 1, 3, 11, 12, 15, 16] [(0, .func (.yield l) #[] #[]), (1, pt b1), (3, .int .i64 i), (11, .func (.yield l) #[] #[]), (12, .int .i64 i), (15, .pointer (elemAt Wa i 2)), (16, .agg #[.int .i64 k2, .slice Ae3 xe5.length ce4])] ?_
    refine RunR.enveq [(0, .func (.yield l) #[] #[]), (1, pt b1), (3, .int .i64 i), (11, .func (.yield l) #[] #[]), (12, .int .i64 ((ws.length : Int) - 1 - (q : Nat))), (15, .pointer (elemAt Wa i 2)), (16, .agg #[.int .i64 ((chR ws q).1), .slice ((chR ws q).2.1) ((chR ws q).2.2.2.length) ((chR ws q).2.2.1)])] (by simp only [e_]; rw [hi]) ?_
    refine RunR.yield (d := some 17) (c := (.tmp 11)) (os_ := #[.tmp 12, .tmp 16]) (ts := #[3, 51]) l [.int .i64 ((ws.length : Int) - 1 - (q : Nat)), .agg #[.int .i64 ((chR ws q).1), .slice ((chR ws q).2.1) ((chR ws q).2.2.2.length) ((chR ws q).2.2.1)]] (by kernel_rfl) (by kernel_rfl) (by kernel_rfl) (by kernel_rfl) [S q] [B] [blk b1 28 [.slice Wa m wc], B, vw Wa (chV ws)] (hY q (by omega)) [0] (by kernel_rfl) ((Lend.nil _).same 1 B (by kernel_rfl) hB) ?_
    rintro _ _ (⟨rfl, rfl⟩ | ⟨rfl, rfl⟩)
    · skip
      refine RunR.sl hU [] 1 8 [0, 1, 3, 18] [(0, .func (.yield l) #[] #[]), (1, pt b1), (3, .int .i64 i), (18, .bool false)] 1 ?_
      refine RunR.nn ?_
      refine RunC.cond (b := false) (by kernel_rfl) (fun h => by cases h) (fun _ => ?_)
      refine RunC.skip ?_
      refine kblock_n ?_
      refine kseq_n ?_
      refine RunC.region ?_
      refine RunR.sil hU [1] 3 3 [0, 1, 3] [(0, .func (.yield l) #[] #[]), (1, pt b1), (3, .int .i64 (i - 1))] ((True) ∧ (-9223372036854775808 ≤ (i - 1) ∧ (i - 1) < 9223372036854775808) ∧ (True) ∧ True) rfl (by kernel_rfl) ⟨trivial, (by omega), trivial, trivial⟩ ?_
      refine RunR.dn ?_
      refine kloop_n _ [0, 1, 3] [0, 0, 0, 0] [(0, .func (.yield l) #[] #[]), (1, pt b1), (3, .int .i64 (i - 1))] [S (q + 1), blk b1 28 [.slice Wa m wc], B, vw Wa (chV ws)] (by kernel_rfl) (by kernel_rfl) ?_ ⟨(i - 1), (q + 1), (by first | assumption | omega | (simp only [List.length_append, List.length_cons, List.length_nil, List.length_set, List.length_replicate, List.length_take, List.length_drop]; omega) | (simp only [fits] at *; omega) | (simp only [List.length_append, List.length_cons, List.length_nil, List.length_set, List.length_replicate, List.length_take, List.length_drop] at *; omega) | (simp; done) | decide), (by first | assumption | omega | (simp only [List.length_append, List.length_cons, List.length_nil, List.length_set, List.length_replicate, List.length_take, List.length_drop]; omega) | (simp only [fits] at *; omega) | (simp only [List.length_append, List.length_cons, List.length_nil, List.length_set, List.length_replicate, List.length_take, List.length_drop] at *; omega) | (simp; done) | decide), rfl, (by first | rfl | simp only [List.length_set]), (by first | rfl | simp only [List.length_set])⟩
      show (((i - 1) + 1).toNat : Nat) < ((i + 1).toNat : Nat)
      omega
    · skip
      refine RunR.sl hU [] 1 8 [0, 1, 3, 18] [(0, .func (.yield l) #[] #[]), (1, pt b1), (3, .int .i64 i), (18, .bool true)] 1 ?_
      refine RunR.nn ?_
      refine RunC.cond (b := true) (by kernel_rfl) (fun _ => ?_) (fun h => by cases h)
      refine RunC.ret ?_
      refine kblock_r ?_
      refine kseq_r ?_
      refine kloop_r ?_
      refine kblock_r ?_
      refine kret_r [] [0] [Sx] trivial (by kernel_rfl) (by simp [hSx]) (.inr rfl)
  · skip
    refine RunC.exit ?_
    refine kseq_e ?_
    refine kloop_e ?_
    refine kblock_e ?_
    refine kret_n [] [0] [S q] trivial (by kernel_rfl) (by simp [hS]) (.inl (by rw [show (q : Nat) = ws.length by omega]))

theorem sl_Backward_spec (Wa : Option Addr) (m : Nat) (wc : Nat) :
    CallsS Try.prog 71 [.slice Wa m wc] [] (fun r D => ∃ (b1 : Nat), r = .func (.func 87) #[] #[pt b1] ∧ D = [blk b1 28 [.slice Wa m wc]]) := by
  refine CallsS.enter hU Try.f71 _ [.tmp 2] 4 Try.func71 rfl (by decide) rfl rfl (by kernel_rfl) fun w0 W => ?_
  refine RunC.sr ?_
  refine RunR.st (some 1) (.box 28 (.tmp 0)) (Step.box (.slice Wa m wc) (by kernel_rfl) (by kernel_rfl) (fun b1 => ?_))
  refine RunR.sl hU [] 1 2 [1, 2] [(1, pt b1), (2, .nilFunc)] 1 ?_
  refine RunR.nx ?_
  refine RunR.sl hU [] 2 2 [2] [(2, .func (.func 87) #[] #[pt b1])] 2 ?_
  refine RunR.nn ?_
  refine RunC.ret ?_
  refine kret_r [.func (.func 87) #[] #[pt b1]] [0] [blk b1 28 [.slice Wa m wc]] ⟨rfl, trivial⟩ (by kernel_rfl) rfl ⟨b1, rfl, rfl⟩

theorem d_Read_spec (d : Nat) (A : Option Addr) (n : Nat) (c : Nat) (ss : List Int) (Wa : Option Addr) (m : Nat) (wc : Nat) (ws : List Ch) (lf : Int) (dn : Bool) (b : Int) (hss : In .u8 ss) (hnl : ss.length = n) (hnc : n ≤ c) (hAs : 0 < n → Option.isSome A = true) (hn6 : n % 256 = 0) (hnb : n ≤ 557056) (hml : ws.length = m) (hmb : m ≤ 1000000) (hok : ChOK .u8 ws) (hwk : WOK n ws) (hWs : 0 < m → Option.isSome Wa = true) (hb : fits .i64 b) :
    CallsS Try.prog 55 [pt d, .int .i64 b] [blk d 70 [.slice A n c, .slice Wa m wc, .int .i64 lf, .bool dn], row 5 1 (.slice A n c) n (nums .u8 ss), row 51 2 (.slice Wa m wc) m (chV ws), chd .u8 ws] (fun r D => ∃ (A9 : Option Addr) (c9 : Nat) (zs : List Int) (e : Int), r = .tuple #[.slice A9 zs.length c9, .int .i64 e] ∧ D = [row 5 1 (.slice A9 zs.length c9) zs.length (nums .u8 zs), blk d 70 [.slice A n c, .slice Wa m wc, .int .i64 lf, .bool dn], row 5 1 (.slice A n c) n (nums .u8 ss), row 51 2 (.slice Wa m wc) m (chV ws), chd .u8 ws] ∧ ((0 ≤ b ∧ 256 * b + 256 ≤ n ∧ e = 0 ∧ zs = seenP ss (dat ws) b ∧ zs.length = 256) ∨ (¬ (0 ≤ b ∧ 256 * b + 256 ≤ n) ∧ e = 1 ∧ zs = [])) ∧ (In .u8 zs) ∧ (zs.length ≤ c9) ∧ (0 < zs.length → Option.isSome A9 = true)) := by
  refine CallsS.enter hU Try.f55 _ [.cell 4 23, .cell 5 33] 35 Try.func55 rfl (by decide) rfl rfl (by kernel_rfl) fun w0 W => ?_
  have hb2 := hb; simp only [fits] at hb2
  refine RunC.sr ?_
  refine RunR.st (some 3) (.box 3 (.tmp 1)) (Step.box (.int .i64 b) (by kernel_rfl) (by kernel_rfl) (fun b1 => ?_))
  refine RunR.st (some 4) (.alloc 23) (Step.al hU 1 24 (.slice none 0 0) (fun b2 => ?_))
  refine RunR.st (some 5) (.alloc 33) (Step.al hU 1 8 (.int .i64 0) (fun b3 => ?_))
  refine RunR.nn ?_
  refine RunC.seq ?_
  refine RunC.sr ?_
  refine RunR.sl hU [] 1 1 [0, 3, 4, 5, 8] [(0, pt d), (3, pt b1), (4, pt b2), (5, pt b3), (8, pt d)] 1 ?_
  refine RunR.st (some 9) (.load 3 (.tmp 3)) (Step.load_blk hU 2 b1 (0) 3 [.int .i64 b] (.int .i64 b) (by kernel_rfl) (by kernel_rfl) (by kernel_rfl) (by kernel_rfl) ?_)
  refine RunR.st (some 10) (.call { callee := .value (.func 70), args := #[.tmp 8, .tmp 9], argTypes := #[30, 3] }) (Step.cn 70 [pt d, .int .i64 b] [blk d 70 [.slice A n c, .slice Wa m wc, .int .i64 lf, .bool dn]] [blk b3 33 [.int .i64 0], blk b2 23 [.slice none 0 0], blk b1 3 [.int .i64 b], row 5 1 (.slice A n c) n (nums .u8 ss), row 51 2 (.slice Wa m wc) m (chV ws), chd .u8 ws] (d_there_spec d A n c Wa m wc lf dn b (by assumption) (by assumption)) [3] ?_)
  rintro _ _ ⟨rfl, rfl⟩
  refine RunR.sl hU [] 1 4 [0, 3, 4, 5, 11] [(0, pt d), (3, pt b1), (4, pt b2), (5, pt b3), (11, .bool (!decide (0 ≤ b ∧ 256 * b + 256 ≤ (n : Int))))] 1 ?_
  refine RunR.nn ?_
  refine RunC.condn (0 ≤ b ∧ 256 * b + 256 ≤ (n : Int)) (by kernel_rfl) (fun h4 => ?_) (fun h4 => ?_)
  · skip
    refine RunC.sr ?_
    refine RunR.st none (.store 23 (.tmp 4) (.const (.slice none 0 0))) (Step.store_blk hU 2 b2 0 23 [.slice none 0 0] (.slice none 0 0) (by kernel_rfl) (by kernel_rfl) (by kernel_rfl) 1 rfl [.slice none 0 0] (by kernel_rfl) rfl (by kernel_rfl) (by decide) ?_)
    refine RunR.st none (.store 33 (.tmp 5) (.const (.int .i64 1))) (Step.store_blk hU 2 b3 0 33 [.int .i64 0] (.int .i64 1) (by kernel_rfl) (by kernel_rfl) (by kernel_rfl) 1 rfl [.int .i64 1] (by kernel_rfl) rfl (by kernel_rfl) (by decide) ?_)
    refine RunR.nn ?_
    refine RunC.ret ?_
    refine kseq_r ?_
    refine kret_rt ([row 5 1 (.slice none 0 0) 0 (nums .u8 ([] : List Int)), blk b3 33 [.int .i64 1], blk b2 23 [.slice none 0 0], blk d 70 [.slice A n c, .slice Wa m wc, .int .i64 lf, .bool dn], blk b1 3 [.int .i64 b], row 5 1 (.slice A n c) n (nums .u8 ss), row 51 2 (.slice Wa m wc) m (chV ws), chd .u8 ws]) (fun w0 W w hs => (hs).nil_row 5 1) [.slice none 0 0, .int .i64 1] [0, 2, 3, 3, 3] [row 5 1 (.slice none 0 0) 0 (nums .u8 ([] : List Int)), blk d 70 [.slice A n c, .slice Wa m wc, .int .i64 lf, .bool dn], row 5 1 (.slice A n c) n (nums .u8 ss), row 51 2 (.slice Wa m wc) m (chV ws), chd .u8 ws] ⟨⟨1, b2, 0, 23, [.slice none 0 0], rfl, rfl, by kernel_rfl⟩, ⟨0, b3, 0, 33, [.int .i64 1], rfl, rfl, by kernel_rfl⟩, trivial⟩ (by kernel_rfl) rfl ⟨none, 0, ([] : List Int), 1, rfl, rfl, (by exact .inr ⟨by assumption, rfl, rfl⟩), (by exact In.nil _), (by exact Nat.le_refl _), (by intro h; simp at h)⟩
  · skip
    refine RunC.ks ?_
    refine RunC.seq ?_
    refine RunC.sr ?_
    refine RunR.sl hU [] 3 3 [0, 3, 4, 5, 14] [(0, pt d), (3, pt b1), (4, pt b2), (5, pt b3), (14, .pointer (some ⟨d, 1, none⟩))] 3 ?_
    refine RunR.st (some 15) (.load 28 (.tmp 14)) (Step.load_blk hU 0 d (1) 70 [.slice A n c, .slice Wa m wc, .int .i64 lf, .bool dn] (.slice Wa m wc) (by kernel_rfl) (by kernel_rfl) (by kernel_rfl) (by kernel_rfl) ?_)
    refine RunR.st (some 16) (.call { callee := .value (.func 71), args := #[.tmp 15], argTypes := #[28] }) (Step.cn 71 [.slice Wa m wc] [] [blk d 70 [.slice A n c, .slice Wa m wc, .int .i64 lf, .bool dn], blk b3 33 [.int .i64 0], blk b2 23 [.slice none 0 0], blk b1 3 [.int .i64 b], row 5 1 (.slice A n c) n (nums .u8 ss), row 51 2 (.slice Wa m wc) m (chV ws), chd .u8 ws] (sl_Backward_spec Wa m wc) [] ?_)
    rintro _ _ ⟨b15, rfl, rfl⟩
    refine RunR.nn ?_
    refine RunC.block ?_
    refine RunC.env [0, 3, 4, 5, 16] [(0, pt d), (3, pt b1), (4, pt b2), (5, pt b3), (16, .func (.func 87) #[] #[pt b15])] (by kernel_rfl) ?_
    refine RunC.rangeFunc (α := List Fact) (β := List Fact) 87 [pt b15] (by kernel_rfl) (ws.length) (fun i_ => [.int .i64 ((ws.length : Int) - 1 - (i_ : Nat)), .agg #[.int .i64 ((chR ws i_).1), .slice ((chR ws i_).2.1) ((chR ws i_).2.2.2.length) ((chR ws i_).2.2.1)]]) (fun i_ => []) [blk b15 28 [.slice Wa m wc]] [vw Wa (chV ws)] (sl_Backward__it Wa m wc ws b15 (by assumption) (by assumption) (by assumption) (fun h => hWs (by exact h))) (fun i_ D_ => (NoneOf ws b i_) ∧ D_ = [blk b2 23 [.slice none 0 0], blk b3 33 [.int .i64 0], blk d 70 [.slice A n c, .slice Wa m wc, .int .i64 lf, .bool dn], blk b1 3 [.int .i64 b], row 5 1 (.slice A n c) n (nums .u8 ss), chd .u8 ws]) (fun D_ => D_) .ret (fun (D_ : List Fact) => ∃ (A9 : Option Addr) (c9 : Nat) (zs : List Int), (zs = seenP ss (dat ws) b) ∧ (zs.length = 256) ∧ (In .u8 zs) ∧ (zs.length ≤ c9) ∧ (0 < zs.length → Option.isSome A9 = true) ∧ D_ = [blk b2 23 [.slice A9 zs.length c9], blk b3 33 [.int .i64 0], row 5 1 (.slice A9 zs.length c9) zs.length (nums .u8 zs), blk d 70 [.slice A n c, .slice Wa m wc, .int .i64 lf, .bool dn], blk b1 3 [.int .i64 b], row 5 1 (.slice A n c) n (nums .u8 ss), chd .u8 ws]) (fun D_ => D_) [] [row 51 2 (.slice Wa m wc) m (chV ws)] [blk b2 23 [.slice none 0 0], blk b3 33 [.int .i64 0], blk d 70 [.slice A n c, .slice Wa m wc, .int .i64 lf, .bool dn], blk b1 3 [.int .i64 b], row 5 1 (.slice A n c) n (nums .u8 ss), chd .u8 ws] ⟨(by exact NoneOf.zero _ _), rfl⟩ [3, 2, 1, 1, 1, 2, 0] (by kernel_rfl) (Lend.nil _) (by simp) ((Lend.nil _).tells 0 (row 51 2 (.slice Wa m wc) m (chV ws)) Wa (chV ws) (by kernel_rfl) (tells_row _ _ _ _ _ _)) (fun i_ D_ hp_ f_ hf_ => by obtain ⟨_, rfl⟩ := hp_; exact List.all_eq_true.1 (by rfl : List.all _ (·.own) = true) f_ hf_) (fun D_ hq_ f_ hf_ => by obtain ⟨_, _, _, _, _, _, _, _, rfl⟩ := hq_; exact List.all_eq_true.1 (by rfl : List.all _ (·.own) = true) f_ hf_) (fun _ => rfl) (by rfl) ?_ ?_ ?_
    · intro l_ R_ i_ _ hlt_ hp_
      obtain ⟨hno, rfl⟩ := hp_
      refine RunC.env [0, 3, 4, 5, 16, 17, 18] [(0, pt d), (3, pt b1), (4, pt b2), (5, pt b3), (16, .func (.func 87) #[] #[pt b15]), (17, .int .i64 ((ws.length : Int) - 1 - (i_ : Nat))), (18, .agg #[.int .i64 ((chR ws i_).1), .slice ((chR ws i_).2.1) ((chR ws i_).2.2.2.length) ((chR ws i_).2.2.1)])] (by kernel_rfl) ?_
      refine RunC.only [0, 0, 0, 0, 0, 0, 0] [objF l_ (.loop (R_ .ready none)), blk b2 23 [.slice none 0 0], blk b3 33 [.int .i64 0], blk d 70 [.slice A n c, .slice Wa m wc, .int .i64 lf, .bool dn], blk b1 3 [.int .i64 b], row 5 1 (.slice A n c) n (nums .u8 ss), chd .u8 ws] (by kernel_rfl) ?_
      have hev1_ : In .u8 (chR ws i_).2.2.2 := (chR_ok (by assumption) _).1
      have hev2_ : (chR ws i_).2.2.2.length ≤ (chR ws i_).2.2.1 := (chR_ok (by assumption) _).2.1
      have hev3_ : (chR ws i_).2.2.2.length ≤ 140737488351232 := (chR_ok (by assumption) _).2.2
      refine RunC.region ?_
      refine RunR.st (some 7) (.alloc 51) (Step.al hU 2 32 (.agg #[.int .i64 0, .slice none 0 0]) (fun b6 => ?_))
      refine RunR.st none (.store 51 (.tmp 7) (.tmp 18)) (Step.store_blk hU 0 b6 0 51 [.int .i64 0, .slice none 0 0] (.agg #[.int .i64 ((chR ws i_).1), .slice ((chR ws i_).2.1) ((chR ws i_).2.2.2.length) ((chR ws i_).2.2.1)]) (by kernel_rfl) (by kernel_rfl) (by kernel_rfl) 2 rfl [.int .i64 ((chR ws i_).1), .slice ((chR ws i_).2.1) ((chR ws i_).2.2.2.length) ((chR ws i_).2.2.1)] (by kernel_rfl) rfl (by kernel_rfl) (by decide) ?_)
      refine RunR.dn ?_
      refine kassign_n 1 (by kernel_rfl) ?_
      refine RunC.block ?_
      refine RunC.sr ?_
      refine RunR.sl hU [] 1 1 [3, 4, 5, 7, 19] [(3, pt b1), (4, pt b2), (5, pt b3), (7, pt b6), (19, pt b6)] 1 ?_
      refine RunR.st (some 20) (.load 3 (.tmp 19)) (Step.load_blk hU 1 b6 (0) 51 [.int .i64 ((chR ws i_).1), .slice ((chR ws i_).2.1) ((chR ws i_).2.2.2.length) ((chR ws i_).2.2.1)] (.int .i64 ((chR ws i_).1)) (by kernel_rfl) (by kernel_rfl) (by kernel_rfl) (by kernel_rfl) ?_)
      refine RunR.st (some 21) (.load 3 (.tmp 3)) (Step.load_blk hU 5 b1 (0) 3 [.int .i64 b] (.int .i64 b) (by kernel_rfl) (by kernel_rfl) (by kernel_rfl) (by kernel_rfl) ?_)
      refine RunR.sl hU [] 1 4 [4, 5, 7, 22] [(4, pt b2), (5, pt b3), (7, pt b6), (22, .bool (decide (((chR ws i_).1) = b)))] 1 ?_
      refine RunR.nn ?_
      refine RunC.condp (((chR ws i_).1) = b) (by kernel_rfl) (fun h7 => ?_) (fun h7 => ?_)
      · skip
        refine RunC.sr ?_
        refine RunR.sl hU [] 1 1 [4, 5, 23] [(4, pt b2), (5, pt b3), (23, .pointer (some ⟨b6, 1, none⟩))] 1 ?_
        refine RunR.st (some 24) (.load 23 (.tmp 23)) (Step.load_blk hU 1 b6 (1) 51 [.int .i64 ((chR ws i_).1), .slice ((chR ws i_).2.1) ((chR ws i_).2.2.2.length) ((chR ws i_).2.2.1)] (.slice ((chR ws i_).2.1) ((chR ws i_).2.2.2.length) ((chR ws i_).2.2.1)) (by kernel_rfl) (by kernel_rfl) (by kernel_rfl) (by kernel_rfl) ?_)
        refine RunR.st (some 25) (.call { callee := .value (.func 51), args := #[.tmp 24], argTypes := #[23] }) (Step.cl 51 [.slice ((chR ws i_).2.1) ((chR ws i_).2.2.2.length) ((chR ws i_).2.2.1)] [] [vw ((chR ws i_).2.1) (nums .u8 ((chR ws i_).2.2.2))] [objF l_ (.loop (R_ .busy none)), blk b6 51 [.int .i64 ((chR ws i_).1), .slice ((chR ws i_).2.1) ((chR ws i_).2.2.2.length) ((chR ws i_).2.2.1)], blk b2 23 [.slice none 0 0], blk b3 33 [.int .i64 0], blk d 70 [.slice A n c, .slice Wa m wc, .int .i64 lf, .bool dn], blk b1 3 [.int .i64 b], row 5 1 (.slice A n c) n (nums .u8 ss), chd .u8 ws] (d_Clone_spec ((chR ws i_).2.1) ((chR ws i_).2.2.1) ((chR ws i_).2.2.2) ((chR ws i_).2.2.2.length) hev1_ (by assumption) (by assumption) (by rfl)) [] ((Lend.nil _).tells 7 (chd .u8 ws) ((chR ws i_).2.1) (nums .u8 ((chR ws i_).2.2.2)) (by kernel_rfl) (tells_chd (chR_get hlt_))) ?_)
        rintro _ _ ⟨A98, c99, zs10, rfl, rfl, hp11, hp12, hp13, hp14, hp15⟩
        refine RunR.st none (.store 23 (.tmp 4) (.tmp 25)) (Step.store_blk hU 3 b2 0 23 [.slice none 0 0] (.slice A98 zs10.length c99) (by kernel_rfl) (by kernel_rfl) (by kernel_rfl) 1 rfl [.slice A98 zs10.length c99] (by kernel_rfl) rfl (by kernel_rfl) (by decide) ?_)
        refine RunR.st none (.store 33 (.tmp 5) (.const (.int .i64 0))) (Step.store_blk hU 4 b3 0 33 [.int .i64 0] (.int .i64 0) (by kernel_rfl) (by kernel_rfl) (by kernel_rfl) 1 rfl [.int .i64 0] (by kernel_rfl) rfl (by kernel_rfl) (by decide) ?_)
        refine RunR.nn ?_
        refine RunC.ret ?_
        refine kblock_r ?_
        refine kyield_r _ [3, 1, 0, 0, 1, 1, 1, 1] [objF l_ (.loop (R_ .busy none)), blk b2 23 [.slice A98 zs10.length c99], blk b3 33 [.int .i64 0], row 5 1 (.slice A98 zs10.length c99) zs10.length (nums .u8 zs10), blk d 70 [.slice A n c, .slice Wa m wc, .int .i64 lf, .bool dn], blk b1 3 [.int .i64 b], row 5 1 (.slice A n c) n (nums .u8 ss), chd .u8 ws] (by kernel_rfl) ⟨A98, c99, zs10, (by rw [hp11]; exact seen_some hlt_ hno (by assumption)), (by rw [hp11]; exact (hwk _ (List.mem_of_getElem? (chR_get hlt_))).2.2), hp13, (by assumption), (fun h => hp15 (by exact h)), (by rfl)⟩ rfl
      · skip
        refine RunC.skip ?_
        refine kblock_n ?_
        refine kyield_n _ [0, 1, 1, 1, 1, 1, 1] [objF l_ (.loop (R_ .busy none)), blk b2 23 [.slice none 0 0], blk b3 33 [.int .i64 0], blk d 70 [.slice A n c, .slice Wa m wc, .int .i64 lf, .bool dn], blk b1 3 [.int .i64 b], row 5 1 (.slice A n c) n (nums .u8 ss), chd .u8 ws] (by kernel_rfl) ⟨(by exact hno.succ (by assumption)), (by rfl)⟩ rfl
    · intro _ hp_
      obtain ⟨hno, rfl⟩ := hp_
      refine kblock_n ?_
      refine kseq_n ?_
      refine RunC.seq ?_
      refine RunC.regionU hU 11 [blk d 70 [.slice A n c, .slice Wa m wc, .int .i64 lf, .bool dn], blk b1 3 [.int .i64 b]] [2, 3] [8, 9, 10] (bm 11 0) (by kernel_rfl) (by kernel_rfl) (by kernel_rfl) ?_
      refine RunU.sl hU 0 (bm 11 1) 26 (pt d) ?_
      refine RunU.sl hU 1 (bm 11 3) 27 (pt d) ?_
      refine RunU.sl hU 2 (bm 11 7) 28 (pt d) ?_
      refine RunU.rd 3 (bm 11 15) 29 (.load 23 (.tmp 28)) (.slice A n c) [2, 3] (Reads.load_blk hU 0 d (0) 70 [.slice A n c, .slice Wa m wc, .int .i64 lf, .bool dn] (.slice A n c) (by kernel_rfl) (by kernel_rfl) (by kernel_rfl)) ?_
      refine RunU.rd 4 (bm 11 31) 30 (.load 3 (.tmp 3)) (.int .i64 b) [2, 3] (Reads.load_blk hU 1 b1 (0) 3 [.int .i64 b] (.int .i64 b) (by kernel_rfl) (by kernel_rfl) (by kernel_rfl)) ?_
      refine RunU.sil hU true 5 (bm 11 63) 31 (.int .i64 (256 * b)) (-9223372036854775808 ≤ (256 * b) ∧ (256 * b) < 9223372036854775808) (by kernel_rfl) (by omega) (by kernel_rfl) (by kernel_rfl) (fun _ _ _ h => h) ?_
      refine RunU.sil hU false 6 (bm 11 127) 32 (.slice (subBase A ((256 * b).toNat) c 1) (n - ((256 * b).toNat)) (c - ((256 * b).toNat))) (0 ≤ (256 * b) ∧ (256 * b) ≤ ((n : Nat) : Int)) (by kernel_rfl) (by omega) (by kernel_rfl) (by kernel_rfl) (fun _ _ _ h => h) ?_
      obtain ⟨zs16, hz17⟩ : ∃ z : List Int, z = (ss.drop ((256 * b).toNat)).take (n - ((256 * b).toNat)) := ⟨_, rfl⟩
      have hl18 : zs16.length = n - ((256 * b).toNat) := by rw [hz17, List.length_take, List.length_drop]; omega
      have hB20_t : Tells (row 5 1 (.slice A n c) n (nums .u8 ss)) (subBase A ((256 * b).toNat) c 1) (nums .u8 zs16) := by rw [hz17]; exact tells_sub_nums (tells_row _ _ _ _ _ _) _ _ _ (by omega) (by omega)
      have hA21 : 0 < zs16.length → Option.isSome (subBase A ((256 * b).toNat) c 1) = true := fun h => part_some (hAs (by omega)) _ _ _
      refine RunU.ev [0, 3, 4, 5, 16, 26, 27, 28, 29, 30, 31, 32] [(0, pt d), (3, pt b1), (4, pt b2), (5, pt b3), (16, .func (.func 87) #[] #[pt b15]), (26, pt d), (27, pt d), (28, pt d), (29, .slice A n c), (30, .int .i64 b), (31, .int .i64 (256 * b)), (32, .slice (subBase A ((256 * b).toNat) c 1) (n - ((256 * b).toNat)) (c - ((256 * b).toNat)))] ?_
      refine RunU.enveq [(0, pt d), (3, pt b1), (4, pt b2), (5, pt b3), (16, .func (.func 87) #[] #[pt b15]), (26, pt d), (27, pt d), (28, pt d), (29, .slice A n c), (30, .int .i64 b), (31, .int .i64 (256 * b)), (32, .slice (subBase A ((256 * b).toNat) c 1) zs16.length (c - ((256 * b).toNat)))] (by rw [hl18]) ?_
      have hr22 : In .u8 zs16 := by rw [hz17]; exact (hss.drop _).take _
      refine RunU.sil hU false 7 (bm 11 255) 33 (.slice (subBase A ((256 * b).toNat) c 1) 256 (c - ((256 * b).toNat))) (0 ≤ (256 : Int) ∧ (256 : Int) ≤ ((c - ((256 * b).toNat) : Nat) : Int)) (by kernel_rfl) (by omega) (by kernel_rfl) (by kernel_rfl) (fun _ _ _ h => h) ?_
      obtain ⟨zs23, hz24⟩ : ∃ z : List Int, z = zs16.take 256 := ⟨_, rfl⟩
      have hl25 : zs23.length = 256 := by rw [hz24, List.length_take]; omega
      have hB26_t : Tells (row 5 1 (.slice A n c) n (nums .u8 ss)) (subBase A ((256 * b).toNat) c 1) (nums .u8 zs23) := by rw [hz24]; exact tells_take_nums (hB20_t) _
      refine RunU.ev [0, 3, 4, 5, 16, 26, 27, 28, 29, 30, 31, 32, 33] [(0, pt d), (3, pt b1), (4, pt b2), (5, pt b3), (16, .func (.func 87) #[] #[pt b15]), (26, pt d), (27, pt d), (28, pt d), (29, .slice A n c), (30, .int .i64 b), (31, .int .i64 (256 * b)), (32, .slice (subBase A ((256 * b).toNat) c 1) zs16.length (c - ((256 * b).toNat))), (33, .slice (subBase A ((256 * b).toNat) c 1) 256 (c - ((256 * b).toNat)))] ?_
      refine RunU.enveq [(0, pt d), (3, pt b1), (4, pt b2), (5, pt b3), (16, .func (.func 87) #[] #[pt b15]), (26, pt d), (27, pt d), (28, pt d), (29, .slice A n c), (30, .int .i64 b), (31, .int .i64 (256 * b)), (32, .slice (subBase A ((256 * b).toNat) c 1) zs16.length (c - ((256 * b).toNat))), (33, .slice (subBase A ((256 * b).toNat) c 1) zs23.length (c - ((256 * b).toNat)))] (by rw [hl25]) ?_
      have hr27 : In .u8 zs23 := by rw [hz24]; exact hr22.take _
      refine RunU.on (some 34) (.call { callee := .value (.func 51), args := #[.tmp 33], argTypes := #[23] }) 8 (bm 11 511) [] (Step.cl 51 [.slice (subBase A ((256 * b).toNat) c 1) zs23.length (c - ((256 * b).toNat))] [] [vw (subBase A ((256 * b).toNat) c 1) (nums .u8 zs23)] [blk b2 23 [.slice none 0 0], blk b3 33 [.int .i64 0], blk d 70 [.slice A n c, .slice Wa m wc, .int .i64 lf, .bool dn], blk b1 3 [.int .i64 b], row 5 1 (.slice A n c) n (nums .u8 ss), chd .u8 ws, row 51 2 (.slice Wa m wc) m (chV ws)] (d_Clone_spec (subBase A ((256 * b).toNat) c 1) (c - ((256 * b).toNat)) zs23 zs23.length hr27 (by omega) (by omega) (by rfl)) [] ((Lend.nil _).tells 4 (row 5 1 (.slice A n c) n (nums .u8 ss)) (subBase A ((256 * b).toNat) c 1) (nums .u8 zs23) (by kernel_rfl) (hB26_t)) ?_)
      rintro _ _ ⟨A928, c929, zs30, rfl, rfl, hp31, hp32, hp33, hp34, hp35⟩
      refine orR ?_
      refine RunU.on none (.store 23 (.tmp 4) (.tmp 34)) 9 (bm 11 1023) [] (Step.store_blk hU 1 b2 0 23 [.slice none 0 0] (.slice A928 zs30.length c929) (by kernel_rfl) (by kernel_rfl) (by kernel_rfl) 1 rfl [.slice A928 zs30.length c929] (by kernel_rfl) rfl (by kernel_rfl) (by decide) ?_)
      refine orR ?_
      refine RunU.on none (.store 33 (.tmp 5) (.const (.int .i64 0))) 10 (bm 11 2047) [] (Step.store_blk hU 2 b3 0 33 [.int .i64 0] (.int .i64 0) (by kernel_rfl) (by kernel_rfl) (by kernel_rfl) 1 rfl [.int .i64 0] (by kernel_rfl) rfl (by kernel_rfl) (by decide) ?_)
      refine orR ?_
      refine RunU.ev [4, 5] [(4, pt b2), (5, pt b3)] ?_
      refine RunU.dn ?_
      refine kseq_n ?_
      refine RunC.ret ?_
      refine kret_r [.slice A928 zs30.length c929, .int .i64 0] [2, 2, 3, 4, 3] [row 5 1 (.slice A928 zs30.length c929) zs30.length (nums .u8 zs30), blk d 70 [.slice A n c, .slice Wa m wc, .int .i64 lf, .bool dn], row 5 1 (.slice A n c) n (nums .u8 ss), row 51 2 (.slice Wa m wc) m (chV ws), chd .u8 ws] ⟨⟨1, b2, 0, 23, [.slice A928 zs30.length c929], rfl, rfl, by kernel_rfl⟩, ⟨0, b3, 0, 33, [.int .i64 0], rfl, rfl, by kernel_rfl⟩, trivial⟩ (by kernel_rfl) rfl ⟨A928, c929, zs30, 0, rfl, rfl, (by exact .inl ⟨by omega, by omega, rfl, seen_end hp31 (by assumption) (by assumption) (by omega) (by omega) hno, by omega⟩), hp33, (by assumption), (fun h => hp35 (by exact h))⟩
    · intro _ hp_
      obtain ⟨A9, c9, zs, hsz, hszl, hizs, hczs, hAzs, rfl⟩ := hp_
      refine RunC.ret ?_
      refine kblock_r ?_
      refine kseq_r ?_
      refine kret_r [.slice A9 zs.length c9, .int .i64 0] [2, 2, 3, 4, 3] [row 5 1 (.slice A9 zs.length c9) zs.length (nums .u8 zs), blk d 70 [.slice A n c, .slice Wa m wc, .int .i64 lf, .bool dn], row 5 1 (.slice A n c) n (nums .u8 ss), row 51 2 (.slice Wa m wc) m (chV ws), chd .u8 ws] ⟨⟨0, b2, 0, 23, [.slice A9 zs.length c9], rfl, rfl, by kernel_rfl⟩, ⟨1, b3, 0, 33, [.int .i64 0], rfl, rfl, by kernel_rfl⟩, trivial⟩ (by kernel_rfl) rfl ⟨A9, c9, zs, 0, rfl, rfl, (by exact .inl ⟨by omega, by omega, rfl, hsz, hszl⟩), hizs, (by assumption), (fun h => hAzs (by exact h))⟩
end Go.Proofs.Ytaaplakahkgclaa.X4
