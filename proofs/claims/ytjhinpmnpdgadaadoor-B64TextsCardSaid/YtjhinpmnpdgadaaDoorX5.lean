/- What these functions compute: a contract for each, walked through its code. -/
import Derived.Test.YtjhinpmnpdgadaaDoorBTPure
import Derived.Test.YtjhinpmnpdgadaaDoorProg
import Derived.Test.YtjhinpmnpdgadaaDoorX1
import Derived.Test.YtjhinpmnpdgadaaDoorX2
import Derived.Test.YtjhinpmnpdgadaaDoorX3
import Derived.Test.YtjhinpmnpdgadaaDoorX4
namespace Go.Proofs.YtjhinpmnpdgadaaDoor.X5
open Go Go.Proofs.YtjhinpmnpdgadaaDoor.SL Go.Proofs.YtjhinpmnpdgadaaDoor.SL.W Go.Proofs.YtjhinpmnpdgadaaDoor.SL.Y Go.Proofs.YtjhinpmnpdgadaaDoor.SL.B Go.Proofs.YtjhinpmnpdgadaaDoor.X1 Go.Proofs.YtjhinpmnpdgadaaDoor.X2 Go.Proofs.YtjhinpmnpdgadaaDoor.X3 Go.Proofs.YtjhinpmnpdgadaaDoor.X4
set_option linter.unusedVariables false
set_option linter.unusedSimpArgs false
set_option maxRecDepth 100000
set_option maxHeartbeats 40000000
def U : Tab where
  und := [(3, .int .i64), (5, .int .u8), (9, .string), (22, .slice 5)]
  fld := []
  sz := [(3, 1), (5, 1), (9, 1), (22, 1)]
  ti := [(3, (1, 8, .int .i64 0)), (5, (1, 1, .int .u8 0)), (9, (1, 16, .string ⟨#[]⟩)), (22, (1, 24, .slice none 0 0))]
  bld := []

theorem hU : U.OK Tryd.prog where
  und := by
    intro p hp
    simp only [U, List.mem_cons, List.not_mem_nil, or_false] at hp
    rcases hp with rfl | rfl | rfl | rfl
    · exact Tryd.underlying3
    · exact Tryd.underlying5
    · exact Tryd.underlying9
    · exact Tryd.underlying22
  fld := by
    intro p hp; cases hp
  sz := by
    intro p hp
    simp only [U, List.mem_cons, List.not_mem_nil, or_false] at hp
    rcases hp with rfl | rfl | rfl | rfl
    · exact ⟨Tryd.prog.types[3]!, by kernel_rfl, by kernel_rfl⟩
    · exact ⟨Tryd.prog.types[5]!, by kernel_rfl, by kernel_rfl⟩
    · exact ⟨Tryd.prog.types[9]!, by kernel_rfl, by kernel_rfl⟩
    · exact ⟨Tryd.prog.types[22]!, by kernel_rfl, by kernel_rfl⟩
  ti := by
    intro p hp
    simp only [U, List.mem_cons, List.not_mem_nil, or_false] at hp
    rcases hp with rfl | rfl | rfl | rfl
    · exact ⟨Tryd.prog.types[3]!, by kernel_rfl, by kernel_rfl, by kernel_rfl, by kernel_rfl⟩
    · exact ⟨Tryd.prog.types[5]!, by kernel_rfl, by kernel_rfl, by kernel_rfl, by kernel_rfl⟩
    · exact ⟨Tryd.prog.types[9]!, by kernel_rfl, by kernel_rfl, by kernel_rfl, by kernel_rfl⟩
    · exact ⟨Tryd.prog.types[22]!, by kernel_rfl, by kernel_rfl, by kernel_rfl, by kernel_rfl⟩
  bld := by
    intro p hp; cases hp
  mixed := by kernel_rfl

theorem b_Bytes_spec (s : ByteArray) (hn : (s : ByteArray).size ≤ 35184372088832) :
    CallsS Tryd.prog 13 [.string s] [] (fun r D => ∃ (A9 : Option Addr) (c9 : Nat) (zs : List Int) (ok : Bool), r = .tuple #[.slice A9 zs.length c9, .bool ok] ∧ D = [row 5 1 (.slice A9 zs.length c9) zs.length (nums .u8 zs)] ∧ (bytesP (sb s) = if ok = true then some zs else none) ∧ (ok = false → zs = []) ∧ (In .u8 zs) ∧ (zs.length ≤ (s : ByteArray).size) ∧ (zs.length ≤ c9) ∧ (0 < zs.length → Option.isSome A9 = true)) := by
  refine CallsS.enter hU Tryd.f13 _ [.tmp 2, .tmp 3] 47 Tryd.func13 rfl (by decide) rfl rfl (by kernel_rfl) fun w0 W => ?_
  refine RunC.seq ?_
  refine RunC.region ?_
  refine RunR.sil hU [] 2 2 [0, 2, 3] [(0, .string s), (2, .slice none 0 0), (3, .bool false)] ((True) ∧ (True) ∧ True) rfl (by kernel_rfl) ⟨trivial, trivial, trivial⟩ ?_
  refine RunR.done (by kernel_rfl) ?_
  refine kseq_n ?_
  refine RunC.seq ?_
  refine RunC.seq ?_
  refine RunC.region ?_
  refine RunR.sil hU [2] 4 4 [0, 2, 3, 13] [(0, .string s), (2, .slice none 0 0), (3, .bool false), (13, .bool (!decide ((((s : ByteArray).size : Int) % (4 : Int)) = 0)))] ((True) ∧ (True) ∧ (0 ≤ ((s : ByteArray).size : Int) ∧ 0 < (4 : Int)) ∧ (True) ∧ True) rfl (by kernel_rfl) ⟨trivial, trivial, (by omega), trivial, trivial⟩ ?_
  refine RunR.done (by kernel_rfl) ?_
  refine kseq_n ?_
  refine RunC.condn ((((s : ByteArray).size : Int) % (4 : Int)) = 0) (by kernel_rfl) (fun h1 => ?_) (fun h1 => ?_)
  · skip
    refine RunC.seq ?_
    refine RunC.region ?_
    refine RunR.sil hU [] 2 2 [0, 2, 3] [(0, .string s), (2, .slice none 0 0), (3, .bool false)] ((True) ∧ (True) ∧ True) rfl (by kernel_rfl) ⟨trivial, trivial, trivial⟩ ?_
    refine RunR.done (by kernel_rfl) ?_
    refine kseq_n ?_
    refine RunC.ret ?_
    refine kseq_r ?_
    refine kret_rt ([row 5 1 (.slice none 0 0) 0 (nums .u8 ([] : List Int))]) (fun w0 W w hs => (hs).nil_row 5 1) [.slice none 0 0, .bool false] [0] [row 5 1 (.slice none 0 0) 0 (nums .u8 ([] : List Int))] ⟨rfl, rfl, trivial⟩ (by kernel_rfl) rfl ⟨none, 0, [], false, rfl, rfl, (by simp only [Bool.false_eq_true, if_false]; rw [bytesP, if_neg (by rw [sb_len]; omega)]), (by intro _; rfl), (by exact In.nil _), (by exact Nat.zero_le _), (by exact Nat.le_refl _), (by intro h; simp at h)⟩
  · skip
    refine RunC.skip ?_
    refine kseq_n ?_
    refine RunC.seq ?_
    refine RunC.region ?_
    refine RunR.sil hU [] 1 1 [0, 2, 3, 4] [(0, .string s), (2, .slice none 0 0), (3, .bool false), (4, .slice none 0 0)] ((True) ∧ True) rfl (by kernel_rfl) ⟨trivial, trivial⟩ ?_
    refine RunR.done (by kernel_rfl) ?_
    refine kseq_n ?_
    refine RunC.seq ?_
    refine RunC.seq ?_
    refine RunC.region ?_
    refine RunR.sil hU [] 1 1 [0, 2, 3, 4, 5] [(0, .string s), (2, .slice none 0 0), (3, .bool false), (4, .slice none 0 0), (5, .int .i64 0)] ((True) ∧ True) rfl (by kernel_rfl) ⟨trivial, trivial⟩ ?_
    refine RunR.done (by kernel_rfl) ?_
    refine kseq_n ?_
    refine RunC.block ?_
    refine RunC.turn ([row 5 1 (.slice none 0 0) 0 (nums .u8 ([] : List Int))]) (fun _ _ w hs => hs.nil_row 5 1) ?_
    refine RunC.env [0, 4, 5] [(0, .string s), (4, .slice none 0 0), (5, .int .i64 0)] (by kernel_rfl) ?_
    refine RunC.only [0] [row 5 1 (.slice none 0 0) 0 (nums .u8 ([] : List Int))] (by kernel_rfl) ?_
    refine RunC.loop (σ := Nat) (fun n_ t_ D_ => ∃ (a : Int) (os : List Int) (A5 : Option Addr) (c5 : Nat), (0 ≤ a) ∧ (a % 4 = 0) ∧ (a ≤ (s : ByteArray).size) ∧ ((s : ByteArray).size % 4 = 0) ∧ (decB (sb s) (a.toNat / 4) = some os) ∧ (os.length ≤ a.toNat) ∧ (In .u8 os) ∧ (os.length ≤ c5) ∧ (0 < os.length → Option.isSome A5 = true) ∧ n_ = (((s : ByteArray).size - a).toNat : Nat) ∧ t_ = [(0, .string s), (4, .slice A5 os.length c5), (5, .int .i64 a)] ∧ D_ = [row 5 1 (.slice A5 os.length c5) os.length (nums .u8 os)]) id _ ⟨0, ([] : List Int), none, 0, (by first | assumption | omega | (simp only [List.length_append, List.length_cons, List.length_nil, List.length_set, List.length_replicate, List.length_take, List.length_drop]; omega) | (simp only [fits] at *; omega) | (simp only [List.length_append, List.length_cons, List.length_nil, List.length_set, List.length_replicate, List.length_take, List.length_drop] at *; omega) | (simp; done) | decide), (by first | assumption | omega | (simp only [List.length_append, List.length_cons, List.length_nil, List.length_set, List.length_replicate, List.length_take, List.length_drop]; omega) | (simp only [fits] at *; omega) | (simp only [List.length_append, List.length_cons, List.length_nil, List.length_set, List.length_replicate, List.length_take, List.length_drop] at *; omega) | (simp; done) | decide), (by first | assumption | omega | (simp only [List.length_append, List.length_cons, List.length_nil, List.length_set, List.length_replicate, List.length_take, List.length_drop]; omega) | (simp only [fits] at *; omega) | (simp only [List.length_append, List.length_cons, List.length_nil, List.length_set, List.length_replicate, List.length_take, List.length_drop] at *; omega) | (simp; done) | decide), (by first | assumption | omega | (simp only [List.length_append, List.length_cons, List.length_nil, List.length_set, List.length_replicate, List.length_take, List.length_drop]; omega) | (simp only [fits] at *; omega) | (simp only [List.length_append, List.length_cons, List.length_nil, List.length_set, List.length_replicate, List.length_take, List.length_drop] at *; omega) | (simp; done) | decide), (by rfl), (by exact Nat.zero_le _), (by exact In.nil _), (by exact Nat.zero_le _), (by intro h; simp at h), rfl, rfl, rfl⟩ ?_
    rintro n_ _ _ ⟨a, os, A5, c5, ha, ha4, has, hsz4, ho, hol, hios, hcos, hAos, rfl, rfl, rfl⟩
    refine RunC.seq ?_
    refine RunC.seq ?_
    refine RunC.region ?_
    refine RunR.sil hU [] 4 4 [0, 4, 5, 17] [(0, .string s), (4, .slice A5 os.length c5), (5, .int .i64 a), (17, .bool (decide (a < ((s : ByteArray).size : Int))))] ((True) ∧ (True) ∧ (True) ∧ (True) ∧ True) rfl (by kernel_rfl) ⟨trivial, trivial, trivial, trivial, trivial⟩ ?_
    refine RunR.done (by kernel_rfl) ?_
    refine kseq_n ?_
    refine RunC.condp (a < ((s : ByteArray).size : Int)) (by kernel_rfl) (fun h2 => ?_) (fun h2 => ?_)
    · skip
      refine RunC.skip ?_
      refine kseq_n ?_
      refine RunC.seq ?_
      refine RunC.block ?_
      refine RunC.seq ?_
      refine RunC.region ?_
      refine RunR.sil hU [3] 6 6 [0, 4, 5, 6] [(0, .string s), (4, .slice A5 os.length c5), (5, .int .i64 a), (6, .string (ByteArray.extract s ((a).toNat) ((a + 4).toNat)))] ((True) ∧ (True) ∧ (True) ∧ (-9223372036854775808 ≤ (a + 4) ∧ (a + 4) < 9223372036854775808) ∧ (0 ≤ a ∧ a ≤ (a + 4) ∧ (a + 4) ≤ (s : ByteArray).size) ∧ (True) ∧ True) rfl (by kernel_rfl) ⟨trivial, trivial, trivial, (by omega), (by omega), trivial, trivial⟩ ?_
      refine RunR.env [0, 4, 5, 6] [(0, .string s), (4, .slice A5 os.length c5), (5, .int .i64 a), (6, .string (ByteArray.extract s ((a).toNat) ((a + 4).toNat)))] (by kernel_rfl) ?_
      obtain ⟨s3, hs4⟩ : ∃ q_ : ByteArray, q_ = ByteArray.extract s ((a).toNat) ((a + 4).toNat) := ⟨_, rfl⟩
      refine RunR.enveq [(0, .string s), (4, .slice A5 os.length c5), (5, .int .i64 a), (6, .string s3)] (by rw [hs4]) ?_
      refine RunR.done (by kernel_rfl) ?_
      refine kseq_n ?_
      refine RunC.seq ?_
      refine RunC.region ?_
      refine RunR.sil hU [] 1 1 [0, 4, 5, 6, 7] [(0, .string s), (4, .slice A5 os.length c5), (5, .int .i64 a), (6, .string s3), (7, .int .i64 4)] ((True) ∧ True) rfl (by kernel_rfl) ⟨trivial, trivial⟩ ?_
      refine RunR.done (by kernel_rfl) ?_
      refine kseq_n ?_
      refine RunC.seq ?_
      refine RunC.seq ?_
      refine RunC.region ?_
      refine RunR.sil hU [1] 5 5 [0, 4, 5, 6, 7, 29] [(0, .string s), (4, .slice A5 os.length c5), (5, .int .i64 a), (6, .string s3), (7, .int .i64 4), (29, .bool (decide ((a + 4) = ((s : ByteArray).size : Int))))] ((True) ∧ (-9223372036854775808 ≤ (a + 4) ∧ (a + 4) < 9223372036854775808) ∧ (True) ∧ (True) ∧ (True) ∧ True) rfl (by kernel_rfl) ⟨trivial, (by omega), trivial, trivial, trivial, trivial⟩ ?_
      refine RunR.done (by kernel_rfl) ?_
      refine kseq_n ?_
      refine RunC.condp ((a + 4) = ((s : ByteArray).size : Int)) (by kernel_rfl) (fun h5 => ?_) (fun h5 => ?_)
      · skip
        refine RunC.region ?_
        refine RunR.sil hU [] 1 1 [0, 4, 5, 6, 7, 30] [(0, .string s), (4, .slice A5 os.length c5), (5, .int .i64 a), (6, .string s3), (7, .int .i64 4), (30, .string s3)] ((True) ∧ True) rfl (by kernel_rfl) ⟨trivial, trivial⟩ ?_
        refine RunR.step (dst := some 31) (op := .call { callee := .value (.func 26), args := #[.tmp 30, .const (.string ⟨#[61]⟩)], argTypes := #[9, 9] }) (by kernel_rfl) (Step.call 26 [.string s3, .string ⟨#[61]⟩] (by kernel_rfl) (by kernel_rfl) [] [] [row 5 1 (.slice A5 os.length c5) os.length (nums .u8 os)] (b_TrimRight_spec s3 (by exact cut_size hs4 ha (by omega))) [] (by kernel_rfl) (Lend.nil _) ?_)
        rintro _ _ ⟨rz6, rfl, rfl, hp7⟩
        have hq8 := trimN_le (sb s3) (sb s3).length; have hq8g : (sb s3).length = 4 := by rw [sb_len]; exact cut_size hs4 ha (by omega)
        refine RunR.sil hU [] 2 4 [0, 4, 5, 6, 7] [(0, .string s), (4, .slice A5 os.length c5), (5, .int .i64 a), (6, .string s3), (7, .int .i64 ((rz6 : ByteArray).size : Int))] ((True) ∧ (True) ∧ True) rfl (by kernel_rfl) ⟨trivial, trivial, trivial⟩ ?_
        refine RunR.done (by kernel_rfl) ?_
        refine kseq_n ?_
        refine RunC.seq ?_
        refine RunC.seq ?_
        refine RunC.region ?_
        refine RunR.sil hU [] 2 2 [0, 4, 5, 6, 7, 34] [(0, .string s), (4, .slice A5 os.length c5), (5, .int .i64 a), (6, .string s3), (7, .int .i64 ((rz6 : ByteArray).size : Int)), (34, .bool (decide (((rz6 : ByteArray).size : Int) < 2)))] ((True) ∧ (True) ∧ True) rfl (by kernel_rfl) ⟨trivial, trivial, trivial⟩ ?_
        refine RunR.done (by kernel_rfl) ?_
        refine kseq_n ?_
        refine RunC.condp (((rz6 : ByteArray).size : Int) < 2) (by kernel_rfl) (fun h9 => ?_) (fun h9 => ?_)
        · skip
          refine RunC.seq ?_
          refine RunC.region ?_
          refine RunR.sil hU [] 2 2 [0, 2, 3, 4, 5, 6, 7] [(0, .string s), (2, .slice none 0 0), (3, .bool false), (4, .slice A5 os.length c5), (5, .int .i64 a), (6, .string s3), (7, .int .i64 ((rz6 : ByteArray).size : Int))] ((True) ∧ (True) ∧ True) rfl (by kernel_rfl) ⟨trivial, trivial, trivial⟩ ?_
          refine RunR.done (by kernel_rfl) ?_
          refine kseq_n ?_
          refine RunC.ret ?_
          refine kseq_r ?_
          refine kblock_r ?_
          refine kseq_r ?_
          refine kloop_r ?_
          refine kblock_r ?_
          refine kseq_r ?_
          refine kret_rt ([row 5 1 (.slice none 0 0) 0 (nums .u8 ([] : List Int)), row 5 1 (.slice A5 os.length c5) os.length (nums .u8 os)]) (fun w0 W w hs => (hs).nil_row 5 1) [.slice none 0 0, .bool false] [0] [row 5 1 (.slice none 0 0) 0 (nums .u8 ([] : List Int))] ⟨rfl, rfl, trivial⟩ (by kernel_rfl) rfl ⟨none, 0, [], false, rfl, rfl, (by simp only [Bool.false_eq_true, if_false]; exact b_stop hsz4 ha ha4 (by omega) (by rw [b_last hs4 hp7 ha ha4 (by omega), if_pos (by omega)])), (by intro _; rfl), (by exact In.nil _), (by exact Nat.zero_le _), (by exact Nat.le_refl _), (by intro h; simp at h)⟩
        · skip
          refine RunC.skip ?_
          refine kseq_n ?_
          refine RunC.seq ?_
          refine RunC.region ?_
          refine RunR.sil hU [] 2 2 [0, 4, 5, 36, 37] [(0, .string s), (4, .slice A5 os.length c5), (5, .int .i64 a), (36, .string s3), (37, .int .i64 ((rz6 : ByteArray).size : Int))] ((True) ∧ (True) ∧ True) rfl (by kernel_rfl) ⟨trivial, trivial, trivial⟩ ?_
          refine RunR.step (dst := some 38) (op := .call { callee := .value (.func 27), args := #[.tmp 36, .tmp 37], argTypes := #[9, 3] }) (by kernel_rfl) (Step.call 27 [.string s3, .int .i64 ((rz6 : ByteArray).size : Int)] (by kernel_rfl) (by kernel_rfl) [] [] [row 5 1 (.slice A5 os.length c5) os.length (nums .u8 os)] (b_four_spec s3 ((rz6 : ByteArray).size : Int) (by exact cut_size hs4 ha (by omega)) (by first | assumption | omega | (simp only [List.length_append, List.length_cons, List.length_nil, List.length_set, List.length_replicate, List.length_take, List.length_drop]; omega) | (simp only [fits] at *; omega) | (simp only [List.length_append, List.length_cons, List.length_nil, List.length_set, List.length_replicate, List.length_take, List.length_drop] at *; omega) | (simp; done) | decide)) [] (by kernel_rfl) (Lend.nil _) ?_)
          rintro _ _ ⟨A910, c911, zs12, ok13, rfl, rfl, hp14, hp15, hp16, hp17, hp18⟩
          refine RunR.sil hU [] 5 8 [0, 4, 5, 8, 9] [(0, .string s), (4, .slice A5 os.length c5), (5, .int .i64 a), (8, .slice A910 zs12.length c911), (9, .bool ok13)] ((True) ∧ (True) ∧ (True) ∧ (True) ∧ (True) ∧ True) rfl (by kernel_rfl) ⟨trivial, trivial, trivial, trivial, trivial, trivial⟩ ?_
          refine RunR.done (by kernel_rfl) ?_
          refine kseq_n ?_
          refine RunC.seq ?_
          refine RunC.seq ?_
          refine RunC.region ?_
          refine RunR.sil hU [] 2 2 [0, 4, 5, 8, 42] [(0, .string s), (4, .slice A5 os.length c5), (5, .int .i64 a), (8, .slice A910 zs12.length c911), (42, .bool (!ok13))] ((True) ∧ (True) ∧ True) rfl (by kernel_rfl) ⟨trivial, trivial, trivial⟩ ?_
          refine RunR.done (by kernel_rfl) ?_
          refine kseq_n ?_
          refine RunC.cond (b := !ok13) (by kernel_rfl) (fun h19 => ?_) (fun h19 => ?_)
          · skip
            refine RunC.seq ?_
            refine RunC.region ?_
            refine RunR.sil hU [] 2 2 [0, 2, 3, 4, 5, 8] [(0, .string s), (2, .slice none 0 0), (3, .bool false), (4, .slice A5 os.length c5), (5, .int .i64 a), (8, .slice A910 zs12.length c911)] ((True) ∧ (True) ∧ True) rfl (by kernel_rfl) ⟨trivial, trivial, trivial⟩ ?_
            refine RunR.done (by kernel_rfl) ?_
            refine kseq_n ?_
            refine RunC.ret ?_
            refine kseq_r ?_
            refine kblock_r ?_
            refine kseq_r ?_
            refine kloop_r ?_
            refine kblock_r ?_
            refine kseq_r ?_
            refine kret_rt ([row 5 1 (.slice none 0 0) 0 (nums .u8 ([] : List Int)), row 5 1 (.slice A910 zs12.length c911) zs12.length (nums .u8 zs12), row 5 1 (.slice A5 os.length c5) os.length (nums .u8 os)]) (fun w0 W w hs => (hs).nil_row 5 1) [.slice none 0 0, .bool false] [0] [row 5 1 (.slice none 0 0) 0 (nums .u8 ([] : List Int))] ⟨rfl, rfl, trivial⟩ (by kernel_rfl) rfl ⟨none, 0, [], false, rfl, rfl, (by simp only [Bool.false_eq_true, if_false]; exact b_stop hsz4 ha ha4 (by omega) (by rw [b_last hs4 hp7 ha ha4 (by omega), if_neg (by omega)]; exact none_of hp14 (by first | assumption | exact not_t (by assumption)))), (by intro _; rfl), (by exact In.nil _), (by exact Nat.zero_le _), (by exact Nat.le_refl _), (by intro h; simp at h)⟩
          · skip
            refine RunC.skip ?_
            refine kseq_n ?_
            refine RunC.region ?_
            refine RunR.sil hU [] 2 2 [0, 4, 5, 43, 44] [(0, .string s), (4, .slice A5 os.length c5), (5, .int .i64 a), (43, .slice A5 os.length c5), (44, .slice A910 zs12.length c911)] ((True) ∧ (True) ∧ True) rfl (by kernel_rfl) ⟨trivial, trivial, trivial⟩ ?_
            refine RunR.step (dst := some 45) (op := .call { callee := .builtin .append, args := #[.tmp 43, .tmp 44], argTypes := #[22, 22] }) (by kernel_rfl) (Step.append_nums hU 5 1 (.int .u8 0) .u8 1 0 A5 os.length c5 os A910 zs12.length c911 (row 5 1 (.slice A910 zs12.length c911) zs12.length (nums .u8 zs12)) zs12 rfl rfl rfl (by kernel_rfl) (by kernel_rfl) (by kernel_rfl) (by kernel_rfl) (tells_row _ _ _ _ _ _) (by first | rfl | omega | (simp; omega)) (by first | rfl | omega | (simp; omega)) (by omega) (by omega) (by kernel_rfl) (fun Aq20 cq21 hc22 hA23 => ?_))
            have hl24 : (os ++ zs12).length = os.length + zs12.length := List.length_append
            refine RunR.sil hU [] 1 4 [0, 4, 5] [(0, .string s), (4, .slice Aq20 ((os ++ zs12).length) cq21), (5, .int .i64 a)] ((True) ∧ True) rfl (by kernel_rfl) ⟨trivial, trivial⟩ ?_
            refine RunR.done (by kernel_rfl) ?_
            refine kblock_n ?_
            refine kseq_n ?_
            refine RunC.region ?_
            refine RunR.sil hU [1] 3 3 [0, 4, 5] [(0, .string s), (4, .slice Aq20 ((os ++ zs12).length) cq21), (5, .int .i64 (a + 4))] ((True) ∧ (-9223372036854775808 ≤ (a + 4) ∧ (a + 4) < 9223372036854775808) ∧ (True) ∧ True) rfl (by kernel_rfl) ⟨trivial, (by omega), trivial, trivial⟩ ?_
            refine RunR.done (by kernel_rfl) ?_
            refine kloop_n _ [0, 4, 5] [0] [(0, .string s), (4, .slice Aq20 ((os ++ zs12).length) cq21), (5, .int .i64 (a + 4))] [row 5 1 (.slice Aq20 ((os ++ zs12).length) cq21) ((os ++ zs12).length) (nums .u8 (os ++ zs12))] (by kernel_rfl) (by kernel_rfl) ?_ ⟨(a + 4), (os ++ zs12), Aq20, cq21, (by first | assumption | omega | (simp only [List.length_append, List.length_cons, List.length_nil, List.length_set, List.length_replicate, List.length_take, List.length_drop]; omega) | (simp only [fits] at *; omega) | (simp only [List.length_append, List.length_cons, List.length_nil, List.length_set, List.length_replicate, List.length_take, List.length_drop] at *; omega) | (simp; done) | decide), (by first | assumption | omega | (simp only [List.length_append, List.length_cons, List.length_nil, List.length_set, List.length_replicate, List.length_take, List.length_drop]; omega) | (simp only [fits] at *; omega) | (simp only [List.length_append, List.length_cons, List.length_nil, List.length_set, List.length_replicate, List.length_take, List.length_drop] at *; omega) | (simp; done) | decide), (by first | assumption | omega | (simp only [List.length_append, List.length_cons, List.length_nil, List.length_set, List.length_replicate, List.length_take, List.length_drop]; omega) | (simp only [fits] at *; omega) | (simp only [List.length_append, List.length_cons, List.length_nil, List.length_set, List.length_replicate, List.length_take, List.length_drop] at *; omega) | (simp; done) | decide), (by first | assumption | omega | (simp only [List.length_append, List.length_cons, List.length_nil, List.length_set, List.length_replicate, List.length_take, List.length_drop]; omega) | (simp only [fits] at *; omega) | (simp only [List.length_append, List.length_cons, List.length_nil, List.length_set, List.length_replicate, List.length_take, List.length_drop] at *; omega) | (simp; done) | decide), (by rw [show (a + 4).toNat / 4 = a.toNat / 4 + 1 by omega]; refine decB_step ho ?_; refine (b_last hs4 hp7 ha ha4 (by omega)).trans ?_; rw [if_neg (by omega)]; exact some_of hp14 (by first | assumption | exact not_f (by assumption))), (by rw [List.length_append]; omega), (by (repeat first | assumption | (simp only [fits]; omega) | with_reducible first | exact fits_wrap _ _ | exact fits_bits2 _ _ _ _ | exact In.nil _ | exact In.sb _ | exact In.replicate _ _ | apply In.append | apply In.cons | apply In.set | apply In.take | apply In.drop | apply In.rev)), (by first | assumption | omega | (simp only [List.length_append, List.length_cons, List.length_nil, List.length_set, List.length_replicate, List.length_take, List.length_drop]; omega) | (simp only [fits] at *; omega) | (simp only [List.length_append, List.length_cons, List.length_nil, List.length_set, List.length_replicate, List.length_take, List.length_drop] at *; omega) | (simp; done) | decide), (fun h => hA23 (by first | exact h | (simp at h ⊢; omega))), rfl, (by first | rfl | simp only [List.length_set]), (by first | rfl | simp only [List.length_set])⟩
            show (((s : ByteArray).size - (a + 4)).toNat : Nat) < (((s : ByteArray).size - a).toNat : Nat)
            omega
      · skip
        refine RunC.skip ?_
        refine kseq_n ?_
        refine RunC.seq ?_
        refine RunC.seq ?_
        refine RunC.region ?_
        refine RunR.sil hU [] 2 2 [0, 4, 5, 6, 7, 34] [(0, .string s), (4, .slice A5 os.length c5), (5, .int .i64 a), (6, .string s3), (7, .int .i64 4), (34, .bool false)] ((True) ∧ (True) ∧ True) rfl (by kernel_rfl) ⟨trivial, trivial, trivial⟩ ?_
        refine RunR.done (by kernel_rfl) ?_
        refine kseq_n ?_
        refine RunC.cond (b := false) (by kernel_rfl) (fun h => by cases h) (fun _ => ?_)
        refine RunC.skip ?_
        refine kseq_n ?_
        refine RunC.seq ?_
        refine RunC.region ?_
        refine RunR.sil hU [] 2 2 [0, 4, 5, 36, 37] [(0, .string s), (4, .slice A5 os.length c5), (5, .int .i64 a), (36, .string s3), (37, .int .i64 4)] ((True) ∧ (True) ∧ True) rfl (by kernel_rfl) ⟨trivial, trivial, trivial⟩ ?_
        refine RunR.step (dst := some 38) (op := .call { callee := .value (.func 27), args := #[.tmp 36, .tmp 37], argTypes := #[9, 3] }) (by kernel_rfl) (Step.call 27 [.string s3, .int .i64 4] (by kernel_rfl) (by kernel_rfl) [] [] [row 5 1 (.slice A5 os.length c5) os.length (nums .u8 os)] (b_four_spec s3 4 (by exact cut_size hs4 ha (by omega)) (by first | assumption | omega | (simp only [List.length_append, List.length_cons, List.length_nil, List.length_set, List.length_replicate, List.length_take, List.length_drop]; omega) | (simp only [fits] at *; omega) | (simp only [List.length_append, List.length_cons, List.length_nil, List.length_set, List.length_replicate, List.length_take, List.length_drop] at *; omega) | (simp; done) | decide)) [] (by kernel_rfl) (Lend.nil _) ?_)
        rintro _ _ ⟨A925, c926, zs27, ok28, rfl, rfl, hp29, hp30, hp31, hp32, hp33⟩
        refine RunR.sil hU [] 5 8 [0, 4, 5, 8, 9] [(0, .string s), (4, .slice A5 os.length c5), (5, .int .i64 a), (8, .slice A925 zs27.length c926), (9, .bool ok28)] ((True) ∧ (True) ∧ (True) ∧ (True) ∧ (True) ∧ True) rfl (by kernel_rfl) ⟨trivial, trivial, trivial, trivial, trivial, trivial⟩ ?_
        refine RunR.done (by kernel_rfl) ?_
        refine kseq_n ?_
        refine RunC.seq ?_
        refine RunC.seq ?_
        refine RunC.region ?_
        refine RunR.sil hU [] 2 2 [0, 4, 5, 8, 42] [(0, .string s), (4, .slice A5 os.length c5), (5, .int .i64 a), (8, .slice A925 zs27.length c926), (42, .bool (!ok28))] ((True) ∧ (True) ∧ True) rfl (by kernel_rfl) ⟨trivial, trivial, trivial⟩ ?_
        refine RunR.done (by kernel_rfl) ?_
        refine kseq_n ?_
        refine RunC.cond (b := !ok28) (by kernel_rfl) (fun h34 => ?_) (fun h34 => ?_)
        · skip
          refine RunC.seq ?_
          refine RunC.region ?_
          refine RunR.sil hU [] 2 2 [0, 2, 3, 4, 5, 8] [(0, .string s), (2, .slice none 0 0), (3, .bool false), (4, .slice A5 os.length c5), (5, .int .i64 a), (8, .slice A925 zs27.length c926)] ((True) ∧ (True) ∧ True) rfl (by kernel_rfl) ⟨trivial, trivial, trivial⟩ ?_
          refine RunR.done (by kernel_rfl) ?_
          refine kseq_n ?_
          refine RunC.ret ?_
          refine kseq_r ?_
          refine kblock_r ?_
          refine kseq_r ?_
          refine kloop_r ?_
          refine kblock_r ?_
          refine kseq_r ?_
          refine kret_rt ([row 5 1 (.slice none 0 0) 0 (nums .u8 ([] : List Int)), row 5 1 (.slice A925 zs27.length c926) zs27.length (nums .u8 zs27), row 5 1 (.slice A5 os.length c5) os.length (nums .u8 os)]) (fun w0 W w hs => (hs).nil_row 5 1) [.slice none 0 0, .bool false] [0] [row 5 1 (.slice none 0 0) 0 (nums .u8 ([] : List Int))] ⟨rfl, rfl, trivial⟩ (by kernel_rfl) rfl ⟨none, 0, [], false, rfl, rfl, (by simp only [Bool.false_eq_true, if_false]; exact b_stop hsz4 ha ha4 (by omega) (by rw [b_mid hs4 ha ha4 (by omega)]; exact none_of hp29 (by first | assumption | exact not_t (by assumption)))), (by intro _; rfl), (by exact In.nil _), (by exact Nat.zero_le _), (by exact Nat.le_refl _), (by intro h; simp at h)⟩
        · skip
          refine RunC.skip ?_
          refine kseq_n ?_
          refine RunC.region ?_
          refine RunR.sil hU [] 2 2 [0, 4, 5, 43, 44] [(0, .string s), (4, .slice A5 os.length c5), (5, .int .i64 a), (43, .slice A5 os.length c5), (44, .slice A925 zs27.length c926)] ((True) ∧ (True) ∧ True) rfl (by kernel_rfl) ⟨trivial, trivial, trivial⟩ ?_
          refine RunR.step (dst := some 45) (op := .call { callee := .builtin .append, args := #[.tmp 43, .tmp 44], argTypes := #[22, 22] }) (by kernel_rfl) (Step.append_nums hU 5 1 (.int .u8 0) .u8 1 0 A5 os.length c5 os A925 zs27.length c926 (row 5 1 (.slice A925 zs27.length c926) zs27.length (nums .u8 zs27)) zs27 rfl rfl rfl (by kernel_rfl) (by kernel_rfl) (by kernel_rfl) (by kernel_rfl) (tells_row _ _ _ _ _ _) (by first | rfl | omega | (simp; omega)) (by first | rfl | omega | (simp; omega)) (by omega) (by omega) (by kernel_rfl) (fun Aq35 cq36 hc37 hA38 => ?_))
          have hl39 : (os ++ zs27).length = os.length + zs27.length := List.length_append
          refine RunR.sil hU [] 1 4 [0, 4, 5] [(0, .string s), (4, .slice Aq35 ((os ++ zs27).length) cq36), (5, .int .i64 a)] ((True) ∧ True) rfl (by kernel_rfl) ⟨trivial, trivial⟩ ?_
          refine RunR.done (by kernel_rfl) ?_
          refine kblock_n ?_
          refine kseq_n ?_
          refine RunC.region ?_
          refine RunR.sil hU [1] 3 3 [0, 4, 5] [(0, .string s), (4, .slice Aq35 ((os ++ zs27).length) cq36), (5, .int .i64 (a + 4))] ((True) ∧ (-9223372036854775808 ≤ (a + 4) ∧ (a + 4) < 9223372036854775808) ∧ (True) ∧ True) rfl (by kernel_rfl) ⟨trivial, (by omega), trivial, trivial⟩ ?_
          refine RunR.done (by kernel_rfl) ?_
          refine kloop_n _ [0, 4, 5] [0] [(0, .string s), (4, .slice Aq35 ((os ++ zs27).length) cq36), (5, .int .i64 (a + 4))] [row 5 1 (.slice Aq35 ((os ++ zs27).length) cq36) ((os ++ zs27).length) (nums .u8 (os ++ zs27))] (by kernel_rfl) (by kernel_rfl) ?_ ⟨(a + 4), (os ++ zs27), Aq35, cq36, (by first | assumption | omega | (simp only [List.length_append, List.length_cons, List.length_nil, List.length_set, List.length_replicate, List.length_take, List.length_drop]; omega) | (simp only [fits] at *; omega) | (simp only [List.length_append, List.length_cons, List.length_nil, List.length_set, List.length_replicate, List.length_take, List.length_drop] at *; omega) | (simp; done) | decide), (by first | assumption | omega | (simp only [List.length_append, List.length_cons, List.length_nil, List.length_set, List.length_replicate, List.length_take, List.length_drop]; omega) | (simp only [fits] at *; omega) | (simp only [List.length_append, List.length_cons, List.length_nil, List.length_set, List.length_replicate, List.length_take, List.length_drop] at *; omega) | (simp; done) | decide), (by first | assumption | omega | (simp only [List.length_append, List.length_cons, List.length_nil, List.length_set, List.length_replicate, List.length_take, List.length_drop]; omega) | (simp only [fits] at *; omega) | (simp only [List.length_append, List.length_cons, List.length_nil, List.length_set, List.length_replicate, List.length_take, List.length_drop] at *; omega) | (simp; done) | decide), (by first | assumption | omega | (simp only [List.length_append, List.length_cons, List.length_nil, List.length_set, List.length_replicate, List.length_take, List.length_drop]; omega) | (simp only [fits] at *; omega) | (simp only [List.length_append, List.length_cons, List.length_nil, List.length_set, List.length_replicate, List.length_take, List.length_drop] at *; omega) | (simp; done) | decide), (by rw [show (a + 4).toNat / 4 = a.toNat / 4 + 1 by omega]; refine decB_step ho ?_; refine (b_mid hs4 ha ha4 (by omega)).trans ?_; exact some_of hp29 (by first | assumption | exact not_f (by assumption))), (by rw [List.length_append]; omega), (by (repeat first | assumption | (simp only [fits]; omega) | with_reducible first | exact fits_wrap _ _ | exact fits_bits2 _ _ _ _ | exact In.nil _ | exact In.sb _ | exact In.replicate _ _ | apply In.append | apply In.cons | apply In.set | apply In.take | apply In.drop | apply In.rev)), (by first | assumption | omega | (simp only [List.length_append, List.length_cons, List.length_nil, List.length_set, List.length_replicate, List.length_take, List.length_drop]; omega) | (simp only [fits] at *; omega) | (simp only [List.length_append, List.length_cons, List.length_nil, List.length_set, List.length_replicate, List.length_take, List.length_drop] at *; omega) | (simp; done) | decide), (fun h => hA38 (by first | exact h | (simp at h ⊢; omega))), rfl, (by first | rfl | simp only [List.length_set]), (by first | rfl | simp only [List.length_set])⟩
          show (((s : ByteArray).size - (a + 4)).toNat : Nat) < (((s : ByteArray).size - a).toNat : Nat)
          omega
    · skip
      refine RunC.exit ?_
      refine kseq_e ?_
      refine kloop_e ?_
      refine kblock_e ?_
      refine kseq_n ?_
      refine RunC.seq ?_
      refine RunC.region ?_
      refine RunR.sil hU [] 3 3 [2, 3] [(2, .slice A5 os.length c5), (3, .bool true)] ((True) ∧ (True) ∧ (True) ∧ True) rfl (by kernel_rfl) ⟨trivial, trivial, trivial, trivial⟩ ?_
      refine RunR.done (by kernel_rfl) ?_
      refine kseq_n ?_
      refine RunC.ret ?_
      refine kret_r [.slice A5 os.length c5, .bool true] [0] [row 5 1 (.slice A5 os.length c5) os.length (nums .u8 os)] ⟨rfl, rfl, trivial⟩ (by kernel_rfl) rfl ⟨A5, c5, os, true, rfl, rfl, (by rw [if_pos rfl]; exact b_end hsz4 (by omega) has ho), (by intro h; cases h), (by exact hios), (by omega), (by first | assumption | omega | (simp only [List.length_append, List.length_cons, List.length_nil, List.length_set, List.length_replicate, List.length_take, List.length_drop]; omega) | (simp only [fits] at *; omega) | (simp only [List.length_append, List.length_cons, List.length_nil, List.length_set, List.length_replicate, List.length_take, List.length_drop] at *; omega) | (simp; done) | decide), (fun h => hAos (by first | exact h | (simp at h ⊢; omega)))⟩
end Go.Proofs.YtjhinpmnpdgadaaDoor.X5
