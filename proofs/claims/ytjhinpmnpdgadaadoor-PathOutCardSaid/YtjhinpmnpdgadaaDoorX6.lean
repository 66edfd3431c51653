/- What these functions compute: a contract for each, walked through its code. -/
import Derived.Test.YtjhinpmnpdgadaaDoorZPure
import Derived.Test.YtjhinpmnpdgadaaDoorProg
import Derived.Test.YtjhinpmnpdgadaaDoorX1
import Derived.Test.YtjhinpmnpdgadaaDoorX2
import Derived.Test.YtjhinpmnpdgadaaDoorX3
import Derived.Test.YtjhinpmnpdgadaaDoorX4
import Derived.Test.YtjhinpmnpdgadaaDoorX5
namespace Go.Proofs.YtjhinpmnpdgadaaDoor.X6
open Go Go.Proofs.YtjhinpmnpdgadaaDoor.SL Go.Proofs.YtjhinpmnpdgadaaDoor.SL.W Go.Proofs.YtjhinpmnpdgadaaDoor.SL.Z Go.Proofs.YtjhinpmnpdgadaaDoor.X1 Go.Proofs.YtjhinpmnpdgadaaDoor.X2 Go.Proofs.YtjhinpmnpdgadaaDoor.X3 Go.Proofs.YtjhinpmnpdgadaaDoor.X4 Go.Proofs.YtjhinpmnpdgadaaDoor.X5
set_option linter.unusedVariables false
set_option linter.unusedSimpArgs false
set_option maxRecDepth 100000
set_option maxHeartbeats 40000000
def U : Tab where
  und := [(3, .int .i64), (5, .int .u8), (9, .string), (33, .slice 9)]
  fld := []
  sz := [(3, 1), (5, 1), (9, 1), (33, 1)]
  ti := [(3, (1, 8, .int .i64 0)), (5, (1, 1, .int .u8 0)), (9, (1, 16, .string ⟨#[]⟩)), (33, (1, 24, .slice none 0 0))]
  bld := []

theorem hU : U.OK Tryd.prog where
  und := by
    intro p hp
    simp only [U, List.mem_cons, List.not_mem_nil, or_false] at hp
    rcases hp with rfl | rfl | rfl | rfl
    · exact Tryd.underlying3
    · exact Tryd.underlying5
    · exact Tryd.underlying9
    · exact Tryd.underlying33
  fld := by
    intro p hp; cases hp
  sz := by
    intro p hp
    simp only [U, List.mem_cons, List.not_mem_nil, or_false] at hp
    rcases hp with rfl | rfl | rfl | rfl
    · exact ⟨Tryd.prog.types[3]!, by kernel_rfl, by kernel_rfl⟩
    · exact ⟨Tryd.prog.types[5]!, by kernel_rfl, by kernel_rfl⟩
    · exact ⟨Tryd.prog.types[9]!, by kernel_rfl, by kernel_rfl⟩
    · exact ⟨Tryd.prog.types[33]!, by kernel_rfl, by kernel_rfl⟩
  ti := by
    intro p hp
    simp only [U, List.mem_cons, List.not_mem_nil, or_false] at hp
    rcases hp with rfl | rfl | rfl | rfl
    · exact ⟨Tryd.prog.types[3]!, by kernel_rfl, by kernel_rfl, by kernel_rfl, by kernel_rfl⟩
    · exact ⟨Tryd.prog.types[5]!, by kernel_rfl, by kernel_rfl, by kernel_rfl, by kernel_rfl⟩
    · exact ⟨Tryd.prog.types[9]!, by kernel_rfl, by kernel_rfl, by kernel_rfl, by kernel_rfl⟩
    · exact ⟨Tryd.prog.types[33]!, by kernel_rfl, by kernel_rfl, by kernel_rfl, by kernel_rfl⟩
  bld := by
    intro p hp; cases hp
  mixed := by kernel_rfl

theorem pr_Parts_spec (s : ByteArray) (hsz : (s : ByteArray).size ≤ 100000) :
    CallsS Tryd.prog 19 [.string s] [] (fun r D => ∃ (A9 : Option Addr) (c9 : Nat) (zs : List ByteArray) (e : Int), r = .tuple #[.slice A9 zs.length c9, .int .i64 e] ∧ D = [row 9 1 (.slice A9 zs.length c9) zs.length (strV zs)] ∧ (PartsR s zs e) ∧ (0 < zs.length → Option.isSome A9 = true) ∧ (zs.length ≤ c9)) := by
  refine CallsS.enter hU Tryd.f19 _ [.tmp 2, .tmp 3] 57 Tryd.func19 rfl (by decide) rfl rfl (by kernel_rfl) fun w0 W => ?_
  refine RunC.seq ?_
  refine RunC.region ?_
  refine RunR.sil hU [] 2 2 [0, 2, 3] [(0, .string s), (2, .slice none 0 0), (3, .int .i64 0)] ((True) ∧ (True) ∧ True) rfl (by kernel_rfl) ⟨trivial, trivial, trivial⟩ ?_
  refine RunR.done (by kernel_rfl) ?_
  refine kseq_n ?_
  refine RunC.seq ?_
  refine RunC.seq ?_
  refine RunC.region ?_
  refine RunR.sil hU [] 4 4 [0, 2, 3, 11] [(0, .string s), (2, .slice none 0 0), (3, .int .i64 0), (11, .bool (decide (((s : ByteArray).size : Int) > 0)))] ((True) ∧ (True) ∧ (True) ∧ (True) ∧ True) rfl (by kernel_rfl) ⟨trivial, trivial, trivial, trivial, trivial⟩ ?_
  refine RunR.env [0, 2, 3, 11] [(0, .string s), (2, .slice none 0 0), (3, .int .i64 0), (11, .bool (decide (((s : ByteArray).size : Int) > 0)))] (by kernel_rfl) ?_
  by_cases h1 : ((s : ByteArray).size : Int) > 0
  · skip
    refine RunR.enveq [(0, .string s), (2, .slice none 0 0), (3, .int .i64 0), (11, .bool true)] (by rw [decide_eq_true h1]; try rfl) ?_
    have hb2 : 0 ≤ (sb s).getD (0 : Int).toNat 0 ∧ (sb s).getD (0 : Int).toNat 0 < 256 := (In.sb _).at_ _
    refine RunR.sil hU [] 4 8 [0, 2, 3, 15] [(0, .string s), (2, .slice none 0 0), (3, .int .i64 0), (15, .bool (decide (((sb s).getD (0 : Int).toNat 0) = 47)))] ((True) ∧ (0 ≤ (0 : Int) ∧ (0 : Int) < (s : ByteArray).size) ∧ (True) ∧ (True) ∧ True) rfl (by kernel_rfl) ⟨trivial, (by omega), trivial, trivial, trivial⟩ ?_
    refine RunR.done (by kernel_rfl) ?_
    refine kseq_n ?_
    refine RunC.condp (((sb s).getD (0 : Int).toNat 0) = 47) (by kernel_rfl) (fun h3 => ?_) (fun h3 => ?_)
    · skip
      refine RunC.seq ?_
      refine RunC.region ?_
      refine RunR.sil hU [] 2 2 [0, 2, 3] [(0, .string s), (2, .slice none 0 0), (3, .int .i64 12)] ((True) ∧ (True) ∧ True) rfl (by kernel_rfl) ⟨trivial, trivial, trivial⟩ ?_
      refine RunR.done (by kernel_rfl) ?_
      refine kseq_n ?_
      refine RunC.ret ?_
      refine kseq_r ?_
      refine kret_rt ([row 9 1 (.slice none 0 0) 0 (strV ([] : List ByteArray))]) (fun w0 W w hs => (hs).nil_row 9 1) [.slice none 0 0, .int .i64 12] [0] [row 9 1 (.slice none 0 0) 0 (strV ([] : List ByteArray))] ⟨rfl, rfl, trivial⟩ (by kernel_rfl) rfl ⟨none, 0, ([] : List ByteArray), 12, rfl, rfl, (by first | exact pr_head ((head_iff s).2 ((head_get (by assumption)).2 (by assumption))) | exact rp_bad hR (by omega) (by omega) (fun h => by first | (exfalso; omega) | assumption)  (by assumption) (by assumption) (by first | exact .inl (by assumption) | exact .inr (by omega)) | exact rp_end hR (by omega) hM hl (by first | exact head_nil (by assumption) | exact fun g => absurd ((head_get (by assumption)).1 g) (by assumption))), (by first | assumption | (intro h; simp at h)), (by first | assumption | exact Nat.zero_le _)⟩
    · skip
      refine RunC.skip ?_
      refine kseq_n ?_
      refine RunC.seq ?_
      refine RunC.region ?_
      refine RunR.sil hU [] 1 1 [0, 2, 3, 4] [(0, .string s), (2, .slice none 0 0), (3, .int .i64 0), (4, .slice none 0 0)] ((True) ∧ True) rfl (by kernel_rfl) ⟨trivial, trivial⟩ ?_
      refine RunR.done (by kernel_rfl) ?_
      refine kseq_n ?_
      refine RunC.seq ?_
      refine RunC.region ?_
      refine RunR.sil hU [] 1 1 [0, 2, 3, 4, 5] [(0, .string s), (2, .slice none 0 0), (3, .int .i64 0), (4, .slice none 0 0), (5, .int .i64 0)] ((True) ∧ True) rfl (by kernel_rfl) ⟨trivial, trivial⟩ ?_
      refine RunR.done (by kernel_rfl) ?_
      refine kseq_n ?_
      refine RunC.seq ?_
      refine RunC.seq ?_
      refine RunC.region ?_
      refine RunR.sil hU [] 1 1 [0, 2, 3, 4, 5, 6] [(0, .string s), (2, .slice none 0 0), (3, .int .i64 0), (4, .slice none 0 0), (5, .int .i64 0), (6, .int .i64 0)] ((True) ∧ True) rfl (by kernel_rfl) ⟨trivial, trivial⟩ ?_
      refine RunR.done (by kernel_rfl) ?_
      refine kseq_n ?_
      refine RunC.block ?_
      refine RunC.turn ([row 9 1 (.slice none 0 0) 0 (strV ([] : List ByteArray))]) (fun _ _ w hs => hs.nil_row 9 1) ?_
      refine RunC.env [0, 4, 5, 6] [(0, .string s), (4, .slice none 0 0), (5, .int .i64 0), (6, .int .i64 0)] (by kernel_rfl) ?_
      refine RunC.only [0] [row 9 1 (.slice none 0 0) 0 (strV ([] : List ByteArray))] (by kernel_rfl) ?_
      refine RunC.loop (σ := Nat) (fun n_ t_ D_ => ∃ (zs : List ByteArray) (A5 : Option Addr) (c5 : Nat) (f : Int) (i : Int), (0 ≤ i ∧ i ≤ ((s : ByteArray).size : Int) + 1) ∧ (0 ≤ f ∧ f ≤ i) ∧ (RPs s zs f i) ∧ (MayAll zs) ∧ (zs.length ≤ 32) ∧ (0 < zs.length → Option.isSome A5 = true) ∧ (zs.length ≤ c5) ∧ n_ = (((s : ByteArray).size + 1 - i).toNat : Nat) ∧ t_ = [(0, .string s), (4, .slice A5 zs.length c5), (5, .int .i64 f), (6, .int .i64 i)] ∧ D_ = [row 9 1 (.slice A5 zs.length c5) zs.length (strV zs)]) id _ ⟨([] : List ByteArray), none, 0, 0, 0, (by first | assumption | omega | (simp only [List.length_append, List.length_cons, List.length_nil, List.length_set, List.length_replicate, List.length_take, List.length_drop]; omega) | (simp only [fits] at *; omega) | (simp only [List.length_append, List.length_cons, List.length_nil, List.length_set, List.length_replicate, List.length_take, List.length_drop] at *; omega) | (simp; done) | decide), (by first | assumption | omega | (simp only [List.length_append, List.length_cons, List.length_nil, List.length_set, List.length_replicate, List.length_take, List.length_drop]; omega) | (simp only [fits] at *; omega) | (simp only [List.length_append, List.length_cons, List.length_nil, List.length_set, List.length_replicate, List.length_take, List.length_drop] at *; omega) | (simp; done) | decide), (by exact rp_0 s), (by exact MayAll.nil), (by exact Nat.zero_le _), (by intro h; simp at h), (by exact Nat.zero_le _), rfl, rfl, rfl⟩ ?_
      rintro n_ _ _ ⟨zs, A5, c5, f, i, hi, hf, hR, hM, hl, hA5, hc5, rfl, rfl, rfl⟩
      refine RunC.seq ?_
      refine RunC.seq ?_
      refine RunC.region ?_
      refine RunR.sil hU [] 4 4 [0, 4, 5, 6, 19] [(0, .string s), (4, .slice A5 zs.length c5), (5, .int .i64 f), (6, .int .i64 i), (19, .bool (decide (i ≤ ((s : ByteArray).size : Int))))] ((True) ∧ (True) ∧ (True) ∧ (True) ∧ True) rfl (by kernel_rfl) ⟨trivial, trivial, trivial, trivial, trivial⟩ ?_
      refine RunR.done (by kernel_rfl) ?_
      refine kseq_n ?_
      refine RunC.condp (i ≤ ((s : ByteArray).size : Int)) (by kernel_rfl) (fun h4 => ?_) (fun h4 => ?_)
      · skip
        refine RunC.skip ?_
        refine kseq_n ?_
        refine RunC.seq ?_
        refine RunC.block ?_
        refine RunC.seq ?_
        refine RunC.seq ?_
        refine RunC.region ?_
        refine RunR.sil hU [] 5 5 [0, 4, 5, 6, 26] [(0, .string s), (4, .slice A5 zs.length c5), (5, .int .i64 f), (6, .int .i64 i), (26, .bool (decide (i < ((s : ByteArray).size : Int))))] ((True) ∧ (True) ∧ (True) ∧ (True) ∧ (True) ∧ True) rfl (by kernel_rfl) ⟨trivial, trivial, trivial, trivial, trivial, trivial⟩ ?_
        refine RunR.env [0, 4, 5, 6, 26] [(0, .string s), (4, .slice A5 zs.length c5), (5, .int .i64 f), (6, .int .i64 i), (26, .bool (decide (i < ((s : ByteArray).size : Int))))] (by kernel_rfl) ?_
        by_cases h5 : i < ((s : ByteArray).size : Int)
        · skip
          refine RunR.enveq [(0, .string s), (4, .slice A5 zs.length c5), (5, .int .i64 f), (6, .int .i64 i), (26, .bool true)] (by rw [decide_eq_true h5]; try rfl) ?_
          have hb6 : 0 ≤ (sb s).getD (i).toNat 0 ∧ (sb s).getD (i).toNat 0 < 256 := (In.sb _).at_ _
          refine RunR.sil hU [] 5 10 [0, 4, 5, 6, 31] [(0, .string s), (4, .slice A5 zs.length c5), (5, .int .i64 f), (6, .int .i64 i), (31, .bool (!decide (((sb s).getD (i).toNat 0) = 47)))] ((True) ∧ (True) ∧ (0 ≤ i ∧ i < (s : ByteArray).size) ∧ (True) ∧ (True) ∧ True) rfl (by kernel_rfl) ⟨trivial, trivial, (by omega), trivial, trivial, trivial⟩ ?_
          refine RunR.done (by kernel_rfl) ?_
          refine kseq_n ?_
          refine RunC.condn (((sb s).getD (i).toNat 0) = 47) (by kernel_rfl) (fun h7 => ?_) (fun h7 => ?_)
          · skip
            refine RunC.exit ?_
            refine kseq_e ?_
            refine kblock_e ?_
            refine kseq_n ?_
            refine RunC.region ?_
            refine RunR.sil hU [1] 3 3 [0, 4, 5, 6] [(0, .string s), (4, .slice A5 zs.length c5), (5, .int .i64 f), (6, .int .i64 (i + 1))] ((True) ∧ (-9223372036854775808 ≤ (i + 1) ∧ (i + 1) < 9223372036854775808) ∧ (True) ∧ True) rfl (by kernel_rfl) ⟨trivial, (by omega), trivial, trivial⟩ ?_
            refine RunR.done (by kernel_rfl) ?_
            refine kloop_n _ [0, 4, 5, 6] [0] [(0, .string s), (4, .slice A5 zs.length c5), (5, .int .i64 f), (6, .int .i64 (i + 1))] [row 9 1 (.slice A5 zs.length c5) zs.length (strV zs)] (by kernel_rfl) (by kernel_rfl) ?_ ⟨zs, A5, c5, f, (i + 1), (by first | assumption | omega | (simp only [List.length_append, List.length_cons, List.length_nil, List.length_set, List.length_replicate, List.length_take, List.length_drop]; omega) | (simp only [fits] at *; omega) | (simp only [List.length_append, List.length_cons, List.length_nil, List.length_set, List.length_replicate, List.length_take, List.length_drop] at *; omega) | (simp; done) | decide), (by first | assumption | omega | (simp only [List.length_append, List.length_cons, List.length_nil, List.length_set, List.length_replicate, List.length_take, List.length_drop]; omega) | (simp only [fits] at *; omega) | (simp only [List.length_append, List.length_cons, List.length_nil, List.length_set, List.length_replicate, List.length_take, List.length_drop] at *; omega) | (simp; done) | decide), (by first | exact rp_skip hR (by omega) (by omega) (by assumption) | exact rp_drop hR (by omega) (by omega) (fun h => by first | (exfalso; omega) | assumption)  (.inl (by assumption)) | exact rp_drop hR (by omega) (by omega) (fun h => by first | (exfalso; omega) | assumption)  (.inr (by assumption)) | exact rp_keep hR (by omega) (by omega) (fun h => by first | (exfalso; omega) | assumption)  (by assumption) (by assumption)), (by first | assumption | exact hM.snoc (by assumption)), (by first | assumption | omega | (simp only [List.length_append, List.length_cons, List.length_nil, List.length_set, List.length_replicate, List.length_take, List.length_drop]; omega) | (simp only [fits] at *; omega) | (simp only [List.length_append, List.length_cons, List.length_nil, List.length_set, List.length_replicate, List.length_take, List.length_drop] at *; omega) | (simp; done) | decide), (fun h => hA5 (by first | exact h | (simp at h ⊢; omega))), (by first | assumption | omega | (simp only [List.length_append, List.length_cons, List.length_nil, List.length_set, List.length_replicate, List.length_take, List.length_drop]; omega) | (simp only [fits] at *; omega) | (simp only [List.length_append, List.length_cons, List.length_nil, List.length_set, List.length_replicate, List.length_take, List.length_drop] at *; omega) | (simp; done) | decide), rfl, (by first | rfl | simp only [List.length_set]), (by first | rfl | simp only [List.length_set])⟩
            show (((s : ByteArray).size + 1 - (i + 1)).toNat : Nat) < (((s : ByteArray).size + 1 - i).toNat : Nat)
            omega
          · skip
            refine RunC.skip ?_
            refine kseq_n ?_
            refine RunC.seq ?_
            refine RunC.region ?_
            refine RunR.sil hU [] 5 5 [0, 4, 5, 6, 7] [(0, .string s), (4, .slice A5 zs.length c5), (5, .int .i64 f), (6, .int .i64 i), (7, .string (ByteArray.extract s ((f).toNat) ((i).toNat)))] ((True) ∧ (True) ∧ (True) ∧ (0 ≤ f ∧ f ≤ i ∧ i ≤ (s : ByteArray).size) ∧ (True) ∧ True) rfl (by kernel_rfl) ⟨trivial, trivial, trivial, (by omega), trivial, trivial⟩ ?_
            refine RunR.done (by kernel_rfl) ?_
            refine kseq_n ?_
            refine RunC.seq ?_
            refine RunC.region ?_
            refine RunR.sil hU [1] 3 3 [0, 4, 5, 6, 7] [(0, .string s), (4, .slice A5 zs.length c5), (5, .int .i64 (i + 1)), (6, .int .i64 i), (7, .string (ByteArray.extract s ((f).toNat) ((i).toNat)))] ((True) ∧ (-9223372036854775808 ≤ (i + 1) ∧ (i + 1) < 9223372036854775808) ∧ (True) ∧ True) rfl (by kernel_rfl) ⟨trivial, (by omega), trivial, trivial⟩ ?_
            refine RunR.done (by kernel_rfl) ?_
            refine kseq_n ?_
            refine RunC.seq ?_
            refine RunC.seq ?_
            refine RunC.region ?_
            refine RunR.sil hU [] 3 3 [0, 4, 5, 6, 7, 40] [(0, .string s), (4, .slice A5 zs.length c5), (5, .int .i64 (i + 1)), (6, .int .i64 i), (7, .string (ByteArray.extract s ((f).toNat) ((i).toNat))), (40, .bool (decide ((ByteArray.extract s ((f).toNat) ((i).toNat)) = ⟨#[]⟩)))] ((True) ∧ (True) ∧ (True) ∧ True) rfl (by kernel_rfl) ⟨trivial, trivial, trivial, trivial⟩ ?_
            refine RunR.env [0, 4, 5, 6, 7, 40] [(0, .string s), (4, .slice A5 zs.length c5), (5, .int .i64 (i + 1)), (6, .int .i64 i), (7, .string (ByteArray.extract s ((f).toNat) ((i).toNat))), (40, .bool (decide ((ByteArray.extract s ((f).toNat) ((i).toNat)) = ⟨#[]⟩)))] (by kernel_rfl) ?_
            by_cases h8 : (ByteArray.extract s ((f).toNat) ((i).toNat)) = ⟨#[]⟩
            · skip
              refine RunR.enveq [(0, .string s), (4, .slice A5 zs.length c5), (5, .int .i64 (i + 1)), (6, .int .i64 i), (7, .string (ByteArray.extract s ((f).toNat) ((i).toNat))), (40, .bool true)] (by rw [decide_eq_true h8]; try rfl) ?_
              refine RunR.sil hU [] 3 6 [0, 4, 5, 6, 7, 43] [(0, .string s), (4, .slice A5 zs.length c5), (5, .int .i64 (i + 1)), (6, .int .i64 i), (7, .string (ByteArray.extract s ((f).toNat) ((i).toNat))), (43, .bool true)] ((True) ∧ True) rfl (by kernel_rfl) ⟨trivial, trivial⟩ ?_
              refine RunR.done (by kernel_rfl) ?_
              refine kseq_n ?_
              refine RunC.cond (b := true) (by kernel_rfl) (fun _ => ?_) (fun h => by cases h)
              refine RunC.exit ?_
              refine kseq_e ?_
              refine kblock_e ?_
              refine kseq_n ?_
              refine RunC.region ?_
              refine RunR.sil hU [1] 3 3 [0, 4, 5, 6] [(0, .string s), (4, .slice A5 zs.length c5), (5, .int .i64 (i + 1)), (6, .int .i64 (i + 1))] ((True) ∧ (-9223372036854775808 ≤ (i + 1) ∧ (i + 1) < 9223372036854775808) ∧ (True) ∧ True) rfl (by kernel_rfl) ⟨trivial, (by omega), trivial, trivial⟩ ?_
              refine RunR.done (by kernel_rfl) ?_
              refine kloop_n _ [0, 4, 5, 6] [0] [(0, .string s), (4, .slice A5 zs.length c5), (5, .int .i64 (i + 1)), (6, .int .i64 (i + 1))] [row 9 1 (.slice A5 zs.length c5) zs.length (strV zs)] (by kernel_rfl) (by kernel_rfl) ?_ ⟨zs, A5, c5, (i + 1), (i + 1), (by first | assumption | omega | (simp only [List.length_append, List.length_cons, List.length_nil, List.length_set, List.length_replicate, List.length_take, List.length_drop]; omega) | (simp only [fits] at *; omega) | (simp only [List.length_append, List.length_cons, List.length_nil, List.length_set, List.length_replicate, List.length_take, List.length_drop] at *; omega) | (simp; done) | decide), (by first | assumption | omega | (simp only [List.length_append, List.length_cons, List.length_nil, List.length_set, List.length_replicate, List.length_take, List.length_drop]; omega) | (simp only [fits] at *; omega) | (simp only [List.length_append, List.length_cons, List.length_nil, List.length_set, List.length_replicate, List.length_take, List.length_drop] at *; omega) | (simp; done) | decide), (by first | exact rp_skip hR (by omega) (by omega) (by assumption) | exact rp_drop hR (by omega) (by omega) (fun h => by first | (exfalso; omega) | assumption)  (.inl (by assumption)) | exact rp_drop hR (by omega) (by omega) (fun h => by first | (exfalso; omega) | assumption)  (.inr (by assumption)) | exact rp_keep hR (by omega) (by omega) (fun h => by first | (exfalso; omega) | assumption)  (by assumption) (by assumption)), (by first | assumption | exact hM.snoc (by assumption)), (by first | assumption | omega | (simp only [List.length_append, List.length_cons, List.length_nil, List.length_set, List.length_replicate, List.length_take, List.length_drop]; omega) | (simp only [fits] at *; omega) | (simp only [List.length_append, List.length_cons, List.length_nil, List.length_set, List.length_replicate, List.length_take, List.length_drop] at *; omega) | (simp; done) | decide), (fun h => hA5 (by first | exact h | (simp at h ⊢; omega))), (by first | assumption | omega | (simp only [List.length_append, List.length_cons, List.length_nil, List.length_set, List.length_replicate, List.length_take, List.length_drop]; omega) | (simp only [fits] at *; omega) | (simp only [List.length_append, List.length_cons, List.length_nil, List.length_set, List.length_replicate, List.length_take, List.length_drop] at *; omega) | (simp; done) | decide), rfl, (by first | rfl | simp only [List.length_set]), (by first | rfl | simp only [List.length_set])⟩
              show (((s : ByteArray).size + 1 - (i + 1)).toNat : Nat) < (((s : ByteArray).size + 1 - i).toNat : Nat)
              omega
            · skip
              refine RunR.enveq [(0, .string s), (4, .slice A5 zs.length c5), (5, .int .i64 (i + 1)), (6, .int .i64 i), (7, .string (ByteArray.extract s ((f).toNat) ((i).toNat))), (40, .bool false)] (by rw [decide_eq_false h8]; try rfl) ?_
              refine RunR.sil hU [] 3 6 [0, 4, 5, 6, 7, 43] [(0, .string s), (4, .slice A5 zs.length c5), (5, .int .i64 (i + 1)), (6, .int .i64 i), (7, .string (ByteArray.extract s ((f).toNat) ((i).toNat))), (43, .bool (decide ((ByteArray.extract s ((f).toNat) ((i).toNat)) = ⟨#[46]⟩)))] ((True) ∧ (True) ∧ (True) ∧ True) rfl (by kernel_rfl) ⟨trivial, trivial, trivial, trivial⟩ ?_
              refine RunR.done (by kernel_rfl) ?_
              refine kseq_n ?_
              refine RunC.condp ((ByteArray.extract s ((f).toNat) ((i).toNat)) = ⟨#[46]⟩) (by kernel_rfl) (fun h9 => ?_) (fun h9 => ?_)
              · skip
                refine RunC.exit ?_
                refine kseq_e ?_
                refine kblock_e ?_
                refine kseq_n ?_
                refine RunC.region ?_
                refine RunR.sil hU [1] 3 3 [0, 4, 5, 6] [(0, .string s), (4, .slice A5 zs.length c5), (5, .int .i64 (i + 1)), (6, .int .i64 (i + 1))] ((True) ∧ (-9223372036854775808 ≤ (i + 1) ∧ (i + 1) < 9223372036854775808) ∧ (True) ∧ True) rfl (by kernel_rfl) ⟨trivial, (by omega), trivial, trivial⟩ ?_
                refine RunR.done (by kernel_rfl) ?_
                refine kloop_n _ [0, 4, 5, 6] [0] [(0, .string s), (4, .slice A5 zs.length c5), (5, .int .i64 (i + 1)), (6, .int .i64 (i + 1))] [row 9 1 (.slice A5 zs.length c5) zs.length (strV zs)] (by kernel_rfl) (by kernel_rfl) ?_ ⟨zs, A5, c5, (i + 1), (i + 1), (by first | assumption | omega | (simp only [List.length_append, List.length_cons, List.length_nil, List.length_set, List.length_replicate, List.length_take, List.length_drop]; omega) | (simp only [fits] at *; omega) | (simp only [List.length_append, List.length_cons, List.length_nil, List.length_set, List.length_replicate, List.length_take, List.length_drop] at *; omega) | (simp; done) | decide), (by first | assumption | omega | (simp only [List.length_append, List.length_cons, List.length_nil, List.length_set, List.length_replicate, List.length_take, List.length_drop]; omega) | (simp only [fits] at *; omega) | (simp only [List.length_append, List.length_cons, List.length_nil, List.length_set, List.length_replicate, List.length_take, List.length_drop] at *; omega) | (simp; done) | decide), (by first | exact rp_skip hR (by omega) (by omega) (by assumption) | exact rp_drop hR (by omega) (by omega) (fun h => by first | (exfalso; omega) | assumption)  (.inl (by assumption)) | exact rp_drop hR (by omega) (by omega) (fun h => by first | (exfalso; omega) | assumption)  (.inr (by assumption)) | exact rp_keep hR (by omega) (by omega) (fun h => by first | (exfalso; omega) | assumption)  (by assumption) (by assumption)), (by first | assumption | exact hM.snoc (by assumption)), (by first | assumption | omega | (simp only [List.length_append, List.length_cons, List.length_nil, List.length_set, List.length_replicate, List.length_take, List.length_drop]; omega) | (simp only [fits] at *; omega) | (simp only [List.length_append, List.length_cons, List.length_nil, List.length_set, List.length_replicate, List.length_take, List.length_drop] at *; omega) | (simp; done) | decide), (fun h => hA5 (by first | exact h | (simp at h ⊢; omega))), (by first | assumption | omega | (simp only [List.length_append, List.length_cons, List.length_nil, List.length_set, List.length_replicate, List.length_take, List.length_drop]; omega) | (simp only [fits] at *; omega) | (simp only [List.length_append, List.length_cons, List.length_nil, List.length_set, List.length_replicate, List.length_take, List.length_drop] at *; omega) | (simp; done) | decide), rfl, (by first | rfl | simp only [List.length_set]), (by first | rfl | simp only [List.length_set])⟩
                show (((s : ByteArray).size + 1 - (i + 1)).toNat : Nat) < (((s : ByteArray).size + 1 - i).toNat : Nat)
                omega
              · skip
                refine RunC.skip ?_
                refine kseq_n ?_
                refine RunC.seq ?_
                refine RunC.seq ?_
                refine RunC.region ?_
                refine RunR.sil hU [] 1 1 [0, 4, 5, 6, 7, 44] [(0, .string s), (4, .slice A5 zs.length c5), (5, .int .i64 (i + 1)), (6, .int .i64 i), (7, .string (ByteArray.extract s ((f).toNat) ((i).toNat))), (44, .string (ByteArray.extract s ((f).toNat) ((i).toNat)))] ((True) ∧ True) rfl (by kernel_rfl) ⟨trivial, trivial⟩ ?_
                refine RunR.step (dst := some 45) (op := .call { callee := .value (.func 34), args := #[.tmp 44], argTypes := #[9] }) (by kernel_rfl) (Step.call 34 [.string (ByteArray.extract s ((f).toNat) ((i).toNat))] (by kernel_rfl) (by kernel_rfl) [] [] [row 9 1 (.slice A5 zs.length c5) zs.length (strV zs)] (pr_may_spec (ByteArray.extract s ((f).toNat) ((i).toNat)) (by exact ext_bd (by omega))) [] (by kernel_rfl) (Lend.nil _) ?_)
                rintro _ _ ⟨rfl, rfl⟩
                refine RunR.sil hU [] 2 4 [0, 4, 5, 6, 7, 47] [(0, .string s), (4, .slice A5 zs.length c5), (5, .int .i64 (i + 1)), (6, .int .i64 i), (7, .string (ByteArray.extract s ((f).toNat) ((i).toNat))), (47, .bool (!decide (mayP (sb (ByteArray.extract s ((f).toNat) ((i).toNat))))))] ((True) ∧ (True) ∧ True) rfl (by kernel_rfl) ⟨trivial, trivial, trivial⟩ ?_
                refine RunR.env [0, 4, 5, 6, 7, 47] [(0, .string s), (4, .slice A5 zs.length c5), (5, .int .i64 (i + 1)), (6, .int .i64 i), (7, .string (ByteArray.extract s ((f).toNat) ((i).toNat))), (47, .bool (!decide (mayP (sb (ByteArray.extract s ((f).toNat) ((i).toNat))))))] (by kernel_rfl) ?_
                by_cases h10 : mayP (sb (ByteArray.extract s ((f).toNat) ((i).toNat)))
                · skip
                  refine RunR.enveq [(0, .string s), (4, .slice A5 zs.length c5), (5, .int .i64 (i + 1)), (6, .int .i64 i), (7, .string (ByteArray.extract s ((f).toNat) ((i).toNat))), (47, .bool false)] (by rw [decide_eq_true h10]; try rfl) ?_
                  refine RunR.sil hU [] 4 8 [0, 4, 5, 6, 7, 51] [(0, .string s), (4, .slice A5 zs.length c5), (5, .int .i64 (i + 1)), (6, .int .i64 i), (7, .string (ByteArray.extract s ((f).toNat) ((i).toNat))), (51, .bool (decide (((zs.length : Nat) : Int) ≥ 32)))] ((True) ∧ (True) ∧ (True) ∧ (True) ∧ True) rfl (by kernel_rfl) ⟨trivial, trivial, trivial, trivial, trivial⟩ ?_
                  refine RunR.done (by kernel_rfl) ?_
                  refine kseq_n ?_
                  refine RunC.condp (((zs.length : Nat) : Int) ≥ 32) (by kernel_rfl) (fun h11 => ?_) (fun h11 => ?_)
                  · skip
                    refine RunC.seq ?_
                    refine RunC.region ?_
                    refine RunR.sil hU [] 2 2 [0, 2, 3, 4, 5, 6, 7] [(0, .string s), (2, .slice none 0 0), (3, .int .i64 12), (4, .slice A5 zs.length c5), (5, .int .i64 (i + 1)), (6, .int .i64 i), (7, .string (ByteArray.extract s ((f).toNat) ((i).toNat)))] ((True) ∧ (True) ∧ True) rfl (by kernel_rfl) ⟨trivial, trivial, trivial⟩ ?_
                    refine RunR.done (by kernel_rfl) ?_
                    refine kseq_n ?_
                    refine RunC.ret ?_
                    refine kseq_r ?_
                    refine kblock_r ?_
                    refine kseq_r ?_
                    refine kloop_r ?_
                    refine kblock_r ?_
                    refine kseq_r ?_
                    refine kret_rt ([row 9 1 (.slice none 0 0) 0 (strV ([] : List ByteArray)), row 9 1 (.slice A5 zs.length c5) zs.length (strV zs)]) (fun w0 W w hs => (hs).nil_row 9 1) [.slice none 0 0, .int .i64 12] [0] [row 9 1 (.slice none 0 0) 0 (strV ([] : List ByteArray))] ⟨rfl, rfl, trivial⟩ (by kernel_rfl) rfl ⟨none, 0, ([] : List ByteArray), 12, rfl, rfl, (by first | exact pr_head ((head_iff s).2 ((head_get (by assumption)).2 (by assumption))) | exact rp_bad hR (by omega) (by omega) (fun h => by first | (exfalso; omega) | assumption)  (by assumption) (by assumption) (by first | exact .inl (by assumption) | exact .inr (by omega)) | exact rp_end hR (by omega) hM hl (by first | exact head_nil (by assumption) | exact fun g => absurd ((head_get (by assumption)).1 g) (by assumption))), (by first | assumption | (intro h; simp at h)), (by first | assumption | exact Nat.zero_le _)⟩
                  · skip
                    refine RunC.skip ?_
                    refine kseq_n ?_
                    refine RunC.region ?_
                    refine RunR.sil hU [] 2 2 [0, 4, 5, 6, 52, 53] [(0, .string s), (4, .slice A5 zs.length c5), (5, .int .i64 (i + 1)), (6, .int .i64 i), (52, .slice A5 zs.length c5), (53, .string (ByteArray.extract s ((f).toNat) ((i).toNat)))] ((True) ∧ (True) ∧ True) rfl (by kernel_rfl) ⟨trivial, trivial, trivial⟩ ?_
                    refine RunR.step (dst := some 54) (op := .buildSlice 33 1 #[(0, .tmp 53)]) (by kernel_rfl) (Step.lit_vals hU 9 16 (.string ⟨#[]⟩) (strV ([ByteArray.extract s ((f).toNat) ((i).toNat)] : List ByteArray)) (by kernel_rfl) (by kernel_rfl) (by kernel_rfl) (by simp [strV, Value.cells]) rfl rfl (by kernel_rfl) (fun b12 => ?_))
                    refine RunR.step (dst := some 55) (op := .call { callee := .builtin .append, args := #[.tmp 52, .tmp 54], argTypes := #[33, 33] }) (by kernel_rfl) (Step.append_strs hU 9 16 (.string ⟨#[]⟩) 1 0 A5 zs.length c5 zs (some ⟨b12, 0, none⟩) 1 1 (row 9 1 (.slice (some ⟨b12, 0, none⟩) 1 1) 1 (strV ([ByteArray.extract s ((f).toNat) ((i).toNat)] : List ByteArray))) ([ByteArray.extract s ((f).toNat) ((i).toNat)] : List ByteArray) (by kernel_rfl) (by kernel_rfl) (by kernel_rfl) (by kernel_rfl) (by kernel_rfl) (by kernel_rfl) (by kernel_rfl) (tells_row _ _ _ _ _ _) (by first | rfl | omega | (simp only [List.length_cons, List.length_nil] at *; omega)) (by first | rfl | omega | (simp only [List.length_cons, List.length_nil] at *; omega)) (by first | rfl | omega | (simp only [List.length_cons, List.length_nil] at *; omega)) (by first | rfl | omega | (simp only [List.length_cons, List.length_nil] at *; omega)) (by kernel_rfl) (fun Aq13 cq14 hc15 hA16 => ?_))
                    have hl17 : (zs ++ ([ByteArray.extract s ((f).toNat) ((i).toNat)] : List ByteArray)).length = zs.length + ([ByteArray.extract s ((f).toNat) ((i).toNat)] : List ByteArray).length := List.length_append
                    simp only [List.length_cons, List.length_nil] at hl17
                    refine RunR.sil hU [] 1 5 [0, 4, 5, 6] [(0, .string s), (4, .slice Aq13 ((zs ++ ([ByteArray.extract s ((f).toNat) ((i).toNat)] : List ByteArray)).length) cq14), (5, .int .i64 (i + 1)), (6, .int .i64 i)] ((True) ∧ True) rfl (by kernel_rfl) ⟨trivial, trivial⟩ ?_
                    refine RunR.done (by kernel_rfl) ?_
                    refine kblock_n ?_
                    refine kseq_n ?_
                    refine RunC.region ?_
                    refine RunR.sil hU [1] 3 3 [0, 4, 5, 6] [(0, .string s), (4, .slice Aq13 ((zs ++ ([ByteArray.extract s ((f).toNat) ((i).toNat)] : List ByteArray)).length) cq14), (5, .int .i64 (i + 1)), (6, .int .i64 (i + 1))] ((True) ∧ (-9223372036854775808 ≤ (i + 1) ∧ (i + 1) < 9223372036854775808) ∧ (True) ∧ True) rfl (by kernel_rfl) ⟨trivial, (by omega), trivial, trivial⟩ ?_
                    refine RunR.done (by kernel_rfl) ?_
                    refine kloop_n _ [0, 4, 5, 6] [0] [(0, .string s), (4, .slice Aq13 ((zs ++ ([ByteArray.extract s ((f).toNat) ((i).toNat)] : List ByteArray)).length) cq14), (5, .int .i64 (i + 1)), (6, .int .i64 (i + 1))] [row 9 1 (.slice Aq13 ((zs ++ ([ByteArray.extract s ((f).toNat) ((i).toNat)] : List ByteArray)).length) cq14) ((zs ++ ([ByteArray.extract s ((f).toNat) ((i).toNat)] : List ByteArray)).length) (strV (zs ++ ([ByteArray.extract s ((f).toNat) ((i).toNat)] : List ByteArray)))] (by kernel_rfl) (by kernel_rfl) ?_ ⟨(zs ++ ([ByteArray.extract s ((f).toNat) ((i).toNat)] : List ByteArray)), Aq13, cq14, (i + 1), (i + 1), (by first | assumption | omega | (simp only [List.length_append, List.length_cons, List.length_nil, List.length_set, List.length_replicate, List.length_take, List.length_drop]; omega) | (simp only [fits] at *; omega) | (simp only [List.length_append, List.length_cons, List.length_nil, List.length_set, List.length_replicate, List.length_take, List.length_drop] at *; omega) | (simp; done) | decide), (by first | assumption | omega | (simp only [List.length_append, List.length_cons, List.length_nil, List.length_set, List.length_replicate, List.length_take, List.length_drop]; omega) | (simp only [fits] at *; omega) | (simp only [List.length_append, List.length_cons, List.length_nil, List.length_set, List.length_replicate, List.length_take, List.length_drop] at *; omega) | (simp; done) | decide), (by first | exact rp_skip hR (by omega) (by omega) (by assumption) | exact rp_drop hR (by omega) (by omega) (fun h => by first | (exfalso; omega) | assumption)  (.inl (by assumption)) | exact rp_drop hR (by omega) (by omega) (fun h => by first | (exfalso; omega) | assumption)  (.inr (by assumption)) | exact rp_keep hR (by omega) (by omega) (fun h => by first | (exfalso; omega) | assumption)  (by assumption) (by assumption)), (by first | assumption | exact hM.snoc (by assumption)), (by first | assumption | omega | (simp only [List.length_append, List.length_cons, List.length_nil, List.length_set, List.length_replicate, List.length_take, List.length_drop]; omega) | (simp only [fits] at *; omega) | (simp only [List.length_append, List.length_cons, List.length_nil, List.length_set, List.length_replicate, List.length_take, List.length_drop] at *; omega) | (simp; done) | decide), (fun h => hA16 (by first | exact h | (simp at h ⊢; omega))), (by first | assumption | omega | (simp only [List.length_append, List.length_cons, List.length_nil, List.length_set, List.length_replicate, List.length_take, List.length_drop]; omega) | (simp only [fits] at *; omega) | (simp only [List.length_append, List.length_cons, List.length_nil, List.length_set, List.length_replicate, List.length_take, List.length_drop] at *; omega) | (simp; done) | decide), rfl, (by first | rfl | simp only [List.length_set]), (by first | rfl | simp only [List.length_set])⟩
                    show (((s : ByteArray).size + 1 - (i + 1)).toNat : Nat) < (((s : ByteArray).size + 1 - i).toNat : Nat)
                    omega
                · skip
                  refine RunR.enveq [(0, .string s), (4, .slice A5 zs.length c5), (5, .int .i64 (i + 1)), (6, .int .i64 i), (7, .string (ByteArray.extract s ((f).toNat) ((i).toNat))), (47, .bool true)] (by rw [decide_eq_false h10]; try rfl) ?_
                  refine RunR.sil hU [] 4 8 [0, 4, 5, 6, 7, 51] [(0, .string s), (4, .slice A5 zs.length c5), (5, .int .i64 (i + 1)), (6, .int .i64 i), (7, .string (ByteArray.extract s ((f).toNat) ((i).toNat))), (51, .bool true)] ((True) ∧ True) rfl (by kernel_rfl) ⟨trivial, trivial⟩ ?_
                  refine RunR.done (by kernel_rfl) ?_
                  refine kseq_n ?_
                  refine RunC.cond (b := true) (by kernel_rfl) (fun _ => ?_) (fun h => by cases h)
                  refine RunC.seq ?_
                  refine RunC.region ?_
                  refine RunR.sil hU [] 2 2 [0, 2, 3, 4, 5, 6, 7] [(0, .string s), (2, .slice none 0 0), (3, .int .i64 12), (4, .slice A5 zs.length c5), (5, .int .i64 (i + 1)), (6, .int .i64 i), (7, .string (ByteArray.extract s ((f).toNat) ((i).toNat)))] ((True) ∧ (True) ∧ True) rfl (by kernel_rfl) ⟨trivial, trivial, trivial⟩ ?_
                  refine RunR.done (by kernel_rfl) ?_
                  refine kseq_n ?_
                  refine RunC.ret ?_
                  refine kseq_r ?_
                  refine kblock_r ?_
                  refine kseq_r ?_
                  refine kloop_r ?_
                  refine kblock_r ?_
                  refine kseq_r ?_
                  refine kret_rt ([row 9 1 (.slice none 0 0) 0 (strV ([] : List ByteArray)), row 9 1 (.slice A5 zs.length c5) zs.length (strV zs)]) (fun w0 W w hs => (hs).nil_row 9 1) [.slice none 0 0, .int .i64 12] [0] [row 9 1 (.slice none 0 0) 0 (strV ([] : List ByteArray))] ⟨rfl, rfl, trivial⟩ (by kernel_rfl) rfl ⟨none, 0, ([] : List ByteArray), 12, rfl, rfl, (by first | exact pr_head ((head_iff s).2 ((head_get (by assumption)).2 (by assumption))) | exact rp_bad hR (by omega) (by omega) (fun h => by first | (exfalso; omega) | assumption)  (by assumption) (by assumption) (by first | exact .inl (by assumption) | exact .inr (by omega)) | exact rp_end hR (by omega) hM hl (by first | exact head_nil (by assumption) | exact fun g => absurd ((head_get (by assumption)).1 g) (by assumption))), (by first | assumption | (intro h; simp at h)), (by first | assumption | exact Nat.zero_le _)⟩
        · skip
          refine RunR.enveq [(0, .string s), (4, .slice A5 zs.length c5), (5, .int .i64 f), (6, .int .i64 i), (26, .bool false)] (by rw [decide_eq_false h5]; try rfl) ?_
          refine RunR.sil hU [] 5 10 [0, 4, 5, 6, 31] [(0, .string s), (4, .slice A5 zs.length c5), (5, .int .i64 f), (6, .int .i64 i), (31, .bool false)] ((True) ∧ True) rfl (by kernel_rfl) ⟨trivial, trivial⟩ ?_
          refine RunR.done (by kernel_rfl) ?_
          refine kseq_n ?_
          refine RunC.cond (b := false) (by kernel_rfl) (fun h => by cases h) (fun _ => ?_)
          refine RunC.skip ?_
          refine kseq_n ?_
          refine RunC.seq ?_
          refine RunC.region ?_
          refine RunR.sil hU [] 5 5 [0, 4, 5, 6, 7] [(0, .string s), (4, .slice A5 zs.length c5), (5, .int .i64 f), (6, .int .i64 i), (7, .string (ByteArray.extract s ((f).toNat) ((i).toNat)))] ((True) ∧ (True) ∧ (True) ∧ (0 ≤ f ∧ f ≤ i ∧ i ≤ (s : ByteArray).size) ∧ (True) ∧ True) rfl (by kernel_rfl) ⟨trivial, trivial, trivial, (by omega), trivial, trivial⟩ ?_
          refine RunR.done (by kernel_rfl) ?_
          refine kseq_n ?_
          refine RunC.seq ?_
          refine RunC.region ?_
          refine RunR.sil hU [1] 3 3 [0, 4, 5, 6, 7] [(0, .string s), (4, .slice A5 zs.length c5), (5, .int .i64 (i + 1)), (6, .int .i64 i), (7, .string (ByteArray.extract s ((f).toNat) ((i).toNat)))] ((True) ∧ (-9223372036854775808 ≤ (i + 1) ∧ (i + 1) < 9223372036854775808) ∧ (True) ∧ True) rfl (by kernel_rfl) ⟨trivial, (by omega), trivial, trivial⟩ ?_
          refine RunR.done (by kernel_rfl) ?_
          refine kseq_n ?_
          refine RunC.seq ?_
          refine RunC.seq ?_
          refine RunC.region ?_
          refine RunR.sil hU [] 3 3 [0, 4, 5, 6, 7, 40] [(0, .string s), (4, .slice A5 zs.length c5), (5, .int .i64 (i + 1)), (6, .int .i64 i), (7, .string (ByteArray.extract s ((f).toNat) ((i).toNat))), (40, .bool (decide ((ByteArray.extract s ((f).toNat) ((i).toNat)) = ⟨#[]⟩)))] ((True) ∧ (True) ∧ (True) ∧ True) rfl (by kernel_rfl) ⟨trivial, trivial, trivial, trivial⟩ ?_
          refine RunR.env [0, 4, 5, 6, 7, 40] [(0, .string s), (4, .slice A5 zs.length c5), (5, .int .i64 (i + 1)), (6, .int .i64 i), (7, .string (ByteArray.extract s ((f).toNat) ((i).toNat))), (40, .bool (decide ((ByteArray.extract s ((f).toNat) ((i).toNat)) = ⟨#[]⟩)))] (by kernel_rfl) ?_
          by_cases h18 : (ByteArray.extract s ((f).toNat) ((i).toNat)) = ⟨#[]⟩
          · skip
            refine RunR.enveq [(0, .string s), (4, .slice A5 zs.length c5), (5, .int .i64 (i + 1)), (6, .int .i64 i), (7, .string (ByteArray.extract s ((f).toNat) ((i).toNat))), (40, .bool true)] (by rw [decide_eq_true h18]; try rfl) ?_
            refine RunR.sil hU [] 3 6 [0, 4, 5, 6, 7, 43] [(0, .string s), (4, .slice A5 zs.length c5), (5, .int .i64 (i + 1)), (6, .int .i64 i), (7, .string (ByteArray.extract s ((f).toNat) ((i).toNat))), (43, .bool true)] ((True) ∧ True) rfl (by kernel_rfl) ⟨trivial, trivial⟩ ?_
            refine RunR.done (by kernel_rfl) ?_
            refine kseq_n ?_
            refine RunC.cond (b := true) (by kernel_rfl) (fun _ => ?_) (fun h => by cases h)
            refine RunC.exit ?_
            refine kseq_e ?_
            refine kblock_e ?_
            refine kseq_n ?_
            refine RunC.region ?_
            refine RunR.sil hU [1] 3 3 [0, 4, 5, 6] [(0, .string s), (4, .slice A5 zs.length c5), (5, .int .i64 (i + 1)), (6, .int .i64 (i + 1))] ((True) ∧ (-9223372036854775808 ≤ (i + 1) ∧ (i + 1) < 9223372036854775808) ∧ (True) ∧ True) rfl (by kernel_rfl) ⟨trivial, (by omega), trivial, trivial⟩ ?_
            refine RunR.done (by kernel_rfl) ?_
            refine kloop_n _ [0, 4, 5, 6] [0] [(0, .string s), (4, .slice A5 zs.length c5), (5, .int .i64 (i + 1)), (6, .int .i64 (i + 1))] [row 9 1 (.slice A5 zs.length c5) zs.length (strV zs)] (by kernel_rfl) (by kernel_rfl) ?_ ⟨zs, A5, c5, (i + 1), (i + 1), (by first | assumption | omega | (simp only [List.length_append, List.length_cons, List.length_nil, List.length_set, List.length_replicate, List.length_take, List.length_drop]; omega) | (simp only [fits] at *; omega) | (simp only [List.length_append, List.length_cons, List.length_nil, List.length_set, List.length_replicate, List.length_take, List.length_drop] at *; omega) | (simp; done) | decide), (by first | assumption | omega | (simp only [List.length_append, List.length_cons, List.length_nil, List.length_set, List.length_replicate, List.length_take, List.length_drop]; omega) | (simp only [fits] at *; omega) | (simp only [List.length_append, List.length_cons, List.length_nil, List.length_set, List.length_replicate, List.length_take, List.length_drop] at *; omega) | (simp; done) | decide), (by first | exact rp_skip hR (by omega) (by omega) (by assumption) | exact rp_drop hR (by omega) (by omega) (fun h => by first | (exfalso; omega) | assumption)  (.inl (by assumption)) | exact rp_drop hR (by omega) (by omega) (fun h => by first | (exfalso; omega) | assumption)  (.inr (by assumption)) | exact rp_keep hR (by omega) (by omega) (fun h => by first | (exfalso; omega) | assumption)  (by assumption) (by assumption)), (by first | assumption | exact hM.snoc (by assumption)), (by first | assumption | omega | (simp only [List.length_append, List.length_cons, List.length_nil, List.length_set, List.length_replicate, List.length_take, List.length_drop]; omega) | (simp only [fits] at *; omega) | (simp only [List.length_append, List.length_cons, List.length_nil, List.length_set, List.length_replicate, List.length_take, List.length_drop] at *; omega) | (simp; done) | decide), (fun h => hA5 (by first | exact h | (simp at h ⊢; omega))), (by first | assumption | omega | (simp only [List.length_append, List.length_cons, List.length_nil, List.length_set, List.length_replicate, List.length_take, List.length_drop]; omega) | (simp only [fits] at *; omega) | (simp only [List.length_append, List.length_cons, List.length_nil, List.length_set, List.length_replicate, List.length_take, List.length_drop] at *; omega) | (simp; done) | decide), rfl, (by first | rfl | simp only [List.length_set]), (by first | rfl | simp only [List.length_set])⟩
            show (((s : ByteArray).size + 1 - (i + 1)).toNat : Nat) < (((s : ByteArray).size + 1 - i).toNat : Nat)
            omega
          · skip
            refine RunR.enveq [(0, .string s), (4, .slice A5 zs.length c5), (5, .int .i64 (i + 1)), (6, .int .i64 i), (7, .string (ByteArray.extract s ((f).toNat) ((i).toNat))), (40, .bool false)] (by rw [decide_eq_false h18]; try rfl) ?_
            refine RunR.sil hU [] 3 6 [0, 4, 5, 6, 7, 43] [(0, .string s), (4, .slice A5 zs.length c5), (5, .int .i64 (i + 1)), (6, .int .i64 i), (7, .string (ByteArray.extract s ((f).toNat) ((i).toNat))), (43, .bool (decide ((ByteArray.extract s ((f).toNat) ((i).toNat)) = ⟨#[46]⟩)))] ((True) ∧ (True) ∧ (True) ∧ True) rfl (by kernel_rfl) ⟨trivial, trivial, trivial, trivial⟩ ?_
            refine RunR.done (by kernel_rfl) ?_
            refine kseq_n ?_
            refine RunC.condp ((ByteArray.extract s ((f).toNat) ((i).toNat)) = ⟨#[46]⟩) (by kernel_rfl) (fun h19 => ?_) (fun h19 => ?_)
            · skip
              refine RunC.exit ?_
              refine kseq_e ?_
              refine kblock_e ?_
              refine kseq_n ?_
              refine RunC.region ?_
              refine RunR.sil hU [1] 3 3 [0, 4, 5, 6] [(0, .string s), (4, .slice A5 zs.length c5), (5, .int .i64 (i + 1)), (6, .int .i64 (i + 1))] ((True) ∧ (-9223372036854775808 ≤ (i + 1) ∧ (i + 1) < 9223372036854775808) ∧ (True) ∧ True) rfl (by kernel_rfl) ⟨trivial, (by omega), trivial, trivial⟩ ?_
              refine RunR.done (by kernel_rfl) ?_
              refine kloop_n _ [0, 4, 5, 6] [0] [(0, .string s), (4, .slice A5 zs.length c5), (5, .int .i64 (i + 1)), (6, .int .i64 (i + 1))] [row 9 1 (.slice A5 zs.length c5) zs.length (strV zs)] (by kernel_rfl) (by kernel_rfl) ?_ ⟨zs, A5, c5, (i + 1), (i + 1), (by first | assumption | omega | (simp only [List.length_append, List.length_cons, List.length_nil, List.length_set, List.length_replicate, List.length_take, List.length_drop]; omega) | (simp only [fits] at *; omega) | (simp only [List.length_append, List.length_cons, List.length_nil, List.length_set, List.length_replicate, List.length_take, List.length_drop] at *; omega) | (simp; done) | decide), (by first | assumption | omega | (simp only [List.length_append, List.length_cons, List.length_nil, List.length_set, List.length_replicate, List.length_take, List.length_drop]; omega) | (simp only [fits] at *; omega) | (simp only [List.length_append, List.length_cons, List.length_nil, List.length_set, List.length_replicate, List.length_take, List.length_drop] at *; omega) | (simp; done) | decide), (by first | exact rp_skip hR (by omega) (by omega) (by assumption) | exact rp_drop hR (by omega) (by omega) (fun h => by first | (exfalso; omega) | assumption)  (.inl (by assumption)) | exact rp_drop hR (by omega) (by omega) (fun h => by first | (exfalso; omega) | assumption)  (.inr (by assumption)) | exact rp_keep hR (by omega) (by omega) (fun h => by first | (exfalso; omega) | assumption)  (by assumption) (by assumption)), (by first | assumption | exact hM.snoc (by assumption)), (by first | assumption | omega | (simp only [List.length_append, List.length_cons, List.length_nil, List.length_set, List.length_replicate, List.length_take, List.length_drop]; omega) | (simp only [fits] at *; omega) | (simp only [List.length_append, List.length_cons, List.length_nil, List.length_set, List.length_replicate, List.length_take, List.length_drop] at *; omega) | (simp; done) | decide), (fun h => hA5 (by first | exact h | (simp at h ⊢; omega))), (by first | assumption | omega | (simp only [List.length_append, List.length_cons, List.length_nil, List.length_set, List.length_replicate, List.length_take, List.length_drop]; omega) | (simp only [fits] at *; omega) | (simp only [List.length_append, List.length_cons, List.length_nil, List.length_set, List.length_replicate, List.length_take, List.length_drop] at *; omega) | (simp; done) | decide), rfl, (by first | rfl | simp only [List.length_set]), (by first | rfl | simp only [List.length_set])⟩
              show (((s : ByteArray).size + 1 - (i + 1)).toNat : Nat) < (((s : ByteArray).size + 1 - i).toNat : Nat)
              omega
            · skip
              refine RunC.skip ?_
              refine kseq_n ?_
              refine RunC.seq ?_
              refine RunC.seq ?_
              refine RunC.region ?_
              refine RunR.sil hU [] 1 1 [0, 4, 5, 6, 7, 44] [(0, .string s), (4, .slice A5 zs.length c5), (5, .int .i64 (i + 1)), (6, .int .i64 i), (7, .string (ByteArray.extract s ((f).toNat) ((i).toNat))), (44, .string (ByteArray.extract s ((f).toNat) ((i).toNat)))] ((True) ∧ True) rfl (by kernel_rfl) ⟨trivial, trivial⟩ ?_
              refine RunR.step (dst := some 45) (op := .call { callee := .value (.func 34), args := #[.tmp 44], argTypes := #[9] }) (by kernel_rfl) (Step.call 34 [.string (ByteArray.extract s ((f).toNat) ((i).toNat))] (by kernel_rfl) (by kernel_rfl) [] [] [row 9 1 (.slice A5 zs.length c5) zs.length (strV zs)] (pr_may_spec (ByteArray.extract s ((f).toNat) ((i).toNat)) (by exact ext_bd (by omega))) [] (by kernel_rfl) (Lend.nil _) ?_)
              rintro _ _ ⟨rfl, rfl⟩
              refine RunR.sil hU [] 2 4 [0, 4, 5, 6, 7, 47] [(0, .string s), (4, .slice A5 zs.length c5), (5, .int .i64 (i + 1)), (6, .int .i64 i), (7, .string (ByteArray.extract s ((f).toNat) ((i).toNat))), (47, .bool (!decide (mayP (sb (ByteArray.extract s ((f).toNat) ((i).toNat))))))] ((True) ∧ (True) ∧ True) rfl (by kernel_rfl) ⟨trivial, trivial, trivial⟩ ?_
              refine RunR.env [0, 4, 5, 6, 7, 47] [(0, .string s), (4, .slice A5 zs.length c5), (5, .int .i64 (i + 1)), (6, .int .i64 i), (7, .string (ByteArray.extract s ((f).toNat) ((i).toNat))), (47, .bool (!decide (mayP (sb (ByteArray.extract s ((f).toNat) ((i).toNat))))))] (by kernel_rfl) ?_
              by_cases h20 : mayP (sb (ByteArray.extract s ((f).toNat) ((i).toNat)))
              · skip
                refine RunR.enveq [(0, .string s), (4, .slice A5 zs.length c5), (5, .int .i64 (i + 1)), (6, .int .i64 i), (7, .string (ByteArray.extract s ((f).toNat) ((i).toNat))), (47, .bool false)] (by rw [decide_eq_true h20]; try rfl) ?_
                refine RunR.sil hU [] 4 8 [0, 4, 5, 6, 7, 51] [(0, .string s), (4, .slice A5 zs.length c5), (5, .int .i64 (i + 1)), (6, .int .i64 i), (7, .string (ByteArray.extract s ((f).toNat) ((i).toNat))), (51, .bool (decide (((zs.length : Nat) : Int) ≥ 32)))] ((True) ∧ (True) ∧ (True) ∧ (True) ∧ True) rfl (by kernel_rfl) ⟨trivial, trivial, trivial, trivial, trivial⟩ ?_
                refine RunR.done (by kernel_rfl) ?_
                refine kseq_n ?_
                refine RunC.condp (((zs.length : Nat) : Int) ≥ 32) (by kernel_rfl) (fun h21 => ?_) (fun h21 => ?_)
                · skip
                  refine RunC.seq ?_
                  refine RunC.region ?_
                  refine RunR.sil hU [] 2 2 [0, 2, 3, 4, 5, 6, 7] [(0, .string s), (2, .slice none 0 0), (3, .int .i64 12), (4, .slice A5 zs.length c5), (5, .int .i64 (i + 1)), (6, .int .i64 i), (7, .string (ByteArray.extract s ((f).toNat) ((i).toNat)))] ((True) ∧ (True) ∧ True) rfl (by kernel_rfl) ⟨trivial, trivial, trivial⟩ ?_
                  refine RunR.done (by kernel_rfl) ?_
                  refine kseq_n ?_
                  refine RunC.ret ?_
                  refine kseq_r ?_
                  refine kblock_r ?_
                  refine kseq_r ?_
                  refine kloop_r ?_
                  refine kblock_r ?_
                  refine kseq_r ?_
                  refine kret_rt ([row 9 1 (.slice none 0 0) 0 (strV ([] : List ByteArray)), row 9 1 (.slice A5 zs.length c5) zs.length (strV zs)]) (fun w0 W w hs => (hs).nil_row 9 1) [.slice none 0 0, .int .i64 12] [0] [row 9 1 (.slice none 0 0) 0 (strV ([] : List ByteArray))] ⟨rfl, rfl, trivial⟩ (by kernel_rfl) rfl ⟨none, 0, ([] : List ByteArray), 12, rfl, rfl, (by first | exact pr_head ((head_iff s).2 ((head_get (by assumption)).2 (by assumption))) | exact rp_bad hR (by omega) (by omega) (fun h => by first | (exfalso; omega) | assumption)  (by assumption) (by assumption) (by first | exact .inl (by assumption) | exact .inr (by omega)) | exact rp_end hR (by omega) hM hl (by first | exact head_nil (by assumption) | exact fun g => absurd ((head_get (by assumption)).1 g) (by assumption))), (by first | assumption | (intro h; simp at h)), (by first | assumption | exact Nat.zero_le _)⟩
                · skip
                  refine RunC.skip ?_
                  refine kseq_n ?_
                  refine RunC.region ?_
                  refine RunR.sil hU [] 2 2 [0, 4, 5, 6, 52, 53] [(0, .string s), (4, .slice A5 zs.length c5), (5, .int .i64 (i + 1)), (6, .int .i64 i), (52, .slice A5 zs.length c5), (53, .string (ByteArray.extract s ((f).toNat) ((i).toNat)))] ((True) ∧ (True) ∧ True) rfl (by kernel_rfl) ⟨trivial, trivial, trivial⟩ ?_
                  refine RunR.step (dst := some 54) (op := .buildSlice 33 1 #[(0, .tmp 53)]) (by kernel_rfl) (Step.lit_vals hU 9 16 (.string ⟨#[]⟩) (strV ([ByteArray.extract s ((f).toNat) ((i).toNat)] : List ByteArray)) (by kernel_rfl) (by kernel_rfl) (by kernel_rfl) (by simp [strV, Value.cells]) rfl rfl (by kernel_rfl) (fun b22 => ?_))
                  refine RunR.step (dst := some 55) (op := .call { callee := .builtin .append, args := #[.tmp 52, .tmp 54], argTypes := #[33, 33] }) (by kernel_rfl) (Step.append_strs hU 9 16 (.string ⟨#[]⟩) 1 0 A5 zs.length c5 zs (some ⟨b22, 0, none⟩) 1 1 (row 9 1 (.slice (some ⟨b22, 0, none⟩) 1 1) 1 (strV ([ByteArray.extract s ((f).toNat) ((i).toNat)] : List ByteArray))) ([ByteArray.extract s ((f).toNat) ((i).toNat)] : List ByteArray) (by kernel_rfl) (by kernel_rfl) (by kernel_rfl) (by kernel_rfl) (by kernel_rfl) (by kernel_rfl) (by kernel_rfl) (tells_row _ _ _ _ _ _) (by first | rfl | omega | (simp only [List.length_cons, List.length_nil] at *; omega)) (by first | rfl | omega | (simp only [List.length_cons, List.length_nil] at *; omega)) (by first | rfl | omega | (simp only [List.length_cons, List.length_nil] at *; omega)) (by first | rfl | omega | (simp only [List.length_cons, List.length_nil] at *; omega)) (by kernel_rfl) (fun Aq23 cq24 hc25 hA26 => ?_))
                  have hl27 : (zs ++ ([ByteArray.extract s ((f).toNat) ((i).toNat)] : List ByteArray)).length = zs.length + ([ByteArray.extract s ((f).toNat) ((i).toNat)] : List ByteArray).length := List.length_append
                  simp only [List.length_cons, List.length_nil] at hl27
                  refine RunR.sil hU [] 1 5 [0, 4, 5, 6] [(0, .string s), (4, .slice Aq23 ((zs ++ ([ByteArray.extract s ((f).toNat) ((i).toNat)] : List ByteArray)).length) cq24), (5, .int .i64 (i + 1)), (6, .int .i64 i)] ((True) ∧ True) rfl (by kernel_rfl) ⟨trivial, trivial⟩ ?_
                  refine RunR.done (by kernel_rfl) ?_
                  refine kblock_n ?_
                  refine kseq_n ?_
                  refine RunC.region ?_
                  refine RunR.sil hU [1] 3 3 [0, 4, 5, 6] [(0, .string s), (4, .slice Aq23 ((zs ++ ([ByteArray.extract s ((f).toNat) ((i).toNat)] : List ByteArray)).length) cq24), (5, .int .i64 (i + 1)), (6, .int .i64 (i + 1))] ((True) ∧ (-9223372036854775808 ≤ (i + 1) ∧ (i + 1) < 9223372036854775808) ∧ (True) ∧ True) rfl (by kernel_rfl) ⟨trivial, (by omega), trivial, trivial⟩ ?_
                  refine RunR.done (by kernel_rfl) ?_
                  refine kloop_n _ [0, 4, 5, 6] [0] [(0, .string s), (4, .slice Aq23 ((zs ++ ([ByteArray.extract s ((f).toNat) ((i).toNat)] : List ByteArray)).length) cq24), (5, .int .i64 (i + 1)), (6, .int .i64 (i + 1))] [row 9 1 (.slice Aq23 ((zs ++ ([ByteArray.extract s ((f).toNat) ((i).toNat)] : List ByteArray)).length) cq24) ((zs ++ ([ByteArray.extract s ((f).toNat) ((i).toNat)] : List ByteArray)).length) (strV (zs ++ ([ByteArray.extract s ((f).toNat) ((i).toNat)] : List ByteArray)))] (by kernel_rfl) (by kernel_rfl) ?_ ⟨(zs ++ ([ByteArray.extract s ((f).toNat) ((i).toNat)] : List ByteArray)), Aq23, cq24, (i + 1), (i + 1), (by first | assumption | omega | (simp only [List.length_append, List.length_cons, List.length_nil, List.length_set, List.length_replicate, List.length_take, List.length_drop]; omega) | (simp only [fits] at *; omega) | (simp only [List.length_append, List.length_cons, List.length_nil, List.length_set, List.length_replicate, List.length_take, List.length_drop] at *; omega) | (simp; done) | decide), (by first | assumption | omega | (simp only [List.length_append, List.length_cons, List.length_nil, List.length_set, List.length_replicate, List.length_take, List.length_drop]; omega) | (simp only [fits] at *; omega) | (simp only [List.length_append, List.length_cons, List.length_nil, List.length_set, List.length_replicate, List.length_take, List.length_drop] at *; omega) | (simp; done) | decide), (by first | exact rp_skip hR (by omega) (by omega) (by assumption) | exact rp_drop hR (by omega) (by omega) (fun h => by first | (exfalso; omega) | assumption)  (.inl (by assumption)) | exact rp_drop hR (by omega) (by omega) (fun h => by first | (exfalso; omega) | assumption)  (.inr (by assumption)) | exact rp_keep hR (by omega) (by omega) (fun h => by first | (exfalso; omega) | assumption)  (by assumption) (by assumption)), (by first | assumption | exact hM.snoc (by assumption)), (by first | assumption | omega | (simp only [List.length_append, List.length_cons, List.length_nil, List.length_set, List.length_replicate, List.length_take, List.length_drop]; omega) | (simp only [fits] at *; omega) | (simp only [List.length_append, List.length_cons, List.length_nil, List.length_set, List.length_replicate, List.length_take, List.length_drop] at *; omega) | (simp; done) | decide), (fun h => hA26 (by first | exact h | (simp at h ⊢; omega))), (by first | assumption | omega | (simp only [List.length_append, List.length_cons, List.length_nil, List.length_set, List.length_replicate, List.length_take, List.length_drop]; omega) | (simp only [fits] at *; omega) | (simp only [List.length_append, List.length_cons, List.length_nil, List.length_set, List.length_replicate, List.length_take, List.length_drop] at *; omega) | (simp; done) | decide), rfl, (by first | rfl | simp only [List.length_set]), (by first | rfl | simp only [List.length_set])⟩
                  show (((s : ByteArray).size + 1 - (i + 1)).toNat : Nat) < (((s : ByteArray).size + 1 - i).toNat : Nat)
                  omega
              · skip
                refine RunR.enveq [(0, .string s), (4, .slice A5 zs.length c5), (5, .int .i64 (i + 1)), (6, .int .i64 i), (7, .string (ByteArray.extract s ((f).toNat) ((i).toNat))), (47, .bool true)] (by rw [decide_eq_false h20]; try rfl) ?_
                refine RunR.sil hU [] 4 8 [0, 4, 5, 6, 7, 51] [(0, .string s), (4, .slice A5 zs.length c5), (5, .int .i64 (i + 1)), (6, .int .i64 i), (7, .string (ByteArray.extract s ((f).toNat) ((i).toNat))), (51, .bool true)] ((True) ∧ True) rfl (by kernel_rfl) ⟨trivial, trivial⟩ ?_
                refine RunR.done (by kernel_rfl) ?_
                refine kseq_n ?_
                refine RunC.cond (b := true) (by kernel_rfl) (fun _ => ?_) (fun h => by cases h)
                refine RunC.seq ?_
                refine RunC.region ?_
                refine RunR.sil hU [] 2 2 [0, 2, 3, 4, 5, 6, 7] [(0, .string s), (2, .slice none 0 0), (3, .int .i64 12), (4, .slice A5 zs.length c5), (5, .int .i64 (i + 1)), (6, .int .i64 i), (7, .string (ByteArray.extract s ((f).toNat) ((i).toNat)))] ((True) ∧ (True) ∧ True) rfl (by kernel_rfl) ⟨trivial, trivial, trivial⟩ ?_
                refine RunR.done (by kernel_rfl) ?_
                refine kseq_n ?_
                refine RunC.ret ?_
                refine kseq_r ?_
                refine kblock_r ?_
                refine kseq_r ?_
                refine kloop_r ?_
                refine kblock_r ?_
                refine kseq_r ?_
                refine kret_rt ([row 9 1 (.slice none 0 0) 0 (strV ([] : List ByteArray)), row 9 1 (.slice A5 zs.length c5) zs.length (strV zs)]) (fun w0 W w hs => (hs).nil_row 9 1) [.slice none 0 0, .int .i64 12] [0] [row 9 1 (.slice none 0 0) 0 (strV ([] : List ByteArray))] ⟨rfl, rfl, trivial⟩ (by kernel_rfl) rfl ⟨none, 0, ([] : List ByteArray), 12, rfl, rfl, (by first | exact pr_head ((head_iff s).2 ((head_get (by assumption)).2 (by assumption))) | exact rp_bad hR (by omega) (by omega) (fun h => by first | (exfalso; omega) | assumption)  (by assumption) (by assumption) (by first | exact .inl (by assumption) | exact .inr (by omega)) | exact rp_end hR (by omega) hM hl (by first | exact head_nil (by assumption) | exact fun g => absurd ((head_get (by assumption)).1 g) (by assumption))), (by first | assumption | (intro h; simp at h)), (by first | assumption | exact Nat.zero_le _)⟩
      · skip
        refine RunC.exit ?_
        refine kseq_e ?_
        refine kloop_e ?_
        refine kblock_e ?_
        refine kseq_n ?_
        refine RunC.seq ?_
        refine RunC.region ?_
        refine RunR.sil hU [] 3 3 [2, 3] [(2, .slice A5 zs.length c5), (3, .int .i64 0)] ((True) ∧ (True) ∧ (True) ∧ True) rfl (by kernel_rfl) ⟨trivial, trivial, trivial, trivial⟩ ?_
        refine RunR.done (by kernel_rfl) ?_
        refine kseq_n ?_
        refine RunC.ret ?_
        refine kret_r [.slice A5 zs.length c5, .int .i64 0] [0] [row 9 1 (.slice A5 zs.length c5) zs.length (strV zs)] ⟨rfl, rfl, trivial⟩ (by kernel_rfl) rfl ⟨A5, c5, zs, 0, rfl, rfl, (by first | exact pr_head ((head_iff s).2 ((head_get (by assumption)).2 (by assumption))) | exact rp_bad hR (by omega) (by omega) (fun h => by first | (exfalso; omega) | assumption)  (by assumption) (by assumption) (by first | exact .inl (by assumption) | exact .inr (by omega)) | exact rp_end hR (by omega) hM hl (by first | exact head_nil (by assumption) | exact fun g => absurd ((head_get (by assumption)).1 g) (by assumption))), (by first | assumption | (intro h; simp at h)), (by first | assumption | exact Nat.zero_le _)⟩
  · skip
    refine RunR.enveq [(0, .string s), (2, .slice none 0 0), (3, .int .i64 0), (11, .bool false)] (by rw [decide_eq_false h1]; try rfl) ?_
    refine RunR.sil hU [] 4 8 [0, 2, 3, 15] [(0, .string s), (2, .slice none 0 0), (3, .int .i64 0), (15, .bool false)] ((True) ∧ True) rfl (by kernel_rfl) ⟨trivial, trivial⟩ ?_
    refine RunR.done (by kernel_rfl) ?_
    refine kseq_n ?_
    refine RunC.cond (b := false) (by kernel_rfl) (fun h => by cases h) (fun _ => ?_)
    refine RunC.skip ?_
    refine kseq_n ?_
    refine RunC.seq ?_
    refine RunC.region ?_
    refine RunR.sil hU [] 1 1 [0, 2, 3, 4] [(0, .string s), (2, .slice none 0 0), (3, .int .i64 0), (4, .slice none 0 0)] ((True) ∧ True) rfl (by kernel_rfl) ⟨trivial, trivial⟩ ?_
    refine RunR.done (by kernel_rfl) ?_
    refine kseq_n ?_
    refine RunC.seq ?_
    refine RunC.region ?_
    refine RunR.sil hU [] 1 1 [0, 2, 3, 4, 5] [(0, .string s), (2, .slice none 0 0), (3, .int .i64 0), (4, .slice none 0 0), (5, .int .i64 0)] ((True) ∧ True) rfl (by kernel_rfl) ⟨trivial, trivial⟩ ?_
    refine RunR.done (by kernel_rfl) ?_
    refine kseq_n ?_
    refine RunC.seq ?_
    refine RunC.seq ?_
    refine RunC.region ?_
    refine RunR.sil hU [] 1 1 [0, 2, 3, 4, 5, 6] [(0, .string s), (2, .slice none 0 0), (3, .int .i64 0), (4, .slice none 0 0), (5, .int .i64 0), (6, .int .i64 0)] ((True) ∧ True) rfl (by kernel_rfl) ⟨trivial, trivial⟩ ?_
    refine RunR.done (by kernel_rfl) ?_
    refine kseq_n ?_
    refine RunC.block ?_
    refine RunC.turn ([row 9 1 (.slice none 0 0) 0 (strV ([] : List ByteArray))]) (fun _ _ w hs => hs.nil_row 9 1) ?_
    refine RunC.env [0, 4, 5, 6] [(0, .string s), (4, .slice none 0 0), (5, .int .i64 0), (6, .int .i64 0)] (by kernel_rfl) ?_
    refine RunC.only [0] [row 9 1 (.slice none 0 0) 0 (strV ([] : List ByteArray))] (by kernel_rfl) ?_
    refine RunC.loop (σ := Nat) (fun n_ t_ D_ => ∃ (zs : List ByteArray) (A5 : Option Addr) (c5 : Nat) (f : Int) (i : Int), (0 ≤ i ∧ i ≤ ((s : ByteArray).size : Int) + 1) ∧ (0 ≤ f ∧ f ≤ i) ∧ (RPs s zs f i) ∧ (MayAll zs) ∧ (zs.length ≤ 32) ∧ (0 < zs.length → Option.isSome A5 = true) ∧ (zs.length ≤ c5) ∧ n_ = (((s : ByteArray).size + 1 - i).toNat : Nat) ∧ t_ = [(0, .string s), (4, .slice A5 zs.length c5), (5, .int .i64 f), (6, .int .i64 i)] ∧ D_ = [row 9 1 (.slice A5 zs.length c5) zs.length (strV zs)]) id _ ⟨([] : List ByteArray), none, 0, 0, 0, (by first | assumption | omega | (simp only [List.length_append, List.length_cons, List.length_nil, List.length_set, List.length_replicate, List.length_take, List.length_drop]; omega) | (simp only [fits] at *; omega) | (simp only [List.length_append, List.length_cons, List.length_nil, List.length_set, List.length_replicate, List.length_take, List.length_drop] at *; omega) | (simp; done) | decide), (by first | assumption | omega | (simp only [List.length_append, List.length_cons, List.length_nil, List.length_set, List.length_replicate, List.length_take, List.length_drop]; omega) | (simp only [fits] at *; omega) | (simp only [List.length_append, List.length_cons, List.length_nil, List.length_set, List.length_replicate, List.length_take, List.length_drop] at *; omega) | (simp; done) | decide), (by exact rp_0 s), (by exact MayAll.nil), (by exact Nat.zero_le _), (by intro h; simp at h), (by exact Nat.zero_le _), rfl, rfl, rfl⟩ ?_
    rintro n_ _ _ ⟨zs, A5, c5, f, i, hi, hf, hR, hM, hl, hA5, hc5, rfl, rfl, rfl⟩
    refine RunC.seq ?_
    refine RunC.seq ?_
    refine RunC.region ?_
    refine RunR.sil hU [] 4 4 [0, 4, 5, 6, 19] [(0, .string s), (4, .slice A5 zs.length c5), (5, .int .i64 f), (6, .int .i64 i), (19, .bool (decide (i ≤ ((s : ByteArray).size : Int))))] ((True) ∧ (True) ∧ (True) ∧ (True) ∧ True) rfl (by kernel_rfl) ⟨trivial, trivial, trivial, trivial, trivial⟩ ?_
    refine RunR.done (by kernel_rfl) ?_
    refine kseq_n ?_
    refine RunC.condp (i ≤ ((s : ByteArray).size : Int)) (by kernel_rfl) (fun h28 => ?_) (fun h28 => ?_)
    · skip
      refine RunC.skip ?_
      refine kseq_n ?_
      refine RunC.seq ?_
      refine RunC.block ?_
      refine RunC.seq ?_
      refine RunC.seq ?_
      refine RunC.region ?_
      refine RunR.sil hU [] 5 5 [0, 4, 5, 6, 26] [(0, .string s), (4, .slice A5 zs.length c5), (5, .int .i64 f), (6, .int .i64 i), (26, .bool (decide (i < ((s : ByteArray).size : Int))))] ((True) ∧ (True) ∧ (True) ∧ (True) ∧ (True) ∧ True) rfl (by kernel_rfl) ⟨trivial, trivial, trivial, trivial, trivial, trivial⟩ ?_
      refine RunR.env [0, 4, 5, 6, 26] [(0, .string s), (4, .slice A5 zs.length c5), (5, .int .i64 f), (6, .int .i64 i), (26, .bool (decide (i < ((s : ByteArray).size : Int))))] (by kernel_rfl) ?_
      by_cases h29 : i < ((s : ByteArray).size : Int)
      · skip
        refine RunR.enveq [(0, .string s), (4, .slice A5 zs.length c5), (5, .int .i64 f), (6, .int .i64 i), (26, .bool true)] (by rw [decide_eq_true h29]; try rfl) ?_
        have hb30 : 0 ≤ (sb s).getD (i).toNat 0 ∧ (sb s).getD (i).toNat 0 < 256 := (In.sb _).at_ _
        refine RunR.sil hU [] 5 10 [0, 4, 5, 6, 31] [(0, .string s), (4, .slice A5 zs.length c5), (5, .int .i64 f), (6, .int .i64 i), (31, .bool (!decide (((sb s).getD (i).toNat 0) = 47)))] ((True) ∧ (True) ∧ (0 ≤ i ∧ i < (s : ByteArray).size) ∧ (True) ∧ (True) ∧ True) rfl (by kernel_rfl) ⟨trivial, trivial, (by omega), trivial, trivial, trivial⟩ ?_
        refine RunR.done (by kernel_rfl) ?_
        refine kseq_n ?_
        refine RunC.condn (((sb s).getD (i).toNat 0) = 47) (by kernel_rfl) (fun h31 => ?_) (fun h31 => ?_)
        · skip
          refine RunC.exit ?_
          refine kseq_e ?_
          refine kblock_e ?_
          refine kseq_n ?_
          refine RunC.region ?_
          refine RunR.sil hU [1] 3 3 [0, 4, 5, 6] [(0, .string s), (4, .slice A5 zs.length c5), (5, .int .i64 f), (6, .int .i64 (i + 1))] ((True) ∧ (-9223372036854775808 ≤ (i + 1) ∧ (i + 1) < 9223372036854775808) ∧ (True) ∧ True) rfl (by kernel_rfl) ⟨trivial, (by omega), trivial, trivial⟩ ?_
          refine RunR.done (by kernel_rfl) ?_
          refine kloop_n _ [0, 4, 5, 6] [0] [(0, .string s), (4, .slice A5 zs.length c5), (5, .int .i64 f), (6, .int .i64 (i + 1))] [row 9 1 (.slice A5 zs.length c5) zs.length (strV zs)] (by kernel_rfl) (by kernel_rfl) ?_ ⟨zs, A5, c5, f, (i + 1), (by first | assumption | omega | (simp only [List.length_append, List.length_cons, List.length_nil, List.length_set, List.length_replicate, List.length_take, List.length_drop]; omega) | (simp only [fits] at *; omega) | (simp only [List.length_append, List.length_cons, List.length_nil, List.length_set, List.length_replicate, List.length_take, List.length_drop] at *; omega) | (simp; done) | decide), (by first | assumption | omega | (simp only [List.length_append, List.length_cons, List.length_nil, List.length_set, List.length_replicate, List.length_take, List.length_drop]; omega) | (simp only [fits] at *; omega) | (simp only [List.length_append, List.length_cons, List.length_nil, List.length_set, List.length_replicate, List.length_take, List.length_drop] at *; omega) | (simp; done) | decide), (by first | exact rp_skip hR (by omega) (by omega) (by assumption) | exact rp_drop hR (by omega) (by omega) (fun h => by first | (exfalso; omega) | assumption)  (.inl (by assumption)) | exact rp_drop hR (by omega) (by omega) (fun h => by first | (exfalso; omega) | assumption)  (.inr (by assumption)) | exact rp_keep hR (by omega) (by omega) (fun h => by first | (exfalso; omega) | assumption)  (by assumption) (by assumption)), (by first | assumption | exact hM.snoc (by assumption)), (by first | assumption | omega | (simp only [List.length_append, List.length_cons, List.length_nil, List.length_set, List.length_replicate, List.length_take, List.length_drop]; omega) | (simp only [fits] at *; omega) | (simp only [List.length_append, List.length_cons, List.length_nil, List.length_set, List.length_replicate, List.length_take, List.length_drop] at *; omega) | (simp; done) | decide), (fun h => hA5 (by first | exact h | (simp at h ⊢; omega))), (by first | assumption | omega | (simp only [List.length_append, List.length_cons, List.length_nil, List.length_set, List.length_replicate, List.length_take, List.length_drop]; omega) | (simp only [fits] at *; omega) | (simp only [List.length_append, List.length_cons, List.length_nil, List.length_set, List.length_replicate, List.length_take, List.length_drop] at *; omega) | (simp; done) | decide), rfl, (by first | rfl | simp only [List.length_set]), (by first | rfl | simp only [List.length_set])⟩
          show (((s : ByteArray).size + 1 - (i + 1)).toNat : Nat) < (((s : ByteArray).size + 1 - i).toNat : Nat)
          omega
        · skip
          refine RunC.skip ?_
          refine kseq_n ?_
          refine RunC.seq ?_
          refine RunC.region ?_
          refine RunR.sil hU [] 5 5 [0, 4, 5, 6, 7] [(0, .string s), (4, .slice A5 zs.length c5), (5, .int .i64 f), (6, .int .i64 i), (7, .string (ByteArray.extract s ((f).toNat) ((i).toNat)))] ((True) ∧ (True) ∧ (True) ∧ (0 ≤ f ∧ f ≤ i ∧ i ≤ (s : ByteArray).size) ∧ (True) ∧ True) rfl (by kernel_rfl) ⟨trivial, trivial, trivial, (by omega), trivial, trivial⟩ ?_
          refine RunR.done (by kernel_rfl) ?_
          refine kseq_n ?_
          refine RunC.seq ?_
          refine RunC.region ?_
          refine RunR.sil hU [1] 3 3 [0, 4, 5, 6, 7] [(0, .string s), (4, .slice A5 zs.length c5), (5, .int .i64 (i + 1)), (6, .int .i64 i), (7, .string (ByteArray.extract s ((f).toNat) ((i).toNat)))] ((True) ∧ (-9223372036854775808 ≤ (i + 1) ∧ (i + 1) < 9223372036854775808) ∧ (True) ∧ True) rfl (by kernel_rfl) ⟨trivial, (by omega), trivial, trivial⟩ ?_
          refine RunR.done (by kernel_rfl) ?_
          refine kseq_n ?_
          refine RunC.seq ?_
          refine RunC.seq ?_
          refine RunC.region ?_
          refine RunR.sil hU [] 3 3 [0, 4, 5, 6, 7, 40] [(0, .string s), (4, .slice A5 zs.length c5), (5, .int .i64 (i + 1)), (6, .int .i64 i), (7, .string (ByteArray.extract s ((f).toNat) ((i).toNat))), (40, .bool (decide ((ByteArray.extract s ((f).toNat) ((i).toNat)) = ⟨#[]⟩)))] ((True) ∧ (True) ∧ (True) ∧ True) rfl (by kernel_rfl) ⟨trivial, trivial, trivial, trivial⟩ ?_
          refine RunR.env [0, 4, 5, 6, 7, 40] [(0, .string s), (4, .slice A5 zs.length c5), (5, .int .i64 (i + 1)), (6, .int .i64 i), (7, .string (ByteArray.extract s ((f).toNat) ((i).toNat))), (40, .bool (decide ((ByteArray.extract s ((f).toNat) ((i).toNat)) = ⟨#[]⟩)))] (by kernel_rfl) ?_
          by_cases h32 : (ByteArray.extract s ((f).toNat) ((i).toNat)) = ⟨#[]⟩
          · skip
            refine RunR.enveq [(0, .string s), (4, .slice A5 zs.length c5), (5, .int .i64 (i + 1)), (6, .int .i64 i), (7, .string (ByteArray.extract s ((f).toNat) ((i).toNat))), (40, .bool true)] (by rw [decide_eq_true h32]; try rfl) ?_
            refine RunR.sil hU [] 3 6 [0, 4, 5, 6, 7, 43] [(0, .string s), (4, .slice A5 zs.length c5), (5, .int .i64 (i + 1)), (6, .int .i64 i), (7, .string (ByteArray.extract s ((f).toNat) ((i).toNat))), (43, .bool true)] ((True) ∧ True) rfl (by kernel_rfl) ⟨trivial, trivial⟩ ?_
            refine RunR.done (by kernel_rfl) ?_
            refine kseq_n ?_
            refine RunC.cond (b := true) (by kernel_rfl) (fun _ => ?_) (fun h => by cases h)
            refine RunC.exit ?_
            refine kseq_e ?_
            refine kblock_e ?_
            refine kseq_n ?_
            refine RunC.region ?_
            refine RunR.sil hU [1] 3 3 [0, 4, 5, 6] [(0, .string s), (4, .slice A5 zs.length c5), (5, .int .i64 (i + 1)), (6, .int .i64 (i + 1))] ((True) ∧ (-9223372036854775808 ≤ (i + 1) ∧ (i + 1) < 9223372036854775808) ∧ (True) ∧ True) rfl (by kernel_rfl) ⟨trivial, (by omega), trivial, trivial⟩ ?_
            refine RunR.done (by kernel_rfl) ?_
            refine kloop_n _ [0, 4, 5, 6] [0] [(0, .string s), (4, .slice A5 zs.length c5), (5, .int .i64 (i + 1)), (6, .int .i64 (i + 1))] [row 9 1 (.slice A5 zs.length c5) zs.length (strV zs)] (by kernel_rfl) (by kernel_rfl) ?_ ⟨zs, A5, c5, (i + 1), (i + 1), (by first | assumption | omega | (simp only [List.length_append, List.length_cons, List.length_nil, List.length_set, List.length_replicate, List.length_take, List.length_drop]; omega) | (simp only [fits] at *; omega) | (simp only [List.length_append, List.length_cons, List.length_nil, List.length_set, List.length_replicate, List.length_take, List.length_drop] at *; omega) | (simp; done) | decide), (by first | assumption | omega | (simp only [List.length_append, List.length_cons, List.length_nil, List.length_set, List.length_replicate, List.length_take, List.length_drop]; omega) | (simp only [fits] at *; omega) | (simp only [List.length_append, List.length_cons, List.length_nil, List.length_set, List.length_replicate, List.length_take, List.length_drop] at *; omega) | (simp; done) | decide), (by first | exact rp_skip hR (by omega) (by omega) (by assumption) | exact rp_drop hR (by omega) (by omega) (fun h => by first | (exfalso; omega) | assumption)  (.inl (by assumption)) | exact rp_drop hR (by omega) (by omega) (fun h => by first | (exfalso; omega) | assumption)  (.inr (by assumption)) | exact rp_keep hR (by omega) (by omega) (fun h => by first | (exfalso; omega) | assumption)  (by assumption) (by assumption)), (by first | assumption | exact hM.snoc (by assumption)), (by first | assumption | omega | (simp only [List.length_append, List.length_cons, List.length_nil, List.length_set, List.length_replicate, List.length_take, List.length_drop]; omega) | (simp only [fits] at *; omega) | (simp only [List.length_append, List.length_cons, List.length_nil, List.length_set, List.length_replicate, List.length_take, List.length_drop] at *; omega) | (simp; done) | decide), (fun h => hA5 (by first | exact h | (simp at h ⊢; omega))), (by first | assumption | omega | (simp only [List.length_append, List.length_cons, List.length_nil, List.length_set, List.length_replicate, List.length_take, List.length_drop]; omega) | (simp only [fits] at *; omega) | (simp only [List.length_append, List.length_cons, List.length_nil, List.length_set, List.length_replicate, List.length_take, List.length_drop] at *; omega) | (simp; done) | decide), rfl, (by first | rfl | simp only [List.length_set]), (by first | rfl | simp only [List.length_set])⟩
            show (((s : ByteArray).size + 1 - (i + 1)).toNat : Nat) < (((s : ByteArray).size + 1 - i).toNat : Nat)
            omega
          · skip
            refine RunR.enveq [(0, .string s), (4, .slice A5 zs.length c5), (5, .int .i64 (i + 1)), (6, .int .i64 i), (7, .string (ByteArray.extract s ((f).toNat) ((i).toNat))), (40, .bool false)] (by rw [decide_eq_false h32]; try rfl) ?_
            refine RunR.sil hU [] 3 6 [0, 4, 5, 6, 7, 43] [(0, .string s), (4, .slice A5 zs.length c5), (5, .int .i64 (i + 1)), (6, .int .i64 i), (7, .string (ByteArray.extract s ((f).toNat) ((i).toNat))), (43, .bool (decide ((ByteArray.extract s ((f).toNat) ((i).toNat)) = ⟨#[46]⟩)))] ((True) ∧ (True) ∧ (True) ∧ True) rfl (by kernel_rfl) ⟨trivial, trivial, trivial, trivial⟩ ?_
            refine RunR.done (by kernel_rfl) ?_
            refine kseq_n ?_
            refine RunC.condp ((ByteArray.extract s ((f).toNat) ((i).toNat)) = ⟨#[46]⟩) (by kernel_rfl) (fun h33 => ?_) (fun h33 => ?_)
            · skip
              refine RunC.exit ?_
              refine kseq_e ?_
              refine kblock_e ?_
              refine kseq_n ?_
              refine RunC.region ?_
              refine RunR.sil hU [1] 3 3 [0, 4, 5, 6] [(0, .string s), (4, .slice A5 zs.length c5), (5, .int .i64 (i + 1)), (6, .int .i64 (i + 1))] ((True) ∧ (-9223372036854775808 ≤ (i + 1) ∧ (i + 1) < 9223372036854775808) ∧ (True) ∧ True) rfl (by kernel_rfl) ⟨trivial, (by omega), trivial, trivial⟩ ?_
              refine RunR.done (by kernel_rfl) ?_
              refine kloop_n _ [0, 4, 5, 6] [0] [(0, .string s), (4, .slice A5 zs.length c5), (5, .int .i64 (i + 1)), (6, .int .i64 (i + 1))] [row 9 1 (.slice A5 zs.length c5) zs.length (strV zs)] (by kernel_rfl) (by kernel_rfl) ?_ ⟨zs, A5, c5, (i + 1), (i + 1), (by first | assumption | omega | (simp only [List.length_append, List.length_cons, List.length_nil, List.length_set, List.length_replicate, List.length_take, List.length_drop]; omega) | (simp only [fits] at *; omega) | (simp only [List.length_append, List.length_cons, List.length_nil, List.length_set, List.length_replicate, List.length_take, List.length_drop] at *; omega) | (simp; done) | decide), (by first | assumption | omega | (simp only [List.length_append, List.length_cons, List.length_nil, List.length_set, List.length_replicate, List.length_take, List.length_drop]; omega) | (simp only [fits] at *; omega) | (simp only [List.length_append, List.length_cons, List.length_nil, List.length_set, List.length_replicate, List.length_take, List.length_drop] at *; omega) | (simp; done) | decide), (by first | exact rp_skip hR (by omega) (by omega) (by assumption) | exact rp_drop hR (by omega) (by omega) (fun h => by first | (exfalso; omega) | assumption)  (.inl (by assumption)) | exact rp_drop hR (by omega) (by omega) (fun h => by first | (exfalso; omega) | assumption)  (.inr (by assumption)) | exact rp_keep hR (by omega) (by omega) (fun h => by first | (exfalso; omega) | assumption)  (by assumption) (by assumption)), (by first | assumption | exact hM.snoc (by assumption)), (by first | assumption | omega | (simp only [List.length_append, List.length_cons, List.length_nil, List.length_set, List.length_replicate, List.length_take, List.length_drop]; omega) | (simp only [fits] at *; omega) | (simp only [List.length_append, List.length_cons, List.length_nil, List.length_set, List.length_replicate, List.length_take, List.length_drop] at *; omega) | (simp; done) | decide), (fun h => hA5 (by first | exact h | (simp at h ⊢; omega))), (by first | assumption | omega | (simp only [List.length_append, List.length_cons, List.length_nil, List.length_set, List.length_replicate, List.length_take, List.length_drop]; omega) | (simp only [fits] at *; omega) | (simp only [List.length_append, List.length_cons, List.length_nil, List.length_set, List.length_replicate, List.length_take, List.length_drop] at *; omega) | (simp; done) | decide), rfl, (by first | rfl | simp only [List.length_set]), (by first | rfl | simp only [List.length_set])⟩
              show (((s : ByteArray).size + 1 - (i + 1)).toNat : Nat) < (((s : ByteArray).size + 1 - i).toNat : Nat)
              omega
            · skip
              refine RunC.skip ?_
              refine kseq_n ?_
              refine RunC.seq ?_
              refine RunC.seq ?_
              refine RunC.region ?_
              refine RunR.sil hU [] 1 1 [0, 4, 5, 6, 7, 44] [(0, .string s), (4, .slice A5 zs.length c5), (5, .int .i64 (i + 1)), (6, .int .i64 i), (7, .string (ByteArray.extract s ((f).toNat) ((i).toNat))), (44, .string (ByteArray.extract s ((f).toNat) ((i).toNat)))] ((True) ∧ True) rfl (by kernel_rfl) ⟨trivial, trivial⟩ ?_
              refine RunR.step (dst := some 45) (op := .call { callee := .value (.func 34), args := #[.tmp 44], argTypes := #[9] }) (by kernel_rfl) (Step.call 34 [.string (ByteArray.extract s ((f).toNat) ((i).toNat))] (by kernel_rfl) (by kernel_rfl) [] [] [row 9 1 (.slice A5 zs.length c5) zs.length (strV zs)] (pr_may_spec (ByteArray.extract s ((f).toNat) ((i).toNat)) (by exact ext_bd (by omega))) [] (by kernel_rfl) (Lend.nil _) ?_)
              rintro _ _ ⟨rfl, rfl⟩
              refine RunR.sil hU [] 2 4 [0, 4, 5, 6, 7, 47] [(0, .string s), (4, .slice A5 zs.length c5), (5, .int .i64 (i + 1)), (6, .int .i64 i), (7, .string (ByteArray.extract s ((f).toNat) ((i).toNat))), (47, .bool (!decide (mayP (sb (ByteArray.extract s ((f).toNat) ((i).toNat))))))] ((True) ∧ (True) ∧ True) rfl (by kernel_rfl) ⟨trivial, trivial, trivial⟩ ?_
              refine RunR.env [0, 4, 5, 6, 7, 47] [(0, .string s), (4, .slice A5 zs.length c5), (5, .int .i64 (i + 1)), (6, .int .i64 i), (7, .string (ByteArray.extract s ((f).toNat) ((i).toNat))), (47, .bool (!decide (mayP (sb (ByteArray.extract s ((f).toNat) ((i).toNat))))))] (by kernel_rfl) ?_
              by_cases h34 : mayP (sb (ByteArray.extract s ((f).toNat) ((i).toNat)))
              · skip
                refine RunR.enveq [(0, .string s), (4, .slice A5 zs.length c5), (5, .int .i64 (i + 1)), (6, .int .i64 i), (7, .string (ByteArray.extract s ((f).toNat) ((i).toNat))), (47, .bool false)] (by rw [decide_eq_true h34]; try rfl) ?_
                refine RunR.sil hU [] 4 8 [0, 4, 5, 6, 7, 51] [(0, .string s), (4, .slice A5 zs.length c5), (5, .int .i64 (i + 1)), (6, .int .i64 i), (7, .string (ByteArray.extract s ((f).toNat) ((i).toNat))), (51, .bool (decide (((zs.length : Nat) : Int) ≥ 32)))] ((True) ∧ (True) ∧ (True) ∧ (True) ∧ True) rfl (by kernel_rfl) ⟨trivial, trivial, trivial, trivial, trivial⟩ ?_
                refine RunR.done (by kernel_rfl) ?_
                refine kseq_n ?_
                refine RunC.condp (((zs.length : Nat) : Int) ≥ 32) (by kernel_rfl) (fun h35 => ?_) (fun h35 => ?_)
                · skip
                  refine RunC.seq ?_
                  refine RunC.region ?_
                  refine RunR.sil hU [] 2 2 [0, 2, 3, 4, 5, 6, 7] [(0, .string s), (2, .slice none 0 0), (3, .int .i64 12), (4, .slice A5 zs.length c5), (5, .int .i64 (i + 1)), (6, .int .i64 i), (7, .string (ByteArray.extract s ((f).toNat) ((i).toNat)))] ((True) ∧ (True) ∧ True) rfl (by kernel_rfl) ⟨trivial, trivial, trivial⟩ ?_
                  refine RunR.done (by kernel_rfl) ?_
                  refine kseq_n ?_
                  refine RunC.ret ?_
                  refine kseq_r ?_
                  refine kblock_r ?_
                  refine kseq_r ?_
                  refine kloop_r ?_
                  refine kblock_r ?_
                  refine kseq_r ?_
                  refine kret_rt ([row 9 1 (.slice none 0 0) 0 (strV ([] : List ByteArray)), row 9 1 (.slice A5 zs.length c5) zs.length (strV zs)]) (fun w0 W w hs => (hs).nil_row 9 1) [.slice none 0 0, .int .i64 12] [0] [row 9 1 (.slice none 0 0) 0 (strV ([] : List ByteArray))] ⟨rfl, rfl, trivial⟩ (by kernel_rfl) rfl ⟨none, 0, ([] : List ByteArray), 12, rfl, rfl, (by first | exact pr_head ((head_iff s).2 ((head_get (by assumption)).2 (by assumption))) | exact rp_bad hR (by omega) (by omega) (fun h => by first | (exfalso; omega) | assumption)  (by assumption) (by assumption) (by first | exact .inl (by assumption) | exact .inr (by omega)) | exact rp_end hR (by omega) hM hl (by first | exact head_nil (by assumption) | exact fun g => absurd ((head_get (by assumption)).1 g) (by assumption))), (by first | assumption | (intro h; simp at h)), (by first | assumption | exact Nat.zero_le _)⟩
                · skip
                  refine RunC.skip ?_
                  refine kseq_n ?_
                  refine RunC.region ?_
                  refine RunR.sil hU [] 2 2 [0, 4, 5, 6, 52, 53] [(0, .string s), (4, .slice A5 zs.length c5), (5, .int .i64 (i + 1)), (6, .int .i64 i), (52, .slice A5 zs.length c5), (53, .string (ByteArray.extract s ((f).toNat) ((i).toNat)))] ((True) ∧ (True) ∧ True) rfl (by kernel_rfl) ⟨trivial, trivial, trivial⟩ ?_
                  refine RunR.step (dst := some 54) (op := .buildSlice 33 1 #[(0, .tmp 53)]) (by kernel_rfl) (Step.lit_vals hU 9 16 (.string ⟨#[]⟩) (strV ([ByteArray.extract s ((f).toNat) ((i).toNat)] : List ByteArray)) (by kernel_rfl) (by kernel_rfl) (by kernel_rfl) (by simp [strV, Value.cells]) rfl rfl (by kernel_rfl) (fun b36 => ?_))
                  refine RunR.step (dst := some 55) (op := .call { callee := .builtin .append, args := #[.tmp 52, .tmp 54], argTypes := #[33, 33] }) (by kernel_rfl) (Step.append_strs hU 9 16 (.string ⟨#[]⟩) 1 0 A5 zs.length c5 zs (some ⟨b36, 0, none⟩) 1 1 (row 9 1 (.slice (some ⟨b36, 0, none⟩) 1 1) 1 (strV ([ByteArray.extract s ((f).toNat) ((i).toNat)] : List ByteArray))) ([ByteArray.extract s ((f).toNat) ((i).toNat)] : List ByteArray) (by kernel_rfl) (by kernel_rfl) (by kernel_rfl) (by kernel_rfl) (by kernel_rfl) (by kernel_rfl) (by kernel_rfl) (tells_row _ _ _ _ _ _) (by first | rfl | omega | (simp only [List.length_cons, List.length_nil] at *; omega)) (by first | rfl | omega | (simp only [List.length_cons, List.length_nil] at *; omega)) (by first | rfl | omega | (simp only [List.length_cons, List.length_nil] at *; omega)) (by first | rfl | omega | (simp only [List.length_cons, List.length_nil] at *; omega)) (by kernel_rfl) (fun Aq37 cq38 hc39 hA40 => ?_))
                  have hl41 : (zs ++ ([ByteArray.extract s ((f).toNat) ((i).toNat)] : List ByteArray)).length = zs.length + ([ByteArray.extract s ((f).toNat) ((i).toNat)] : List ByteArray).length := List.length_append
                  simp only [List.length_cons, List.length_nil] at hl41
                  refine RunR.sil hU [] 1 5 [0, 4, 5, 6] [(0, .string s), (4, .slice Aq37 ((zs ++ ([ByteArray.extract s ((f).toNat) ((i).toNat)] : List ByteArray)).length) cq38), (5, .int .i64 (i + 1)), (6, .int .i64 i)] ((True) ∧ True) rfl (by kernel_rfl) ⟨trivial, trivial⟩ ?_
                  refine RunR.done (by kernel_rfl) ?_
                  refine kblock_n ?_
                  refine kseq_n ?_
                  refine RunC.region ?_
                  refine RunR.sil hU [1] 3 3 [0, 4, 5, 6] [(0, .string s), (4, .slice Aq37 ((zs ++ ([ByteArray.extract s ((f).toNat) ((i).toNat)] : List ByteArray)).length) cq38), (5, .int .i64 (i + 1)), (6, .int .i64 (i + 1))] ((True) ∧ (-9223372036854775808 ≤ (i + 1) ∧ (i + 1) < 9223372036854775808) ∧ (True) ∧ True) rfl (by kernel_rfl) ⟨trivial, (by omega), trivial, trivial⟩ ?_
                  refine RunR.done (by kernel_rfl) ?_
                  refine kloop_n _ [0, 4, 5, 6] [0] [(0, .string s), (4, .slice Aq37 ((zs ++ ([ByteArray.extract s ((f).toNat) ((i).toNat)] : List ByteArray)).length) cq38), (5, .int .i64 (i + 1)), (6, .int .i64 (i + 1))] [row 9 1 (.slice Aq37 ((zs ++ ([ByteArray.extract s ((f).toNat) ((i).toNat)] : List ByteArray)).length) cq38) ((zs ++ ([ByteArray.extract s ((f).toNat) ((i).toNat)] : List ByteArray)).length) (strV (zs ++ ([ByteArray.extract s ((f).toNat) ((i).toNat)] : List ByteArray)))] (by kernel_rfl) (by kernel_rfl) ?_ ⟨(zs ++ ([ByteArray.extract s ((f).toNat) ((i).toNat)] : List ByteArray)), Aq37, cq38, (i + 1), (i + 1), (by first | assumption | omega | (simp only [List.length_append, List.length_cons, List.length_nil, List.length_set, List.length_replicate, List.length_take, List.length_drop]; omega) | (simp only [fits] at *; omega) | (simp only [List.length_append, List.length_cons, List.length_nil, List.length_set, List.length_replicate, List.length_take, List.length_drop] at *; omega) | (simp; done) | decide), (by first | assumption | omega | (simp only [List.length_append, List.length_cons, List.length_nil, List.length_set, List.length_replicate, List.length_take, List.length_drop]; omega) | (simp only [fits] at *; omega) | (simp only [List.length_append, List.length_cons, List.length_nil, List.length_set, List.length_replicate, List.length_take, List.length_drop] at *; omega) | (simp; done) | decide), (by first | exact rp_skip hR (by omega) (by omega) (by assumption) | exact rp_drop hR (by omega) (by omega) (fun h => by first | (exfalso; omega) | assumption)  (.inl (by assumption)) | exact rp_drop hR (by omega) (by omega) (fun h => by first | (exfalso; omega) | assumption)  (.inr (by assumption)) | exact rp_keep hR (by omega) (by omega) (fun h => by first | (exfalso; omega) | assumption)  (by assumption) (by assumption)), (by first | assumption | exact hM.snoc (by assumption)), (by first | assumption | omega | (simp only [List.length_append, List.length_cons, List.length_nil, List.length_set, List.length_replicate, List.length_take, List.length_drop]; omega) | (simp only [fits] at *; omega) | (simp only [List.length_append, List.length_cons, List.length_nil, List.length_set, List.length_replicate, List.length_take, List.length_drop] at *; omega) | (simp; done) | decide), (fun h => hA40 (by first | exact h | (simp at h ⊢; omega))), (by first | assumption | omega | (simp only [List.length_append, List.length_cons, List.length_nil, List.length_set, List.length_replicate, List.length_take, List.length_drop]; omega) | (simp only [fits] at *; omega) | (simp only [List.length_append, List.length_cons, List.length_nil, List.length_set, List.length_replicate, List.length_take, List.length_drop] at *; omega) | (simp; done) | decide), rfl, (by first | rfl | simp only [List.length_set]), (by first | rfl | simp only [List.length_set])⟩
                  show (((s : ByteArray).size + 1 - (i + 1)).toNat : Nat) < (((s : ByteArray).size + 1 - i).toNat : Nat)
                  omega
              · skip
                refine RunR.enveq [(0, .string s), (4, .slice A5 zs.length c5), (5, .int .i64 (i + 1)), (6, .int .i64 i), (7, .string (ByteArray.extract s ((f).toNat) ((i).toNat))), (47, .bool true)] (by rw [decide_eq_false h34]; try rfl) ?_
                refine RunR.sil hU [] 4 8 [0, 4, 5, 6, 7, 51] [(0, .string s), (4, .slice A5 zs.length c5), (5, .int .i64 (i + 1)), (6, .int .i64 i), (7, .string (ByteArray.extract s ((f).toNat) ((i).toNat))), (51, .bool true)] ((True) ∧ True) rfl (by kernel_rfl) ⟨trivial, trivial⟩ ?_
                refine RunR.done (by kernel_rfl) ?_
                refine kseq_n ?_
                refine RunC.cond (b := true) (by kernel_rfl) (fun _ => ?_) (fun h => by cases h)
                refine RunC.seq ?_
                refine RunC.region ?_
                refine RunR.sil hU [] 2 2 [0, 2, 3, 4, 5, 6, 7] [(0, .string s), (2, .slice none 0 0), (3, .int .i64 12), (4, .slice A5 zs.length c5), (5, .int .i64 (i + 1)), (6, .int .i64 i), (7, .string (ByteArray.extract s ((f).toNat) ((i).toNat)))] ((True) ∧ (True) ∧ True) rfl (by kernel_rfl) ⟨trivial, trivial, trivial⟩ ?_
                refine RunR.done (by kernel_rfl) ?_
                refine kseq_n ?_
                refine RunC.ret ?_
                refine kseq_r ?_
                refine kblock_r ?_
                refine kseq_r ?_
                refine kloop_r ?_
                refine kblock_r ?_
                refine kseq_r ?_
                refine kret_rt ([row 9 1 (.slice none 0 0) 0 (strV ([] : List ByteArray)), row 9 1 (.slice A5 zs.length c5) zs.length (strV zs)]) (fun w0 W w hs => (hs).nil_row 9 1) [.slice none 0 0, .int .i64 12] [0] [row 9 1 (.slice none 0 0) 0 (strV ([] : List ByteArray))] ⟨rfl, rfl, trivial⟩ (by kernel_rfl) rfl ⟨none, 0, ([] : List ByteArray), 12, rfl, rfl, (by first | exact pr_head ((head_iff s).2 ((head_get (by assumption)).2 (by assumption))) | exact rp_bad hR (by omega) (by omega) (fun h => by first | (exfalso; omega) | assumption)  (by assumption) (by assumption) (by first | exact .inl (by assumption) | exact .inr (by omega)) | exact rp_end hR (by omega) hM hl (by first | exact head_nil (by assumption) | exact fun g => absurd ((head_get (by assumption)).1 g) (by assumption))), (by first | assumption | (intro h; simp at h)), (by first | assumption | exact Nat.zero_le _)⟩
      · skip
        refine RunR.enveq [(0, .string s), (4, .slice A5 zs.length c5), (5, .int .i64 f), (6, .int .i64 i), (26, .bool false)] (by rw [decide_eq_false h29]; try rfl) ?_
        refine RunR.sil hU [] 5 10 [0, 4, 5, 6, 31] [(0, .string s), (4, .slice A5 zs.length c5), (5, .int .i64 f), (6, .int .i64 i), (31, .bool false)] ((True) ∧ True) rfl (by kernel_rfl) ⟨trivial, trivial⟩ ?_
        refine RunR.done (by kernel_rfl) ?_
        refine kseq_n ?_
        refine RunC.cond (b := false) (by kernel_rfl) (fun h => by cases h) (fun _ => ?_)
        refine RunC.skip ?_
        refine kseq_n ?_
        refine RunC.seq ?_
        refine RunC.region ?_
        refine RunR.sil hU [] 5 5 [0, 4, 5, 6, 7] [(0, .string s), (4, .slice A5 zs.length c5), (5, .int .i64 f), (6, .int .i64 i), (7, .string (ByteArray.extract s ((f).toNat) ((i).toNat)))] ((True) ∧ (True) ∧ (True) ∧ (0 ≤ f ∧ f ≤ i ∧ i ≤ (s : ByteArray).size) ∧ (True) ∧ True) rfl (by kernel_rfl) ⟨trivial, trivial, trivial, (by omega), trivial, trivial⟩ ?_
        refine RunR.done (by kernel_rfl) ?_
        refine kseq_n ?_
        refine RunC.seq ?_
        refine RunC.region ?_
        refine RunR.sil hU [1] 3 3 [0, 4, 5, 6, 7] [(0, .string s), (4, .slice A5 zs.length c5), (5, .int .i64 (i + 1)), (6, .int .i64 i), (7, .string (ByteArray.extract s ((f).toNat) ((i).toNat)))] ((True) ∧ (-9223372036854775808 ≤ (i + 1) ∧ (i + 1) < 9223372036854775808) ∧ (True) ∧ True) rfl (by kernel_rfl) ⟨trivial, (by omega), trivial, trivial⟩ ?_
        refine RunR.done (by kernel_rfl) ?_
        refine kseq_n ?_
        refine RunC.seq ?_
        refine RunC.seq ?_
        refine RunC.region ?_
        refine RunR.sil hU [] 3 3 [0, 4, 5, 6, 7, 40] [(0, .string s), (4, .slice A5 zs.length c5), (5, .int .i64 (i + 1)), (6, .int .i64 i), (7, .string (ByteArray.extract s ((f).toNat) ((i).toNat))), (40, .bool (decide ((ByteArray.extract s ((f).toNat) ((i).toNat)) = ⟨#[]⟩)))] ((True) ∧ (True) ∧ (True) ∧ True) rfl (by kernel_rfl) ⟨trivial, trivial, trivial, trivial⟩ ?_
        refine RunR.env [0, 4, 5, 6, 7, 40] [(0, .string s), (4, .slice A5 zs.length c5), (5, .int .i64 (i + 1)), (6, .int .i64 i), (7, .string (ByteArray.extract s ((f).toNat) ((i).toNat))), (40, .bool (decide ((ByteArray.extract s ((f).toNat) ((i).toNat)) = ⟨#[]⟩)))] (by kernel_rfl) ?_
        by_cases h42 : (ByteArray.extract s ((f).toNat) ((i).toNat)) = ⟨#[]⟩
        · skip
          refine RunR.enveq [(0, .string s), (4, .slice A5 zs.length c5), (5, .int .i64 (i + 1)), (6, .int .i64 i), (7, .string (ByteArray.extract s ((f).toNat) ((i).toNat))), (40, .bool true)] (by rw [decide_eq_true h42]; try rfl) ?_
          refine RunR.sil hU [] 3 6 [0, 4, 5, 6, 7, 43] [(0, .string s), (4, .slice A5 zs.length c5), (5, .int .i64 (i + 1)), (6, .int .i64 i), (7, .string (ByteArray.extract s ((f).toNat) ((i).toNat))), (43, .bool true)] ((True) ∧ True) rfl (by kernel_rfl) ⟨trivial, trivial⟩ ?_
          refine RunR.done (by kernel_rfl) ?_
          refine kseq_n ?_
          refine RunC.cond (b := true) (by kernel_rfl) (fun _ => ?_) (fun h => by cases h)
          refine RunC.exit ?_
          refine kseq_e ?_
          refine kblock_e ?_
          refine kseq_n ?_
          refine RunC.region ?_
          refine RunR.sil hU [1] 3 3 [0, 4, 5, 6] [(0, .string s), (4, .slice A5 zs.length c5), (5, .int .i64 (i + 1)), (6, .int .i64 (i + 1))] ((True) ∧ (-9223372036854775808 ≤ (i + 1) ∧ (i + 1) < 9223372036854775808) ∧ (True) ∧ True) rfl (by kernel_rfl) ⟨trivial, (by omega), trivial, trivial⟩ ?_
          refine RunR.done (by kernel_rfl) ?_
          refine kloop_n _ [0, 4, 5, 6] [0] [(0, .string s), (4, .slice A5 zs.length c5), (5, .int .i64 (i + 1)), (6, .int .i64 (i + 1))] [row 9 1 (.slice A5 zs.length c5) zs.length (strV zs)] (by kernel_rfl) (by kernel_rfl) ?_ ⟨zs, A5, c5, (i + 1), (i + 1), (by first | assumption | omega | (simp only [List.length_append, List.length_cons, List.length_nil, List.length_set, List.length_replicate, List.length_take, List.length_drop]; omega) | (simp only [fits] at *; omega) | (simp only [List.length_append, List.length_cons, List.length_nil, List.length_set, List.length_replicate, List.length_take, List.length_drop] at *; omega) | (simp; done) | decide), (by first | assumption | omega | (simp only [List.length_append, List.length_cons, List.length_nil, List.length_set, List.length_replicate, List.length_take, List.length_drop]; omega) | (simp only [fits] at *; omega) | (simp only [List.length_append, List.length_cons, List.length_nil, List.length_set, List.length_replicate, List.length_take, List.length_drop] at *; omega) | (simp; done) | decide), (by first | exact rp_skip hR (by omega) (by omega) (by assumption) | exact rp_drop hR (by omega) (by omega) (fun h => by first | (exfalso; omega) | assumption)  (.inl (by assumption)) | exact rp_drop hR (by omega) (by omega) (fun h => by first | (exfalso; omega) | assumption)  (.inr (by assumption)) | exact rp_keep hR (by omega) (by omega) (fun h => by first | (exfalso; omega) | assumption)  (by assumption) (by assumption)), (by first | assumption | exact hM.snoc (by assumption)), (by first | assumption | omega | (simp only [List.length_append, List.length_cons, List.length_nil, List.length_set, List.length_replicate, List.length_take, List.length_drop]; omega) | (simp only [fits] at *; omega) | (simp only [List.length_append, List.length_cons, List.length_nil, List.length_set, List.length_replicate, List.length_take, List.length_drop] at *; omega) | (simp; done) | decide), (fun h => hA5 (by first | exact h | (simp at h ⊢; omega))), (by first | assumption | omega | (simp only [List.length_append, List.length_cons, List.length_nil, List.length_set, List.length_replicate, List.length_take, List.length_drop]; omega) | (simp only [fits] at *; omega) | (simp only [List.length_append, List.length_cons, List.length_nil, List.length_set, List.length_replicate, List.length_take, List.length_drop] at *; omega) | (simp; done) | decide), rfl, (by first | rfl | simp only [List.length_set]), (by first | rfl | simp only [List.length_set])⟩
          show (((s : ByteArray).size + 1 - (i + 1)).toNat : Nat) < (((s : ByteArray).size + 1 - i).toNat : Nat)
          omega
        · skip
          refine RunR.enveq [(0, .string s), (4, .slice A5 zs.length c5), (5, .int .i64 (i + 1)), (6, .int .i64 i), (7, .string (ByteArray.extract s ((f).toNat) ((i).toNat))), (40, .bool false)] (by rw [decide_eq_false h42]; try rfl) ?_
          refine RunR.sil hU [] 3 6 [0, 4, 5, 6, 7, 43] [(0, .string s), (4, .slice A5 zs.length c5), (5, .int .i64 (i + 1)), (6, .int .i64 i), (7, .string (ByteArray.extract s ((f).toNat) ((i).toNat))), (43, .bool (decide ((ByteArray.extract s ((f).toNat) ((i).toNat)) = ⟨#[46]⟩)))] ((True) ∧ (True) ∧ (True) ∧ True) rfl (by kernel_rfl) ⟨trivial, trivial, trivial, trivial⟩ ?_
          refine RunR.done (by kernel_rfl) ?_
          refine kseq_n ?_
          refine RunC.condp ((ByteArray.extract s ((f).toNat) ((i).toNat)) = ⟨#[46]⟩) (by kernel_rfl) (fun h43 => ?_) (fun h43 => ?_)
          · skip
            refine RunC.exit ?_
            refine kseq_e ?_
            refine kblock_e ?_
            refine kseq_n ?_
            refine RunC.region ?_
            refine RunR.sil hU [1] 3 3 [0, 4, 5, 6] [(0, .string s), (4, .slice A5 zs.length c5), (5, .int .i64 (i + 1)), (6, .int .i64 (i + 1))] ((True) ∧ (-9223372036854775808 ≤ (i + 1) ∧ (i + 1) < 9223372036854775808) ∧ (True) ∧ True) rfl (by kernel_rfl) ⟨trivial, (by omega), trivial, trivial⟩ ?_
            refine RunR.done (by kernel_rfl) ?_
            refine kloop_n _ [0, 4, 5, 6] [0] [(0, .string s), (4, .slice A5 zs.length c5), (5, .int .i64 (i + 1)), (6, .int .i64 (i + 1))] [row 9 1 (.slice A5 zs.length c5) zs.length (strV zs)] (by kernel_rfl) (by kernel_rfl) ?_ ⟨zs, A5, c5, (i + 1), (i + 1), (by first | assumption | omega | (simp only [List.length_append, List.length_cons, List.length_nil, List.length_set, List.length_replicate, List.length_take, List.length_drop]; omega) | (simp only [fits] at *; omega) | (simp only [List.length_append, List.length_cons, List.length_nil, List.length_set, List.length_replicate, List.length_take, List.length_drop] at *; omega) | (simp; done) | decide), (by first | assumption | omega | (simp only [List.length_append, List.length_cons, List.length_nil, List.length_set, List.length_replicate, List.length_take, List.length_drop]; omega) | (simp only [fits] at *; omega) | (simp only [List.length_append, List.length_cons, List.length_nil, List.length_set, List.length_replicate, List.length_take, List.length_drop] at *; omega) | (simp; done) | decide), (by first | exact rp_skip hR (by omega) (by omega) (by assumption) | exact rp_drop hR (by omega) (by omega) (fun h => by first | (exfalso; omega) | assumption)  (.inl (by assumption)) | exact rp_drop hR (by omega) (by omega) (fun h => by first | (exfalso; omega) | assumption)  (.inr (by assumption)) | exact rp_keep hR (by omega) (by omega) (fun h => by first | (exfalso; omega) | assumption)  (by assumption) (by assumption)), (by first | assumption | exact hM.snoc (by assumption)), (by first | assumption | omega | (simp only [List.length_append, List.length_cons, List.length_nil, List.length_set, List.length_replicate, List.length_take, List.length_drop]; omega) | (simp only [fits] at *; omega) | (simp only [List.length_append, List.length_cons, List.length_nil, List.length_set, List.length_replicate, List.length_take, List.length_drop] at *; omega) | (simp; done) | decide), (fun h => hA5 (by first | exact h | (simp at h ⊢; omega))), (by first | assumption | omega | (simp only [List.length_append, List.length_cons, List.length_nil, List.length_set, List.length_replicate, List.length_take, List.length_drop]; omega) | (simp only [fits] at *; omega) | (simp only [List.length_append, List.length_cons, List.length_nil, List.length_set, List.length_replicate, List.length_take, List.length_drop] at *; omega) | (simp; done) | decide), rfl, (by first | rfl | simp only [List.length_set]), (by first | rfl | simp only [List.length_set])⟩
            show (((s : ByteArray).size + 1 - (i + 1)).toNat : Nat) < (((s : ByteArray).size + 1 - i).toNat : Nat)
            omega
          · skip
            refine RunC.skip ?_
            refine kseq_n ?_
            refine RunC.seq ?_
            refine RunC.seq ?_
            refine RunC.region ?_
            refine RunR.sil hU [] 1 1 [0, 4, 5, 6, 7, 44] [(0, .string s), (4, .slice A5 zs.length c5), (5, .int .i64 (i + 1)), (6, .int .i64 i), (7, .string (ByteArray.extract s ((f).toNat) ((i).toNat))), (44, .string (ByteArray.extract s ((f).toNat) ((i).toNat)))] ((True) ∧ True) rfl (by kernel_rfl) ⟨trivial, trivial⟩ ?_
            refine RunR.step (dst := some 45) (op := .call { callee := .value (.func 34), args := #[.tmp 44], argTypes := #[9] }) (by kernel_rfl) (Step.call 34 [.string (ByteArray.extract s ((f).toNat) ((i).toNat))] (by kernel_rfl) (by kernel_rfl) [] [] [row 9 1 (.slice A5 zs.length c5) zs.length (strV zs)] (pr_may_spec (ByteArray.extract s ((f).toNat) ((i).toNat)) (by exact ext_bd (by omega))) [] (by kernel_rfl) (Lend.nil _) ?_)
            rintro _ _ ⟨rfl, rfl⟩
            refine RunR.sil hU [] 2 4 [0, 4, 5, 6, 7, 47] [(0, .string s), (4, .slice A5 zs.length c5), (5, .int .i64 (i + 1)), (6, .int .i64 i), (7, .string (ByteArray.extract s ((f).toNat) ((i).toNat))), (47, .bool (!decide (mayP (sb (ByteArray.extract s ((f).toNat) ((i).toNat))))))] ((True) ∧ (True) ∧ True) rfl (by kernel_rfl) ⟨trivial, trivial, trivial⟩ ?_
            refine RunR.env [0, 4, 5, 6, 7, 47] [(0, .string s), (4, .slice A5 zs.length c5), (5, .int .i64 (i + 1)), (6, .int .i64 i), (7, .string (ByteArray.extract s ((f).toNat) ((i).toNat))), (47, .bool (!decide (mayP (sb (ByteArray.extract s ((f).toNat) ((i).toNat))))))] (by kernel_rfl) ?_
            by_cases h44 : mayP (sb (ByteArray.extract s ((f).toNat) ((i).toNat)))
            · skip
              refine RunR.enveq [(0, .string s), (4, .slice A5 zs.length c5), (5, .int .i64 (i + 1)), (6, .int .i64 i), (7, .string (ByteArray.extract s ((f).toNat) ((i).toNat))), (47, .bool false)] (by rw [decide_eq_true h44]; try rfl) ?_
              refine RunR.sil hU [] 4 8 [0, 4, 5, 6, 7, 51] [(0, .string s), (4, .slice A5 zs.length c5), (5, .int .i64 (i + 1)), (6, .int .i64 i), (7, .string (ByteArray.extract s ((f).toNat) ((i).toNat))), (51, .bool (decide (((zs.length : Nat) : Int) ≥ 32)))] ((True) ∧ (True) ∧ (True) ∧ (True) ∧ True) rfl (by kernel_rfl) ⟨trivial, trivial, trivial, trivial, trivial⟩ ?_
              refine RunR.done (by kernel_rfl) ?_
              refine kseq_n ?_
              refine RunC.condp (((zs.length : Nat) : Int) ≥ 32) (by kernel_rfl) (fun h45 => ?_) (fun h45 => ?_)
              · skip
                refine RunC.seq ?_
                refine RunC.region ?_
                refine RunR.sil hU [] 2 2 [0, 2, 3, 4, 5, 6, 7] [(0, .string s), (2, .slice none 0 0), (3, .int .i64 12), (4, .slice A5 zs.length c5), (5, .int .i64 (i + 1)), (6, .int .i64 i), (7, .string (ByteArray.extract s ((f).toNat) ((i).toNat)))] ((True) ∧ (True) ∧ True) rfl (by kernel_rfl) ⟨trivial, trivial, trivial⟩ ?_
                refine RunR.done (by kernel_rfl) ?_
                refine kseq_n ?_
                refine RunC.ret ?_
                refine kseq_r ?_
                refine kblock_r ?_
                refine kseq_r ?_
                refine kloop_r ?_
                refine kblock_r ?_
                refine kseq_r ?_
                refine kret_rt ([row 9 1 (.slice none 0 0) 0 (strV ([] : List ByteArray)), row 9 1 (.slice A5 zs.length c5) zs.length (strV zs)]) (fun w0 W w hs => (hs).nil_row 9 1) [.slice none 0 0, .int .i64 12] [0] [row 9 1 (.slice none 0 0) 0 (strV ([] : List ByteArray))] ⟨rfl, rfl, trivial⟩ (by kernel_rfl) rfl ⟨none, 0, ([] : List ByteArray), 12, rfl, rfl, (by first | exact pr_head ((head_iff s).2 ((head_get (by assumption)).2 (by assumption))) | exact rp_bad hR (by omega) (by omega) (fun h => by first | (exfalso; omega) | assumption)  (by assumption) (by assumption) (by first | exact .inl (by assumption) | exact .inr (by omega)) | exact rp_end hR (by omega) hM hl (by first | exact head_nil (by assumption) | exact fun g => absurd ((head_get (by assumption)).1 g) (by assumption))), (by first | assumption | (intro h; simp at h)), (by first | assumption | exact Nat.zero_le _)⟩
              · skip
                refine RunC.skip ?_
                refine kseq_n ?_
                refine RunC.region ?_
                refine RunR.sil hU [] 2 2 [0, 4, 5, 6, 52, 53] [(0, .string s), (4, .slice A5 zs.length c5), (5, .int .i64 (i + 1)), (6, .int .i64 i), (52, .slice A5 zs.length c5), (53, .string (ByteArray.extract s ((f).toNat) ((i).toNat)))] ((True) ∧ (True) ∧ True) rfl (by kernel_rfl) ⟨trivial, trivial, trivial⟩ ?_
                refine RunR.step (dst := some 54) (op := .buildSlice 33 1 #[(0, .tmp 53)]) (by kernel_rfl) (Step.lit_vals hU 9 16 (.string ⟨#[]⟩) (strV ([ByteArray.extract s ((f).toNat) ((i).toNat)] : List ByteArray)) (by kernel_rfl) (by kernel_rfl) (by kernel_rfl) (by simp [strV, Value.cells]) rfl rfl (by kernel_rfl) (fun b46 => ?_))
                refine RunR.step (dst := some 55) (op := .call { callee := .builtin .append, args := #[.tmp 52, .tmp 54], argTypes := #[33, 33] }) (by kernel_rfl) (Step.append_strs hU 9 16 (.string ⟨#[]⟩) 1 0 A5 zs.length c5 zs (some ⟨b46, 0, none⟩) 1 1 (row 9 1 (.slice (some ⟨b46, 0, none⟩) 1 1) 1 (strV ([ByteArray.extract s ((f).toNat) ((i).toNat)] : List ByteArray))) ([ByteArray.extract s ((f).toNat) ((i).toNat)] : List ByteArray) (by kernel_rfl) (by kernel_rfl) (by kernel_rfl) (by kernel_rfl) (by kernel_rfl) (by kernel_rfl) (by kernel_rfl) (tells_row _ _ _ _ _ _) (by first | rfl | omega | (simp only [List.length_cons, List.length_nil] at *; omega)) (by first | rfl | omega | (simp only [List.length_cons, List.length_nil] at *; omega)) (by first | rfl | omega | (simp only [List.length_cons, List.length_nil] at *; omega)) (by first | rfl | omega | (simp only [List.length_cons, List.length_nil] at *; omega)) (by kernel_rfl) (fun Aq47 cq48 hc49 hA50 => ?_))
                have hl51 : (zs ++ ([ByteArray.extract s ((f).toNat) ((i).toNat)] : List ByteArray)).length = zs.length + ([ByteArray.extract s ((f).toNat) ((i).toNat)] : List ByteArray).length := List.length_append
                simp only [List.length_cons, List.length_nil] at hl51
                refine RunR.sil hU [] 1 5 [0, 4, 5, 6] [(0, .string s), (4, .slice Aq47 ((zs ++ ([ByteArray.extract s ((f).toNat) ((i).toNat)] : List ByteArray)).length) cq48), (5, .int .i64 (i + 1)), (6, .int .i64 i)] ((True) ∧ True) rfl (by kernel_rfl) ⟨trivial, trivial⟩ ?_
                refine RunR.done (by kernel_rfl) ?_
                refine kblock_n ?_
                refine kseq_n ?_
                refine RunC.region ?_
                refine RunR.sil hU [1] 3 3 [0, 4, 5, 6] [(0, .string s), (4, .slice Aq47 ((zs ++ ([ByteArray.extract s ((f).toNat) ((i).toNat)] : List ByteArray)).length) cq48), (5, .int .i64 (i + 1)), (6, .int .i64 (i + 1))] ((True) ∧ (-9223372036854775808 ≤ (i + 1) ∧ (i + 1) < 9223372036854775808) ∧ (True) ∧ True) rfl (by kernel_rfl) ⟨trivial, (by omega), trivial, trivial⟩ ?_
                refine RunR.done (by kernel_rfl) ?_
                refine kloop_n _ [0, 4, 5, 6] [0] [(0, .string s), (4, .slice Aq47 ((zs ++ ([ByteArray.extract s ((f).toNat) ((i).toNat)] : List ByteArray)).length) cq48), (5, .int .i64 (i + 1)), (6, .int .i64 (i + 1))] [row 9 1 (.slice Aq47 ((zs ++ ([ByteArray.extract s ((f).toNat) ((i).toNat)] : List ByteArray)).length) cq48) ((zs ++ ([ByteArray.extract s ((f).toNat) ((i).toNat)] : List ByteArray)).length) (strV (zs ++ ([ByteArray.extract s ((f).toNat) ((i).toNat)] : List ByteArray)))] (by kernel_rfl) (by kernel_rfl) ?_ ⟨(zs ++ ([ByteArray.extract s ((f).toNat) ((i).toNat)] : List ByteArray)), Aq47, cq48, (i + 1), (i + 1), (by first | assumption | omega | (simp only [List.length_append, List.length_cons, List.length_nil, List.length_set, List.length_replicate, List.length_take, List.length_drop]; omega) | (simp only [fits] at *; omega) | (simp only [List.length_append, List.length_cons, List.length_nil, List.length_set, List.length_replicate, List.length_take, List.length_drop] at *; omega) | (simp; done) | decide), (by first | assumption | omega | (simp only [List.length_append, List.length_cons, List.length_nil, List.length_set, List.length_replicate, List.length_take, List.length_drop]; omega) | (simp only [fits] at *; omega) | (simp only [List.length_append, List.length_cons, List.length_nil, List.length_set, List.length_replicate, List.length_take, List.length_drop] at *; omega) | (simp; done) | decide), (by first | exact rp_skip hR (by omega) (by omega) (by assumption) | exact rp_drop hR (by omega) (by omega) (fun h => by first | (exfalso; omega) | assumption)  (.inl (by assumption)) | exact rp_drop hR (by omega) (by omega) (fun h => by first | (exfalso; omega) | assumption)  (.inr (by assumption)) | exact rp_keep hR (by omega) (by omega) (fun h => by first | (exfalso; omega) | assumption)  (by assumption) (by assumption)), (by first | assumption | exact hM.snoc (by assumption)), (by first | assumption | omega | (simp only [List.length_append, List.length_cons, List.length_nil, List.length_set, List.length_replicate, List.length_take, List.length_drop]; omega) | (simp only [fits] at *; omega) | (simp only [List.length_append, List.length_cons, List.length_nil, List.length_set, List.length_replicate, List.length_take, List.length_drop] at *; omega) | (simp; done) | decide), (fun h => hA50 (by first | exact h | (simp at h ⊢; omega))), (by first | assumption | omega | (simp only [List.length_append, List.length_cons, List.length_nil, List.length_set, List.length_replicate, List.length_take, List.length_drop]; omega) | (simp only [fits] at *; omega) | (simp only [List.length_append, List.length_cons, List.length_nil, List.length_set, List.length_replicate, List.length_take, List.length_drop] at *; omega) | (simp; done) | decide), rfl, (by first | rfl | simp only [List.length_set]), (by first | rfl | simp only [List.length_set])⟩
                show (((s : ByteArray).size + 1 - (i + 1)).toNat : Nat) < (((s : ByteArray).size + 1 - i).toNat : Nat)
                omega
            · skip
              refine RunR.enveq [(0, .string s), (4, .slice A5 zs.length c5), (5, .int .i64 (i + 1)), (6, .int .i64 i), (7, .string (ByteArray.extract s ((f).toNat) ((i).toNat))), (47, .bool true)] (by rw [decide_eq_false h44]; try rfl) ?_
              refine RunR.sil hU [] 4 8 [0, 4, 5, 6, 7, 51] [(0, .string s), (4, .slice A5 zs.length c5), (5, .int .i64 (i + 1)), (6, .int .i64 i), (7, .string (ByteArray.extract s ((f).toNat) ((i).toNat))), (51, .bool true)] ((True) ∧ True) rfl (by kernel_rfl) ⟨trivial, trivial⟩ ?_
              refine RunR.done (by kernel_rfl) ?_
              refine kseq_n ?_
              refine RunC.cond (b := true) (by kernel_rfl) (fun _ => ?_) (fun h => by cases h)
              refine RunC.seq ?_
              refine RunC.region ?_
              refine RunR.sil hU [] 2 2 [0, 2, 3, 4, 5, 6, 7] [(0, .string s), (2, .slice none 0 0), (3, .int .i64 12), (4, .slice A5 zs.length c5), (5, .int .i64 (i + 1)), (6, .int .i64 i), (7, .string (ByteArray.extract s ((f).toNat) ((i).toNat)))] ((True) ∧ (True) ∧ True) rfl (by kernel_rfl) ⟨trivial, trivial, trivial⟩ ?_
              refine RunR.done (by kernel_rfl) ?_
              refine kseq_n ?_
              refine RunC.ret ?_
              refine kseq_r ?_
              refine kblock_r ?_
              refine kseq_r ?_
              refine kloop_r ?_
              refine kblock_r ?_
              refine kseq_r ?_
              refine kret_rt ([row 9 1 (.slice none 0 0) 0 (strV ([] : List ByteArray)), row 9 1 (.slice A5 zs.length c5) zs.length (strV zs)]) (fun w0 W w hs => (hs).nil_row 9 1) [.slice none 0 0, .int .i64 12] [0] [row 9 1 (.slice none 0 0) 0 (strV ([] : List ByteArray))] ⟨rfl, rfl, trivial⟩ (by kernel_rfl) rfl ⟨none, 0, ([] : List ByteArray), 12, rfl, rfl, (by first | exact pr_head ((head_iff s).2 ((head_get (by assumption)).2 (by assumption))) | exact rp_bad hR (by omega) (by omega) (fun h => by first | (exfalso; omega) | assumption)  (by assumption) (by assumption) (by first | exact .inl (by assumption) | exact .inr (by omega)) | exact rp_end hR (by omega) hM hl (by first | exact head_nil (by assumption) | exact fun g => absurd ((head_get (by assumption)).1 g) (by assumption))), (by first | assumption | (intro h; simp at h)), (by first | assumption | exact Nat.zero_le _)⟩
    · skip
      refine RunC.exit ?_
      refine kseq_e ?_
      refine kloop_e ?_
      refine kblock_e ?_
      refine kseq_n ?_
      refine RunC.seq ?_
      refine RunC.region ?_
      refine RunR.sil hU [] 3 3 [2, 3] [(2, .slice A5 zs.length c5), (3, .int .i64 0)] ((True) ∧ (True) ∧ (True) ∧ True) rfl (by kernel_rfl) ⟨trivial, trivial, trivial, trivial⟩ ?_
      refine RunR.done (by kernel_rfl) ?_
      refine kseq_n ?_
      refine RunC.ret ?_
      refine kret_r [.slice A5 zs.length c5, .int .i64 0] [0] [row 9 1 (.slice A5 zs.length c5) zs.length (strV zs)] ⟨rfl, rfl, trivial⟩ (by kernel_rfl) rfl ⟨A5, c5, zs, 0, rfl, rfl, (by first | exact pr_head ((head_iff s).2 ((head_get (by assumption)).2 (by assumption))) | exact rp_bad hR (by omega) (by omega) (fun h => by first | (exfalso; omega) | assumption)  (by assumption) (by assumption) (by first | exact .inl (by assumption) | exact .inr (by omega)) | exact rp_end hR (by omega) hM hl (by first | exact head_nil (by assumption) | exact fun g => absurd ((head_get (by assumption)).1 g) (by assumption))), (by first | assumption | (intro h; simp at h)), (by first | assumption | exact Nat.zero_le _)⟩
end Go.Proofs.YtjhinpmnpdgadaaDoor.X6
