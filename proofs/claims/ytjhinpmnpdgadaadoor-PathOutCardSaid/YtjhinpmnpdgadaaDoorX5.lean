/- What these functions compute: a contract for each, walked through its code. -/
import Derived.Test.YtjhinpmnpdgadaaDoorZPure
import Derived.Test.YtjhinpmnpdgadaaDoorProg
import Derived.Test.YtjhinpmnpdgadaaDoorX1
import Derived.Test.YtjhinpmnpdgadaaDoorX2
import Derived.Test.YtjhinpmnpdgadaaDoorX3
import Derived.Test.YtjhinpmnpdgadaaDoorX4
namespace Go.Proofs.YtjhinpmnpdgadaaDoor.X5
open Go Go.Proofs.YtjhinpmnpdgadaaDoor.SL Go.Proofs.YtjhinpmnpdgadaaDoor.SL.W Go.Proofs.YtjhinpmnpdgadaaDoor.SL.Z Go.Proofs.YtjhinpmnpdgadaaDoor.X1 Go.Proofs.YtjhinpmnpdgadaaDoor.X2 Go.Proofs.YtjhinpmnpdgadaaDoor.X3 Go.Proofs.YtjhinpmnpdgadaaDoor.X4
set_option linter.unusedVariables false
set_option linter.unusedSimpArgs false
set_option maxRecDepth 100000
set_option maxHeartbeats 40000000
def U : Tab where
  und := [(3, .int .i64), (9, .string), (33, .slice 9)]
  fld := []
  sz := [(3, 1), (9, 1), (33, 1)]
  ti := [(3, (1, 8, .int .i64 0)), (9, (1, 16, .string ⟨#[]⟩)), (33, (1, 24, .slice none 0 0))]
  bld := []

theorem hU : U.OK Tryd.prog where
  und := by
    intro p hp
    simp only [U, List.mem_cons, List.not_mem_nil, or_false] at hp
    rcases hp with rfl | rfl | rfl
    · exact Tryd.underlying3
    · exact Tryd.underlying9
    · exact Tryd.underlying33
  fld := by
    intro p hp; cases hp
  sz := by
    intro p hp
    simp only [U, List.mem_cons, List.not_mem_nil, or_false] at hp
    rcases hp with rfl | rfl | rfl
    · exact ⟨Tryd.prog.types[3]!, by kernel_rfl, by kernel_rfl⟩
    · exact ⟨Tryd.prog.types[9]!, by kernel_rfl, by kernel_rfl⟩
    · exact ⟨Tryd.prog.types[33]!, by kernel_rfl, by kernel_rfl⟩
  ti := by
    intro p hp
    simp only [U, List.mem_cons, List.not_mem_nil, or_false] at hp
    rcases hp with rfl | rfl | rfl
    · exact ⟨Tryd.prog.types[3]!, by kernel_rfl, by kernel_rfl, by kernel_rfl, by kernel_rfl⟩
    · exact ⟨Tryd.prog.types[9]!, by kernel_rfl, by kernel_rfl, by kernel_rfl, by kernel_rfl⟩
    · exact ⟨Tryd.prog.types[33]!, by kernel_rfl, by kernel_rfl, by kernel_rfl, by kernel_rfl⟩
  bld := by
    intro p hp; cases hp
  mixed := by kernel_rfl

theorem p_Parts_spec (s : ByteArray) (hsz : (s : ByteArray).size ≤ 100000) :
    CallsS Tryd.prog 18 [.string s] [] (fun r D => ∃ (A9 : Option Addr) (c9 : Nat) (zs : List ByteArray) (e : Int), r = .tuple #[.slice A9 zs.length c9, .int .i64 e] ∧ D = [row 9 1 (.slice A9 zs.length c9) zs.length (strV zs)] ∧ (PartsR s zs e) ∧ (0 < zs.length → Option.isSome A9 = true) ∧ (zs.length ≤ c9)) := by
  refine CallsS.enter hU Tryd.f18 _ [.tmp 2, .tmp 3] 29 Tryd.func18 rfl (by decide) rfl rfl (by kernel_rfl) fun w0 W => ?_
  refine RunC.seq ?_
  refine RunC.region ?_
  refine RunR.sil hU [] 2 2 [0, 2, 3] [(0, .string s), (2, .slice none 0 0), (3, .int .i64 0)] ((True) ∧ (True) ∧ True) rfl (by kernel_rfl) ⟨trivial, trivial, trivial⟩ ?_
  refine RunR.done (by kernel_rfl) ?_
  refine kseq_n ?_
  refine RunC.seq ?_
  refine RunC.seq ?_
  refine RunC.region ?_
  refine RunR.sil hU [] 1 1 [0, 2, 3, 6] [(0, .string s), (2, .slice none 0 0), (3, .int .i64 0), (6, .string s)] ((True) ∧ True) rfl (by kernel_rfl) ⟨trivial, trivial⟩ ?_
  refine RunR.step (dst := some 7) (op := .call { callee := .value (.func 29), args := #[.tmp 6, .const (.string ⟨#[47]⟩)], argTypes := #[9, 9] }) (by kernel_rfl) (Step.call 29 [.string s, .string ⟨#[47]⟩] (by kernel_rfl) (by kernel_rfl) [] [] [] (s_HasPrefix_spec s ⟨#[47]⟩ (by first | assumption | omega | (simp only [List.length_append, List.length_cons, List.length_nil, List.length_set, List.length_replicate, List.length_take, List.length_drop]; omega) | (simp only [fits] at *; omega) | (simp only [List.length_append, List.length_cons, List.length_nil, List.length_set, List.length_replicate, List.length_take, List.length_drop] at *; omega) | (simp; done) | decide) (by first | assumption | omega | (simp only [List.length_append, List.length_cons, List.length_nil, List.length_set, List.length_replicate, List.length_take, List.length_drop]; omega) | (simp only [fits] at *; omega) | (simp only [List.length_append, List.length_cons, List.length_nil, List.length_set, List.length_replicate, List.length_take, List.length_drop] at *; omega) | (simp; done) | decide)) [] (by kernel_rfl) (Lend.nil _) ?_)
  rintro _ _ ⟨rfl, rfl⟩
  refine RunR.done (by kernel_rfl) ?_
  refine kseq_n ?_
  refine RunC.condp (ByteArray.extract s 0 (⟨#[47]⟩ : ByteArray).size = ⟨#[47]⟩) (by kernel_rfl) (fun h1 => ?_) (fun h1 => ?_)
  · skip
    refine RunC.seq ?_
    refine RunC.region ?_
    refine RunR.sil hU [] 2 2 [0, 2, 3] [(0, .string s), (2, .slice none 0 0), (3, .int .i64 12)] ((True) ∧ (True) ∧ True) rfl (by kernel_rfl) ⟨trivial, trivial, trivial⟩ ?_
    refine RunR.done (by kernel_rfl) ?_
    refine kseq_n ?_
    refine RunC.ret ?_
    refine kseq_r ?_
    refine kret_rt ([row 9 1 (.slice none 0 0) 0 (strV ([] : List ByteArray))]) (fun w0 W w hs => (hs).nil_row 9 1) [.slice none 0 0, .int .i64 12] [0] [row 9 1 (.slice none 0 0) 0 (strV ([] : List ByteArray))] ⟨rfl, rfl, trivial⟩ (by kernel_rfl) rfl ⟨none, 0, ([] : List ByteArray), 12, rfl, rfl, (by exact pr_head (by assumption)), (by intro h; simp at h), (by exact Nat.zero_le _)⟩
  · skip
    refine RunC.skip ?_
    refine kseq_n ?_
    refine RunC.seq ?_
    refine RunC.region ?_
    refine RunR.step (dst := some 4) (op := .alloc 33) (by kernel_rfl) (Step.alloc hU 1 24 (.slice none 0 0) rfl (by kernel_rfl) (fun b2 => ?_))
    refine RunR.done (by kernel_rfl) ?_
    refine kseq_n ?_
    refine RunC.seq ?_
    refine RunC.seq ?_
    refine RunC.region ?_
    refine RunR.sil hU [] 1 1 [2, 3, 4, 8] [(2, .slice none 0 0), (3, .int .i64 0), (4, .pointer (some ⟨b2, 0, none⟩)), (8, .string s)] ((True) ∧ True) rfl (by kernel_rfl) ⟨trivial, trivial⟩ ?_
    refine RunR.step (dst := some 9) (op := .call { callee := .value (.func 30), args := #[.tmp 8, .const (.string ⟨#[47]⟩)], argTypes := #[9, 9] }) (by kernel_rfl) (Step.call 30 [.string s, .string ⟨#[47]⟩] (by kernel_rfl) (by kernel_rfl) [] [] [blk b2 33 [.slice none 0 0]] (s_SplitSeq_spec s) [] (by kernel_rfl) (Lend.nil _) ?_)
    rintro _ _ ⟨b13, b24, b35, rfl, rfl⟩
    refine RunR.done (by kernel_rfl) ?_
    refine kseq_n ?_
    refine RunC.block ?_
    refine RunC.turn ([row 9 1 (.slice none 0 0) 0 (strV ([] : List ByteArray)), blk b13 9 [.string (⟨#[47]⟩ : ByteArray)], blk b24 9 [.string s], blk b35 3 [.int .i64 0], blk b2 33 [.slice none 0 0]]) (fun _ _ w hs => hs.nil_row 9 1) ?_
    refine RunC.env [2, 3, 4, 9] [(2, .slice none 0 0), (3, .int .i64 0), (4, .pointer (some ⟨b2, 0, none⟩)), (9, .func (.func 55) #[] #[.pointer (some ⟨b13, 0, none⟩), .pointer (some ⟨b24, 0, none⟩), .pointer (some ⟨b35, 0, none⟩)])] (by kernel_rfl) ?_
    refine RunC.rangeFunc (α := List Fact) (β := List Fact) 55 [.pointer (some ⟨b13, 0, none⟩), .pointer (some ⟨b24, 0, none⟩), .pointer (some ⟨b35, 0, none⟩)] (by kernel_rfl) ((pieces (sb s)).length) (fun i_ => [.string (pieceS s i_)]) (fun i_ => []) [blk b13 9 [.string (⟨#[47]⟩ : ByteArray)], blk b24 9 [.string s], blk b35 3 [.int .i64 0]] [] (s_cut_it s b13 b24 b35 (by first | assumption | omega | (simp only [List.length_append, List.length_cons, List.length_nil, List.length_set, List.length_replicate, List.length_take, List.length_drop]; omega) | (simp only [fits] at *; omega) | (simp only [List.length_append, List.length_cons, List.length_nil, List.length_set, List.length_replicate, List.length_take, List.length_drop] at *; omega) | (simp; done) | decide)) (fun i_ D_ => ∃ (zs : List ByteArray) (A5 : Option Addr) (c5 : Nat), (zs = partN s i_) ∧ (0 < zs.length → Option.isSome A5 = true) ∧ (zs.length ≤ c5) ∧ D_ = [blk b2 33 [.slice A5 zs.length c5], row 9 1 (.slice A5 zs.length c5) zs.length (strV zs)]) (fun D_ => D_) .ret (fun (_ : List Fact) => False) (fun D_ => D_) [] [] [blk b2 33 [.slice none 0 0], row 9 1 (.slice none 0 0) 0 (strV ([] : List ByteArray))] ⟨([] : List ByteArray), none, 0, (by rfl), (by intro h; simp at h), (by exact Nat.zero_le _), rfl⟩ [4, 0, 0, 0, 0] (by kernel_rfl) (Lend.nil _) (by simp) (Lend.nil _) (fun i_ D_ hp_ f_ hf_ => by obtain ⟨_, _, _, _, _, _, rfl⟩ := hp_; exact List.all_eq_true.1 (by rfl : List.all _ (·.own) = true) f_ hf_) (fun _ h => h.elim) (fun _ => rfl) (by rfl) ?_ ?_ (fun _ h => h.elim)
    · intro l_ R_ i_ _ hlt_ hp_
      obtain ⟨zs, A5, c5, hz, hA5, hc5, rfl⟩ := hp_
      refine RunC.env [2, 3, 4, 9, 10] [(2, .slice none 0 0), (3, .int .i64 0), (4, .pointer (some ⟨b2, 0, none⟩)), (9, .func (.func 55) #[] #[.pointer (some ⟨b13, 0, none⟩), .pointer (some ⟨b24, 0, none⟩), .pointer (some ⟨b35, 0, none⟩)]), (10, .string (pieceS s i_))] (by kernel_rfl) ?_
      refine RunC.only [0, 0, 0] [objF l_ (.loop (R_ .ready none)), blk b2 33 [.slice A5 zs.length c5], row 9 1 (.slice A5 zs.length c5) zs.length (strV zs)] (by kernel_rfl) ?_
      have hzl_ := lenN hz
      refine RunC.region ?_
      refine RunR.sil hU [] 1 1 [4, 5] [(4, .pointer (some ⟨b2, 0, none⟩)), (5, .string (pieceS s i_))] ((True) ∧ True) rfl (by kernel_rfl) ⟨trivial, trivial⟩ ?_
      refine RunR.done (by kernel_rfl) ?_
      refine kassign_n 0 (by kernel_rfl) ?_
      refine RunC.block ?_
      refine RunC.seq ?_
      refine RunC.seq ?_
      refine RunC.region ?_
      refine RunR.sil hU [] 3 3 [4, 5, 13] [(4, .pointer (some ⟨b2, 0, none⟩)), (5, .string (pieceS s i_)), (13, .bool (decide ((pieceS s i_) = ⟨#[]⟩)))] ((True) ∧ (True) ∧ (True) ∧ True) rfl (by kernel_rfl) ⟨trivial, trivial, trivial, trivial⟩ ?_
      refine RunR.env [4, 5, 13] [(4, .pointer (some ⟨b2, 0, none⟩)), (5, .string (pieceS s i_)), (13, .bool (decide ((pieceS s i_) = ⟨#[]⟩)))] (by kernel_rfl) ?_
      by_cases h6 : (pieceS s i_) = ⟨#[]⟩
      · skip
        refine RunR.enveq [(4, .pointer (some ⟨b2, 0, none⟩)), (5, .string (pieceS s i_)), (13, .bool true)] (by rw [decide_eq_true h6]; try rfl) ?_
        refine RunR.sil hU [] 3 6 [4, 5, 16] [(4, .pointer (some ⟨b2, 0, none⟩)), (5, .string (pieceS s i_)), (16, .bool true)] ((True) ∧ True) rfl (by kernel_rfl) ⟨trivial, trivial⟩ ?_
        refine RunR.done (by kernel_rfl) ?_
        refine kseq_n ?_
        refine RunC.cond (b := true) (by kernel_rfl) (fun _ => ?_) (fun h => by cases h)
        refine RunC.exit ?_
        refine kseq_e ?_
        refine kblock_e ?_
        refine kyield_n _ [0, 0, 0] [objF l_ (.loop (R_ .busy none)), blk b2 33 [.slice A5 zs.length c5], row 9 1 (.slice A5 zs.length c5) zs.length (strV zs)] (by kernel_rfl) ⟨zs, A5, c5, (by first | exact partN_skip hz hlt_ (.inl (by assumption)) | exact partN_skip hz hlt_ (.inr (by assumption)) | exact partN_keep hz hlt_ (by assumption) (by assumption)), (fun h => hA5 (by first | exact h | (simp at h ⊢; omega))), (by first | assumption | omega | (simp only [List.length_append, List.length_cons, List.length_nil, List.length_set, List.length_replicate, List.length_take, List.length_drop]; omega) | (simp only [fits] at *; omega) | (simp only [List.length_append, List.length_cons, List.length_nil, List.length_set, List.length_replicate, List.length_take, List.length_drop] at *; omega) | (simp; done) | decide), (by first | rfl | simp only [List.length_set])⟩ rfl
      · skip
        refine RunR.enveq [(4, .pointer (some ⟨b2, 0, none⟩)), (5, .string (pieceS s i_)), (13, .bool false)] (by rw [decide_eq_false h6]; try rfl) ?_
        refine RunR.sil hU [] 3 6 [4, 5, 16] [(4, .pointer (some ⟨b2, 0, none⟩)), (5, .string (pieceS s i_)), (16, .bool (decide ((pieceS s i_) = ⟨#[46]⟩)))] ((True) ∧ (True) ∧ (True) ∧ True) rfl (by kernel_rfl) ⟨trivial, trivial, trivial, trivial⟩ ?_
        refine RunR.done (by kernel_rfl) ?_
        refine kseq_n ?_
        refine RunC.condp ((pieceS s i_) = ⟨#[46]⟩) (by kernel_rfl) (fun h7 => ?_) (fun h7 => ?_)
        · skip
          refine RunC.exit ?_
          refine kseq_e ?_
          refine kblock_e ?_
          refine kyield_n _ [0, 0, 0] [objF l_ (.loop (R_ .busy none)), blk b2 33 [.slice A5 zs.length c5], row 9 1 (.slice A5 zs.length c5) zs.length (strV zs)] (by kernel_rfl) ⟨zs, A5, c5, (by first | exact partN_skip hz hlt_ (.inl (by assumption)) | exact partN_skip hz hlt_ (.inr (by assumption)) | exact partN_keep hz hlt_ (by assumption) (by assumption)), (fun h => hA5 (by first | exact h | (simp at h ⊢; omega))), (by first | assumption | omega | (simp only [List.length_append, List.length_cons, List.length_nil, List.length_set, List.length_replicate, List.length_take, List.length_drop]; omega) | (simp only [fits] at *; omega) | (simp only [List.length_append, List.length_cons, List.length_nil, List.length_set, List.length_replicate, List.length_take, List.length_drop] at *; omega) | (simp; done) | decide), (by first | rfl | simp only [List.length_set])⟩ rfl
        · skip
          refine RunC.skip ?_
          refine kseq_n ?_
          refine RunC.region ?_
          refine RunR.step (dst := some 17) (op := .load 33 (.tmp 4)) (by kernel_rfl) (Step.load_blk hU 1 b2 (0) 33 [.slice A5 zs.length c5] (.slice A5 zs.length c5) (by kernel_rfl) (by kernel_rfl) (by kernel_rfl) (by kernel_rfl) ?_)
          refine RunR.sil hU [] 1 2 [4, 17, 18] [(4, .pointer (some ⟨b2, 0, none⟩)), (17, .slice A5 zs.length c5), (18, .string (pieceS s i_))] ((True) ∧ True) rfl (by kernel_rfl) ⟨trivial, trivial⟩ ?_
          refine RunR.step (dst := some 19) (op := .buildSlice 33 1 #[(0, .tmp 18)]) (by kernel_rfl) (Step.lit_vals hU 9 16 (.string ⟨#[]⟩) (strV ([pieceS s i_] : List ByteArray)) (by kernel_rfl) (by kernel_rfl) (by kernel_rfl) (by simp [strV, Value.cells]) rfl rfl (by kernel_rfl) (fun b8 => ?_))
          refine RunR.step (dst := some 20) (op := .call { callee := .builtin .append, args := #[.tmp 17, .tmp 19], argTypes := #[33, 33] }) (by kernel_rfl) (Step.append_strs hU 9 16 (.string ⟨#[]⟩) 3 0 A5 zs.length c5 zs (some ⟨b8, 0, none⟩) 1 1 (row 9 1 (.slice (some ⟨b8, 0, none⟩) 1 1) 1 (strV ([pieceS s i_] : List ByteArray))) ([pieceS s i_] : List ByteArray) (by kernel_rfl) (by kernel_rfl) (by kernel_rfl) (by kernel_rfl) (by kernel_rfl) (by kernel_rfl) (by kernel_rfl) (tells_row _ _ _ _ _ _) (by first | rfl | omega | (simp only [List.length_cons, List.length_nil] at *; omega)) (by first | rfl | omega | (simp only [List.length_cons, List.length_nil] at *; omega)) (by first | rfl | omega | (simp only [List.length_cons, List.length_nil] at *; omega)) (by first | rfl | omega | (simp only [List.length_cons, List.length_nil] at *; omega)) (by kernel_rfl) (fun Aq9 cq10 hc11 hA12 => ?_))
          have hl13 : (zs ++ ([pieceS s i_] : List ByteArray)).length = zs.length + ([pieceS s i_] : List ByteArray).length := List.length_append
          simp only [List.length_cons, List.length_nil] at hl13
          refine RunR.step (dst := none) (op := .store 33 (.tmp 4) (.tmp 20)) (by kernel_rfl) (Step.store_blk hU 3 b2 0 33 [.slice A5 zs.length c5] (.slice Aq9 ((zs ++ ([pieceS s i_] : List ByteArray)).length) cq10) (by kernel_rfl) (by kernel_rfl) (by kernel_rfl) 1 rfl [.slice Aq9 ((zs ++ ([pieceS s i_] : List ByteArray)).length) cq10] (by kernel_rfl) rfl (by kernel_rfl) (by first | decide | simp) ?_)
          refine RunR.done (by kernel_rfl) ?_
          refine kblock_n ?_
          refine kyield_n _ [3, 0, 0] [objF l_ (.loop (R_ .busy none)), blk b2 33 [.slice Aq9 ((zs ++ ([pieceS s i_] : List ByteArray)).length) cq10], row 9 1 (.slice Aq9 ((zs ++ ([pieceS s i_] : List ByteArray)).length) cq10) ((zs ++ ([pieceS s i_] : List ByteArray)).length) (strV (zs ++ ([pieceS s i_] : List ByteArray)))] (by kernel_rfl) ⟨(zs ++ ([pieceS s i_] : List ByteArray)), Aq9, cq10, (by first | exact partN_skip hz hlt_ (.inl (by assumption)) | exact partN_skip hz hlt_ (.inr (by assumption)) | exact partN_keep hz hlt_ (by assumption) (by assumption)), (fun h => hA12 (by first | exact h | (simp at h ⊢; omega))), (by first | assumption | omega | (simp only [List.length_append, List.length_cons, List.length_nil, List.length_set, List.length_replicate, List.length_take, List.length_drop]; omega) | (simp only [fits] at *; omega) | (simp only [List.length_append, List.length_cons, List.length_nil, List.length_set, List.length_replicate, List.length_take, List.length_drop] at *; omega) | (simp; done) | decide), (by first | rfl | simp only [List.length_set])⟩ rfl
    · intro _ hp_
      obtain ⟨zs, A5, c5, hz, hA5, hc5, rfl⟩ := hp_
      refine kblock_n ?_
      refine kseq_n ?_
      refine RunC.seq ?_
      refine RunC.seq ?_
      refine RunC.region ?_
      refine RunR.step (dst := some 21) (op := .load 33 (.tmp 4)) (by kernel_rfl) (Step.load_blk hU 0 b2 (0) 33 [.slice A5 zs.length c5] (.slice A5 zs.length c5) (by kernel_rfl) (by kernel_rfl) (by kernel_rfl) (by kernel_rfl) ?_)
      refine RunR.sil hU [] 3 4 [2, 3, 4, 24] [(2, .slice none 0 0), (3, .int .i64 0), (4, .pointer (some ⟨b2, 0, none⟩)), (24, .bool (decide (((zs.length : Nat) : Int) > 32)))] ((True) ∧ (True) ∧ (True) ∧ True) rfl (by kernel_rfl) ⟨trivial, trivial, trivial, trivial⟩ ?_
      refine RunR.env [2, 3, 4, 24] [(2, .slice none 0 0), (3, .int .i64 0), (4, .pointer (some ⟨b2, 0, none⟩)), (24, .bool (decide (((zs.length : Nat) : Int) > 32)))] (by kernel_rfl) ?_
      by_cases h14 : ((zs.length : Nat) : Int) > 32
      · skip
        refine RunR.enveq [(2, .slice none 0 0), (3, .int .i64 0), (4, .pointer (some ⟨b2, 0, none⟩)), (24, .bool true)] (by rw [decide_eq_true h14]; try rfl) ?_
        refine RunR.sil hU [] 3 7 [2, 3, 4, 27] [(2, .slice none 0 0), (3, .int .i64 0), (4, .pointer (some ⟨b2, 0, none⟩)), (27, .bool true)] ((True) ∧ True) rfl (by kernel_rfl) ⟨trivial, trivial⟩ ?_
        refine RunR.done (by kernel_rfl) ?_
        refine kseq_n ?_
        refine RunC.cond (b := true) (by kernel_rfl) (fun _ => ?_) (fun h => by cases h)
        refine RunC.seq ?_
        refine RunC.region ?_
        refine RunR.sil hU [] 2 2 [2, 3, 4] [(2, .slice none 0 0), (3, .int .i64 12), (4, .pointer (some ⟨b2, 0, none⟩))] ((True) ∧ (True) ∧ True) rfl (by kernel_rfl) ⟨trivial, trivial, trivial⟩ ?_
        refine RunR.done (by kernel_rfl) ?_
        refine kseq_n ?_
        refine RunC.ret ?_
        refine kseq_r ?_
        refine kret_rt ([row 9 1 (.slice none 0 0) 0 (strV ([] : List ByteArray)), blk b2 33 [.slice A5 zs.length c5], row 9 1 (.slice A5 zs.length c5) zs.length (strV zs)]) (fun w0 W w hs => (hs).nil_row 9 1) [.slice none 0 0, .int .i64 12] [0] [row 9 1 (.slice none 0 0) 0 (strV ([] : List ByteArray))] ⟨rfl, rfl, trivial⟩ (by kernel_rfl) rfl ⟨none, 0, ([] : List ByteArray), 12, rfl, rfl, (by first | exact pr_many hz rfl (by assumption) | exact pr_may hz rfl (by assumption)), (by intro h; simp at h), (by exact Nat.zero_le _)⟩
      · skip
        refine RunR.enveq [(2, .slice none 0 0), (3, .int .i64 0), (4, .pointer (some ⟨b2, 0, none⟩)), (24, .bool false)] (by rw [decide_eq_false h14]; try rfl) ?_
        refine RunR.step (dst := some 25) (op := .load 33 (.tmp 4)) (by kernel_rfl) (Step.load_blk hU 0 b2 (0) 33 [.slice A5 zs.length c5] (.slice A5 zs.length c5) (by kernel_rfl) (by kernel_rfl) (by kernel_rfl) (by kernel_rfl) ?_)
        refine RunR.step (dst := some 26) (op := .call { callee := .value (.func 31), args := #[.tmp 25, .func 32], argTypes := #[33, 29] }) (by kernel_rfl) (Step.call 31 [.slice A5 zs.length c5, .func (.func 32) #[] #[]] (by kernel_rfl) (by kernel_rfl) [] [vw A5 (strV zs)] [blk b2 33 [.slice A5 zs.length c5], row 9 1 (.slice A5 zs.length c5) zs.length (strV zs)] (s_Contains_spec A5 c5 zs zs.length (by have := lenN hz; omega) (by exact szN hz (by omega)) (by first | assumption | omega | (simp only [List.length_append, List.length_cons, List.length_nil, List.length_set, List.length_replicate, List.length_take, List.length_drop]; omega) | (simp only [fits] at *; omega) | (simp only [List.length_append, List.length_cons, List.length_nil, List.length_set, List.length_replicate, List.length_take, List.length_drop] at *; omega) | (simp; done) | decide) (by first | rfl | assumption | omega | (simp only [List.length_append, List.length_cons, List.length_nil, List.length_set, List.length_replicate, List.length_take, List.length_drop]; omega) | (simp; done))) [] (by kernel_rfl) ((Lend.nil _).tells 1 (row 9 1 (.slice A5 zs.length c5) zs.length (strV zs)) A5 (strV zs) (by kernel_rfl) (tells_row _ _ _ _ _ _)) ?_)
        rintro _ _ ⟨rfl, rfl⟩
        refine RunR.sil hU [] 1 7 [2, 3, 4, 27] [(2, .slice none 0 0), (3, .int .i64 0), (4, .pointer (some ⟨b2, 0, none⟩)), (27, .bool (decide (¬ MayAll zs)))] ((True) ∧ True) rfl (by kernel_rfl) ⟨trivial, trivial⟩ ?_
        refine RunR.done (by kernel_rfl) ?_
        refine kseq_n ?_
        refine RunC.condp (¬ MayAll zs) (by kernel_rfl) (fun h15 => ?_) (fun h15 => ?_)
        · skip
          refine RunC.seq ?_
          refine RunC.region ?_
          refine RunR.sil hU [] 2 2 [2, 3, 4] [(2, .slice none 0 0), (3, .int .i64 12), (4, .pointer (some ⟨b2, 0, none⟩))] ((True) ∧ (True) ∧ True) rfl (by kernel_rfl) ⟨trivial, trivial, trivial⟩ ?_
          refine RunR.done (by kernel_rfl) ?_
          refine kseq_n ?_
          refine RunC.ret ?_
          refine kseq_r ?_
          refine kret_rt ([row 9 1 (.slice none 0 0) 0 (strV ([] : List ByteArray)), blk b2 33 [.slice A5 zs.length c5], row 9 1 (.slice A5 zs.length c5) zs.length (strV zs)]) (fun w0 W w hs => (hs).nil_row 9 1) [.slice none 0 0, .int .i64 12] [0] [row 9 1 (.slice none 0 0) 0 (strV ([] : List ByteArray))] ⟨rfl, rfl, trivial⟩ (by kernel_rfl) rfl ⟨none, 0, ([] : List ByteArray), 12, rfl, rfl, (by first | exact pr_many hz rfl (by assumption) | exact pr_may hz rfl (by assumption)), (by intro h; simp at h), (by exact Nat.zero_le _)⟩
        · skip
          refine RunC.skip ?_
          refine kseq_n ?_
          refine RunC.seq ?_
          refine RunC.region ?_
          refine RunR.step (dst := some 28) (op := .load 33 (.tmp 4)) (by kernel_rfl) (Step.load_blk hU 0 b2 (0) 33 [.slice A5 zs.length c5] (.slice A5 zs.length c5) (by kernel_rfl) (by kernel_rfl) (by kernel_rfl) (by kernel_rfl) ?_)
          refine RunR.sil hU [] 2 3 [2, 3] [(2, .slice A5 zs.length c5), (3, .int .i64 0)] ((True) ∧ (True) ∧ True) rfl (by kernel_rfl) ⟨trivial, trivial, trivial⟩ ?_
          refine RunR.done (by kernel_rfl) ?_
          refine kseq_n ?_
          refine RunC.ret ?_
          refine kret_r [.slice A5 zs.length c5, .int .i64 0] [1] [row 9 1 (.slice A5 zs.length c5) zs.length (strV zs)] ⟨rfl, rfl, trivial⟩ (by kernel_rfl) rfl ⟨A5, c5, zs, 0, rfl, rfl, (by exact pr_good hz rfl (by assumption) (by assumption) (by assumption)), (by assumption), (by assumption)⟩
end Go.Proofs.YtjhinpmnpdgadaaDoor.X5
