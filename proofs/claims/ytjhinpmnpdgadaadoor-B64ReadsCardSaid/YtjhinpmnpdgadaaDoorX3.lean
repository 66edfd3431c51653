/- What these functions compute: a contract for each, walked through its code. -/
import Derived.Test.YtjhinpmnpdgadaaDoorBTPure
import Derived.Test.YtjhinpmnpdgadaaDoorProg
import Derived.Test.YtjhinpmnpdgadaaDoorX1
import Derived.Test.YtjhinpmnpdgadaaDoorX2
namespace Go.Proofs.YtjhinpmnpdgadaaDoor.X3
open Go Go.Proofs.YtjhinpmnpdgadaaDoor.SL Go.Proofs.YtjhinpmnpdgadaaDoor.SL.W Go.Proofs.YtjhinpmnpdgadaaDoor.SL.Y Go.Proofs.YtjhinpmnpdgadaaDoor.SL.B Go.Proofs.YtjhinpmnpdgadaaDoor.X1 Go.Proofs.YtjhinpmnpdgadaaDoor.X2
set_option linter.unusedVariables false
set_option linter.unusedSimpArgs false
set_option maxRecDepth 100000
set_option maxHeartbeats 40000000
def U : Tab where
  und := [(3, .int .i64), (5, .int .u8), (9, .string)]
  fld := []
  sz := [(3, 1), (5, 1), (9, 1)]
  ti := [(3, (1, 8, .int .i64 0)), (5, (1, 1, .int .u8 0)), (9, (1, 16, .string ⟨#[]⟩))]
  bld := []

theorem hU : U.OK Tryd.prog where
  und := by
    intro p hp
    simp only [U, List.mem_cons, List.not_mem_nil, or_false] at hp
    rcases hp with rfl | rfl | rfl
    · exact Tryd.underlying3
    · exact Tryd.underlying5
    · exact Tryd.underlying9
  fld := by
    intro p hp; cases hp
  sz := by
    intro p hp
    simp only [U, List.mem_cons, List.not_mem_nil, or_false] at hp
    rcases hp with rfl | rfl | rfl
    · exact ⟨Tryd.prog.types[3]!, by kernel_rfl, by kernel_rfl⟩
    · exact ⟨Tryd.prog.types[5]!, by kernel_rfl, by kernel_rfl⟩
    · exact ⟨Tryd.prog.types[9]!, by kernel_rfl, by kernel_rfl⟩
  ti := by
    intro p hp
    simp only [U, List.mem_cons, List.not_mem_nil, or_false] at hp
    rcases hp with rfl | rfl | rfl
    · exact ⟨Tryd.prog.types[3]!, by kernel_rfl, by kernel_rfl, by kernel_rfl, by kernel_rfl⟩
    · exact ⟨Tryd.prog.types[5]!, by kernel_rfl, by kernel_rfl, by kernel_rfl, by kernel_rfl⟩
    · exact ⟨Tryd.prog.types[9]!, by kernel_rfl, by kernel_rfl, by kernel_rfl, by kernel_rfl⟩
  bld := by
    intro p hp; cases hp
  mixed := by kernel_rfl

theorem sl_IndexByte_spec (s : ByteArray) (x : Int) :
    CallsS Tryd.prog 54 [.string s, .int .u8 x] [] (fun r D => r = .int .i64 (Lib.indexByte (s : ByteArray).data.toList (x : Int).toNat.toUInt8) ∧ D = []) := by
  refine CallsS.enter hU Tryd.f54 _ [.tmp 4] 8 Tryd.func54 rfl (by decide) rfl rfl (by kernel_rfl) fun w0 W => ?_
  refine RunC.seq ?_
  refine RunC.region ?_
  refine RunR.sil hU [] 1 1 [0, 1, 4] [(0, .string s), (1, .int .u8 x), (4, .int .i64 0)] ((True) ∧ True) rfl (by kernel_rfl) ⟨trivial, trivial⟩ ?_
  refine RunR.done (by kernel_rfl) ?_
  refine kseq_n ?_
  refine RunC.seq ?_
  refine RunC.region ?_
  refine RunR.sil hU [] 2 2 [4, 5, 6] [(4, .int .i64 0), (5, .string s), (6, .int .u8 x)] ((True) ∧ (True) ∧ True) rfl (by kernel_rfl) ⟨trivial, trivial, trivial⟩ ?_
  refine RunR.step (dst := some 7) (op := .call { callee := .value (.func 62), args := #[.tmp 5, .tmp 6], argTypes := #[9, 5] }) (by kernel_rfl) (Step.extern 62 [.string s, .int .u8 x] Tryd.f62 Extern.BytealgIndexByte.indexByte (.int .i64 (Lib.indexByte (s : ByteArray).data.toList (x : Int).toNat.toUInt8)) (by kernel_rfl) Tryd.func62 (by kernel_rfl) (by kernel_rfl) (by kernel_rfl) (by kernel_rfl) (fun w => Lib.run_indexByteString _ _ w) (by kernel_rfl) ?_)
  refine RunR.sil hU [] 1 4 [4] [(4, .int .i64 (Lib.indexByte (s : ByteArray).data.toList (x : Int).toNat.toUInt8))] ((True) ∧ True) rfl (by kernel_rfl) ⟨trivial, trivial⟩ ?_
  refine RunR.done (by kernel_rfl) ?_
  refine kseq_n ?_
  refine RunC.ret ?_
  refine kret_r [.int .i64 (Lib.indexByte (s : ByteArray).data.toList (x : Int).toNat.toUInt8)] [] [] ⟨rfl, trivial⟩ (by kernel_rfl) rfl ⟨rfl, rfl⟩

theorem b_Index_spec (x : Int) (hx : 0 ≤ x ∧ x < 256) :
    CallsS Tryd.prog 43 [.string LS, .int .u8 x] [] (fun r D => r = .int .i64 (dec x) ∧ D = [] ∧ (-1 ≤ dec x ∧ dec x ≤ 63)) := by
  refine CallsS.enter hU Tryd.f43 _ [.tmp 4] 8 Tryd.func43 rfl (by decide) rfl rfl (by kernel_rfl) fun w0 W => ?_
  refine RunC.seq ?_
  refine RunC.region ?_
  refine RunR.sil hU [] 1 1 [0, 1, 4] [(0, .string LS), (1, .int .u8 x), (4, .int .i64 0)] ((True) ∧ True) rfl (by kernel_rfl) ⟨trivial, trivial⟩ ?_
  refine RunR.done (by kernel_rfl) ?_
  refine kseq_n ?_
  refine RunC.seq ?_
  refine RunC.region ?_
  refine RunR.sil hU [] 2 2 [4, 5, 6] [(4, .int .i64 0), (5, .string LS), (6, .int .u8 x)] ((True) ∧ (True) ∧ True) rfl (by kernel_rfl) ⟨trivial, trivial, trivial⟩ ?_
  refine RunR.step (dst := some 7) (op := .call { callee := .value (.func 54), args := #[.tmp 5, .tmp 6], argTypes := #[9, 5] }) (by kernel_rfl) (Step.call 54 [.string LS, .int .u8 x] (by kernel_rfl) (by kernel_rfl) [] [] [] (sl_IndexByte_spec LS x) [] (by kernel_rfl) (Lend.nil _) ?_)
  rintro _ _ ⟨rfl, rfl⟩
  refine RunR.sil hU [] 1 4 [4] [(4, .int .i64 (Lib.indexByte (LS : ByteArray).data.toList (x : Int).toNat.toUInt8))] ((True) ∧ True) rfl (by kernel_rfl) ⟨trivial, trivial⟩ ?_
  refine RunR.done (by kernel_rfl) ?_
  refine kseq_n ?_
  refine RunC.ret ?_
  refine kret_r [.int .i64 (Lib.indexByte (LS : ByteArray).data.toList (x : Int).toNat.toUInt8)] [] [] ⟨rfl, trivial⟩ (by kernel_rfl) rfl ⟨rfl, rfl, (by exact dec_bd hx)⟩

theorem b_trimByte_spec (s : ByteArray) (x : Int) (hx : x = 61) (hn : (s : ByteArray).size ≤ 1000) :
    CallsS Tryd.prog 39 [.string s, .int .u8 x] [] (fun r D => ∃ (rz : ByteArray), r = .string rz ∧ D = [] ∧ ((rz : ByteArray).size = trimN (sb s) (sb s).length)) := by
  refine CallsS.enter hU Tryd.f39 _ [.tmp 4] 23 Tryd.func39 rfl (by decide) rfl rfl (by kernel_rfl) fun w0 W => ?_
  refine RunC.seq ?_
  refine RunC.region ?_
  refine RunR.sil hU [] 1 1 [0, 1, 4] [(0, .string s), (1, .int .u8 x), (4, .string ⟨#[]⟩)] ((True) ∧ True) rfl (by kernel_rfl) ⟨trivial, trivial⟩ ?_
  refine RunR.done (by kernel_rfl) ?_
  refine kseq_n ?_
  refine RunC.seq ?_
  refine RunC.block ?_
  refine RunC.env [0, 1, 4] [(0, .string s), (1, .int .u8 x), (4, .string ⟨#[]⟩)] (by kernel_rfl) ?_
  refine RunC.only [] [] (by kernel_rfl) ?_
  refine RunC.loop (σ := Nat) (fun n_ t_ D_ => ∃ (rz : ByteArray), (sb rz = (sb s).take (rz : ByteArray).size) ∧ ((rz : ByteArray).size ≤ (s : ByteArray).size) ∧ (trimN (sb s) (sb s).length = trimN (sb s) (rz : ByteArray).size) ∧ n_ = ((rz : ByteArray).size : Nat) ∧ t_ = [(0, .string rz), (1, .int .u8 x), (4, .string ⟨#[]⟩)] ∧ D_ = []) id _ ⟨s, (by rw [List.take_of_length_le (by rw [sb_len]; exact Nat.le_refl _)]), (by first | assumption | omega | (simp only [List.length_append, List.length_cons, List.length_nil, List.length_set, List.length_replicate, List.length_take, List.length_drop]; omega) | (simp only [fits] at *; omega) | (simp only [List.length_append, List.length_cons, List.length_nil, List.length_set, List.length_replicate, List.length_take, List.length_drop] at *; omega) | (simp; done) | decide), (by rw [sb_len]), rfl, rfl, rfl⟩ ?_
  rintro n_ _ _ ⟨rz, hr, hle, ht, rfl, rfl, rfl⟩
  refine RunC.seq ?_
  refine RunC.seq ?_
  refine RunC.region ?_
  refine RunR.sil hU [] 4 4 [0, 1, 4, 8] [(0, .string rz), (1, .int .u8 x), (4, .string ⟨#[]⟩), (8, .bool (decide (((rz : ByteArray).size : Int) > 0)))] ((True) ∧ (True) ∧ (True) ∧ (True) ∧ True) rfl (by kernel_rfl) ⟨trivial, trivial, trivial, trivial, trivial⟩ ?_
  refine RunR.env [0, 1, 4, 8] [(0, .string rz), (1, .int .u8 x), (4, .string ⟨#[]⟩), (8, .bool (decide (((rz : ByteArray).size : Int) > 0)))] (by kernel_rfl) ?_
  by_cases h1 : ((rz : ByteArray).size : Int) > 0
  · skip
    refine RunR.enveq [(0, .string rz), (1, .int .u8 x), (4, .string ⟨#[]⟩), (8, .bool true)] (by rw [decide_eq_true h1]; try rfl) ?_
    have hb2 : 0 ≤ (sb rz).getD (((rz : ByteArray).size : Int) - 1).toNat 0 ∧ (sb rz).getD (((rz : ByteArray).size : Int) - 1).toNat 0 < 256 := (In.sb _).at_ _
    refine RunR.sil hU [7] 8 12 [0, 1, 4, 16] [(0, .string rz), (1, .int .u8 x), (4, .string ⟨#[]⟩), (16, .bool (decide (((sb rz).getD (((rz : ByteArray).size : Int) - 1).toNat 0) = x)))] ((True) ∧ (True) ∧ (True) ∧ (-9223372036854775808 ≤ (((rz : ByteArray).size : Int) - 1) ∧ (((rz : ByteArray).size : Int) - 1) < 9223372036854775808) ∧ (0 ≤ (((rz : ByteArray).size : Int) - 1) ∧ (((rz : ByteArray).size : Int) - 1) < (rz : ByteArray).size) ∧ (True) ∧ (True) ∧ (True) ∧ True) rfl (by kernel_rfl) ⟨trivial, trivial, trivial, (by omega), (by omega), trivial, trivial, trivial, trivial⟩ ?_
    refine RunR.done (by kernel_rfl) ?_
    refine kseq_n ?_
    refine RunC.condp (((sb rz).getD (((rz : ByteArray).size : Int) - 1).toNat 0) = x) (by kernel_rfl) (fun h3 => ?_) (fun h3 => ?_)
    · skip
      refine RunC.skip ?_
      refine kseq_n ?_
      refine RunC.block ?_
      refine RunC.region ?_
      refine RunR.sil hU [3] 6 6 [0, 1, 4] [(0, .string (ByteArray.extract rz 0 ((((rz : ByteArray).size : Int) - 1).toNat))), (1, .int .u8 x), (4, .string ⟨#[]⟩)] ((True) ∧ (True) ∧ (True) ∧ (-9223372036854775808 ≤ (((rz : ByteArray).size : Int) - 1) ∧ (((rz : ByteArray).size : Int) - 1) < 9223372036854775808) ∧ (0 ≤ (((rz : ByteArray).size : Int) - 1) ∧ (((rz : ByteArray).size : Int) - 1) ≤ (rz : ByteArray).size) ∧ (True) ∧ True) rfl (by kernel_rfl) ⟨trivial, trivial, trivial, (by omega), (by omega), trivial, trivial⟩ ?_
      refine RunR.done (by kernel_rfl) ?_
      refine kblock_n ?_
      refine kloop_n _ [0, 1, 4] [] [(0, .string (ByteArray.extract rz 0 ((((rz : ByteArray).size : Int) - 1).toNat))), (1, .int .u8 x), (4, .string ⟨#[]⟩)] [] (by kernel_rfl) (by kernel_rfl) ?_ ⟨(ByteArray.extract rz 0 ((((rz : ByteArray).size : Int) - 1).toNat)), (by rw [(trim_step (k := (((rz : ByteArray).size : Int) - 1).toNat) hr hle ht (by omega) (by rw [← hx]; assumption)).1]; exact (trim_step (k := (((rz : ByteArray).size : Int) - 1).toNat) hr hle ht (by omega) (by rw [← hx]; assumption)).2.1), (by rw [(trim_step (k := (((rz : ByteArray).size : Int) - 1).toNat) hr hle ht (by omega) (by rw [← hx]; assumption)).1]; omega), (by rw [(trim_step (k := (((rz : ByteArray).size : Int) - 1).toNat) hr hle ht (by omega) (by rw [← hx]; assumption)).1]; exact (trim_step (k := (((rz : ByteArray).size : Int) - 1).toNat) hr hle ht (by omega) (by rw [← hx]; assumption)).2.2), rfl, (by first | rfl | simp only [List.length_set]), (by first | rfl | simp only [List.length_set])⟩
      show (((ByteArray.extract rz 0 ((((rz : ByteArray).size : Int) - 1).toNat)) : ByteArray).size : Nat) < ((rz : ByteArray).size : Nat)
      rw [(trim_step (k := (((rz : ByteArray).size : Int) - 1).toNat) hr hle ht (by omega) (by rw [← hx]; assumption)).1]; omega
    · skip
      refine RunC.exit ?_
      refine kseq_e ?_
      refine kloop_e ?_
      refine kblock_e ?_
      refine kseq_n ?_
      refine RunC.seq ?_
      refine RunC.region ?_
      refine RunR.sil hU [] 2 2 [4] [(4, .string rz)] ((True) ∧ (True) ∧ True) rfl (by kernel_rfl) ⟨trivial, trivial, trivial⟩ ?_
      refine RunR.done (by kernel_rfl) ?_
      refine kseq_n ?_
      refine RunC.ret ?_
      refine kret_r [.string rz] [] [] ⟨rfl, trivial⟩ (by kernel_rfl) rfl ⟨rz, rfl, rfl, (by exact trim_end hr ht (by first | (left; omega) | (right; rw [← hx, show (rz : ByteArray).size - 1 = (((rz : ByteArray).size : Int) - 1).toNat by omega]; assumption) | (right; rw [← hx]; assumption)))⟩
  · skip
    refine RunR.enveq [(0, .string rz), (1, .int .u8 x), (4, .string ⟨#[]⟩), (8, .bool false)] (by rw [decide_eq_false h1]; try rfl) ?_
    refine RunR.sil hU [] 8 12 [0, 1, 4, 16] [(0, .string rz), (1, .int .u8 x), (4, .string ⟨#[]⟩), (16, .bool false)] ((True) ∧ True) rfl (by kernel_rfl) ⟨trivial, trivial⟩ ?_
    refine RunR.done (by kernel_rfl) ?_
    refine kseq_n ?_
    refine RunC.cond (b := false) (by kernel_rfl) (fun h => by cases h) (fun _ => ?_)
    refine RunC.exit ?_
    refine kseq_e ?_
    refine kloop_e ?_
    refine kblock_e ?_
    refine kseq_n ?_
    refine RunC.seq ?_
    refine RunC.region ?_
    refine RunR.sil hU [] 2 2 [4] [(4, .string rz)] ((True) ∧ (True) ∧ True) rfl (by kernel_rfl) ⟨trivial, trivial, trivial⟩ ?_
    refine RunR.done (by kernel_rfl) ?_
    refine kseq_n ?_
    refine RunC.ret ?_
    refine kret_r [.string rz] [] [] ⟨rfl, trivial⟩ (by kernel_rfl) rfl ⟨rz, rfl, rfl, (by exact trim_end hr ht (by first | (left; omega) | (right; rw [← hx, show (rz : ByteArray).size - 1 = (((rz : ByteArray).size : Int) - 1).toNat by omega]; assumption) | (right; rw [← hx]; assumption)))⟩

theorem b_TrimRight_spec (s : ByteArray) (hs : (s : ByteArray).size = 4) :
    CallsS Tryd.prog 26 [.string s, .string ⟨#[61]⟩] [] (fun r D => ∃ (rz : ByteArray), r = .string rz ∧ D = [] ∧ ((rz : ByteArray).size = trimN (sb s) (sb s).length)) := by
  refine CallsS.enter hU Tryd.f26 _ [.tmp 4] 37 Tryd.func26 rfl (by decide) rfl rfl (by kernel_rfl) fun w0 W => ?_
  refine RunC.seq ?_
  refine RunC.region ?_
  refine RunR.sil hU [] 1 1 [0, 1, 4] [(0, .string s), (1, .string ⟨#[61]⟩), (4, .string ⟨#[]⟩)] ((True) ∧ True) rfl (by kernel_rfl) ⟨trivial, trivial⟩ ?_
  refine RunR.done (by kernel_rfl) ?_
  refine kseq_n ?_
  refine RunC.seq ?_
  refine RunC.seq ?_
  refine RunC.region ?_
  refine RunR.sil hU [] 3 3 [0, 1, 4, 9] [(0, .string s), (1, .string ⟨#[61]⟩), (4, .string ⟨#[]⟩), (9, .bool (decide (s = ⟨#[]⟩)))] ((True) ∧ (True) ∧ (True) ∧ True) rfl (by kernel_rfl) ⟨trivial, trivial, trivial, trivial⟩ ?_
  refine RunR.env [0, 1, 4, 9] [(0, .string s), (1, .string ⟨#[61]⟩), (4, .string ⟨#[]⟩), (9, .bool (decide (s = ⟨#[]⟩)))] (by kernel_rfl) ?_
  have hk1 : ¬ (s = ⟨#[]⟩) := by intro h; rw [h] at hs; revert hs; decide
  refine RunR.enveq [(0, .string s), (1, .string ⟨#[61]⟩), (4, .string ⟨#[]⟩), (9, .bool false)] (by rw [decide_eq_false hk1]; try rfl) ?_
  refine RunR.sil hU [] 3 6 [0, 1, 4, 12] [(0, .string s), (1, .string ⟨#[61]⟩), (4, .string ⟨#[]⟩), (12, .bool false)] ((True) ∧ (True) ∧ (True) ∧ True) rfl (by kernel_rfl) ⟨trivial, trivial, trivial, trivial⟩ ?_
  refine RunR.done (by kernel_rfl) ?_
  refine kseq_n ?_
  refine RunC.cond (b := false) (by kernel_rfl) (fun h => by cases h) (fun _ => ?_)
  refine RunC.skip ?_
  refine kseq_n ?_
  refine RunC.seq ?_
  refine RunC.seq ?_
  refine RunC.region ?_
  refine RunR.sil hU [] 4 4 [0, 1, 4, 17] [(0, .string s), (1, .string ⟨#[61]⟩), (4, .string ⟨#[]⟩), (17, .bool (decide (((⟨#[61]⟩ : ByteArray).size : Int) = 1)))] ((True) ∧ (True) ∧ (True) ∧ (True) ∧ True) rfl (by kernel_rfl) ⟨trivial, trivial, trivial, trivial, trivial⟩ ?_
  refine RunR.env [0, 1, 4, 17] [(0, .string s), (1, .string ⟨#[61]⟩), (4, .string ⟨#[]⟩), (17, .bool (decide (((⟨#[61]⟩ : ByteArray).size : Int) = 1)))] (by kernel_rfl) ?_
  have hk2 : (((⟨#[61]⟩ : ByteArray).size : Int) = 1) := by decide +kernel
  refine RunR.enveq [(0, .string s), (1, .string ⟨#[61]⟩), (4, .string ⟨#[]⟩), (17, .bool true)] (by rw [decide_eq_true hk2]; try rfl) ?_
  have hb3 : 0 ≤ (sb ⟨#[61]⟩).getD (0 : Int).toNat 0 ∧ (sb ⟨#[61]⟩).getD (0 : Int).toNat 0 < 256 := (In.sb _).at_ _
  refine RunR.sil hU [] 4 8 [0, 1, 4, 21] [(0, .string s), (1, .string ⟨#[61]⟩), (4, .string ⟨#[]⟩), (21, .bool (decide (((sb ⟨#[61]⟩).getD (0 : Int).toNat 0) < 128)))] ((True) ∧ (0 ≤ (0 : Int) ∧ (0 : Int) < (1 : Int)) ∧ (True) ∧ (True) ∧ True) rfl (by kernel_rfl) ⟨trivial, (by omega), trivial, trivial, trivial⟩ ?_
  refine RunR.env [0, 1, 4, 21] [(0, .string s), (1, .string ⟨#[61]⟩), (4, .string ⟨#[]⟩), (21, .bool (decide (((sb ⟨#[61]⟩).getD (0 : Int).toNat 0) < 128)))] (by kernel_rfl) ?_
  have hk4 : (((sb ⟨#[61]⟩).getD (0 : Int).toNat 0) < 128) := by decide +kernel
  refine RunR.enveq [(0, .string s), (1, .string ⟨#[61]⟩), (4, .string ⟨#[]⟩), (21, .bool true)] (by rw [decide_eq_true hk4]; try rfl) ?_
  refine RunR.done (by kernel_rfl) ?_
  refine kseq_n ?_
  refine RunC.cond (b := true) (by kernel_rfl) (fun _ => ?_) (fun h => by cases h)
  refine RunC.seq ?_
  refine RunC.region ?_
  have hb5 : 0 ≤ (sb ⟨#[61]⟩).getD (0 : Int).toNat 0 ∧ (sb ⟨#[61]⟩).getD (0 : Int).toNat 0 < 256 := (In.sb _).at_ _
  refine RunR.sil hU [] 3 3 [0, 1, 4, 22, 24] [(0, .string s), (1, .string ⟨#[61]⟩), (4, .string ⟨#[]⟩), (22, .string s), (24, .int .u8 ((sb ⟨#[61]⟩).getD (0 : Int).toNat 0))] ((True) ∧ (True) ∧ (0 ≤ (0 : Int) ∧ (0 : Int) < (1 : Int)) ∧ True) rfl (by kernel_rfl) ⟨trivial, trivial, (by omega), trivial⟩ ?_
  refine RunR.step (dst := some 25) (op := .call { callee := .value (.func 39), args := #[.tmp 22, .tmp 24], argTypes := #[9, 5] }) (by kernel_rfl) (Step.call 39 [.string s, .int .u8 ((sb ⟨#[61]⟩).getD (0 : Int).toNat 0)] (by kernel_rfl) (by kernel_rfl) [] [] [] (b_trimByte_spec s ((sb ⟨#[61]⟩).getD (0 : Int).toNat 0) (by decide +kernel) (by first | assumption | omega | (simp only [List.length_append, List.length_cons, List.length_nil, List.length_set, List.length_replicate, List.length_take, List.length_drop]; omega) | (simp only [fits] at *; omega) | (simp only [List.length_append, List.length_cons, List.length_nil, List.length_set, List.length_replicate, List.length_take, List.length_drop] at *; omega) | (simp; done) | decide)) [] (by kernel_rfl) (Lend.nil _) ?_)
  rintro _ _ ⟨rz6, rfl, rfl, hp7⟩
  refine RunR.sil hU [] 1 5 [0, 1, 4] [(0, .string s), (1, .string ⟨#[61]⟩), (4, .string rz6)] ((True) ∧ True) rfl (by kernel_rfl) ⟨trivial, trivial⟩ ?_
  refine RunR.done (by kernel_rfl) ?_
  refine kseq_n ?_
  refine RunC.ret ?_
  refine kseq_r ?_
  refine kret_r [.string rz6] [] [] ⟨rfl, trivial⟩ (by kernel_rfl) rfl ⟨rz6, rfl, rfl, (by first | assumption | omega | (simp only [List.length_append, List.length_cons, List.length_nil, List.length_set, List.length_replicate, List.length_take, List.length_drop]; omega) | (simp only [fits] at *; omega) | (simp only [List.length_append, List.length_cons, List.length_nil, List.length_set, List.length_replicate, List.length_take, List.length_drop] at *; omega) | (simp; done) | decide)⟩
end Go.Proofs.YtjhinpmnpdgadaaDoor.X3
