/- The law MacCodes returns true whatever it is handed: its walk, on the contracts of what it calls. -/
import Derived.Test.YtbnjcfhnbjaoiaaMPure
import Derived.Test.YtbnjcfhnbjaoiaaProg
import Derived.Test.YtbnjcfhnbjaoiaaX1
import Derived.Test.YtbnjcfhnbjaoiaaX2
import Derived.Test.YtbnjcfhnbjaoiaaX3
import Derived.Test.YtbnjcfhnbjaoiaaX4
import Derived.Test.YtbnjcfhnbjaoiaaX5
import Derived.Test.YtbnjcfhnbjaoiaaX6
import Derived.Test.YtbnjcfhnbjaoiaaX7
import Derived.Test.YtbnjcfhnbjaoiaaX8
import Derived.Test.YtbnjcfhnbjaoiaaY1
import Derived.Test.YtbnjcfhnbjaoiaaY2
import Derived.Test.YtbnjcfhnbjaoiaaY3
namespace Go.Proofs.Ytbnjcfhnbjaoiaa.LMacCodes
open Go Go.Proofs.Ytbnjcfhnbjaoiaa.SL Go.Proofs.Ytbnjcfhnbjaoiaa.SL.W Go.Proofs.Ytbnjcfhnbjaoiaa.SL.C Go.Proofs.Ytbnjcfhnbjaoiaa.SL.H Go.Proofs.Ytbnjcfhnbjaoiaa.SL.M Go.Proofs.Ytbnjcfhnbjaoiaa.X1 Go.Proofs.Ytbnjcfhnbjaoiaa.X2 Go.Proofs.Ytbnjcfhnbjaoiaa.X3 Go.Proofs.Ytbnjcfhnbjaoiaa.X4 Go.Proofs.Ytbnjcfhnbjaoiaa.X5 Go.Proofs.Ytbnjcfhnbjaoiaa.X6 Go.Proofs.Ytbnjcfhnbjaoiaa.X7 Go.Proofs.Ytbnjcfhnbjaoiaa.X8 Go.Proofs.Ytbnjcfhnbjaoiaa.Y1 Go.Proofs.Ytbnjcfhnbjaoiaa.Y2 Go.Proofs.Ytbnjcfhnbjaoiaa.Y3
set_option linter.unusedVariables false
set_option linter.unusedSimpArgs false
set_option maxRecDepth 100000
set_option maxHeartbeats 40000000
def U : Tab where
  und := [(3, .int .i64), (5, .int .u8), (22, .slice 5)]
  fld := []
  sz := [(3, 1), (5, 1), (22, 1)]
  ti := [(3, (1, 8, .int .i64 0)), (5, (1, 1, .int .u8 0)), (22, (1, 24, .slice none 0 0))]
  bld := []

theorem hU : U.OK Try.prog where
  und := by
    intro p hp
    simp only [U, List.mem_cons, List.not_mem_nil, or_false] at hp
    rcases hp with rfl | rfl | rfl
    · exact Try.underlying3
    · exact Try.underlying5
    · exact Try.underlying22
  fld := by
    intro p hp; cases hp
  sz := by
    intro p hp
    simp only [U, List.mem_cons, List.not_mem_nil, or_false] at hp
    rcases hp with rfl | rfl | rfl
    · exact ⟨Try.prog.types[3]!, by kernel_rfl, by kernel_rfl⟩
    · exact ⟨Try.prog.types[5]!, by kernel_rfl, by kernel_rfl⟩
    · exact ⟨Try.prog.types[22]!, by kernel_rfl, by kernel_rfl⟩
  ti := by
    intro p hp
    simp only [U, List.mem_cons, List.not_mem_nil, or_false] at hp
    rcases hp with rfl | rfl | rfl
    · exact ⟨Try.prog.types[3]!, by kernel_rfl, by kernel_rfl, by kernel_rfl, by kernel_rfl⟩
    · exact ⟨Try.prog.types[5]!, by kernel_rfl, by kernel_rfl, by kernel_rfl, by kernel_rfl⟩
    · exact ⟨Try.prog.types[22]!, by kernel_rfl, by kernel_rfl, by kernel_rfl, by kernel_rfl⟩
  bld := by
    intro p hp; cases hp
  mixed := by kernel_rfl

theorem l3_MacCodes_spec (A : Option Addr) (c : Nat) (kk : List Int) (A3 : Option Addr) (c3 : Nat) (ms : List Int) (l_kk : Nat) (l_ms : Nat) (hIkk : In .u8 kk) (hCkk : kk.length ≤ c) (hBkk : kk.length ≤ 140737488351232) (hIms : In .u8 ms) (hCms : ms.length ≤ c3) (hBms : ms.length ≤ 140737488351232) (hl_kk : kk.length = l_kk) (hl_ms : ms.length = l_ms) :
    CallsS Try.prog 5 [.slice A l_kk c, .slice A3 l_ms c3] [vw A (nums .u8 kk), vw A3 (nums .u8 ms)] (fun r D => r = .bool true ∧ D = []) := by
  subst hl_kk
  subst hl_ms
  refine CallsS.enter hU Try.f5 _ [.tmp 4] 31 Try.func5 rfl (by decide) rfl rfl (by kernel_rfl) fun w0 W => ?_
  refine RunC.know (p := 0 < kk.length → Option.isSome A = true) (fun w hs => vw_some hs 0 rfl (by simp [nums_length])) (fun hA1 => ?_)
  refine RunC.know (p := 0 < ms.length → Option.isSome A3 = true) (fun w hs => vw_some hs 1 rfl (by simp [nums_length])) (fun hA2 => ?_)
  refine RunC.seq ?_
  refine RunC.region ?_
  refine RunR.sil hU [] 1 1 [0, 1, 4] [(0, .slice A kk.length c), (1, .slice A3 ms.length c3), (4, .bool false)] ((True) ∧ True) rfl (by kernel_rfl) ⟨trivial, trivial⟩ ?_
  refine RunR.done (by kernel_rfl) ?_
  refine kseq_n ?_
  refine RunC.seq ?_
  refine RunC.seq ?_
  refine RunC.region ?_
  refine RunR.step (dst := some 5) (op := .call { callee := .value (.func 18), args := #[], argTypes := #[] }) (by kernel_rfl) (Step.call 18 [] (by kernel_rfl) (by kernel_rfl) [] [] [vw A (nums .u8 kk), vw A3 (nums .u8 ms)] (l3_awake_spec) [] (by kernel_rfl) (Lend.nil _) ?_)
  rintro _ _ ⟨rfl, rfl⟩
  refine RunR.sil hU [] 1 2 [0, 1, 4, 6] [(0, .slice A kk.length c), (1, .slice A3 ms.length c3), (4, .bool false), (6, .bool false)] ((True) ∧ True) rfl (by kernel_rfl) ⟨trivial, trivial⟩ ?_
  refine RunR.done (by kernel_rfl) ?_
  refine kseq_n ?_
  refine RunC.cond (b := false) (by kernel_rfl) (fun h => by cases h) (fun _ => ?_)
  refine RunC.skip ?_
  refine kseq_n ?_
  refine RunC.seq ?_
  refine RunC.seq ?_
  refine RunC.region ?_
  refine RunR.sil hU [] 4 4 [0, 1, 4, 10] [(0, .slice A kk.length c), (1, .slice A3 ms.length c3), (4, .bool false), (10, .bool (decide (((kk.length : Nat) : Int) > 2048)))] ((True) ∧ (True) ∧ (True) ∧ (True) ∧ True) rfl (by kernel_rfl) ⟨trivial, trivial, trivial, trivial, trivial⟩ ?_
  refine RunR.env [0, 1, 4, 10] [(0, .slice A kk.length c), (1, .slice A3 ms.length c3), (4, .bool false), (10, .bool (decide (((kk.length : Nat) : Int) > 2048)))] (by kernel_rfl) ?_
  by_cases h3 : ((kk.length : Nat) : Int) > 2048
  · skip
    refine RunR.enveq [(0, .slice A kk.length c), (1, .slice A3 ms.length c3), (4, .bool false), (10, .bool true)] (by rw [decide_eq_true h3]; try rfl) ?_
    refine RunR.sil hU [] 4 8 [0, 1, 4, 14] [(0, .slice A kk.length c), (1, .slice A3 ms.length c3), (4, .bool false), (14, .bool true)] ((True) ∧ True) rfl (by kernel_rfl) ⟨trivial, trivial⟩ ?_
    refine RunR.done (by kernel_rfl) ?_
    refine kseq_n ?_
    refine RunC.cond (b := true) (by kernel_rfl) (fun _ => ?_) (fun h => by cases h)
    refine RunC.seq ?_
    refine RunC.region ?_
    refine RunR.sil hU [] 1 1 [0, 1, 4] [(0, .slice A kk.length c), (1, .slice A3 ms.length c3), (4, .bool true)] ((True) ∧ True) rfl (by kernel_rfl) ⟨trivial, trivial⟩ ?_
    refine RunR.done (by kernel_rfl) ?_
    refine kseq_n ?_
    refine RunC.ret ?_
    refine kseq_r ?_
    refine kret_r [.bool true] [] [] ⟨rfl, trivial⟩ (by kernel_rfl) rfl ⟨rfl, rfl⟩
  · skip
    refine RunR.enveq [(0, .slice A kk.length c), (1, .slice A3 ms.length c3), (4, .bool false), (10, .bool false)] (by rw [decide_eq_false h3]; try rfl) ?_
    refine RunR.sil hU [] 4 8 [0, 1, 4, 14] [(0, .slice A kk.length c), (1, .slice A3 ms.length c3), (4, .bool false), (14, .bool (decide (((ms.length : Nat) : Int) > 2048)))] ((True) ∧ (True) ∧ (True) ∧ (True) ∧ True) rfl (by kernel_rfl) ⟨trivial, trivial, trivial, trivial, trivial⟩ ?_
    refine RunR.done (by kernel_rfl) ?_
    refine kseq_n ?_
    refine RunC.condp (((ms.length : Nat) : Int) > 2048) (by kernel_rfl) (fun h4 => ?_) (fun h4 => ?_)
    · skip
      refine RunC.seq ?_
      refine RunC.region ?_
      refine RunR.sil hU [] 1 1 [0, 1, 4] [(0, .slice A kk.length c), (1, .slice A3 ms.length c3), (4, .bool true)] ((True) ∧ True) rfl (by kernel_rfl) ⟨trivial, trivial⟩ ?_
      refine RunR.done (by kernel_rfl) ?_
      refine kseq_n ?_
      refine RunC.ret ?_
      refine kseq_r ?_
      refine kret_r [.bool true] [] [] ⟨rfl, trivial⟩ (by kernel_rfl) rfl ⟨rfl, rfl⟩
    · skip
      refine RunC.skip ?_
      refine kseq_n ?_
      refine RunC.seq ?_
      refine RunC.region ?_
      refine RunR.sil hU [] 2 2 [0, 1, 4, 15, 16] [(0, .slice A kk.length c), (1, .slice A3 ms.length c3), (4, .bool false), (15, .slice A kk.length c), (16, .slice A3 ms.length c3)] ((True) ∧ (True) ∧ True) rfl (by kernel_rfl) ⟨trivial, trivial, trivial⟩ ?_
      refine RunR.step (dst := some 17) (op := .call { callee := .value (.func 21), args := #[.tmp 15, .tmp 16], argTypes := #[22, 22] }) (by kernel_rfl) (Step.call 21 [.slice A kk.length c, .slice A3 ms.length c3] (by kernel_rfl) (by kernel_rfl) [] [vw A (nums .u8 kk), vw A3 (nums .u8 ms)] [vw A (nums .u8 kk), vw A3 (nums .u8 ms)] (m_Mac_spec A c kk A3 c3 ms kk.length ms.length hIkk (by first | assumption | omega | (simp only [List.length_append, List.length_cons, List.length_nil, List.length_set, List.length_replicate, List.length_take, List.length_drop]; omega) | (simp only [fits] at *; omega) | (simp only [List.length_append, List.length_cons, List.length_nil, List.length_set, List.length_replicate, List.length_take, List.length_drop] at *; omega) | (simp; done) | decide) (by first | assumption | omega | (simp only [List.length_append, List.length_cons, List.length_nil, List.length_set, List.length_replicate, List.length_take, List.length_drop]; omega) | (simp only [fits] at *; omega) | (simp only [List.length_append, List.length_cons, List.length_nil, List.length_set, List.length_replicate, List.length_take, List.length_drop] at *; omega) | (simp; done) | decide) hIms (by first | assumption | omega | (simp only [List.length_append, List.length_cons, List.length_nil, List.length_set, List.length_replicate, List.length_take, List.length_drop]; omega) | (simp only [fits] at *; omega) | (simp only [List.length_append, List.length_cons, List.length_nil, List.length_set, List.length_replicate, List.length_take, List.length_drop] at *; omega) | (simp; done) | decide) (by first | assumption | omega | (simp only [List.length_append, List.length_cons, List.length_nil, List.length_set, List.length_replicate, List.length_take, List.length_drop]; omega) | (simp only [fits] at *; omega) | (simp only [List.length_append, List.length_cons, List.length_nil, List.length_set, List.length_replicate, List.length_take, List.length_drop] at *; omega) | (simp; done) | decide) (by first | rfl | assumption | omega | (simp only [List.length_append, List.length_cons, List.length_nil, List.length_set, List.length_replicate, List.length_take, List.length_drop]; omega) | (simp; done)) (by first | rfl | assumption | omega | (simp only [List.length_append, List.length_cons, List.length_nil, List.length_set, List.length_replicate, List.length_take, List.length_drop]; omega) | (simp; done))) [] (by kernel_rfl) (((Lend.nil _).tells 1 (vw A3 (nums .u8 ms)) A3 (nums .u8 ms) (by kernel_rfl) (tells_vw _ _)).tells 0 (vw A (nums .u8 kk)) A (nums .u8 kk) (by kernel_rfl) (tells_vw _ _)) ?_)
      rintro _ _ ⟨A25, c26, zs7, rfl, rfl, hp8, hp9, hp10, hp11, hp12⟩
      refine RunR.sil hU [] 2 5 [0, 1, 4, 17, 18, 19] [(0, .slice A kk.length c), (1, .slice A3 ms.length c3), (4, .bool false), (17, .slice A25 zs7.length c26), (18, .slice A kk.length c), (19, .slice A3 ms.length c3)] ((True) ∧ (True) ∧ True) rfl (by kernel_rfl) ⟨trivial, trivial, trivial⟩ ?_
      refine RunR.step (dst := some 20) (op := .call { callee := .value (.func 22), args := #[.tmp 18, .tmp 19], argTypes := #[22, 22] }) (by kernel_rfl) (Step.call 22 [.slice A kk.length c, .slice A3 ms.length c3] (by kernel_rfl) (by kernel_rfl) [] [vw A (nums .u8 kk), vw A3 (nums .u8 ms)] [row 5 1 (.slice A25 zs7.length c26) zs7.length (nums .u8 zs7), vw A (nums .u8 kk), vw A3 (nums .u8 ms)] (mr_Mac_spec A c kk A3 c3 ms kk.length ms.length hIkk (by first | assumption | omega | (simp only [List.length_append, List.length_cons, List.length_nil, List.length_set, List.length_replicate, List.length_take, List.length_drop]; omega) | (simp only [fits] at *; omega) | (simp only [List.length_append, List.length_cons, List.length_nil, List.length_set, List.length_replicate, List.length_take, List.length_drop] at *; omega) | (simp; done) | decide) (by first | assumption | omega | (simp only [List.length_append, List.length_cons, List.length_nil, List.length_set, List.length_replicate, List.length_take, List.length_drop]; omega) | (simp only [fits] at *; omega) | (simp only [List.length_append, List.length_cons, List.length_nil, List.length_set, List.length_replicate, List.length_take, List.length_drop] at *; omega) | (simp; done) | decide) hIms (by first | assumption | omega | (simp only [List.length_append, List.length_cons, List.length_nil, List.length_set, List.length_replicate, List.length_take, List.length_drop]; omega) | (simp only [fits] at *; omega) | (simp only [List.length_append, List.length_cons, List.length_nil, List.length_set, List.length_replicate, List.length_take, List.length_drop] at *; omega) | (simp; done) | decide) (by first | assumption | omega | (simp only [List.length_append, List.length_cons, List.length_nil, List.length_set, List.length_replicate, List.length_take, List.length_drop]; omega) | (simp only [fits] at *; omega) | (simp only [List.length_append, List.length_cons, List.length_nil, List.length_set, List.length_replicate, List.length_take, List.length_drop] at *; omega) | (simp; done) | decide) (by first | rfl | assumption | omega | (simp only [List.length_append, List.length_cons, List.length_nil, List.length_set, List.length_replicate, List.length_take, List.length_drop]; omega) | (simp; done)) (by first | rfl | assumption | omega | (simp only [List.length_append, List.length_cons, List.length_nil, List.length_set, List.length_replicate, List.length_take, List.length_drop]; omega) | (simp; done))) [] (by kernel_rfl) (((Lend.nil _).tells 2 (vw A3 (nums .u8 ms)) A3 (nums .u8 ms) (by kernel_rfl) (tells_vw _ _)).tells 1 (vw A (nums .u8 kk)) A (nums .u8 kk) (by kernel_rfl) (tells_vw _ _)) ?_)
      rintro _ _ ⟨A213, c214, zs15, rfl, rfl, hp16, hp17, hp18, hp19, hp20⟩
      refine RunR.step (dst := some 21) (op := .call { callee := .value (.func 20), args := #[.tmp 17, .tmp 20], argTypes := #[22, 22] }) (by kernel_rfl) (Step.call 20 [.slice A25 zs7.length c26, .slice A213 zs15.length c214] (by kernel_rfl) (by kernel_rfl) [] [vw A25 (nums .u8 zs7), vw A213 (nums .u8 zs15)] [row 5 1 (.slice A213 zs15.length c214) zs15.length (nums .u8 zs15), row 5 1 (.slice A25 zs7.length c26) zs7.length (nums .u8 zs7), vw A (nums .u8 kk), vw A3 (nums .u8 ms)] (r_Equal_spec A25 c26 zs7 A213 c214 zs15 zs7.length zs15.length hp10 (by first | assumption | omega | (simp only [List.length_append, List.length_cons, List.length_nil, List.length_set, List.length_replicate, List.length_take, List.length_drop]; omega) | (simp only [fits] at *; omega) | (simp only [List.length_append, List.length_cons, List.length_nil, List.length_set, List.length_replicate, List.length_take, List.length_drop] at *; omega) | (simp; done) | decide) hp18 (by first | assumption | omega | (simp only [List.length_append, List.length_cons, List.length_nil, List.length_set, List.length_replicate, List.length_take, List.length_drop]; omega) | (simp only [fits] at *; omega) | (simp only [List.length_append, List.length_cons, List.length_nil, List.length_set, List.length_replicate, List.length_take, List.length_drop] at *; omega) | (simp; done) | decide) (by first | rfl | assumption | omega | (simp only [List.length_append, List.length_cons, List.length_nil, List.length_set, List.length_replicate, List.length_take, List.length_drop]; omega) | (simp; done)) (by first | rfl | assumption | omega | (simp only [List.length_append, List.length_cons, List.length_nil, List.length_set, List.length_replicate, List.length_take, List.length_drop]; omega) | (simp; done))) [] (by kernel_rfl) (((Lend.nil _).tells 0 (row 5 1 (.slice A213 zs15.length c214) zs15.length (nums .u8 zs15)) A213 (nums .u8 zs15) (by kernel_rfl) (tells_row _ _ _ _ _ _)).tells 1 (row 5 1 (.slice A25 zs7.length c26) zs7.length (nums .u8 zs7)) A25 (nums .u8 zs7) (by kernel_rfl) (tells_row _ _ _ _ _ _)) ?_)
      rintro _ _ ⟨rfl, rfl⟩
      refine RunR.sil hU [] 1 8 [0, 1, 4, 22] [(0, .slice A kk.length c), (1, .slice A3 ms.length c3), (4, .bool false), (22, .bool (decide (zs7 = zs15)))] ((True) ∧ True) rfl (by kernel_rfl) ⟨trivial, trivial⟩ ?_
      refine RunR.env [0, 1, 4, 22] [(0, .slice A kk.length c), (1, .slice A3 ms.length c3), (4, .bool false), (22, .bool (decide (zs7 = zs15)))] (by kernel_rfl) ?_
      have hk21 : (zs7 = zs15) := by simp only [hp8, hp16]; first | done | exact (hmac_nil rfl).symm | exact hmac_dig (by omega) | exact hmac_pad (by omega)
      refine RunR.enveq [(0, .slice A kk.length c), (1, .slice A3 ms.length c3), (4, .bool false), (22, .bool true)] (by rw [decide_eq_true hk21]; try rfl) ?_
      refine RunR.sil hU [] 2 10 [0, 1, 4, 22, 23, 24] [(0, .slice A kk.length c), (1, .slice A3 ms.length c3), (4, .bool false), (22, .bool true), (23, .slice A kk.length c), (24, .slice A3 ms.length c3)] ((True) ∧ (True) ∧ True) rfl (by kernel_rfl) ⟨trivial, trivial, trivial⟩ ?_
      refine RunR.step (dst := some 25) (op := .call { callee := .value (.func 23), args := #[.tmp 23, .tmp 24], argTypes := #[22, 22] }) (by kernel_rfl) (Step.call 23 [.slice A kk.length c, .slice A3 ms.length c3] (by kernel_rfl) (by kernel_rfl) [] [vw A (nums .u8 kk), vw A3 (nums .u8 ms)] [row 5 1 (.slice A213 zs15.length c214) zs15.length (nums .u8 zs15), row 5 1 (.slice A25 zs7.length c26) zs7.length (nums .u8 zs7), vw A (nums .u8 kk), vw A3 (nums .u8 ms)] (m_Extract_spec A c kk A3 c3 ms kk.length ms.length hIkk (by first | assumption | omega | (simp only [List.length_append, List.length_cons, List.length_nil, List.length_set, List.length_replicate, List.length_take, List.length_drop]; omega) | (simp only [fits] at *; omega) | (simp only [List.length_append, List.length_cons, List.length_nil, List.length_set, List.length_replicate, List.length_take, List.length_drop] at *; omega) | (simp; done) | decide) (by first | assumption | omega | (simp only [List.length_append, List.length_cons, List.length_nil, List.length_set, List.length_replicate, List.length_take, List.length_drop]; omega) | (simp only [fits] at *; omega) | (simp only [List.length_append, List.length_cons, List.length_nil, List.length_set, List.length_replicate, List.length_take, List.length_drop] at *; omega) | (simp; done) | decide) hIms (by first | assumption | omega | (simp only [List.length_append, List.length_cons, List.length_nil, List.length_set, List.length_replicate, List.length_take, List.length_drop]; omega) | (simp only [fits] at *; omega) | (simp only [List.length_append, List.length_cons, List.length_nil, List.length_set, List.length_replicate, List.length_take, List.length_drop] at *; omega) | (simp; done) | decide) (by first | assumption | omega | (simp only [List.length_append, List.length_cons, List.length_nil, List.length_set, List.length_replicate, List.length_take, List.length_drop]; omega) | (simp only [fits] at *; omega) | (simp only [List.length_append, List.length_cons, List.length_nil, List.length_set, List.length_replicate, List.length_take, List.length_drop] at *; omega) | (simp; done) | decide) (by first | rfl | assumption | omega | (simp only [List.length_append, List.length_cons, List.length_nil, List.length_set, List.length_replicate, List.length_take, List.length_drop]; omega) | (simp; done)) (by first | rfl | assumption | omega | (simp only [List.length_append, List.length_cons, List.length_nil, List.length_set, List.length_replicate, List.length_take, List.length_drop]; omega) | (simp; done))) [] (by kernel_rfl) (((Lend.nil _).tells 3 (vw A3 (nums .u8 ms)) A3 (nums .u8 ms) (by kernel_rfl) (tells_vw _ _)).tells 2 (vw A (nums .u8 kk)) A (nums .u8 kk) (by kernel_rfl) (tells_vw _ _)) ?_)
      rintro _ _ ⟨A222, c223, zs24, rfl, rfl, hp25, hp26, hp27, hp28, hp29⟩
      refine RunR.sil hU [] 2 13 [4, 22, 25, 26, 27] [(4, .bool false), (22, .bool true), (25, .slice A222 zs24.length c223), (26, .slice A kk.length c), (27, .slice A3 ms.length c3)] ((True) ∧ (True) ∧ True) rfl (by kernel_rfl) ⟨trivial, trivial, trivial⟩ ?_
      refine RunR.step (dst := some 28) (op := .call { callee := .value (.func 24), args := #[.tmp 26, .tmp 27], argTypes := #[22, 22] }) (by kernel_rfl) (Step.call 24 [.slice A kk.length c, .slice A3 ms.length c3] (by kernel_rfl) (by kernel_rfl) [] [vw A (nums .u8 kk), vw A3 (nums .u8 ms)] [row 5 1 (.slice A222 zs24.length c223) zs24.length (nums .u8 zs24), row 5 1 (.slice A213 zs15.length c214) zs15.length (nums .u8 zs15), row 5 1 (.slice A25 zs7.length c26) zs7.length (nums .u8 zs7), vw A (nums .u8 kk), vw A3 (nums .u8 ms)] (mr_Extract_spec A c kk A3 c3 ms kk.length ms.length hIkk (by first | assumption | omega | (simp only [List.length_append, List.length_cons, List.length_nil, List.length_set, List.length_replicate, List.length_take, List.length_drop]; omega) | (simp only [fits] at *; omega) | (simp only [List.length_append, List.length_cons, List.length_nil, List.length_set, List.length_replicate, List.length_take, List.length_drop] at *; omega) | (simp; done) | decide) (by first | assumption | omega | (simp only [List.length_append, List.length_cons, List.length_nil, List.length_set, List.length_replicate, List.length_take, List.length_drop]; omega) | (simp only [fits] at *; omega) | (simp only [List.length_append, List.length_cons, List.length_nil, List.length_set, List.length_replicate, List.length_take, List.length_drop] at *; omega) | (simp; done) | decide) hIms (by first | assumption | omega | (simp only [List.length_append, List.length_cons, List.length_nil, List.length_set, List.length_replicate, List.length_take, List.length_drop]; omega) | (simp only [fits] at *; omega) | (simp only [List.length_append, List.length_cons, List.length_nil, List.length_set, List.length_replicate, List.length_take, List.length_drop] at *; omega) | (simp; done) | decide) (by first | assumption | omega | (simp only [List.length_append, List.length_cons, List.length_nil, List.length_set, List.length_replicate, List.length_take, List.length_drop]; omega) | (simp only [fits] at *; omega) | (simp only [List.length_append, List.length_cons, List.length_nil, List.length_set, List.length_replicate, List.length_take, List.length_drop] at *; omega) | (simp; done) | decide) (by first | rfl | assumption | omega | (simp only [List.length_append, List.length_cons, List.length_nil, List.length_set, List.length_replicate, List.length_take, List.length_drop]; omega) | (simp; done)) (by first | rfl | assumption | omega | (simp only [List.length_append, List.length_cons, List.length_nil, List.length_set, List.length_replicate, List.length_take, List.length_drop]; omega) | (simp; done))) [] (by kernel_rfl) (((Lend.nil _).tells 4 (vw A3 (nums .u8 ms)) A3 (nums .u8 ms) (by kernel_rfl) (tells_vw _ _)).tells 3 (vw A (nums .u8 kk)) A (nums .u8 kk) (by kernel_rfl) (tells_vw _ _)) ?_)
      rintro _ _ ⟨A230, c231, zs32, rfl, rfl, hp33, hp34, hp35, hp36, hp37⟩
      refine RunR.step (dst := some 29) (op := .call { callee := .value (.func 20), args := #[.tmp 25, .tmp 28], argTypes := #[22, 22] }) (by kernel_rfl) (Step.call 20 [.slice A222 zs24.length c223, .slice A230 zs32.length c231] (by kernel_rfl) (by kernel_rfl) [] [vw A222 (nums .u8 zs24), vw A230 (nums .u8 zs32)] [row 5 1 (.slice A230 zs32.length c231) zs32.length (nums .u8 zs32), row 5 1 (.slice A222 zs24.length c223) zs24.length (nums .u8 zs24), row 5 1 (.slice A213 zs15.length c214) zs15.length (nums .u8 zs15), row 5 1 (.slice A25 zs7.length c26) zs7.length (nums .u8 zs7), vw A (nums .u8 kk), vw A3 (nums .u8 ms)] (r_Equal_spec A222 c223 zs24 A230 c231 zs32 zs24.length zs32.length hp27 (by first | assumption | omega | (simp only [List.length_append, List.length_cons, List.length_nil, List.length_set, List.length_replicate, List.length_take, List.length_drop]; omega) | (simp only [fits] at *; omega) | (simp only [List.length_append, List.length_cons, List.length_nil, List.length_set, List.length_replicate, List.length_take, List.length_drop] at *; omega) | (simp; done) | decide) hp35 (by first | assumption | omega | (simp only [List.length_append, List.length_cons, List.length_nil, List.length_set, List.length_replicate, List.length_take, List.length_drop]; omega) | (simp only [fits] at *; omega) | (simp only [List.length_append, List.length_cons, List.length_nil, List.length_set, List.length_replicate, List.length_take, List.length_drop] at *; omega) | (simp; done) | decide) (by first | rfl | assumption | omega | (simp only [List.length_append, List.length_cons, List.length_nil, List.length_set, List.length_replicate, List.length_take, List.length_drop]; omega) | (simp; done)) (by first | rfl | assumption | omega | (simp only [List.length_append, List.length_cons, List.length_nil, List.length_set, List.length_replicate, List.length_take, List.length_drop]; omega) | (simp; done))) [] (by kernel_rfl) (((Lend.nil _).tells 0 (row 5 1 (.slice A230 zs32.length c231) zs32.length (nums .u8 zs32)) A230 (nums .u8 zs32) (by kernel_rfl) (tells_row _ _ _ _ _ _)).tells 1 (row 5 1 (.slice A222 zs24.length c223) zs24.length (nums .u8 zs24)) A222 (nums .u8 zs24) (by kernel_rfl) (tells_row _ _ _ _ _ _)) ?_)
      rintro _ _ ⟨rfl, rfl⟩
      refine RunR.sil hU [] 2 17 [4] [(4, .bool (decide (zs24 = zs32)))] ((True) ∧ (True) ∧ True) rfl (by kernel_rfl) ⟨trivial, trivial, trivial⟩ ?_
      refine RunR.env [4] [(4, .bool (decide (zs24 = zs32)))] (by kernel_rfl) ?_
      have hk38 : (zs24 = zs32) := by simp only [hp8, hp16, hp25, hp33]; first | done | exact (hmac_nil rfl).symm | exact hmac_dig (by omega) | exact hmac_pad (by omega)
      refine RunR.enveq [(4, .bool true)] (by rw [decide_eq_true hk38]; try rfl) ?_
      refine RunR.done (by kernel_rfl) ?_
      refine kseq_n ?_
      refine RunC.ret ?_
      refine kret_r [.bool true] [] [] ⟨rfl, trivial⟩ (by kernel_rfl) rfl ⟨rfl, rfl⟩
end Go.Proofs.Ytbnjcfhnbjaoiaa.LMacCodes
