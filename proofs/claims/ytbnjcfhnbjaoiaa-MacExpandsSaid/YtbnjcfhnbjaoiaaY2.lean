/- What these functions compute: a contract for each, walked through its code. -/
import Derived.Test.YtbnjcfhnbjaoiaaMPure
import Derived.Test.YtbnjcfhnbjaoiaaProg
import Derived.Test.YtbnjcfhnbjaoiaaX1
import Derived.Test.YtbnjcfhnbjaoiaaX2
import Derived.Test.YtbnjcfhnbjaoiaaX3
import Derived.Test.YtbnjcfhnbjaoiaaX4
import Derived.Test.YtbnjcfhnbjaoiaaX5
import Derived.Test.YtbnjcfhnbjaoiaaX6
import Derived.Test.YtbnjcfhnbjaoiaaX7
import Derived.Test.YtbnjcfhnbjaoiaaX8
import Derived.Test.YtbnjcfhnbjaoiaaY1
namespace Go.Proofs.Ytbnjcfhnbjaoiaa.Y2
open Go Go.Proofs.Ytbnjcfhnbjaoiaa.SL Go.Proofs.Ytbnjcfhnbjaoiaa.SL.W Go.Proofs.Ytbnjcfhnbjaoiaa.SL.C Go.Proofs.Ytbnjcfhnbjaoiaa.SL.H Go.Proofs.Ytbnjcfhnbjaoiaa.SL.M Go.Proofs.Ytbnjcfhnbjaoiaa.X1 Go.Proofs.Ytbnjcfhnbjaoiaa.X2 Go.Proofs.Ytbnjcfhnbjaoiaa.X3 Go.Proofs.Ytbnjcfhnbjaoiaa.X4 Go.Proofs.Ytbnjcfhnbjaoiaa.X5 Go.Proofs.Ytbnjcfhnbjaoiaa.X6 Go.Proofs.Ytbnjcfhnbjaoiaa.X7 Go.Proofs.Ytbnjcfhnbjaoiaa.X8 Go.Proofs.Ytbnjcfhnbjaoiaa.Y1
set_option linter.unusedVariables false
set_option linter.unusedSimpArgs false
set_option maxRecDepth 100000
set_option maxHeartbeats 40000000
def U : Tab where
  und := [(3, .int .i64), (5, .int .u8), (22, .slice 5)]
  fld := []
  sz := [(3, 1), (5, 1), (22, 1)]
  ti := [(3, (1, 8, .int .i64 0)), (5, (1, 1, .int .u8 0)), (22, (1, 24, .slice none 0 0))]
  bld := []

theorem hU : U.OK Try.prog where
  und := by
    intro p hp
    simp only [U, List.mem_cons, List.not_mem_nil, or_false] at hp
    rcases hp with rfl | rfl | rfl
    · exact Try.underlying3
    · exact Try.underlying5
    · exact Try.underlying22
  fld := by
    intro p hp; cases hp
  sz := by
    intro p hp
    simp only [U, List.mem_cons, List.not_mem_nil, or_false] at hp
    rcases hp with rfl | rfl | rfl
    · exact ⟨Try.prog.types[3]!, by kernel_rfl, by kernel_rfl⟩
    · exact ⟨Try.prog.types[5]!, by kernel_rfl, by kernel_rfl⟩
    · exact ⟨Try.prog.types[22]!, by kernel_rfl, by kernel_rfl⟩
  ti := by
    intro p hp
    simp only [U, List.mem_cons, List.not_mem_nil, or_false] at hp
    rcases hp with rfl | rfl | rfl
    · exact ⟨Try.prog.types[3]!, by kernel_rfl, by kernel_rfl, by kernel_rfl, by kernel_rfl⟩
    · exact ⟨Try.prog.types[5]!, by kernel_rfl, by kernel_rfl, by kernel_rfl, by kernel_rfl⟩
    · exact ⟨Try.prog.types[22]!, by kernel_rfl, by kernel_rfl, by kernel_rfl, by kernel_rfl⟩
  bld := by
    intro p hp; cases hp
  mixed := by kernel_rfl

theorem mr_Mac_spec (A : Option Addr) (c : Nat) (kk : List Int) (A3 : Option Addr) (c3 : Nat) (ms : List Int) (l_kk : Nat) (l_ms : Nat) (hIkk : In .u8 kk) (hCkk : kk.length ≤ c) (hBkk : kk.length ≤ 70368744177664) (hIms : In .u8 ms) (hCms : ms.length ≤ c3) (hBms : ms.length ≤ 70368744177664) (hl_kk : kk.length = l_kk) (hl_ms : ms.length = l_ms) :
    CallsS Try.prog 22 [.slice A l_kk c, .slice A3 l_ms c3] [vw A (nums .u8 kk), vw A3 (nums .u8 ms)] (fun r D => ∃ (A2 : Option Addr) (c2 : Nat) (zs : List Int), r = .slice A2 zs.length c2 ∧ D = [row 5 1 (.slice A2 zs.length c2) zs.length (nums .u8 zs)] ∧ (zs = hmac kk ms) ∧ (zs.length = 32) ∧ (In .u8 zs) ∧ (zs.length ≤ c2) ∧ (0 < zs.length → Option.isSome A2 = true)) := by
  subst hl_kk
  subst hl_ms
  refine CallsS.enter hU Try.f22 _ [.tmp 4] 50 Try.func22 rfl (by decide) rfl rfl (by kernel_rfl) fun w0 W => ?_
  refine RunC.know (p := 0 < kk.length → Option.isSome A = true) (fun w hs => vw_some hs 0 rfl (by simp [nums_length])) (fun hA1 => ?_)
  refine RunC.know (p := 0 < ms.length → Option.isSome A3 = true) (fun w hs => vw_some hs 1 rfl (by simp [nums_length])) (fun hA2 => ?_)
  refine RunC.seq ?_
  refine RunC.region ?_
  refine RunR.sil hU [] 1 1 [0, 1, 4] [(0, .slice A kk.length c), (1, .slice A3 ms.length c3), (4, .slice none 0 0)] ((True) ∧ True) rfl (by kernel_rfl) ⟨trivial, trivial⟩ ?_
  refine RunR.done (by kernel_rfl) ?_
  refine kseq_n ?_
  refine RunC.seq ?_
  refine RunC.region ?_
  refine RunR.step (dst := some 9) (op := .buildSlice 22 0 #[]) (by kernel_rfl) (Step.lit_nums hU 5 1 .u8 (.int .u8 0) ([] : List Int) rfl rfl (by kernel_rfl) rfl rfl (by kernel_rfl) (fun b3 => ?_))
  have hl4 : (([] : List Int)).length = 0 := rfl
  refine RunR.sil hU [] 1 2 [0, 1, 4, 9, 10] [(0, .slice A kk.length c), (1, .slice A3 ms.length c3), (4, .slice none 0 0), (9, .slice (some ⟨b3, 0, none⟩) 0 0), (10, .slice A kk.length c)] ((True) ∧ True) rfl (by kernel_rfl) ⟨trivial, trivial⟩ ?_
  have hl9 : (([] : List Int)).length = 0 := rfl
  refine RunR.step (dst := some 11) (op := .call { callee := .builtin .append, args := #[.tmp 9, .tmp 10], argTypes := #[22, 22] }) (by kernel_rfl) (Step.append_nums hU 5 1 (.int .u8 0) .u8 0 1 (some ⟨b3, 0, none⟩) 0 0 ([] : List Int) A kk.length c (vw A (nums .u8 kk)) kk rfl rfl rfl (by kernel_rfl) (by kernel_rfl) (by kernel_rfl) (by kernel_rfl) (tells_vw _ _) (by first | rfl | omega | (simp; omega)) (by first | rfl | omega | (simp; omega)) (by omega) (by omega) (by kernel_rfl) (fun Aq5 cq6 hc7 hA8 => ?_))
  simp only [List.nil_append] at hc7 hA8
  refine RunR.sil hU [] 1 4 [0, 1, 4, 5] [(0, .slice A kk.length c), (1, .slice A3 ms.length c3), (4, .slice none 0 0), (5, .slice Aq5 kk.length cq6)] ((True) ∧ True) rfl (by kernel_rfl) ⟨trivial, trivial⟩ ?_
  refine RunR.done (by kernel_rfl) ?_
  refine kseq_n ?_
  refine RunC.seq ?_
  refine RunC.seq ?_
  refine RunC.region ?_
  refine RunR.sil hU [] 3 3 [0, 1, 4, 5, 14] [(0, .slice A kk.length c), (1, .slice A3 ms.length c3), (4, .slice none 0 0), (5, .slice Aq5 kk.length cq6), (14, .bool (decide (((kk.length : Nat) : Int) > 64)))] ((True) ∧ (True) ∧ (True) ∧ True) rfl (by kernel_rfl) ⟨trivial, trivial, trivial, trivial⟩ ?_
  refine RunR.done (by kernel_rfl) ?_
  refine kseq_n ?_
  refine RunC.condp (((kk.length : Nat) : Int) > 64) (by kernel_rfl) (fun h10 => ?_) (fun h10 => ?_)
  · skip
    refine RunC.region ?_
    refine RunR.sil hU [] 1 1 [1, 4, 5, 15] [(1, .slice A3 ms.length c3), (4, .slice none 0 0), (5, .slice Aq5 kk.length cq6), (15, .slice A kk.length c)] ((True) ∧ True) rfl (by kernel_rfl) ⟨trivial, trivial⟩ ?_
    refine RunR.step (dst := some 16) (op := .call { callee := .value (.func 47), args := #[.tmp 15], argTypes := #[22] }) (by kernel_rfl) (Step.call 47 [.slice A kk.length c] (by kernel_rfl) (by kernel_rfl) [] [vw A (nums .u8 kk)] [row 5 1 (.slice Aq5 kk.length cq6) kk.length (nums .u8 kk), vw A (nums .u8 kk), vw A3 (nums .u8 ms)] (hr_Of_spec A c kk kk.length hIkk (by first | assumption | omega | (simp only [List.length_append, List.length_cons, List.length_nil, List.length_set, List.length_replicate, List.length_take, List.length_drop]; omega) | (simp only [fits] at *; omega) | (simp only [List.length_append, List.length_cons, List.length_nil, List.length_set, List.length_replicate, List.length_take, List.length_drop] at *; omega) | (simp; done) | decide) (by first | rfl | assumption | omega | (simp only [List.length_append, List.length_cons, List.length_nil, List.length_set, List.length_replicate, List.length_take, List.length_drop]; omega) | (simp; done))) [] (by kernel_rfl) ((Lend.nil _).tells 1 (vw A (nums .u8 kk)) A (nums .u8 kk) (by kernel_rfl) (tells_vw _ _)) ?_)
    rintro _ _ ⟨A211, c212, zs13, rfl, rfl, hp14, hp15, hp16, hp17, hp18⟩
    refine RunR.sil hU [] 1 3 [1, 4, 5] [(1, .slice A3 ms.length c3), (4, .slice none 0 0), (5, .slice A211 zs13.length c212)] ((True) ∧ True) rfl (by kernel_rfl) ⟨trivial, trivial⟩ ?_
    refine RunR.done (by kernel_rfl) ?_
    refine kseq_n ?_
    refine RunC.seq ?_
    refine RunC.block ?_
    refine RunC.env [1, 4, 5] [(1, .slice A3 ms.length c3), (4, .slice none 0 0), (5, .slice A211 zs13.length c212)] (by kernel_rfl) ?_
    refine RunC.only [0, 0, 0, 0] [row 5 1 (.slice A211 zs13.length c212) zs13.length (nums .u8 zs13), row 5 1 (.slice Aq5 kk.length cq6) kk.length (nums .u8 kk), vw A (nums .u8 kk), vw A3 (nums .u8 ms)] (by kernel_rfl) ?_
    refine RunC.loop (σ := Nat) (fun n_ t_ D_ => ∃ (j : Nat) (bs : List Int) (A5 : Option Addr) (c5 : Nat), (bs = fit kk ++ List.replicate j 0) ∧ (bs.length ≤ 64) ∧ (In .u8 bs) ∧ (bs.length ≤ c5) ∧ (0 < bs.length → Option.isSome A5 = true) ∧ n_ = (64 - bs.length : Nat) ∧ t_ = [(1, .slice A3 ms.length c3), (4, .slice none 0 0), (5, .slice A5 bs.length c5)] ∧ D_ = [row 5 1 (.slice A5 bs.length c5) bs.length (nums .u8 bs), row 5 1 (.slice Aq5 kk.length cq6) kk.length (nums .u8 kk), vw A (nums .u8 kk), vw A3 (nums .u8 ms)]) id _ ⟨0, zs13, A211, c212, (by rw [app_nil]; first | (simp only [hp14]; exact fit_big (by omega)) | exact fit_small (by omega)), (by omega), hp16, (by first | assumption | omega | (simp only [List.length_append, List.length_cons, List.length_nil, List.length_set, List.length_replicate, List.length_take, List.length_drop]; omega) | (simp only [fits] at *; omega) | (simp only [List.length_append, List.length_cons, List.length_nil, List.length_set, List.length_replicate, List.length_take, List.length_drop] at *; omega) | (simp; done) | decide), (fun h => hp18 (by first | exact h | (simp at h ⊢; omega))), rfl, rfl, rfl⟩ ?_
    rintro n_ _ _ ⟨j, bs, A5, c5, hb, hbl, hibs, hcbs, hAbs, rfl, rfl, rfl⟩
    refine RunC.seq ?_
    refine RunC.seq ?_
    refine RunC.region ?_
    refine RunR.sil hU [] 3 3 [1, 4, 5, 19] [(1, .slice A3 ms.length c3), (4, .slice none 0 0), (5, .slice A5 bs.length c5), (19, .bool (decide (((bs.length : Nat) : Int) < 64)))] ((True) ∧ (True) ∧ (True) ∧ True) rfl (by kernel_rfl) ⟨trivial, trivial, trivial, trivial⟩ ?_
    refine RunR.done (by kernel_rfl) ?_
    refine kseq_n ?_
    refine RunC.condp (((bs.length : Nat) : Int) < 64) (by kernel_rfl) (fun h19 => ?_) (fun h19 => ?_)
    · skip
      refine RunC.skip ?_
      refine kseq_n ?_
      refine RunC.block ?_
      refine RunC.region ?_
      refine RunR.sil hU [] 1 1 [1, 4, 5, 20] [(1, .slice A3 ms.length c3), (4, .slice none 0 0), (5, .slice A5 bs.length c5), (20, .slice A5 bs.length c5)] ((True) ∧ True) rfl (by kernel_rfl) ⟨trivial, trivial⟩ ?_
      refine RunR.step (dst := some 21) (op := .buildSlice 22 1 #[(0, .const (.int .u8 0))]) (by kernel_rfl) (Step.lit_nums hU 5 1 .u8 (.int .u8 0) ([0] : List Int) rfl rfl (by kernel_rfl) rfl rfl (by kernel_rfl) (fun b20 => ?_))
      have hl21 : (([0] : List Int)).length = 1 := rfl
      have hl26 : (([0] : List Int)).length = 1 := rfl
      refine RunR.step (dst := some 22) (op := .call { callee := .builtin .append, args := #[.tmp 20, .tmp 21], argTypes := #[22, 22] }) (by kernel_rfl) (Step.append_nums hU 5 1 (.int .u8 0) .u8 1 0 A5 bs.length c5 bs (some ⟨b20, 0, none⟩) 1 1 (row 5 1 (.slice (some ⟨b20, 0, none⟩) 1 1) 1 (nums .u8 ([0] : List Int))) ([0] : List Int) rfl rfl rfl (by kernel_rfl) (by kernel_rfl) (by kernel_rfl) (by kernel_rfl) (tells_row _ _ _ _ _ _) (by first | rfl | omega | (simp; omega)) (by first | rfl | omega | (simp; omega)) (by omega) (by omega) (by kernel_rfl) (fun Aq22 cq23 hc24 hA25 => ?_))
      have hl27 : (bs ++ ([0] : List Int)).length = bs.length + ([0] : List Int).length := List.length_append
      simp only [List.length_cons, List.length_nil] at hl27
      refine RunR.sil hU [] 1 4 [1, 4, 5] [(1, .slice A3 ms.length c3), (4, .slice none 0 0), (5, .slice Aq22 ((bs ++ ([0] : List Int)).length) cq23)] ((True) ∧ True) rfl (by kernel_rfl) ⟨trivial, trivial⟩ ?_
      refine RunR.done (by kernel_rfl) ?_
      refine kblock_n ?_
      refine kloop_n _ [1, 4, 5] [0, 1, 1, 1] [(1, .slice A3 ms.length c3), (4, .slice none 0 0), (5, .slice Aq22 ((bs ++ ([0] : List Int)).length) cq23)] [row 5 1 (.slice Aq22 ((bs ++ ([0] : List Int)).length) cq23) ((bs ++ ([0] : List Int)).length) (nums .u8 (bs ++ ([0] : List Int))), row 5 1 (.slice Aq5 kk.length cq6) kk.length (nums .u8 kk), vw A (nums .u8 kk), vw A3 (nums .u8 ms)] (by kernel_rfl) (by kernel_rfl) ?_ ⟨(j + 1), (bs ++ ([0] : List Int)), Aq22, cq23, (by rw [hb, List.append_assoc, List.replicate_succ']), (by rw [List.length_append]; simp; omega), (by (repeat first | assumption | (simp only [fits]; omega) | with_reducible first | exact fits_wrap _ _ | exact fits_bits2 _ _ _ _ | exact In.nil _ | exact In.sb _ | exact In.replicate _ _ | apply In.append | apply In.cons | apply In.set | apply In.take | apply In.drop | apply In.rev)), (by first | assumption | omega | (simp only [List.length_append, List.length_cons, List.length_nil, List.length_set, List.length_replicate, List.length_take, List.length_drop]; omega) | (simp only [fits] at *; omega) | (simp only [List.length_append, List.length_cons, List.length_nil, List.length_set, List.length_replicate, List.length_take, List.length_drop] at *; omega) | (simp; done) | decide), (fun h => hA25 (by first | exact h | (simp at h ⊢; omega))), rfl, (by rfl), (by rfl)⟩
      show (64 - (bs ++ ([0] : List Int)).length : Nat) < (64 - bs.length : Nat)
      omega
    · skip
      refine RunC.exit ?_
      refine kseq_e ?_
      refine kloop_e ?_
      refine kblock_e ?_
      refine kseq_n ?_
      refine RunC.seq ?_
      refine RunC.region ?_
      refine RunR.sil hU [] 1 1 [1, 4, 5, 6] [(1, .slice A3 ms.length c3), (4, .slice none 0 0), (5, .slice A5 bs.length c5), (6, .slice none 0 0)] ((True) ∧ True) rfl (by kernel_rfl) ⟨trivial, trivial⟩ ?_
      refine RunR.done (by kernel_rfl) ?_
      refine kseq_n ?_
      refine RunC.seq ?_
      refine RunC.region ?_
      refine RunR.sil hU [] 1 1 [1, 4, 5, 6, 7] [(1, .slice A3 ms.length c3), (4, .slice none 0 0), (5, .slice A5 bs.length c5), (6, .slice none 0 0), (7, .slice none 0 0)] ((True) ∧ True) rfl (by kernel_rfl) ⟨trivial, trivial⟩ ?_
      refine RunR.done (by kernel_rfl) ?_
      refine kseq_n ?_
      refine RunC.seq ?_
      refine RunC.seq ?_
      refine RunC.region ?_
      refine RunR.sil hU [] 1 1 [1, 4, 5, 6, 7, 8] [(1, .slice A3 ms.length c3), (4, .slice none 0 0), (5, .slice A5 bs.length c5), (6, .slice none 0 0), (7, .slice none 0 0), (8, .int .i64 0)] ((True) ∧ True) rfl (by kernel_rfl) ⟨trivial, trivial⟩ ?_
      refine RunR.done (by kernel_rfl) ?_
      refine kseq_n ?_
      refine RunC.block ?_
      refine RunC.turn ([row 5 1 (.slice none 0 0) 0 (nums .u8 ([] : List Int)), row 5 1 (.slice A5 bs.length c5) bs.length (nums .u8 bs), row 5 1 (.slice Aq5 kk.length cq6) kk.length (nums .u8 kk), vw A (nums .u8 kk), vw A3 (nums .u8 ms)]) (fun w hs => hs.nil_row 5 1) ?_
      refine RunC.turn ([row 5 1 (.slice none 0 0) 0 (nums .u8 ([] : List Int)), row 5 1 (.slice none 0 0) 0 (nums .u8 ([] : List Int)), row 5 1 (.slice A5 bs.length c5) bs.length (nums .u8 bs), row 5 1 (.slice Aq5 kk.length cq6) kk.length (nums .u8 kk), vw A (nums .u8 kk), vw A3 (nums .u8 ms)]) (fun w hs => hs.nil_row 5 1) ?_
      refine RunC.env [1, 4, 5, 6, 7, 8] [(1, .slice A3 ms.length c3), (4, .slice none 0 0), (5, .slice A5 bs.length c5), (6, .slice none 0 0), (7, .slice none 0 0), (8, .int .i64 0)] (by kernel_rfl) ?_
      refine RunC.only [0, 0, 0, 0, 0, 0] [row 5 1 (.slice none 0 0) 0 (nums .u8 ([] : List Int)), row 5 1 (.slice none 0 0) 0 (nums .u8 ([] : List Int)), row 5 1 (.slice A5 bs.length c5) bs.length (nums .u8 bs), row 5 1 (.slice Aq5 kk.length cq6) kk.length (nums .u8 kk), vw A (nums .u8 kk), vw A3 (nums .u8 ms)] (by kernel_rfl) ?_
      refine RunC.loop (σ := Nat) (fun n_ t_ D_ => ∃ (i : Int) (ps : List Int) (A6 : Option Addr) (c6 : Nat) (qs : List Int) (A7 : Option Addr) (c7 : Nat), (0 ≤ i) ∧ (i ≤ 64) ∧ (ps = maskB bs 54 i.toNat) ∧ (ps.length = i.toNat) ∧ (qs = maskB bs 92 i.toNat) ∧ (qs.length = i.toNat) ∧ (In .u8 ps) ∧ (ps.length ≤ c6) ∧ (0 < ps.length → Option.isSome A6 = true) ∧ (In .u8 qs) ∧ (qs.length ≤ c7) ∧ (0 < qs.length → Option.isSome A7 = true) ∧ n_ = ((64 - i).toNat : Nat) ∧ t_ = [(1, .slice A3 ms.length c3), (4, .slice none 0 0), (5, .slice A5 bs.length c5), (6, .slice A6 ps.length c6), (7, .slice A7 qs.length c7), (8, .int .i64 i)] ∧ D_ = [row 5 1 (.slice A6 ps.length c6) ps.length (nums .u8 ps), row 5 1 (.slice A7 qs.length c7) qs.length (nums .u8 qs), row 5 1 (.slice A5 bs.length c5) bs.length (nums .u8 bs), row 5 1 (.slice Aq5 kk.length cq6) kk.length (nums .u8 kk), vw A (nums .u8 kk), vw A3 (nums .u8 ms)]) id _ ⟨0, ([] : List Int), none, 0, ([] : List Int), none, 0, (by first | assumption | omega | (simp only [List.length_append, List.length_cons, List.length_nil, List.length_set, List.length_replicate, List.length_take, List.length_drop]; omega) | (simp only [fits] at *; omega) | (simp only [List.length_append, List.length_cons, List.length_nil, List.length_set, List.length_replicate, List.length_take, List.length_drop] at *; omega) | (simp; done) | decide), (by first | assumption | omega | (simp only [List.length_append, List.length_cons, List.length_nil, List.length_set, List.length_replicate, List.length_take, List.length_drop]; omega) | (simp only [fits] at *; omega) | (simp only [List.length_append, List.length_cons, List.length_nil, List.length_set, List.length_replicate, List.length_take, List.length_drop] at *; omega) | (simp; done) | decide), (by rfl), (by rfl), (by rfl), (by rfl), (by exact In.nil _), (by exact Nat.zero_le _), (by intro h; simp at h), (by exact In.nil _), (by exact Nat.zero_le _), (by intro h; simp at h), rfl, rfl, rfl⟩ ?_
      rintro n_ _ _ ⟨i, ps, A6, c6, qs, A7, c7, hi, hi2, hp, hpl, hq, hql, hips, hcps, hAps, hiqs, hcqs, hAqs, rfl, rfl, rfl⟩
      refine RunC.seq ?_
      refine RunC.seq ?_
      refine RunC.region ?_
      refine RunR.sil hU [] 2 2 [1, 4, 5, 6, 7, 8, 24] [(1, .slice A3 ms.length c3), (4, .slice none 0 0), (5, .slice A5 bs.length c5), (6, .slice A6 ps.length c6), (7, .slice A7 qs.length c7), (8, .int .i64 i), (24, .bool (decide (i < 64)))] ((True) ∧ (True) ∧ True) rfl (by kernel_rfl) ⟨trivial, trivial, trivial⟩ ?_
      refine RunR.done (by kernel_rfl) ?_
      refine kseq_n ?_
      refine RunC.condp (i < 64) (by kernel_rfl) (fun h28 => ?_) (fun h28 => ?_)
      · skip
        refine RunC.skip ?_
        refine kseq_n ?_
        refine RunC.seq ?_
        refine RunC.block ?_
        refine RunC.seq ?_
        refine RunC.region ?_
        refine RunR.sil hU [] 4 4 [1, 4, 5, 6, 7, 8, 27, 30] [(1, .slice A3 ms.length c3), (4, .slice none 0 0), (5, .slice A5 bs.length c5), (6, .slice A6 ps.length c6), (7, .slice A7 qs.length c7), (8, .int .i64 i), (27, .slice A6 ps.length c6), (30, .pointer (elemAt A5 i 1))] ((True) ∧ (True) ∧ (True) ∧ ((0 ≤ i ∧ i < ((bs.length : Nat) : Int)) ∧ Option.isSome A5 = true) ∧ True) rfl (by kernel_rfl) ⟨trivial, trivial, trivial, ⟨by omega, hAbs (by omega)⟩, trivial⟩ ?_
        refine RunR.step (dst := some 31) (op := .load 5 (.tmp 30)) (by kernel_rfl) (Step.load_num hU 2 (row 5 1 (.slice A5 bs.length c5) bs.length (nums .u8 bs)) A5 i .u8 bs rfl (by kernel_rfl) (by kernel_rfl) (tells_row _ _ _ _ _ _) (by kernel_rfl) (by omega) ?_)
        have hb29 : 0 ≤ bs.getD ((i).toNat) 0 ∧ bs.getD ((i).toNat) 0 < 256 := hibs.at_ _
        refine RunR.sil hU [] 1 6 [1, 4, 5, 6, 7, 8, 27, 32] [(1, .slice A3 ms.length c3), (4, .slice none 0 0), (5, .slice A5 bs.length c5), (6, .slice A6 ps.length c6), (7, .slice A7 qs.length c7), (8, .int .i64 i), (27, .slice A6 ps.length c6), (32, .int .u8 (bits2 .xor .u8 (bs.getD (i).toNat 0) 54))] ((True) ∧ True) rfl (by kernel_rfl) ⟨trivial, trivial⟩ ?_
        refine RunR.step (dst := some 33) (op := .buildSlice 22 1 #[(0, .tmp 32)]) (by kernel_rfl) (Step.lit_nums hU 5 1 .u8 (.int .u8 0) ([bits2 .xor .u8 (bs.getD (i).toNat 0) 54] : List Int) rfl rfl (by kernel_rfl) rfl rfl (by kernel_rfl) (fun b30 => ?_))
        have hl31 : (([bits2 .xor .u8 (bs.getD (i).toNat 0) 54] : List Int)).length = 1 := rfl
        have hl36 : (([bits2 .xor .u8 (bs.getD (i).toNat 0) 54] : List Int)).length = 1 := rfl
        refine RunR.step (dst := some 34) (op := .call { callee := .builtin .append, args := #[.tmp 27, .tmp 33], argTypes := #[22, 22] }) (by kernel_rfl) (Step.append_nums hU 5 1 (.int .u8 0) .u8 1 0 A6 ps.length c6 ps (some ⟨b30, 0, none⟩) 1 1 (row 5 1 (.slice (some ⟨b30, 0, none⟩) 1 1) 1 (nums .u8 ([bits2 .xor .u8 (bs.getD (i).toNat 0) 54] : List Int))) ([bits2 .xor .u8 (bs.getD (i).toNat 0) 54] : List Int) rfl rfl rfl (by kernel_rfl) (by kernel_rfl) (by kernel_rfl) (by kernel_rfl) (tells_row _ _ _ _ _ _) (by first | rfl | omega | (simp; omega)) (by first | rfl | omega | (simp; omega)) (by omega) (by omega) (by kernel_rfl) (fun Aq32 cq33 hc34 hA35 => ?_))
        have hl37 : (ps ++ ([bits2 .xor .u8 (bs.getD (i).toNat 0) 54] : List Int)).length = ps.length + ([bits2 .xor .u8 (bs.getD (i).toNat 0) 54] : List Int).length := List.length_append
        simp only [List.length_cons, List.length_nil] at hl37
        refine RunR.sil hU [] 1 9 [1, 4, 5, 6, 7, 8] [(1, .slice A3 ms.length c3), (4, .slice none 0 0), (5, .slice A5 bs.length c5), (6, .slice Aq32 ((ps ++ ([bits2 .xor .u8 (bs.getD (i).toNat 0) 54] : List Int)).length) cq33), (7, .slice A7 qs.length c7), (8, .int .i64 i)] ((True) ∧ True) rfl (by kernel_rfl) ⟨trivial, trivial⟩ ?_
        refine RunR.done (by kernel_rfl) ?_
        refine kseq_n ?_
        refine RunC.region ?_
        refine RunR.sil hU [] 4 4 [1, 4, 5, 6, 7, 8, 35, 38] [(1, .slice A3 ms.length c3), (4, .slice none 0 0), (5, .slice A5 bs.length c5), (6, .slice Aq32 ((ps ++ ([bits2 .xor .u8 (bs.getD (i).toNat 0) 54] : List Int)).length) cq33), (7, .slice A7 qs.length c7), (8, .int .i64 i), (35, .slice A7 qs.length c7), (38, .pointer (elemAt A5 i 1))] ((True) ∧ (True) ∧ (True) ∧ ((0 ≤ i ∧ i < ((bs.length : Nat) : Int)) ∧ Option.isSome A5 = true) ∧ True) rfl (by kernel_rfl) ⟨trivial, trivial, trivial, ⟨by omega, hAbs (by omega)⟩, trivial⟩ ?_
        refine RunR.step (dst := some 39) (op := .load 5 (.tmp 38)) (by kernel_rfl) (Step.load_num hU 3 (row 5 1 (.slice A5 bs.length c5) bs.length (nums .u8 bs)) A5 i .u8 bs rfl (by kernel_rfl) (by kernel_rfl) (tells_row _ _ _ _ _ _) (by kernel_rfl) (by omega) ?_)
        have hb38 : 0 ≤ bs.getD ((i).toNat) 0 ∧ bs.getD ((i).toNat) 0 < 256 := hibs.at_ _
        refine RunR.sil hU [] 1 6 [1, 4, 5, 6, 7, 8, 35, 40] [(1, .slice A3 ms.length c3), (4, .slice none 0 0), (5, .slice A5 bs.length c5), (6, .slice Aq32 ((ps ++ ([bits2 .xor .u8 (bs.getD (i).toNat 0) 54] : List Int)).length) cq33), (7, .slice A7 qs.length c7), (8, .int .i64 i), (35, .slice A7 qs.length c7), (40, .int .u8 (bits2 .xor .u8 (bs.getD (i).toNat 0) 92))] ((True) ∧ True) rfl (by kernel_rfl) ⟨trivial, trivial⟩ ?_
        refine RunR.step (dst := some 41) (op := .buildSlice 22 1 #[(0, .tmp 40)]) (by kernel_rfl) (Step.lit_nums hU 5 1 .u8 (.int .u8 0) ([bits2 .xor .u8 (bs.getD (i).toNat 0) 92] : List Int) rfl rfl (by kernel_rfl) rfl rfl (by kernel_rfl) (fun b39 => ?_))
        have hl40 : (([bits2 .xor .u8 (bs.getD (i).toNat 0) 92] : List Int)).length = 1 := rfl
        have hl45 : (([bits2 .xor .u8 (bs.getD (i).toNat 0) 92] : List Int)).length = 1 := rfl
        refine RunR.step (dst := some 42) (op := .call { callee := .builtin .append, args := #[.tmp 35, .tmp 41], argTypes := #[22, 22] }) (by kernel_rfl) (Step.append_nums hU 5 1 (.int .u8 0) .u8 3 0 A7 qs.length c7 qs (some ⟨b39, 0, none⟩) 1 1 (row 5 1 (.slice (some ⟨b39, 0, none⟩) 1 1) 1 (nums .u8 ([bits2 .xor .u8 (bs.getD (i).toNat 0) 92] : List Int))) ([bits2 .xor .u8 (bs.getD (i).toNat 0) 92] : List Int) rfl rfl rfl (by kernel_rfl) (by kernel_rfl) (by kernel_rfl) (by kernel_rfl) (tells_row _ _ _ _ _ _) (by first | rfl | omega | (simp; omega)) (by first | rfl | omega | (simp; omega)) (by omega) (by omega) (by kernel_rfl) (fun Aq41 cq42 hc43 hA44 => ?_))
        have hl46 : (qs ++ ([bits2 .xor .u8 (bs.getD (i).toNat 0) 92] : List Int)).length = qs.length + ([bits2 .xor .u8 (bs.getD (i).toNat 0) 92] : List Int).length := List.length_append
        simp only [List.length_cons, List.length_nil] at hl46
        refine RunR.sil hU [] 1 9 [1, 4, 5, 6, 7, 8] [(1, .slice A3 ms.length c3), (4, .slice none 0 0), (5, .slice A5 bs.length c5), (6, .slice Aq32 ((ps ++ ([bits2 .xor .u8 (bs.getD (i).toNat 0) 54] : List Int)).length) cq33), (7, .slice Aq41 ((qs ++ ([bits2 .xor .u8 (bs.getD (i).toNat 0) 92] : List Int)).length) cq42), (8, .int .i64 i)] ((True) ∧ True) rfl (by kernel_rfl) ⟨trivial, trivial⟩ ?_
        refine RunR.done (by kernel_rfl) ?_
        refine kblock_n ?_
        refine kseq_n ?_
        refine RunC.region ?_
        refine RunR.sil hU [1] 3 3 [1, 4, 5, 6, 7, 8] [(1, .slice A3 ms.length c3), (4, .slice none 0 0), (5, .slice A5 bs.length c5), (6, .slice Aq32 ((ps ++ ([bits2 .xor .u8 (bs.getD (i).toNat 0) 54] : List Int)).length) cq33), (7, .slice Aq41 ((qs ++ ([bits2 .xor .u8 (bs.getD (i).toNat 0) 92] : List Int)).length) cq42), (8, .int .i64 (i + 1))] ((True) ∧ (-9223372036854775808 ≤ (i + 1) ∧ (i + 1) < 9223372036854775808) ∧ (True) ∧ True) rfl (by kernel_rfl) ⟨trivial, (by omega), trivial, trivial⟩ ?_
        refine RunR.done (by kernel_rfl) ?_
        refine kloop_n _ [1, 4, 5, 6, 7, 8] [2, 0, 2, 2, 2, 2] [(1, .slice A3 ms.length c3), (4, .slice none 0 0), (5, .slice A5 bs.length c5), (6, .slice Aq32 ((ps ++ ([bits2 .xor .u8 (bs.getD (i).toNat 0) 54] : List Int)).length) cq33), (7, .slice Aq41 ((qs ++ ([bits2 .xor .u8 (bs.getD (i).toNat 0) 92] : List Int)).length) cq42), (8, .int .i64 (i + 1))] [row 5 1 (.slice Aq32 ((ps ++ ([bits2 .xor .u8 (bs.getD (i).toNat 0) 54] : List Int)).length) cq33) ((ps ++ ([bits2 .xor .u8 (bs.getD (i).toNat 0) 54] : List Int)).length) (nums .u8 (ps ++ ([bits2 .xor .u8 (bs.getD (i).toNat 0) 54] : List Int))), row 5 1 (.slice Aq41 ((qs ++ ([bits2 .xor .u8 (bs.getD (i).toNat 0) 92] : List Int)).length) cq42) ((qs ++ ([bits2 .xor .u8 (bs.getD (i).toNat 0) 92] : List Int)).length) (nums .u8 (qs ++ ([bits2 .xor .u8 (bs.getD (i).toNat 0) 92] : List Int))), row 5 1 (.slice A5 bs.length c5) bs.length (nums .u8 bs), row 5 1 (.slice Aq5 kk.length cq6) kk.length (nums .u8 kk), vw A (nums .u8 kk), vw A3 (nums .u8 ms)] (by kernel_rfl) (by kernel_rfl) ?_ ⟨(i + 1), (ps ++ ([bits2 .xor .u8 (bs.getD (i).toNat 0) 54] : List Int)), Aq32, cq33, (qs ++ ([bits2 .xor .u8 (bs.getD (i).toNat 0) 92] : List Int)), Aq41, cq42, (by first | assumption | omega | (simp only [List.length_append, List.length_cons, List.length_nil, List.length_set, List.length_replicate, List.length_take, List.length_drop]; omega) | (simp only [fits] at *; omega) | (simp only [List.length_append, List.length_cons, List.length_nil, List.length_set, List.length_replicate, List.length_take, List.length_drop] at *; omega) | (simp; done) | decide), (by first | assumption | omega | (simp only [List.length_append, List.length_cons, List.length_nil, List.length_set, List.length_replicate, List.length_take, List.length_drop]; omega) | (simp only [fits] at *; omega) | (simp only [List.length_append, List.length_cons, List.length_nil, List.length_set, List.length_replicate, List.length_take, List.length_drop] at *; omega) | (simp; done) | decide), (by rw [hp, show (i + 1).toNat = i.toNat + 1 by omega, maskB_succ]), (by first | rfl | assumption | omega | (simp only [List.length_append, List.length_cons, List.length_nil, List.length_set, List.length_replicate, List.length_take, List.length_drop]; omega) | (simp; done)), (by rw [hq, show (i + 1).toNat = i.toNat + 1 by omega, maskB_succ]), (by first | rfl | assumption | omega | (simp only [List.length_append, List.length_cons, List.length_nil, List.length_set, List.length_replicate, List.length_take, List.length_drop]; omega) | (simp; done)), (by exact hips.append (In.cons (fits_bits2 _ _ _ _) (In.nil _))), (by first | assumption | omega | (simp only [List.length_append, List.length_cons, List.length_nil, List.length_set, List.length_replicate, List.length_take, List.length_drop]; omega) | (simp only [fits] at *; omega) | (simp only [List.length_append, List.length_cons, List.length_nil, List.length_set, List.length_replicate, List.length_take, List.length_drop] at *; omega) | (simp; done) | decide), (fun h => hA35 (by first | exact h | (simp at h ⊢; omega))), (by exact hiqs.append (In.cons (fits_bits2 _ _ _ _) (In.nil _))), (by first | assumption | omega | (simp only [List.length_append, List.length_cons, List.length_nil, List.length_set, List.length_replicate, List.length_take, List.length_drop]; omega) | (simp only [fits] at *; omega) | (simp only [List.length_append, List.length_cons, List.length_nil, List.length_set, List.length_replicate, List.length_take, List.length_drop] at *; omega) | (simp; done) | decide), (fun h => hA44 (by first | exact h | (simp at h ⊢; omega))), rfl, (by rfl), (by rfl)⟩
        show ((64 - (i + 1)).toNat : Nat) < ((64 - i).toNat : Nat)
        omega
      · skip
        refine RunC.exit ?_
        refine kseq_e ?_
        refine kloop_e ?_
        refine kblock_e ?_
        refine kseq_n ?_
        refine RunC.seq ?_
        refine RunC.region ?_
        refine RunR.sil hU [] 3 3 [4, 43, 44, 45] [(4, .slice none 0 0), (43, .slice A7 qs.length c7), (44, .slice A6 ps.length c6), (45, .slice A3 ms.length c3)] ((True) ∧ (True) ∧ (True) ∧ True) rfl (by kernel_rfl) ⟨trivial, trivial, trivial, trivial⟩ ?_
        refine RunR.step (dst := some 46) (op := .call { callee := .builtin .append, args := #[.tmp 44, .tmp 45], argTypes := #[22, 22] }) (by kernel_rfl) (Step.append_nums hU 5 1 (.int .u8 0) .u8 0 5 A6 ps.length c6 ps A3 ms.length c3 (vw A3 (nums .u8 ms)) ms rfl rfl rfl (by kernel_rfl) (by kernel_rfl) (by kernel_rfl) (by kernel_rfl) (tells_vw _ _) (by first | rfl | omega | (simp; omega)) (by first | rfl | omega | (simp; omega)) (by omega) (by omega) (by kernel_rfl) (fun Aq47 cq48 hc49 hA50 => ?_))
        have hl51 : (ps ++ ms).length = ps.length + ms.length := List.length_append
        refine RunR.step (dst := some 47) (op := .call { callee := .value (.func 47), args := #[.tmp 46], argTypes := #[22] }) (by kernel_rfl) (Step.call 47 [.slice Aq47 ((ps ++ ms).length) cq48] (by kernel_rfl) (by kernel_rfl) [] [vw Aq47 (nums .u8 (ps ++ ms))] [row 5 1 (.slice Aq47 ((ps ++ ms).length) cq48) ((ps ++ ms).length) (nums .u8 (ps ++ ms)), row 5 1 (.slice A7 qs.length c7) qs.length (nums .u8 qs), row 5 1 (.slice A5 bs.length c5) bs.length (nums .u8 bs), row 5 1 (.slice Aq5 kk.length cq6) kk.length (nums .u8 kk), vw A (nums .u8 kk), vw A3 (nums .u8 ms)] (hr_Of_spec Aq47 cq48 (ps ++ ms) ((ps ++ ms).length) (by (repeat first | assumption | (simp only [fits]; omega) | with_reducible first | exact fits_wrap _ _ | exact fits_bits2 _ _ _ _ | exact In.nil _ | exact In.sb _ | exact In.replicate _ _ | apply In.append | apply In.cons | apply In.set | apply In.take | apply In.drop | apply In.rev)) (by first | assumption | omega | (simp only [List.length_append, List.length_cons, List.length_nil, List.length_set, List.length_replicate, List.length_take, List.length_drop]; omega) | (simp only [fits] at *; omega) | (simp only [List.length_append, List.length_cons, List.length_nil, List.length_set, List.length_replicate, List.length_take, List.length_drop] at *; omega) | (simp; done) | decide) (by first | rfl | assumption | omega | (simp only [List.length_append, List.length_cons, List.length_nil, List.length_set, List.length_replicate, List.length_take, List.length_drop]; omega) | (simp; done))) [] (by kernel_rfl) ((Lend.nil _).tells 0 (row 5 1 (.slice Aq47 ((ps ++ ms).length) cq48) ((ps ++ ms).length) (nums .u8 (ps ++ ms))) Aq47 (nums .u8 (ps ++ ms)) (by kernel_rfl) (tells_row _ _ _ _ _ _)) ?_)
        rintro _ _ ⟨A252, c253, zs54, rfl, rfl, hp55, hp56, hp57, hp58, hp59⟩
        refine RunR.step (dst := some 48) (op := .call { callee := .builtin .append, args := #[.tmp 43, .tmp 47], argTypes := #[22, 22] }) (by kernel_rfl) (Step.append_nums hU 5 1 (.int .u8 0) .u8 2 0 A7 qs.length c7 qs A252 zs54.length c253 (row 5 1 (.slice A252 zs54.length c253) zs54.length (nums .u8 zs54)) zs54 rfl rfl rfl (by kernel_rfl) (by kernel_rfl) (by kernel_rfl) (by kernel_rfl) (tells_row _ _ _ _ _ _) (by first | rfl | omega | (simp; omega)) (by first | rfl | omega | (simp; omega)) (by omega) (by omega) (by kernel_rfl) (fun Aq60 cq61 hc62 hA63 => ?_))
        have hl64 : (qs ++ zs54).length = qs.length + zs54.length := List.length_append
        refine RunR.step (dst := some 49) (op := .call { callee := .value (.func 47), args := #[.tmp 48], argTypes := #[22] }) (by kernel_rfl) (Step.call 47 [.slice Aq60 ((qs ++ zs54).length) cq61] (by kernel_rfl) (by kernel_rfl) [] [vw Aq60 (nums .u8 (qs ++ zs54))] [row 5 1 (.slice Aq60 ((qs ++ zs54).length) cq61) ((qs ++ zs54).length) (nums .u8 (qs ++ zs54)), row 5 1 (.slice A252 zs54.length c253) zs54.length (nums .u8 zs54), row 5 1 (.slice Aq47 ((ps ++ ms).length) cq48) ((ps ++ ms).length) (nums .u8 (ps ++ ms)), row 5 1 (.slice A5 bs.length c5) bs.length (nums .u8 bs), row 5 1 (.slice Aq5 kk.length cq6) kk.length (nums .u8 kk), vw A (nums .u8 kk), vw A3 (nums .u8 ms)] (hr_Of_spec Aq60 cq61 (qs ++ zs54) ((qs ++ zs54).length) (by (repeat first | assumption | (simp only [fits]; omega) | with_reducible first | exact fits_wrap _ _ | exact fits_bits2 _ _ _ _ | exact In.nil _ | exact In.sb _ | exact In.replicate _ _ | apply In.append | apply In.cons | apply In.set | apply In.take | apply In.drop | apply In.rev)) (by first | assumption | omega | (simp only [List.length_append, List.length_cons, List.length_nil, List.length_set, List.length_replicate, List.length_take, List.length_drop]; omega) | (simp only [fits] at *; omega) | (simp only [List.length_append, List.length_cons, List.length_nil, List.length_set, List.length_replicate, List.length_take, List.length_drop] at *; omega) | (simp; done) | decide) (by first | rfl | assumption | omega | (simp only [List.length_append, List.length_cons, List.length_nil, List.length_set, List.length_replicate, List.length_take, List.length_drop]; omega) | (simp; done))) [] (by kernel_rfl) ((Lend.nil _).tells 0 (row 5 1 (.slice Aq60 ((qs ++ zs54).length) cq61) ((qs ++ zs54).length) (nums .u8 (qs ++ zs54))) Aq60 (nums .u8 (qs ++ zs54)) (by kernel_rfl) (tells_row _ _ _ _ _ _)) ?_)
        rintro _ _ ⟨A265, c266, zs67, rfl, rfl, hp68, hp69, hp70, hp71, hp72⟩
        refine RunR.sil hU [] 1 8 [4] [(4, .slice A265 zs67.length c266)] ((True) ∧ True) rfl (by kernel_rfl) ⟨trivial, trivial⟩ ?_
        refine RunR.done (by kernel_rfl) ?_
        refine kseq_n ?_
        refine RunC.ret ?_
        refine kret_r [.slice A265 zs67.length c266] [0] [row 5 1 (.slice A265 zs67.length c266) zs67.length (nums .u8 zs67)] ⟨rfl, trivial⟩ (by kernel_rfl) rfl ⟨A265, c266, zs67, rfl, rfl, (by simp only [hp14, hp55, hp68]; first | exact ref_mac hb (by omega) hp hq (by omega)), (by first | rfl | assumption | omega | (simp only [List.length_append, List.length_cons, List.length_nil, List.length_set, List.length_replicate, List.length_take, List.length_drop]; omega) | (simp; done)), hp70, (by first | assumption | omega | (simp only [List.length_append, List.length_cons, List.length_nil, List.length_set, List.length_replicate, List.length_take, List.length_drop]; omega) | (simp only [fits] at *; omega) | (simp only [List.length_append, List.length_cons, List.length_nil, List.length_set, List.length_replicate, List.length_take, List.length_drop] at *; omega) | (simp; done) | decide), (fun h => hp72 (by first | exact h | (simp at h ⊢; omega)))⟩
  · skip
    refine RunC.skip ?_
    refine kseq_n ?_
    refine RunC.seq ?_
    refine RunC.block ?_
    refine RunC.env [1, 4, 5] [(1, .slice A3 ms.length c3), (4, .slice none 0 0), (5, .slice Aq5 kk.length cq6)] (by kernel_rfl) ?_
    refine RunC.only [0, 0, 0] [row 5 1 (.slice Aq5 kk.length cq6) kk.length (nums .u8 kk), vw A (nums .u8 kk), vw A3 (nums .u8 ms)] (by kernel_rfl) ?_
    refine RunC.loop (σ := Nat) (fun n_ t_ D_ => ∃ (j : Nat) (bs : List Int) (A5 : Option Addr) (c5 : Nat), (bs = fit kk ++ List.replicate j 0) ∧ (bs.length ≤ 64) ∧ (In .u8 bs) ∧ (bs.length ≤ c5) ∧ (0 < bs.length → Option.isSome A5 = true) ∧ n_ = (64 - bs.length : Nat) ∧ t_ = [(1, .slice A3 ms.length c3), (4, .slice none 0 0), (5, .slice A5 bs.length c5)] ∧ D_ = [row 5 1 (.slice A5 bs.length c5) bs.length (nums .u8 bs), vw A (nums .u8 kk), vw A3 (nums .u8 ms)]) id _ ⟨0, kk, Aq5, cq6, (by rw [app_nil]; first | (simp only []; exact fit_big (by omega)) | exact fit_small (by omega)), (by omega), hIkk, (by first | assumption | omega | (simp only [List.length_append, List.length_cons, List.length_nil, List.length_set, List.length_replicate, List.length_take, List.length_drop]; omega) | (simp only [fits] at *; omega) | (simp only [List.length_append, List.length_cons, List.length_nil, List.length_set, List.length_replicate, List.length_take, List.length_drop] at *; omega) | (simp; done) | decide), (fun h => hA8 (by first | exact h | (simp at h ⊢; omega))), rfl, rfl, rfl⟩ ?_
    rintro n_ _ _ ⟨j, bs, A5, c5, hb, hbl, hibs, hcbs, hAbs, rfl, rfl, rfl⟩
    refine RunC.seq ?_
    refine RunC.seq ?_
    refine RunC.region ?_
    refine RunR.sil hU [] 3 3 [1, 4, 5, 19] [(1, .slice A3 ms.length c3), (4, .slice none 0 0), (5, .slice A5 bs.length c5), (19, .bool (decide (((bs.length : Nat) : Int) < 64)))] ((True) ∧ (True) ∧ (True) ∧ True) rfl (by kernel_rfl) ⟨trivial, trivial, trivial, trivial⟩ ?_
    refine RunR.done (by kernel_rfl) ?_
    refine kseq_n ?_
    refine RunC.condp (((bs.length : Nat) : Int) < 64) (by kernel_rfl) (fun h73 => ?_) (fun h73 => ?_)
    · skip
      refine RunC.skip ?_
      refine kseq_n ?_
      refine RunC.block ?_
      refine RunC.region ?_
      refine RunR.sil hU [] 1 1 [1, 4, 5, 20] [(1, .slice A3 ms.length c3), (4, .slice none 0 0), (5, .slice A5 bs.length c5), (20, .slice A5 bs.length c5)] ((True) ∧ True) rfl (by kernel_rfl) ⟨trivial, trivial⟩ ?_
      refine RunR.step (dst := some 21) (op := .buildSlice 22 1 #[(0, .const (.int .u8 0))]) (by kernel_rfl) (Step.lit_nums hU 5 1 .u8 (.int .u8 0) ([0] : List Int) rfl rfl (by kernel_rfl) rfl rfl (by kernel_rfl) (fun b74 => ?_))
      have hl75 : (([0] : List Int)).length = 1 := rfl
      have hl80 : (([0] : List Int)).length = 1 := rfl
      refine RunR.step (dst := some 22) (op := .call { callee := .builtin .append, args := #[.tmp 20, .tmp 21], argTypes := #[22, 22] }) (by kernel_rfl) (Step.append_nums hU 5 1 (.int .u8 0) .u8 1 0 A5 bs.length c5 bs (some ⟨b74, 0, none⟩) 1 1 (row 5 1 (.slice (some ⟨b74, 0, none⟩) 1 1) 1 (nums .u8 ([0] : List Int))) ([0] : List Int) rfl rfl rfl (by kernel_rfl) (by kernel_rfl) (by kernel_rfl) (by kernel_rfl) (tells_row _ _ _ _ _ _) (by first | rfl | omega | (simp; omega)) (by first | rfl | omega | (simp; omega)) (by omega) (by omega) (by kernel_rfl) (fun Aq76 cq77 hc78 hA79 => ?_))
      have hl81 : (bs ++ ([0] : List Int)).length = bs.length + ([0] : List Int).length := List.length_append
      simp only [List.length_cons, List.length_nil] at hl81
      refine RunR.sil hU [] 1 4 [1, 4, 5] [(1, .slice A3 ms.length c3), (4, .slice none 0 0), (5, .slice Aq76 ((bs ++ ([0] : List Int)).length) cq77)] ((True) ∧ True) rfl (by kernel_rfl) ⟨trivial, trivial⟩ ?_
      refine RunR.done (by kernel_rfl) ?_
      refine kblock_n ?_
      refine kloop_n _ [1, 4, 5] [0, 1, 1] [(1, .slice A3 ms.length c3), (4, .slice none 0 0), (5, .slice Aq76 ((bs ++ ([0] : List Int)).length) cq77)] [row 5 1 (.slice Aq76 ((bs ++ ([0] : List Int)).length) cq77) ((bs ++ ([0] : List Int)).length) (nums .u8 (bs ++ ([0] : List Int))), vw A (nums .u8 kk), vw A3 (nums .u8 ms)] (by kernel_rfl) (by kernel_rfl) ?_ ⟨(j + 1), (bs ++ ([0] : List Int)), Aq76, cq77, (by rw [hb, List.append_assoc, List.replicate_succ']), (by rw [List.length_append]; simp; omega), (by (repeat first | assumption | (simp only [fits]; omega) | with_reducible first | exact fits_wrap _ _ | exact fits_bits2 _ _ _ _ | exact In.nil _ | exact In.sb _ | exact In.replicate _ _ | apply In.append | apply In.cons | apply In.set | apply In.take | apply In.drop | apply In.rev)), (by first | assumption | omega | (simp only [List.length_append, List.length_cons, List.length_nil, List.length_set, List.length_replicate, List.length_take, List.length_drop]; omega) | (simp only [fits] at *; omega) | (simp only [List.length_append, List.length_cons, List.length_nil, List.length_set, List.length_replicate, List.length_take, List.length_drop] at *; omega) | (simp; done) | decide), (fun h => hA79 (by first | exact h | (simp at h ⊢; omega))), rfl, (by rfl), (by rfl)⟩
      show (64 - (bs ++ ([0] : List Int)).length : Nat) < (64 - bs.length : Nat)
      omega
    · skip
      refine RunC.exit ?_
      refine kseq_e ?_
      refine kloop_e ?_
      refine kblock_e ?_
      refine kseq_n ?_
      refine RunC.seq ?_
      refine RunC.region ?_
      refine RunR.sil hU [] 1 1 [1, 4, 5, 6] [(1, .slice A3 ms.length c3), (4, .slice none 0 0), (5, .slice A5 bs.length c5), (6, .slice none 0 0)] ((True) ∧ True) rfl (by kernel_rfl) ⟨trivial, trivial⟩ ?_
      refine RunR.done (by kernel_rfl) ?_
      refine kseq_n ?_
      refine RunC.seq ?_
      refine RunC.region ?_
      refine RunR.sil hU [] 1 1 [1, 4, 5, 6, 7] [(1, .slice A3 ms.length c3), (4, .slice none 0 0), (5, .slice A5 bs.length c5), (6, .slice none 0 0), (7, .slice none 0 0)] ((True) ∧ True) rfl (by kernel_rfl) ⟨trivial, trivial⟩ ?_
      refine RunR.done (by kernel_rfl) ?_
      refine kseq_n ?_
      refine RunC.seq ?_
      refine RunC.seq ?_
      refine RunC.region ?_
      refine RunR.sil hU [] 1 1 [1, 4, 5, 6, 7, 8] [(1, .slice A3 ms.length c3), (4, .slice none 0 0), (5, .slice A5 bs.length c5), (6, .slice none 0 0), (7, .slice none 0 0), (8, .int .i64 0)] ((True) ∧ True) rfl (by kernel_rfl) ⟨trivial, trivial⟩ ?_
      refine RunR.done (by kernel_rfl) ?_
      refine kseq_n ?_
      refine RunC.block ?_
      refine RunC.turn ([row 5 1 (.slice none 0 0) 0 (nums .u8 ([] : List Int)), row 5 1 (.slice A5 bs.length c5) bs.length (nums .u8 bs), vw A (nums .u8 kk), vw A3 (nums .u8 ms)]) (fun w hs => hs.nil_row 5 1) ?_
      refine RunC.turn ([row 5 1 (.slice none 0 0) 0 (nums .u8 ([] : List Int)), row 5 1 (.slice none 0 0) 0 (nums .u8 ([] : List Int)), row 5 1 (.slice A5 bs.length c5) bs.length (nums .u8 bs), vw A (nums .u8 kk), vw A3 (nums .u8 ms)]) (fun w hs => hs.nil_row 5 1) ?_
      refine RunC.env [1, 4, 5, 6, 7, 8] [(1, .slice A3 ms.length c3), (4, .slice none 0 0), (5, .slice A5 bs.length c5), (6, .slice none 0 0), (7, .slice none 0 0), (8, .int .i64 0)] (by kernel_rfl) ?_
      refine RunC.only [0, 0, 0, 0, 0] [row 5 1 (.slice none 0 0) 0 (nums .u8 ([] : List Int)), row 5 1 (.slice none 0 0) 0 (nums .u8 ([] : List Int)), row 5 1 (.slice A5 bs.length c5) bs.length (nums .u8 bs), vw A (nums .u8 kk), vw A3 (nums .u8 ms)] (by kernel_rfl) ?_
      refine RunC.loop (σ := Nat) (fun n_ t_ D_ => ∃ (i : Int) (ps : List Int) (A6 : Option Addr) (c6 : Nat) (qs : List Int) (A7 : Option Addr) (c7 : Nat), (0 ≤ i) ∧ (i ≤ 64) ∧ (ps = maskB bs 54 i.toNat) ∧ (ps.length = i.toNat) ∧ (qs = maskB bs 92 i.toNat) ∧ (qs.length = i.toNat) ∧ (In .u8 ps) ∧ (ps.length ≤ c6) ∧ (0 < ps.length → Option.isSome A6 = true) ∧ (In .u8 qs) ∧ (qs.length ≤ c7) ∧ (0 < qs.length → Option.isSome A7 = true) ∧ n_ = ((64 - i).toNat : Nat) ∧ t_ = [(1, .slice A3 ms.length c3), (4, .slice none 0 0), (5, .slice A5 bs.length c5), (6, .slice A6 ps.length c6), (7, .slice A7 qs.length c7), (8, .int .i64 i)] ∧ D_ = [row 5 1 (.slice A6 ps.length c6) ps.length (nums .u8 ps), row 5 1 (.slice A7 qs.length c7) qs.length (nums .u8 qs), row 5 1 (.slice A5 bs.length c5) bs.length (nums .u8 bs), vw A (nums .u8 kk), vw A3 (nums .u8 ms)]) id _ ⟨0, ([] : List Int), none, 0, ([] : List Int), none, 0, (by first | assumption | omega | (simp only [List.length_append, List.length_cons, List.length_nil, List.length_set, List.length_replicate, List.length_take, List.length_drop]; omega) | (simp only [fits] at *; omega) | (simp only [List.length_append, List.length_cons, List.length_nil, List.length_set, List.length_replicate, List.length_take, List.length_drop] at *; omega) | (simp; done) | decide), (by first | assumption | omega | (simp only [List.length_append, List.length_cons, List.length_nil, List.length_set, List.length_replicate, List.length_take, List.length_drop]; omega) | (simp only [fits] at *; omega) | (simp only [List.length_append, List.length_cons, List.length_nil, List.length_set, List.length_replicate, List.length_take, List.length_drop] at *; omega) | (simp; done) | decide), (by rfl), (by rfl), (by rfl), (by rfl), (by exact In.nil _), (by exact Nat.zero_le _), (by intro h; simp at h), (by exact In.nil _), (by exact Nat.zero_le _), (by intro h; simp at h), rfl, rfl, rfl⟩ ?_
      rintro n_ _ _ ⟨i, ps, A6, c6, qs, A7, c7, hi, hi2, hp, hpl, hq, hql, hips, hcps, hAps, hiqs, hcqs, hAqs, rfl, rfl, rfl⟩
      refine RunC.seq ?_
      refine RunC.seq ?_
      refine RunC.region ?_
      refine RunR.sil hU [] 2 2 [1, 4, 5, 6, 7, 8, 24] [(1, .slice A3 ms.length c3), (4, .slice none 0 0), (5, .slice A5 bs.length c5), (6, .slice A6 ps.length c6), (7, .slice A7 qs.length c7), (8, .int .i64 i), (24, .bool (decide (i < 64)))] ((True) ∧ (True) ∧ True) rfl (by kernel_rfl) ⟨trivial, trivial, trivial⟩ ?_
      refine RunR.done (by kernel_rfl) ?_
      refine kseq_n ?_
      refine RunC.condp (i < 64) (by kernel_rfl) (fun h82 => ?_) (fun h82 => ?_)
      · skip
        refine RunC.skip ?_
        refine kseq_n ?_
        refine RunC.seq ?_
        refine RunC.block ?_
        refine RunC.seq ?_
        refine RunC.region ?_
        refine RunR.sil hU [] 4 4 [1, 4, 5, 6, 7, 8, 27, 30] [(1, .slice A3 ms.length c3), (4, .slice none 0 0), (5, .slice A5 bs.length c5), (6, .slice A6 ps.length c6), (7, .slice A7 qs.length c7), (8, .int .i64 i), (27, .slice A6 ps.length c6), (30, .pointer (elemAt A5 i 1))] ((True) ∧ (True) ∧ (True) ∧ ((0 ≤ i ∧ i < ((bs.length : Nat) : Int)) ∧ Option.isSome A5 = true) ∧ True) rfl (by kernel_rfl) ⟨trivial, trivial, trivial, ⟨by omega, hAbs (by omega)⟩, trivial⟩ ?_
        refine RunR.step (dst := some 31) (op := .load 5 (.tmp 30)) (by kernel_rfl) (Step.load_num hU 2 (row 5 1 (.slice A5 bs.length c5) bs.length (nums .u8 bs)) A5 i .u8 bs rfl (by kernel_rfl) (by kernel_rfl) (tells_row _ _ _ _ _ _) (by kernel_rfl) (by omega) ?_)
        have hb83 : 0 ≤ bs.getD ((i).toNat) 0 ∧ bs.getD ((i).toNat) 0 < 256 := hibs.at_ _
        refine RunR.sil hU [] 1 6 [1, 4, 5, 6, 7, 8, 27, 32] [(1, .slice A3 ms.length c3), (4, .slice none 0 0), (5, .slice A5 bs.length c5), (6, .slice A6 ps.length c6), (7, .slice A7 qs.length c7), (8, .int .i64 i), (27, .slice A6 ps.length c6), (32, .int .u8 (bits2 .xor .u8 (bs.getD (i).toNat 0) 54))] ((True) ∧ True) rfl (by kernel_rfl) ⟨trivial, trivial⟩ ?_
        refine RunR.step (dst := some 33) (op := .buildSlice 22 1 #[(0, .tmp 32)]) (by kernel_rfl) (Step.lit_nums hU 5 1 .u8 (.int .u8 0) ([bits2 .xor .u8 (bs.getD (i).toNat 0) 54] : List Int) rfl rfl (by kernel_rfl) rfl rfl (by kernel_rfl) (fun b84 => ?_))
        have hl85 : (([bits2 .xor .u8 (bs.getD (i).toNat 0) 54] : List Int)).length = 1 := rfl
        have hl90 : (([bits2 .xor .u8 (bs.getD (i).toNat 0) 54] : List Int)).length = 1 := rfl
        refine RunR.step (dst := some 34) (op := .call { callee := .builtin .append, args := #[.tmp 27, .tmp 33], argTypes := #[22, 22] }) (by kernel_rfl) (Step.append_nums hU 5 1 (.int .u8 0) .u8 1 0 A6 ps.length c6 ps (some ⟨b84, 0, none⟩) 1 1 (row 5 1 (.slice (some ⟨b84, 0, none⟩) 1 1) 1 (nums .u8 ([bits2 .xor .u8 (bs.getD (i).toNat 0) 54] : List Int))) ([bits2 .xor .u8 (bs.getD (i).toNat 0) 54] : List Int) rfl rfl rfl (by kernel_rfl) (by kernel_rfl) (by kernel_rfl) (by kernel_rfl) (tells_row _ _ _ _ _ _) (by first | rfl | omega | (simp; omega)) (by first | rfl | omega | (simp; omega)) (by omega) (by omega) (by kernel_rfl) (fun Aq86 cq87 hc88 hA89 => ?_))
        have hl91 : (ps ++ ([bits2 .xor .u8 (bs.getD (i).toNat 0) 54] : List Int)).length = ps.length + ([bits2 .xor .u8 (bs.getD (i).toNat 0) 54] : List Int).length := List.length_append
        simp only [List.length_cons, List.length_nil] at hl91
        refine RunR.sil hU [] 1 9 [1, 4, 5, 6, 7, 8] [(1, .slice A3 ms.length c3), (4, .slice none 0 0), (5, .slice A5 bs.length c5), (6, .slice Aq86 ((ps ++ ([bits2 .xor .u8 (bs.getD (i).toNat 0) 54] : List Int)).length) cq87), (7, .slice A7 qs.length c7), (8, .int .i64 i)] ((True) ∧ True) rfl (by kernel_rfl) ⟨trivial, trivial⟩ ?_
        refine RunR.done (by kernel_rfl) ?_
        refine kseq_n ?_
        refine RunC.region ?_
        refine RunR.sil hU [] 4 4 [1, 4, 5, 6, 7, 8, 35, 38] [(1, .slice A3 ms.length c3), (4, .slice none 0 0), (5, .slice A5 bs.length c5), (6, .slice Aq86 ((ps ++ ([bits2 .xor .u8 (bs.getD (i).toNat 0) 54] : List Int)).length) cq87), (7, .slice A7 qs.length c7), (8, .int .i64 i), (35, .slice A7 qs.length c7), (38, .pointer (elemAt A5 i 1))] ((True) ∧ (True) ∧ (True) ∧ ((0 ≤ i ∧ i < ((bs.length : Nat) : Int)) ∧ Option.isSome A5 = true) ∧ True) rfl (by kernel_rfl) ⟨trivial, trivial, trivial, ⟨by omega, hAbs (by omega)⟩, trivial⟩ ?_
        refine RunR.step (dst := some 39) (op := .load 5 (.tmp 38)) (by kernel_rfl) (Step.load_num hU 3 (row 5 1 (.slice A5 bs.length c5) bs.length (nums .u8 bs)) A5 i .u8 bs rfl (by kernel_rfl) (by kernel_rfl) (tells_row _ _ _ _ _ _) (by kernel_rfl) (by omega) ?_)
        have hb92 : 0 ≤ bs.getD ((i).toNat) 0 ∧ bs.getD ((i).toNat) 0 < 256 := hibs.at_ _
        refine RunR.sil hU [] 1 6 [1, 4, 5, 6, 7, 8, 35, 40] [(1, .slice A3 ms.length c3), (4, .slice none 0 0), (5, .slice A5 bs.length c5), (6, .slice Aq86 ((ps ++ ([bits2 .xor .u8 (bs.getD (i).toNat 0) 54] : List Int)).length) cq87), (7, .slice A7 qs.length c7), (8, .int .i64 i), (35, .slice A7 qs.length c7), (40, .int .u8 (bits2 .xor .u8 (bs.getD (i).toNat 0) 92))] ((True) ∧ True) rfl (by kernel_rfl) ⟨trivial, trivial⟩ ?_
        refine RunR.step (dst := some 41) (op := .buildSlice 22 1 #[(0, .tmp 40)]) (by kernel_rfl) (Step.lit_nums hU 5 1 .u8 (.int .u8 0) ([bits2 .xor .u8 (bs.getD (i).toNat 0) 92] : List Int) rfl rfl (by kernel_rfl) rfl rfl (by kernel_rfl) (fun b93 => ?_))
        have hl94 : (([bits2 .xor .u8 (bs.getD (i).toNat 0) 92] : List Int)).length = 1 := rfl
        have hl99 : (([bits2 .xor .u8 (bs.getD (i).toNat 0) 92] : List Int)).length = 1 := rfl
        refine RunR.step (dst := some 42) (op := .call { callee := .builtin .append, args := #[.tmp 35, .tmp 41], argTypes := #[22, 22] }) (by kernel_rfl) (Step.append_nums hU 5 1 (.int .u8 0) .u8 3 0 A7 qs.length c7 qs (some ⟨b93, 0, none⟩) 1 1 (row 5 1 (.slice (some ⟨b93, 0, none⟩) 1 1) 1 (nums .u8 ([bits2 .xor .u8 (bs.getD (i).toNat 0) 92] : List Int))) ([bits2 .xor .u8 (bs.getD (i).toNat 0) 92] : List Int) rfl rfl rfl (by kernel_rfl) (by kernel_rfl) (by kernel_rfl) (by kernel_rfl) (tells_row _ _ _ _ _ _) (by first | rfl | omega | (simp; omega)) (by first | rfl | omega | (simp; omega)) (by omega) (by omega) (by kernel_rfl) (fun Aq95 cq96 hc97 hA98 => ?_))
        have hl100 : (qs ++ ([bits2 .xor .u8 (bs.getD (i).toNat 0) 92] : List Int)).length = qs.length + ([bits2 .xor .u8 (bs.getD (i).toNat 0) 92] : List Int).length := List.length_append
        simp only [List.length_cons, List.length_nil] at hl100
        refine RunR.sil hU [] 1 9 [1, 4, 5, 6, 7, 8] [(1, .slice A3 ms.length c3), (4, .slice none 0 0), (5, .slice A5 bs.length c5), (6, .slice Aq86 ((ps ++ ([bits2 .xor .u8 (bs.getD (i).toNat 0) 54] : List Int)).length) cq87), (7, .slice Aq95 ((qs ++ ([bits2 .xor .u8 (bs.getD (i).toNat 0) 92] : List Int)).length) cq96), (8, .int .i64 i)] ((True) ∧ True) rfl (by kernel_rfl) ⟨trivial, trivial⟩ ?_
        refine RunR.done (by kernel_rfl) ?_
        refine kblock_n ?_
        refine kseq_n ?_
        refine RunC.region ?_
        refine RunR.sil hU [1] 3 3 [1, 4, 5, 6, 7, 8] [(1, .slice A3 ms.length c3), (4, .slice none 0 0), (5, .slice A5 bs.length c5), (6, .slice Aq86 ((ps ++ ([bits2 .xor .u8 (bs.getD (i).toNat 0) 54] : List Int)).length) cq87), (7, .slice Aq95 ((qs ++ ([bits2 .xor .u8 (bs.getD (i).toNat 0) 92] : List Int)).length) cq96), (8, .int .i64 (i + 1))] ((True) ∧ (-9223372036854775808 ≤ (i + 1) ∧ (i + 1) < 9223372036854775808) ∧ (True) ∧ True) rfl (by kernel_rfl) ⟨trivial, (by omega), trivial, trivial⟩ ?_
        refine RunR.done (by kernel_rfl) ?_
        refine kloop_n _ [1, 4, 5, 6, 7, 8] [2, 0, 2, 2, 2] [(1, .slice A3 ms.length c3), (4, .slice none 0 0), (5, .slice A5 bs.length c5), (6, .slice Aq86 ((ps ++ ([bits2 .xor .u8 (bs.getD (i).toNat 0) 54] : List Int)).length) cq87), (7, .slice Aq95 ((qs ++ ([bits2 .xor .u8 (bs.getD (i).toNat 0) 92] : List Int)).length) cq96), (8, .int .i64 (i + 1))] [row 5 1 (.slice Aq86 ((ps ++ ([bits2 .xor .u8 (bs.getD (i).toNat 0) 54] : List Int)).length) cq87) ((ps ++ ([bits2 .xor .u8 (bs.getD (i).toNat 0) 54] : List Int)).length) (nums .u8 (ps ++ ([bits2 .xor .u8 (bs.getD (i).toNat 0) 54] : List Int))), row 5 1 (.slice Aq95 ((qs ++ ([bits2 .xor .u8 (bs.getD (i).toNat 0) 92] : List Int)).length) cq96) ((qs ++ ([bits2 .xor .u8 (bs.getD (i).toNat 0) 92] : List Int)).length) (nums .u8 (qs ++ ([bits2 .xor .u8 (bs.getD (i).toNat 0) 92] : List Int))), row 5 1 (.slice A5 bs.length c5) bs.length (nums .u8 bs), vw A (nums .u8 kk), vw A3 (nums .u8 ms)] (by kernel_rfl) (by kernel_rfl) ?_ ⟨(i + 1), (ps ++ ([bits2 .xor .u8 (bs.getD (i).toNat 0) 54] : List Int)), Aq86, cq87, (qs ++ ([bits2 .xor .u8 (bs.getD (i).toNat 0) 92] : List Int)), Aq95, cq96, (by first | assumption | omega | (simp only [List.length_append, List.length_cons, List.length_nil, List.length_set, List.length_replicate, List.length_take, List.length_drop]; omega) | (simp only [fits] at *; omega) | (simp only [List.length_append, List.length_cons, List.length_nil, List.length_set, List.length_replicate, List.length_take, List.length_drop] at *; omega) | (simp; done) | decide), (by first | assumption | omega | (simp only [List.length_append, List.length_cons, List.length_nil, List.length_set, List.length_replicate, List.length_take, List.length_drop]; omega) | (simp only [fits] at *; omega) | (simp only [List.length_append, List.length_cons, List.length_nil, List.length_set, List.length_replicate, List.length_take, List.length_drop] at *; omega) | (simp; done) | decide), (by rw [hp, show (i + 1).toNat = i.toNat + 1 by omega, maskB_succ]), (by first | rfl | assumption | omega | (simp only [List.length_append, List.length_cons, List.length_nil, List.length_set, List.length_replicate, List.length_take, List.length_drop]; omega) | (simp; done)), (by rw [hq, show (i + 1).toNat = i.toNat + 1 by omega, maskB_succ]), (by first | rfl | assumption | omega | (simp only [List.length_append, List.length_cons, List.length_nil, List.length_set, List.length_replicate, List.length_take, List.length_drop]; omega) | (simp; done)), (by exact hips.append (In.cons (fits_bits2 _ _ _ _) (In.nil _))), (by first | assumption | omega | (simp only [List.length_append, List.length_cons, List.length_nil, List.length_set, List.length_replicate, List.length_take, List.length_drop]; omega) | (simp only [fits] at *; omega) | (simp only [List.length_append, List.length_cons, List.length_nil, List.length_set, List.length_replicate, List.length_take, List.length_drop] at *; omega) | (simp; done) | decide), (fun h => hA89 (by first | exact h | (simp at h ⊢; omega))), (by exact hiqs.append (In.cons (fits_bits2 _ _ _ _) (In.nil _))), (by first | assumption | omega | (simp only [List.length_append, List.length_cons, List.length_nil, List.length_set, List.length_replicate, List.length_take, List.length_drop]; omega) | (simp only [fits] at *; omega) | (simp only [List.length_append, List.length_cons, List.length_nil, List.length_set, List.length_replicate, List.length_take, List.length_drop] at *; omega) | (simp; done) | decide), (fun h => hA98 (by first | exact h | (simp at h ⊢; omega))), rfl, (by rfl), (by rfl)⟩
        show ((64 - (i + 1)).toNat : Nat) < ((64 - i).toNat : Nat)
        omega
      · skip
        refine RunC.exit ?_
        refine kseq_e ?_
        refine kloop_e ?_
        refine kblock_e ?_
        refine kseq_n ?_
        refine RunC.seq ?_
        refine RunC.region ?_
        refine RunR.sil hU [] 3 3 [4, 43, 44, 45] [(4, .slice none 0 0), (43, .slice A7 qs.length c7), (44, .slice A6 ps.length c6), (45, .slice A3 ms.length c3)] ((True) ∧ (True) ∧ (True) ∧ True) rfl (by kernel_rfl) ⟨trivial, trivial, trivial, trivial⟩ ?_
        refine RunR.step (dst := some 46) (op := .call { callee := .builtin .append, args := #[.tmp 44, .tmp 45], argTypes := #[22, 22] }) (by kernel_rfl) (Step.append_nums hU 5 1 (.int .u8 0) .u8 0 4 A6 ps.length c6 ps A3 ms.length c3 (vw A3 (nums .u8 ms)) ms rfl rfl rfl (by kernel_rfl) (by kernel_rfl) (by kernel_rfl) (by kernel_rfl) (tells_vw _ _) (by first | rfl | omega | (simp; omega)) (by first | rfl | omega | (simp; omega)) (by omega) (by omega) (by kernel_rfl) (fun Aq101 cq102 hc103 hA104 => ?_))
        have hl105 : (ps ++ ms).length = ps.length + ms.length := List.length_append
        refine RunR.step (dst := some 47) (op := .call { callee := .value (.func 47), args := #[.tmp 46], argTypes := #[22] }) (by kernel_rfl) (Step.call 47 [.slice Aq101 ((ps ++ ms).length) cq102] (by kernel_rfl) (by kernel_rfl) [] [vw Aq101 (nums .u8 (ps ++ ms))] [row 5 1 (.slice Aq101 ((ps ++ ms).length) cq102) ((ps ++ ms).length) (nums .u8 (ps ++ ms)), row 5 1 (.slice A7 qs.length c7) qs.length (nums .u8 qs), row 5 1 (.slice A5 bs.length c5) bs.length (nums .u8 bs), vw A (nums .u8 kk), vw A3 (nums .u8 ms)] (hr_Of_spec Aq101 cq102 (ps ++ ms) ((ps ++ ms).length) (by (repeat first | assumption | (simp only [fits]; omega) | with_reducible first | exact fits_wrap _ _ | exact fits_bits2 _ _ _ _ | exact In.nil _ | exact In.sb _ | exact In.replicate _ _ | apply In.append | apply In.cons | apply In.set | apply In.take | apply In.drop | apply In.rev)) (by first | assumption | omega | (simp only [List.length_append, List.length_cons, List.length_nil, List.length_set, List.length_replicate, List.length_take, List.length_drop]; omega) | (simp only [fits] at *; omega) | (simp only [List.length_append, List.length_cons, List.length_nil, List.length_set, List.length_replicate, List.length_take, List.length_drop] at *; omega) | (simp; done) | decide) (by first | rfl | assumption | omega | (simp only [List.length_append, List.length_cons, List.length_nil, List.length_set, List.length_replicate, List.length_take, List.length_drop]; omega) | (simp; done))) [] (by kernel_rfl) ((Lend.nil _).tells 0 (row 5 1 (.slice Aq101 ((ps ++ ms).length) cq102) ((ps ++ ms).length) (nums .u8 (ps ++ ms))) Aq101 (nums .u8 (ps ++ ms)) (by kernel_rfl) (tells_row _ _ _ _ _ _)) ?_)
        rintro _ _ ⟨A2106, c2107, zs108, rfl, rfl, hp109, hp110, hp111, hp112, hp113⟩
        refine RunR.step (dst := some 48) (op := .call { callee := .builtin .append, args := #[.tmp 43, .tmp 47], argTypes := #[22, 22] }) (by kernel_rfl) (Step.append_nums hU 5 1 (.int .u8 0) .u8 2 0 A7 qs.length c7 qs A2106 zs108.length c2107 (row 5 1 (.slice A2106 zs108.length c2107) zs108.length (nums .u8 zs108)) zs108 rfl rfl rfl (by kernel_rfl) (by kernel_rfl) (by kernel_rfl) (by kernel_rfl) (tells_row _ _ _ _ _ _) (by first | rfl | omega | (simp; omega)) (by first | rfl | omega | (simp; omega)) (by omega) (by omega) (by kernel_rfl) (fun Aq114 cq115 hc116 hA117 => ?_))
        have hl118 : (qs ++ zs108).length = qs.length + zs108.length := List.length_append
        refine RunR.step (dst := some 49) (op := .call { callee := .value (.func 47), args := #[.tmp 48], argTypes := #[22] }) (by kernel_rfl) (Step.call 47 [.slice Aq114 ((qs ++ zs108).length) cq115] (by kernel_rfl) (by kernel_rfl) [] [vw Aq114 (nums .u8 (qs ++ zs108))] [row 5 1 (.slice Aq114 ((qs ++ zs108).length) cq115) ((qs ++ zs108).length) (nums .u8 (qs ++ zs108)), row 5 1 (.slice A2106 zs108.length c2107) zs108.length (nums .u8 zs108), row 5 1 (.slice Aq101 ((ps ++ ms).length) cq102) ((ps ++ ms).length) (nums .u8 (ps ++ ms)), row 5 1 (.slice A5 bs.length c5) bs.length (nums .u8 bs), vw A (nums .u8 kk), vw A3 (nums .u8 ms)] (hr_Of_spec Aq114 cq115 (qs ++ zs108) ((qs ++ zs108).length) (by (repeat first | assumption | (simp only [fits]; omega) | with_reducible first | exact fits_wrap _ _ | exact fits_bits2 _ _ _ _ | exact In.nil _ | exact In.sb _ | exact In.replicate _ _ | apply In.append | apply In.cons | apply In.set | apply In.take | apply In.drop | apply In.rev)) (by first | assumption | omega | (simp only [List.length_append, List.length_cons, List.length_nil, List.length_set, List.length_replicate, List.length_take, List.length_drop]; omega) | (simp only [fits] at *; omega) | (simp only [List.length_append, List.length_cons, List.length_nil, List.length_set, List.length_replicate, List.length_take, List.length_drop] at *; omega) | (simp; done) | decide) (by first | rfl | assumption | omega | (simp only [List.length_append, List.length_cons, List.length_nil, List.length_set, List.length_replicate, List.length_take, List.length_drop]; omega) | (simp; done))) [] (by kernel_rfl) ((Lend.nil _).tells 0 (row 5 1 (.slice Aq114 ((qs ++ zs108).length) cq115) ((qs ++ zs108).length) (nums .u8 (qs ++ zs108))) Aq114 (nums .u8 (qs ++ zs108)) (by kernel_rfl) (tells_row _ _ _ _ _ _)) ?_)
        rintro _ _ ⟨A2119, c2120, zs121, rfl, rfl, hp122, hp123, hp124, hp125, hp126⟩
        refine RunR.sil hU [] 1 8 [4] [(4, .slice A2119 zs121.length c2120)] ((True) ∧ True) rfl (by kernel_rfl) ⟨trivial, trivial⟩ ?_
        refine RunR.done (by kernel_rfl) ?_
        refine kseq_n ?_
        refine RunC.ret ?_
        refine kret_r [.slice A2119 zs121.length c2120] [0] [row 5 1 (.slice A2119 zs121.length c2120) zs121.length (nums .u8 zs121)] ⟨rfl, trivial⟩ (by kernel_rfl) rfl ⟨A2119, c2120, zs121, rfl, rfl, (by simp only [hp109, hp122]; first | exact ref_mac hb (by omega) hp hq (by omega)), (by first | rfl | assumption | omega | (simp only [List.length_append, List.length_cons, List.length_nil, List.length_set, List.length_replicate, List.length_take, List.length_drop]; omega) | (simp; done)), hp124, (by first | assumption | omega | (simp only [List.length_append, List.length_cons, List.length_nil, List.length_set, List.length_replicate, List.length_take, List.length_drop]; omega) | (simp only [fits] at *; omega) | (simp only [List.length_append, List.length_cons, List.length_nil, List.length_set, List.length_replicate, List.length_take, List.length_drop] at *; omega) | (simp; done) | decide), (fun h => hp126 (by first | exact h | (simp at h ⊢; omega)))⟩

theorem mr_Extract_spec (A : Option Addr) (c : Nat) (kk : List Int) (A3 : Option Addr) (c3 : Nat) (ms : List Int) (l_kk : Nat) (l_ms : Nat) (hIkk : In .u8 kk) (hCkk : kk.length ≤ c) (hBkk : kk.length ≤ 70368744177664) (hIms : In .u8 ms) (hCms : ms.length ≤ c3) (hBms : ms.length ≤ 70368744177664) (hl_kk : kk.length = l_kk) (hl_ms : ms.length = l_ms) :
    CallsS Try.prog 24 [.slice A l_kk c, .slice A3 l_ms c3] [vw A (nums .u8 kk), vw A3 (nums .u8 ms)] (fun r D => ∃ (A2 : Option Addr) (c2 : Nat) (zs : List Int), r = .slice A2 zs.length c2 ∧ D = [row 5 1 (.slice A2 zs.length c2) zs.length (nums .u8 zs)] ∧ (zs = hmac kk ms) ∧ (zs.length = 32) ∧ (In .u8 zs) ∧ (zs.length ≤ c2) ∧ (0 < zs.length → Option.isSome A2 = true)) := by
  subst hl_kk
  subst hl_ms
  refine CallsS.enter hU Try.f24 _ [.tmp 4] 12 Try.func24 rfl (by decide) rfl rfl (by kernel_rfl) fun w0 W => ?_
  refine RunC.know (p := 0 < kk.length → Option.isSome A = true) (fun w hs => vw_some hs 0 rfl (by simp [nums_length])) (fun hA1 => ?_)
  refine RunC.know (p := 0 < ms.length → Option.isSome A3 = true) (fun w hs => vw_some hs 1 rfl (by simp [nums_length])) (fun hA2 => ?_)
  refine RunC.seq ?_
  refine RunC.region ?_
  refine RunR.sil hU [] 1 1 [0, 1, 4] [(0, .slice A kk.length c), (1, .slice A3 ms.length c3), (4, .slice none 0 0)] ((True) ∧ True) rfl (by kernel_rfl) ⟨trivial, trivial⟩ ?_
  refine RunR.done (by kernel_rfl) ?_
  refine kseq_n ?_
  refine RunC.seq ?_
  refine RunC.seq ?_
  refine RunC.region ?_
  refine RunR.sil hU [] 3 3 [0, 1, 4, 7] [(0, .slice A kk.length c), (1, .slice A3 ms.length c3), (4, .slice none 0 0), (7, .bool (decide (((kk.length : Nat) : Int) = 0)))] ((True) ∧ (True) ∧ (True) ∧ True) rfl (by kernel_rfl) ⟨trivial, trivial, trivial, trivial⟩ ?_
  refine RunR.done (by kernel_rfl) ?_
  refine kseq_n ?_
  refine RunC.condp (((kk.length : Nat) : Int) = 0) (by kernel_rfl) (fun h3 => ?_) (fun h3 => ?_)
  · skip
    refine RunC.region ?_
    refine RunR.step (dst := some 8) (op := .makeSlice 22 (.const (.int .i64 32)) (.const (.int .i64 32))) (by kernel_rfl) (Step.make_nums hU 5 1 .u8 .i64 .i64 (32) rfl rfl (by kernel_rfl) (by kernel_rfl) (by omega) (by omega) (by kernel_rfl) (fun b4 => ?_))
    have hl5 : (List.replicate 32 (0 : Int)).length = 32 := List.length_replicate
    refine RunR.sil hU [] 1 2 [0, 1, 4] [(0, .slice (some ⟨b4, 0, none⟩) 32 32), (1, .slice A3 ms.length c3), (4, .slice none 0 0)] ((True) ∧ True) rfl (by kernel_rfl) ⟨trivial, trivial⟩ ?_
    refine RunR.done (by kernel_rfl) ?_
    refine kseq_n ?_
    refine RunC.seq ?_
    refine RunC.region ?_
    refine RunR.sil hU [] 2 2 [4, 9, 10] [(4, .slice none 0 0), (9, .slice (some ⟨b4, 0, none⟩) 32 32), (10, .slice A3 ms.length c3)] ((True) ∧ (True) ∧ True) rfl (by kernel_rfl) ⟨trivial, trivial, trivial⟩ ?_
    refine RunR.step (dst := some 11) (op := .call { callee := .value (.func 22), args := #[.tmp 9, .tmp 10], argTypes := #[22, 22] }) (by kernel_rfl) (Step.call 22 [.slice (some ⟨b4, 0, none⟩) 32 32, .slice A3 ms.length c3] (by kernel_rfl) (by kernel_rfl) [] [vw (some ⟨b4, 0, none⟩) (nums .u8 (List.replicate 32 (0 : Int))), vw A3 (nums .u8 ms)] [row 5 1 (.slice (some ⟨b4, 0, none⟩) 32 32) 32 (nums .u8 (List.replicate 32 (0 : Int))), vw A (nums .u8 kk), vw A3 (nums .u8 ms)] (mr_Mac_spec (some ⟨b4, 0, none⟩) 32 (List.replicate 32 (0 : Int)) A3 c3 ms 32 ms.length (by (repeat first | assumption | (simp only [fits]; omega) | with_reducible first | exact fits_wrap _ _ | exact fits_bits2 _ _ _ _ | exact In.nil _ | exact In.sb _ | exact In.replicate _ _ | apply In.append | apply In.cons | apply In.set | apply In.take | apply In.drop | apply In.rev)) (by first | assumption | omega | (simp only [List.length_append, List.length_cons, List.length_nil, List.length_set, List.length_replicate, List.length_take, List.length_drop]; omega) | (simp only [fits] at *; omega) | (simp only [List.length_append, List.length_cons, List.length_nil, List.length_set, List.length_replicate, List.length_take, List.length_drop] at *; omega) | (simp; done) | decide) (by first | assumption | omega | (simp only [List.length_append, List.length_cons, List.length_nil, List.length_set, List.length_replicate, List.length_take, List.length_drop]; omega) | (simp only [fits] at *; omega) | (simp only [List.length_append, List.length_cons, List.length_nil, List.length_set, List.length_replicate, List.length_take, List.length_drop] at *; omega) | (simp; done) | decide) hIms (by first | assumption | omega | (simp only [List.length_append, List.length_cons, List.length_nil, List.length_set, List.length_replicate, List.length_take, List.length_drop]; omega) | (simp only [fits] at *; omega) | (simp only [List.length_append, List.length_cons, List.length_nil, List.length_set, List.length_replicate, List.length_take, List.length_drop] at *; omega) | (simp; done) | decide) (by first | assumption | omega | (simp only [List.length_append, List.length_cons, List.length_nil, List.length_set, List.length_replicate, List.length_take, List.length_drop]; omega) | (simp only [fits] at *; omega) | (simp only [List.length_append, List.length_cons, List.length_nil, List.length_set, List.length_replicate, List.length_take, List.length_drop] at *; omega) | (simp; done) | decide) (by first | rfl | assumption | omega | (simp only [List.length_append, List.length_cons, List.length_nil, List.length_set, List.length_replicate, List.length_take, List.length_drop]; omega) | (simp; done)) (by first | rfl | assumption | omega | (simp only [List.length_append, List.length_cons, List.length_nil, List.length_set, List.length_replicate, List.length_take, List.length_drop]; omega) | (simp; done))) [] (by kernel_rfl) (((Lend.nil _).tells 2 (vw A3 (nums .u8 ms)) A3 (nums .u8 ms) (by kernel_rfl) (tells_vw _ _)).tells 0 (row 5 1 (.slice (some ⟨b4, 0, none⟩) 32 32) 32 (nums .u8 (List.replicate 32 (0 : Int)))) (some ⟨b4, 0, none⟩) (nums .u8 (List.replicate 32 (0 : Int))) (by kernel_rfl) (tells_row _ _ _ _ _ _)) ?_)
    rintro _ _ ⟨A26, c27, zs8, rfl, rfl, hp9, hp10, hp11, hp12, hp13⟩
    refine RunR.sil hU [] 1 4 [4] [(4, .slice A26 zs8.length c27)] ((True) ∧ True) rfl (by kernel_rfl) ⟨trivial, trivial⟩ ?_
    refine RunR.done (by kernel_rfl) ?_
    refine kseq_n ?_
    refine RunC.ret ?_
    refine kret_r [.slice A26 zs8.length c27] [0] [row 5 1 (.slice A26 zs8.length c27) zs8.length (nums .u8 zs8)] ⟨rfl, trivial⟩ (by kernel_rfl) rfl ⟨A26, c27, zs8, rfl, rfl, (by simp only [hp9]; exact hmac_nil (by omega)), (by first | rfl | assumption | omega | (simp only [List.length_append, List.length_cons, List.length_nil, List.length_set, List.length_replicate, List.length_take, List.length_drop]; omega) | (simp; done)), hp11, (by first | assumption | omega | (simp only [List.length_append, List.length_cons, List.length_nil, List.length_set, List.length_replicate, List.length_take, List.length_drop]; omega) | (simp only [fits] at *; omega) | (simp only [List.length_append, List.length_cons, List.length_nil, List.length_set, List.length_replicate, List.length_take, List.length_drop] at *; omega) | (simp; done) | decide), (fun h => hp13 (by first | exact h | (simp at h ⊢; omega)))⟩
  · skip
    refine RunC.skip ?_
    refine kseq_n ?_
    refine RunC.seq ?_
    refine RunC.region ?_
    refine RunR.sil hU [] 2 2 [4, 9, 10] [(4, .slice none 0 0), (9, .slice A kk.length c), (10, .slice A3 ms.length c3)] ((True) ∧ (True) ∧ True) rfl (by kernel_rfl) ⟨trivial, trivial, trivial⟩ ?_
    refine RunR.step (dst := some 11) (op := .call { callee := .value (.func 22), args := #[.tmp 9, .tmp 10], argTypes := #[22, 22] }) (by kernel_rfl) (Step.call 22 [.slice A kk.length c, .slice A3 ms.length c3] (by kernel_rfl) (by kernel_rfl) [] [vw A (nums .u8 kk), vw A3 (nums .u8 ms)] [vw A (nums .u8 kk), vw A3 (nums .u8 ms)] (mr_Mac_spec A c kk A3 c3 ms kk.length ms.length hIkk (by first | assumption | omega | (simp only [List.length_append, List.length_cons, List.length_nil, List.length_set, List.length_replicate, List.length_take, List.length_drop]; omega) | (simp only [fits] at *; omega) | (simp only [List.length_append, List.length_cons, List.length_nil, List.length_set, List.length_replicate, List.length_take, List.length_drop] at *; omega) | (simp; done) | decide) (by first | assumption | omega | (simp only [List.length_append, List.length_cons, List.length_nil, List.length_set, List.length_replicate, List.length_take, List.length_drop]; omega) | (simp only [fits] at *; omega) | (simp only [List.length_append, List.length_cons, List.length_nil, List.length_set, List.length_replicate, List.length_take, List.length_drop] at *; omega) | (simp; done) | decide) hIms (by first | assumption | omega | (simp only [List.length_append, List.length_cons, List.length_nil, List.length_set, List.length_replicate, List.length_take, List.length_drop]; omega) | (simp only [fits] at *; omega) | (simp only [List.length_append, List.length_cons, List.length_nil, List.length_set, List.length_replicate, List.length_take, List.length_drop] at *; omega) | (simp; done) | decide) (by first | assumption | omega | (simp only [List.length_append, List.length_cons, List.length_nil, List.length_set, List.length_replicate, List.length_take, List.length_drop]; omega) | (simp only [fits] at *; omega) | (simp only [List.length_append, List.length_cons, List.length_nil, List.length_set, List.length_replicate, List.length_take, List.length_drop] at *; omega) | (simp; done) | decide) (by first | rfl | assumption | omega | (simp only [List.length_append, List.length_cons, List.length_nil, List.length_set, List.length_replicate, List.length_take, List.length_drop]; omega) | (simp; done)) (by first | rfl | assumption | omega | (simp only [List.length_append, List.length_cons, List.length_nil, List.length_set, List.length_replicate, List.length_take, List.length_drop]; omega) | (simp; done))) [] (by kernel_rfl) (((Lend.nil _).tells 1 (vw A3 (nums .u8 ms)) A3 (nums .u8 ms) (by kernel_rfl) (tells_vw _ _)).tells 0 (vw A (nums .u8 kk)) A (nums .u8 kk) (by kernel_rfl) (tells_vw _ _)) ?_)
    rintro _ _ ⟨A214, c215, zs16, rfl, rfl, hp17, hp18, hp19, hp20, hp21⟩
    refine RunR.sil hU [] 1 4 [4] [(4, .slice A214 zs16.length c215)] ((True) ∧ True) rfl (by kernel_rfl) ⟨trivial, trivial⟩ ?_
    refine RunR.done (by kernel_rfl) ?_
    refine kseq_n ?_
    refine RunC.ret ?_
    refine kret_r [.slice A214 zs16.length c215] [0] [row 5 1 (.slice A214 zs16.length c215) zs16.length (nums .u8 zs16)] ⟨rfl, trivial⟩ (by kernel_rfl) rfl ⟨A214, c215, zs16, rfl, rfl, (by simp only [hp17]), (by first | rfl | assumption | omega | (simp only [List.length_append, List.length_cons, List.length_nil, List.length_set, List.length_replicate, List.length_take, List.length_drop]; omega) | (simp; done)), hp19, (by first | assumption | omega | (simp only [List.length_append, List.length_cons, List.length_nil, List.length_set, List.length_replicate, List.length_take, List.length_drop]; omega) | (simp only [fits] at *; omega) | (simp only [List.length_append, List.length_cons, List.length_nil, List.length_set, List.length_replicate, List.length_take, List.length_drop] at *; omega) | (simp; done) | decide), (fun h => hp21 (by first | exact h | (simp at h ⊢; omega)))⟩

theorem mr_Expand_spec (A : Option Addr) (c : Nat) (kk : List Int) (A3 : Option Addr) (c3 : Nat) (ms : List Int) (n : Int) (l_kk : Nat) (l_ms : Nat) (hIkk : In .u8 kk) (hCkk : kk.length ≤ c) (hBkk : kk.length ≤ 70368744177664) (hIms : In .u8 ms) (hCms : ms.length ≤ c3) (hBms : ms.length ≤ 35184372088832) (hn : fits .i64 n) (hl_kk : kk.length = l_kk) (hl_ms : ms.length = l_ms) :
    CallsS Try.prog 26 [.slice A l_kk c, .slice A3 l_ms c3, .int .i64 n] [vw A (nums .u8 kk), vw A3 (nums .u8 ms)] (fun r D => ∃ (A2 : Option Addr) (c2 : Nat) (zs : List Int) (e : Int), r = .tuple #[.slice A2 zs.length c2, .int .i64 e] ∧ D = [row 5 1 (.slice A2 zs.length c2) zs.length (nums .u8 zs)] ∧ (Said n e zs) ∧ (e = 0 → zs = expand kk ms n.toNat) ∧ (In .u8 zs) ∧ (zs.length ≤ c2) ∧ (0 < zs.length → Option.isSome A2 = true)) := by
  subst hl_kk
  subst hl_ms
  refine CallsS.enter hU Try.f26 _ [.tmp 6, .tmp 7] 42 Try.func26 rfl (by decide) rfl rfl (by kernel_rfl) fun w0 W => ?_
  have hn2 := hn; simp only [fits] at hn2
  refine RunC.know (p := 0 < kk.length → Option.isSome A = true) (fun w hs => vw_some hs 0 rfl (by simp [nums_length])) (fun hA1 => ?_)
  refine RunC.know (p := 0 < ms.length → Option.isSome A3 = true) (fun w hs => vw_some hs 1 rfl (by simp [nums_length])) (fun hA2 => ?_)
  refine RunC.seq ?_
  refine RunC.region ?_
  refine RunR.sil hU [] 2 2 [0, 1, 2, 6, 7] [(0, .slice A kk.length c), (1, .slice A3 ms.length c3), (2, .int .i64 n), (6, .slice none 0 0), (7, .int .i64 0)] ((True) ∧ (True) ∧ True) rfl (by kernel_rfl) ⟨trivial, trivial, trivial⟩ ?_
  refine RunR.done (by kernel_rfl) ?_
  refine kseq_n ?_
  refine RunC.seq ?_
  refine RunC.seq ?_
  refine RunC.region ?_
  refine RunR.sil hU [] 3 3 [0, 1, 2, 6, 7, 13] [(0, .slice A kk.length c), (1, .slice A3 ms.length c3), (2, .int .i64 n), (6, .slice none 0 0), (7, .int .i64 0), (13, .bool (decide (n < 0)))] ((True) ∧ (True) ∧ (True) ∧ True) rfl (by kernel_rfl) ⟨trivial, trivial, trivial, trivial⟩ ?_
  refine RunR.env [0, 1, 2, 6, 7, 13] [(0, .slice A kk.length c), (1, .slice A3 ms.length c3), (2, .int .i64 n), (6, .slice none 0 0), (7, .int .i64 0), (13, .bool (decide (n < 0)))] (by kernel_rfl) ?_
  by_cases h3 : n < 0
  · skip
    refine RunR.enveq [(0, .slice A kk.length c), (1, .slice A3 ms.length c3), (2, .int .i64 n), (6, .slice none 0 0), (7, .int .i64 0), (13, .bool true)] (by rw [decide_eq_true h3]; try rfl) ?_
    refine RunR.sil hU [] 3 6 [0, 1, 2, 6, 7, 16] [(0, .slice A kk.length c), (1, .slice A3 ms.length c3), (2, .int .i64 n), (6, .slice none 0 0), (7, .int .i64 0), (16, .bool true)] ((True) ∧ True) rfl (by kernel_rfl) ⟨trivial, trivial⟩ ?_
    refine RunR.done (by kernel_rfl) ?_
    refine kseq_n ?_
    refine RunC.cond (b := true) (by kernel_rfl) (fun _ => ?_) (fun h => by cases h)
    refine RunC.seq ?_
    refine RunC.region ?_
    refine RunR.sil hU [] 2 2 [0, 1, 2, 6, 7] [(0, .slice A kk.length c), (1, .slice A3 ms.length c3), (2, .int .i64 n), (6, .slice none 0 0), (7, .int .i64 1)] ((True) ∧ (True) ∧ True) rfl (by kernel_rfl) ⟨trivial, trivial, trivial⟩ ?_
    refine RunR.done (by kernel_rfl) ?_
    refine kseq_n ?_
    refine RunC.ret ?_
    refine kseq_r ?_
    refine kret_rt ([row 5 1 (.slice none 0 0) 0 (nums .u8 ([] : List Int)), vw A (nums .u8 kk), vw A3 (nums .u8 ms)]) (fun w0 W w hs => hs.nil_row 5 1) [.slice none 0 0, .int .i64 1] [0] [row 5 1 (.slice none 0 0) 0 (nums .u8 ([] : List Int))] ⟨rfl, rfl, trivial⟩ (by kernel_rfl) rfl ⟨none, 0, [], 1, rfl, rfl, (by exact .inr ⟨by omega, rfl, rfl⟩), (by intro h; cases h), (by exact In.nil _), (by exact Nat.le_refl _), (by intro h; simp at h)⟩
  · skip
    refine RunR.enveq [(0, .slice A kk.length c), (1, .slice A3 ms.length c3), (2, .int .i64 n), (6, .slice none 0 0), (7, .int .i64 0), (13, .bool false)] (by rw [decide_eq_false h3]; try rfl) ?_
    refine RunR.sil hU [] 3 6 [0, 1, 2, 6, 7, 16] [(0, .slice A kk.length c), (1, .slice A3 ms.length c3), (2, .int .i64 n), (6, .slice none 0 0), (7, .int .i64 0), (16, .bool (decide (n > 8160)))] ((True) ∧ (True) ∧ (True) ∧ True) rfl (by kernel_rfl) ⟨trivial, trivial, trivial, trivial⟩ ?_
    refine RunR.done (by kernel_rfl) ?_
    refine kseq_n ?_
    refine RunC.condp (n > 8160) (by kernel_rfl) (fun h4 => ?_) (fun h4 => ?_)
    · skip
      refine RunC.seq ?_
      refine RunC.region ?_
      refine RunR.sil hU [] 2 2 [0, 1, 2, 6, 7] [(0, .slice A kk.length c), (1, .slice A3 ms.length c3), (2, .int .i64 n), (6, .slice none 0 0), (7, .int .i64 1)] ((True) ∧ (True) ∧ True) rfl (by kernel_rfl) ⟨trivial, trivial, trivial⟩ ?_
      refine RunR.done (by kernel_rfl) ?_
      refine kseq_n ?_
      refine RunC.ret ?_
      refine kseq_r ?_
      refine kret_rt ([row 5 1 (.slice none 0 0) 0 (nums .u8 ([] : List Int)), vw A (nums .u8 kk), vw A3 (nums .u8 ms)]) (fun w0 W w hs => hs.nil_row 5 1) [.slice none 0 0, .int .i64 1] [0] [row 5 1 (.slice none 0 0) 0 (nums .u8 ([] : List Int))] ⟨rfl, rfl, trivial⟩ (by kernel_rfl) rfl ⟨none, 0, [], 1, rfl, rfl, (by exact .inr ⟨by omega, rfl, rfl⟩), (by intro h; cases h), (by exact In.nil _), (by exact Nat.le_refl _), (by intro h; simp at h)⟩
    · skip
      refine RunC.skip ?_
      refine kseq_n ?_
      refine RunC.seq ?_
      refine RunC.region ?_
      refine RunR.sil hU [] 1 1 [0, 1, 2, 6, 7, 8] [(0, .slice A kk.length c), (1, .slice A3 ms.length c3), (2, .int .i64 n), (6, .slice none 0 0), (7, .int .i64 0), (8, .slice none 0 0)] ((True) ∧ True) rfl (by kernel_rfl) ⟨trivial, trivial⟩ ?_
      refine RunR.done (by kernel_rfl) ?_
      refine kseq_n ?_
      refine RunC.seq ?_
      refine RunC.region ?_
      refine RunR.sil hU [] 1 1 [0, 1, 2, 6, 7, 8, 9] [(0, .slice A kk.length c), (1, .slice A3 ms.length c3), (2, .int .i64 n), (6, .slice none 0 0), (7, .int .i64 0), (8, .slice none 0 0), (9, .slice none 0 0)] ((True) ∧ True) rfl (by kernel_rfl) ⟨trivial, trivial⟩ ?_
      refine RunR.done (by kernel_rfl) ?_
      refine kseq_n ?_
      refine RunC.seq ?_
      refine RunC.seq ?_
      refine RunC.region ?_
      refine RunR.sil hU [] 1 1 [0, 1, 2, 6, 7, 8, 9, 10] [(0, .slice A kk.length c), (1, .slice A3 ms.length c3), (2, .int .i64 n), (6, .slice none 0 0), (7, .int .i64 0), (8, .slice none 0 0), (9, .slice none 0 0), (10, .int .i64 1)] ((True) ∧ True) rfl (by kernel_rfl) ⟨trivial, trivial⟩ ?_
      refine RunR.done (by kernel_rfl) ?_
      refine kseq_n ?_
      refine RunC.block ?_
      refine RunC.turn ([row 5 1 (.slice none 0 0) 0 (nums .u8 ([] : List Int)), vw A (nums .u8 kk), vw A3 (nums .u8 ms)]) (fun w hs => hs.nil_row 5 1) ?_
      refine RunC.turn ([row 5 1 (.slice none 0 0) 0 (nums .u8 ([] : List Int)), row 5 1 (.slice none 0 0) 0 (nums .u8 ([] : List Int)), vw A (nums .u8 kk), vw A3 (nums .u8 ms)]) (fun w hs => hs.nil_row 5 1) ?_
      refine RunC.env [0, 1, 2, 6, 7, 8, 9, 10] [(0, .slice A kk.length c), (1, .slice A3 ms.length c3), (2, .int .i64 n), (6, .slice none 0 0), (7, .int .i64 0), (8, .slice none 0 0), (9, .slice none 0 0), (10, .int .i64 1)] (by kernel_rfl) ?_
      refine RunC.only [0, 0, 0, 0] [row 5 1 (.slice none 0 0) 0 (nums .u8 ([] : List Int)), row 5 1 (.slice none 0 0) 0 (nums .u8 ([] : List Int)), vw A (nums .u8 kk), vw A3 (nums .u8 ms)] (by kernel_rfl) ?_
      refine RunC.loop (σ := Nat) (fun n_ t_ D_ => ∃ (i : Int) (os : List Int) (A4 : Option Addr) (c4 : Nat) (ls : List Int) (A5 : Option Addr) (c5 : Nat), (1 ≤ i) ∧ (os = long kk ms (i - 1).toNat) ∧ (os.length = 32 * (i - 1).toNat) ∧ (os.length < n + 32) ∧ (ls = rows kk ms (i - 1).toNat) ∧ (ls.length ≤ 32) ∧ (In .u8 os) ∧ (os.length ≤ c4) ∧ (0 < os.length → Option.isSome A4 = true) ∧ (In .u8 ls) ∧ (ls.length ≤ c5) ∧ (0 < ls.length → Option.isSome A5 = true) ∧ n_ = ((n + 32 - 32 * i).toNat : Nat) ∧ t_ = [(0, .slice A kk.length c), (1, .slice A3 ms.length c3), (2, .int .i64 n), (6, .slice none 0 0), (7, .int .i64 0), (8, .slice A4 os.length c4), (9, .slice A5 ls.length c5), (10, .int .i64 i)] ∧ D_ = [row 5 1 (.slice A4 os.length c4) os.length (nums .u8 os), row 5 1 (.slice A5 ls.length c5) ls.length (nums .u8 ls), vw A (nums .u8 kk), vw A3 (nums .u8 ms)]) id _ ⟨1, ([] : List Int), none, 0, ([] : List Int), none, 0, (by first | assumption | omega | (simp only [List.length_append, List.length_cons, List.length_nil, List.length_set, List.length_replicate, List.length_take, List.length_drop]; omega) | (simp only [fits] at *; omega) | (simp only [List.length_append, List.length_cons, List.length_nil, List.length_set, List.length_replicate, List.length_take, List.length_drop] at *; omega) | (simp; done) | decide), (by rfl), (by rfl), (by simp only [List.length_nil]; omega), (by rfl), (by exact Nat.zero_le _), (by exact In.nil _), (by exact Nat.zero_le _), (by intro h; simp at h), (by exact In.nil _), (by exact Nat.zero_le _), (by intro h; simp at h), rfl, rfl, rfl⟩ ?_
      rintro n_ _ _ ⟨i, os, A4, c4, ls, A5, c5, hi, ho, hol, hon, hl, hll, hios, hcos, hAos, hils, hcls, hAls, rfl, rfl, rfl⟩
      refine RunC.seq ?_
      refine RunC.seq ?_
      refine RunC.region ?_
      refine RunR.sil hU [] 4 4 [0, 1, 2, 6, 7, 8, 9, 10, 20] [(0, .slice A kk.length c), (1, .slice A3 ms.length c3), (2, .int .i64 n), (6, .slice none 0 0), (7, .int .i64 0), (8, .slice A4 os.length c4), (9, .slice A5 ls.length c5), (10, .int .i64 i), (20, .bool (decide (((os.length : Nat) : Int) < n)))] ((True) ∧ (True) ∧ (True) ∧ (True) ∧ True) rfl (by kernel_rfl) ⟨trivial, trivial, trivial, trivial, trivial⟩ ?_
      refine RunR.done (by kernel_rfl) ?_
      refine kseq_n ?_
      refine RunC.condp (((os.length : Nat) : Int) < n) (by kernel_rfl) (fun h5 => ?_) (fun h5 => ?_)
      · skip
        refine RunC.skip ?_
        refine kseq_n ?_
        refine RunC.seq ?_
        refine RunC.block ?_
        refine RunC.seq ?_
        refine RunC.region ?_
        refine RunR.sil hU [] 1 1 [0, 1, 2, 6, 7, 8, 9, 10, 23] [(0, .slice A kk.length c), (1, .slice A3 ms.length c3), (2, .int .i64 n), (6, .slice none 0 0), (7, .int .i64 0), (8, .slice A4 os.length c4), (9, .slice A5 ls.length c5), (10, .int .i64 i), (23, .slice A kk.length c)] ((True) ∧ True) rfl (by kernel_rfl) ⟨trivial, trivial⟩ ?_
        refine RunR.step (dst := some 24) (op := .buildSlice 22 0 #[]) (by kernel_rfl) (Step.lit_nums hU 5 1 .u8 (.int .u8 0) ([] : List Int) rfl rfl (by kernel_rfl) rfl rfl (by kernel_rfl) (fun b6 => ?_))
        have hl7 : (([] : List Int)).length = 0 := rfl
        refine RunR.sil hU [] 1 3 [0, 1, 2, 6, 7, 8, 9, 10, 23, 24, 25] [(0, .slice A kk.length c), (1, .slice A3 ms.length c3), (2, .int .i64 n), (6, .slice none 0 0), (7, .int .i64 0), (8, .slice A4 os.length c4), (9, .slice A5 ls.length c5), (10, .int .i64 i), (23, .slice A kk.length c), (24, .slice (some ⟨b6, 0, none⟩) 0 0), (25, .slice A5 ls.length c5)] ((True) ∧ True) rfl (by kernel_rfl) ⟨trivial, trivial⟩ ?_
        have hl12 : (([] : List Int)).length = 0 := rfl
        refine RunR.step (dst := some 26) (op := .call { callee := .builtin .append, args := #[.tmp 24, .tmp 25], argTypes := #[22, 22] }) (by kernel_rfl) (Step.append_nums hU 5 1 (.int .u8 0) .u8 0 2 (some ⟨b6, 0, none⟩) 0 0 ([] : List Int) A5 ls.length c5 (row 5 1 (.slice A5 ls.length c5) ls.length (nums .u8 ls)) ls rfl rfl rfl (by kernel_rfl) (by kernel_rfl) (by kernel_rfl) (by kernel_rfl) (tells_row _ _ _ _ _ _) (by first | rfl | omega | (simp; omega)) (by first | rfl | omega | (simp; omega)) (by omega) (by omega) (by kernel_rfl) (fun Aq8 cq9 hc10 hA11 => ?_))
        simp only [List.nil_append] at hc10 hA11
        refine RunR.sil hU [] 1 5 [0, 1, 2, 6, 7, 8, 9, 10, 23, 26, 27] [(0, .slice A kk.length c), (1, .slice A3 ms.length c3), (2, .int .i64 n), (6, .slice none 0 0), (7, .int .i64 0), (8, .slice A4 os.length c4), (9, .slice A5 ls.length c5), (10, .int .i64 i), (23, .slice A kk.length c), (26, .slice Aq8 ls.length cq9), (27, .slice A3 ms.length c3)] ((True) ∧ True) rfl (by kernel_rfl) ⟨trivial, trivial⟩ ?_
        refine RunR.step (dst := some 28) (op := .call { callee := .builtin .append, args := #[.tmp 26, .tmp 27], argTypes := #[22, 22] }) (by kernel_rfl) (Step.append_nums hU 5 1 (.int .u8 0) .u8 0 4 Aq8 ls.length cq9 ls A3 ms.length c3 (vw A3 (nums .u8 ms)) ms rfl rfl rfl (by kernel_rfl) (by kernel_rfl) (by kernel_rfl) (by kernel_rfl) (tells_vw _ _) (by first | rfl | omega | (simp; omega)) (by first | rfl | omega | (simp; omega)) (by omega) (by omega) (by kernel_rfl) (fun Aq13 cq14 hc15 hA16 => ?_))
        have hl17 : (ls ++ ms).length = ls.length + ms.length := List.length_append
        refine RunR.sil hU [] 2 8 [0, 1, 2, 6, 7, 8, 9, 10, 23, 28, 30] [(0, .slice A kk.length c), (1, .slice A3 ms.length c3), (2, .int .i64 n), (6, .slice none 0 0), (7, .int .i64 0), (8, .slice A4 os.length c4), (9, .slice A5 ls.length c5), (10, .int .i64 i), (23, .slice A kk.length c), (28, .slice Aq13 ((ls ++ ms).length) cq14), (30, .int .u8 (IntKind.wrap .u8 i))] ((True) ∧ (True) ∧ True) rfl (by kernel_rfl) ⟨trivial, trivial, trivial⟩ ?_
        refine RunR.step (dst := some 31) (op := .buildSlice 22 1 #[(0, .tmp 30)]) (by kernel_rfl) (Step.lit_nums hU 5 1 .u8 (.int .u8 0) ([IntKind.wrap .u8 i] : List Int) rfl rfl (by kernel_rfl) rfl rfl (by kernel_rfl) (fun b18 => ?_))
        have hl19 : (([IntKind.wrap .u8 i] : List Int)).length = 1 := rfl
        have hl24 : (([IntKind.wrap .u8 i] : List Int)).length = 1 := rfl
        refine RunR.step (dst := some 32) (op := .call { callee := .builtin .append, args := #[.tmp 28, .tmp 31], argTypes := #[22, 22] }) (by kernel_rfl) (Step.append_nums hU 5 1 (.int .u8 0) .u8 1 0 Aq13 ((ls ++ ms).length) cq14 (ls ++ ms) (some ⟨b18, 0, none⟩) 1 1 (row 5 1 (.slice (some ⟨b18, 0, none⟩) 1 1) 1 (nums .u8 ([IntKind.wrap .u8 i] : List Int))) ([IntKind.wrap .u8 i] : List Int) rfl rfl rfl (by kernel_rfl) (by kernel_rfl) (by kernel_rfl) (by kernel_rfl) (tells_row _ _ _ _ _ _) (by first | rfl | omega | (simp; omega)) (by first | rfl | omega | (simp; omega)) (by omega) (by omega) (by kernel_rfl) (fun Aq20 cq21 hc22 hA23 => ?_))
        have hl25 : ((ls ++ ms) ++ ([IntKind.wrap .u8 i] : List Int)).length = (ls ++ ms).length + ([IntKind.wrap .u8 i] : List Int).length := List.length_append
        simp only [List.length_cons, List.length_nil] at hl25
        refine RunR.step (dst := some 33) (op := .call { callee := .value (.func 22), args := #[.tmp 23, .tmp 32], argTypes := #[22, 22] }) (by kernel_rfl) (Step.call 22 [.slice A kk.length c, .slice Aq20 (((ls ++ ms) ++ ([IntKind.wrap .u8 i] : List Int)).length) cq21] (by kernel_rfl) (by kernel_rfl) [] [vw A (nums .u8 kk), vw Aq20 (nums .u8 ((ls ++ ms) ++ ([IntKind.wrap .u8 i] : List Int)))] [row 5 1 (.slice Aq20 (((ls ++ ms) ++ ([IntKind.wrap .u8 i] : List Int)).length) cq21) (((ls ++ ms) ++ ([IntKind.wrap .u8 i] : List Int)).length) (nums .u8 ((ls ++ ms) ++ ([IntKind.wrap .u8 i] : List Int))), row 5 1 (.slice (some ⟨b18, 0, none⟩) 1 1) 1 (nums .u8 ([IntKind.wrap .u8 i] : List Int)), row 5 1 (.slice A4 os.length c4) os.length (nums .u8 os), row 5 1 (.slice A5 ls.length c5) ls.length (nums .u8 ls), vw A (nums .u8 kk), vw A3 (nums .u8 ms)] (mr_Mac_spec A c kk Aq20 cq21 ((ls ++ ms) ++ ([IntKind.wrap .u8 i] : List Int)) kk.length (((ls ++ ms) ++ ([IntKind.wrap .u8 i] : List Int)).length) hIkk (by first | assumption | omega | (simp only [List.length_append, List.length_cons, List.length_nil, List.length_set, List.length_replicate, List.length_take, List.length_drop]; omega) | (simp only [fits] at *; omega) | (simp only [List.length_append, List.length_cons, List.length_nil, List.length_set, List.length_replicate, List.length_take, List.length_drop] at *; omega) | (simp; done) | decide) (by first | assumption | omega | (simp only [List.length_append, List.length_cons, List.length_nil, List.length_set, List.length_replicate, List.length_take, List.length_drop]; omega) | (simp only [fits] at *; omega) | (simp only [List.length_append, List.length_cons, List.length_nil, List.length_set, List.length_replicate, List.length_take, List.length_drop] at *; omega) | (simp; done) | decide) (by (repeat first | assumption | (simp only [fits]; omega) | with_reducible first | exact fits_wrap _ _ | exact fits_bits2 _ _ _ _ | exact In.nil _ | exact In.sb _ | exact In.replicate _ _ | apply In.append | apply In.cons | apply In.set | apply In.take | apply In.drop | apply In.rev)) (by first | assumption | omega | (simp only [List.length_append, List.length_cons, List.length_nil, List.length_set, List.length_replicate, List.length_take, List.length_drop]; omega) | (simp only [fits] at *; omega) | (simp only [List.length_append, List.length_cons, List.length_nil, List.length_set, List.length_replicate, List.length_take, List.length_drop] at *; omega) | (simp; done) | decide) (by first | assumption | omega | (simp only [List.length_append, List.length_cons, List.length_nil, List.length_set, List.length_replicate, List.length_take, List.length_drop]; omega) | (simp only [fits] at *; omega) | (simp only [List.length_append, List.length_cons, List.length_nil, List.length_set, List.length_replicate, List.length_take, List.length_drop] at *; omega) | (simp; done) | decide) (by first | rfl | assumption | omega | (simp only [List.length_append, List.length_cons, List.length_nil, List.length_set, List.length_replicate, List.length_take, List.length_drop]; omega) | (simp; done)) (by first | rfl | assumption | omega | (simp only [List.length_append, List.length_cons, List.length_nil, List.length_set, List.length_replicate, List.length_take, List.length_drop]; omega) | (simp; done))) [] (by kernel_rfl) (((Lend.nil _).tells 0 (row 5 1 (.slice Aq20 (((ls ++ ms) ++ ([IntKind.wrap .u8 i] : List Int)).length) cq21) (((ls ++ ms) ++ ([IntKind.wrap .u8 i] : List Int)).length) (nums .u8 ((ls ++ ms) ++ ([IntKind.wrap .u8 i] : List Int)))) Aq20 (nums .u8 ((ls ++ ms) ++ ([IntKind.wrap .u8 i] : List Int))) (by kernel_rfl) (tells_row _ _ _ _ _ _)).tells 4 (vw A (nums .u8 kk)) A (nums .u8 kk) (by kernel_rfl) (tells_vw _ _)) ?_)
        rintro _ _ ⟨A226, c227, zs28, rfl, rfl, hp29, hp30, hp31, hp32, hp33⟩
        refine RunR.sil hU [] 1 12 [0, 1, 2, 6, 7, 8, 9, 10] [(0, .slice A kk.length c), (1, .slice A3 ms.length c3), (2, .int .i64 n), (6, .slice none 0 0), (7, .int .i64 0), (8, .slice A4 os.length c4), (9, .slice A226 zs28.length c227), (10, .int .i64 i)] ((True) ∧ True) rfl (by kernel_rfl) ⟨trivial, trivial⟩ ?_
        refine RunR.done (by kernel_rfl) ?_
        refine kseq_n ?_
        refine RunC.region ?_
        refine RunR.sil hU [] 2 2 [0, 1, 2, 6, 7, 8, 9, 10, 34, 35] [(0, .slice A kk.length c), (1, .slice A3 ms.length c3), (2, .int .i64 n), (6, .slice none 0 0), (7, .int .i64 0), (8, .slice A4 os.length c4), (9, .slice A226 zs28.length c227), (10, .int .i64 i), (34, .slice A4 os.length c4), (35, .slice A226 zs28.length c227)] ((True) ∧ (True) ∧ True) rfl (by kernel_rfl) ⟨trivial, trivial, trivial⟩ ?_
        refine RunR.step (dst := some 36) (op := .call { callee := .builtin .append, args := #[.tmp 34, .tmp 35], argTypes := #[22, 22] }) (by kernel_rfl) (Step.append_nums hU 5 1 (.int .u8 0) .u8 3 0 A4 os.length c4 os A226 zs28.length c227 (row 5 1 (.slice A226 zs28.length c227) zs28.length (nums .u8 zs28)) zs28 rfl rfl rfl (by kernel_rfl) (by kernel_rfl) (by kernel_rfl) (by kernel_rfl) (tells_row _ _ _ _ _ _) (by first | rfl | omega | (simp; omega)) (by first | rfl | omega | (simp; omega)) (by omega) (by omega) (by kernel_rfl) (fun Aq34 cq35 hc36 hA37 => ?_))
        have hl38 : (os ++ zs28).length = os.length + zs28.length := List.length_append
        refine RunR.sil hU [] 1 4 [0, 1, 2, 6, 7, 8, 9, 10] [(0, .slice A kk.length c), (1, .slice A3 ms.length c3), (2, .int .i64 n), (6, .slice none 0 0), (7, .int .i64 0), (8, .slice Aq34 ((os ++ zs28).length) cq35), (9, .slice A226 zs28.length c227), (10, .int .i64 i)] ((True) ∧ True) rfl (by kernel_rfl) ⟨trivial, trivial⟩ ?_
        refine RunR.done (by kernel_rfl) ?_
        refine kblock_n ?_
        refine kseq_n ?_
        refine RunC.region ?_
        refine RunR.sil hU [1] 3 3 [0, 1, 2, 6, 7, 8, 9, 10] [(0, .slice A kk.length c), (1, .slice A3 ms.length c3), (2, .int .i64 n), (6, .slice none 0 0), (7, .int .i64 0), (8, .slice Aq34 ((os ++ zs28).length) cq35), (9, .slice A226 zs28.length c227), (10, .int .i64 (i + 1))] ((True) ∧ (-9223372036854775808 ≤ (i + 1) ∧ (i + 1) < 9223372036854775808) ∧ (True) ∧ True) rfl (by kernel_rfl) ⟨trivial, (by omega), trivial, trivial⟩ ?_
        refine RunR.done (by kernel_rfl) ?_
        refine kloop_n _ [0, 1, 2, 6, 7, 8, 9, 10] [0, 0, 3, 3] [(0, .slice A kk.length c), (1, .slice A3 ms.length c3), (2, .int .i64 n), (6, .slice none 0 0), (7, .int .i64 0), (8, .slice Aq34 ((os ++ zs28).length) cq35), (9, .slice A226 zs28.length c227), (10, .int .i64 (i + 1))] [row 5 1 (.slice Aq34 ((os ++ zs28).length) cq35) ((os ++ zs28).length) (nums .u8 (os ++ zs28)), row 5 1 (.slice A226 zs28.length c227) zs28.length (nums .u8 zs28), vw A (nums .u8 kk), vw A3 (nums .u8 ms)] (by kernel_rfl) (by kernel_rfl) ?_ ⟨(i + 1), (os ++ zs28), Aq34, cq35, zs28, A226, c227, (by first | assumption | omega | (simp only [List.length_append, List.length_cons, List.length_nil, List.length_set, List.length_replicate, List.length_take, List.length_drop]; omega) | (simp only [fits] at *; omega) | (simp only [List.length_append, List.length_cons, List.length_nil, List.length_set, List.length_replicate, List.length_take, List.length_drop] at *; omega) | (simp; done) | decide), (by exact long_step hi ho (rows_step hi hl (by simp only [hp29, cat_cons, cat_nil, List.append_nil, List.append_assoc]))), (by first | rfl | assumption | omega | (simp only [List.length_append, List.length_cons, List.length_nil, List.length_set, List.length_replicate, List.length_take, List.length_drop]; omega) | (simp; done)), (by first | assumption | omega | (simp only [List.length_append, List.length_cons, List.length_nil, List.length_set, List.length_replicate, List.length_take, List.length_drop]; omega) | (simp only [fits] at *; omega) | (simp only [List.length_append, List.length_cons, List.length_nil, List.length_set, List.length_replicate, List.length_take, List.length_drop] at *; omega) | (simp; done) | decide), (by exact rows_step hi hl (by simp only [hp29, cat_cons, cat_nil, List.append_nil, List.append_assoc])), (by first | assumption | omega | (simp only [List.length_append, List.length_cons, List.length_nil, List.length_set, List.length_replicate, List.length_take, List.length_drop]; omega) | (simp only [fits] at *; omega) | (simp only [List.length_append, List.length_cons, List.length_nil, List.length_set, List.length_replicate, List.length_take, List.length_drop] at *; omega) | (simp; done) | decide), (by (repeat first | assumption | (simp only [fits]; omega) | with_reducible first | exact fits_wrap _ _ | exact fits_bits2 _ _ _ _ | exact In.nil _ | exact In.sb _ | exact In.replicate _ _ | apply In.append | apply In.cons | apply In.set | apply In.take | apply In.drop | apply In.rev)), (by first | assumption | omega | (simp only [List.length_append, List.length_cons, List.length_nil, List.length_set, List.length_replicate, List.length_take, List.length_drop]; omega) | (simp only [fits] at *; omega) | (simp only [List.length_append, List.length_cons, List.length_nil, List.length_set, List.length_replicate, List.length_take, List.length_drop] at *; omega) | (simp; done) | decide), (fun h => hA37 (by first | exact h | (simp at h ⊢; omega))), hp31, (by first | assumption | omega | (simp only [List.length_append, List.length_cons, List.length_nil, List.length_set, List.length_replicate, List.length_take, List.length_drop]; omega) | (simp only [fits] at *; omega) | (simp only [List.length_append, List.length_cons, List.length_nil, List.length_set, List.length_replicate, List.length_take, List.length_drop] at *; omega) | (simp; done) | decide), (fun h => hp33 (by first | exact h | (simp at h ⊢; omega))), rfl, (by rfl), (by rfl)⟩
        show ((n + 32 - 32 * (i + 1)).toNat : Nat) < ((n + 32 - 32 * i).toNat : Nat)
        omega
      · skip
        refine RunC.exit ?_
        refine kseq_e ?_
        refine kloop_e ?_
        refine kblock_e ?_
        refine kseq_n ?_
        refine RunC.seq ?_
        refine RunC.region ?_
        refine RunR.step (dst := some 37) (op := .buildSlice 22 0 #[]) (by kernel_rfl) (Step.lit_nums hU 5 1 .u8 (.int .u8 0) ([] : List Int) rfl rfl (by kernel_rfl) rfl rfl (by kernel_rfl) (fun b39 => ?_))
        have hl40 : (([] : List Int)).length = 0 := rfl
        refine RunR.sil hU [] 3 4 [6, 7, 37, 40] [(6, .slice none 0 0), (7, .int .i64 0), (37, .slice (some ⟨b39, 0, none⟩) 0 0), (40, .slice A4 ((n).toNat) c4)] ((True) ∧ (True) ∧ (0 ≤ n ∧ n ≤ ((c4 : Nat) : Int)) ∧ True) rfl (by kernel_rfl) ⟨trivial, trivial, (by omega), trivial⟩ ?_
        obtain ⟨zs41, hz42⟩ : ∃ z : List Int, z = os.take ((n).toNat) := ⟨_, rfl⟩
        have hl43 : zs41.length = ((n).toNat) := by rw [hz42, List.length_take]; omega
        have hB44_t : Tells (row 5 1 (.slice A4 os.length c4) os.length (nums .u8 os)) (A4) (nums .u8 zs41) := by rw [hz42]; exact tells_take_nums (tells_row _ _ _ _ _ _) _
        refine RunR.env [6, 7, 37, 40] [(6, .slice none 0 0), (7, .int .i64 0), (37, .slice (some ⟨b39, 0, none⟩) 0 0), (40, .slice A4 ((n).toNat) c4)] (by kernel_rfl) ?_
        refine RunR.enveq [(6, .slice none 0 0), (7, .int .i64 0), (37, .slice (some ⟨b39, 0, none⟩) 0 0), (40, .slice A4 zs41.length c4)] (by rw [hl43]) ?_
        have hr45 : In .u8 zs41 := by rw [hz42]; exact hios.take _
        have hl50 : (([] : List Int)).length = 0 := rfl
        refine RunR.step (dst := some 41) (op := .call { callee := .builtin .append, args := #[.tmp 37, .tmp 40], argTypes := #[22, 22] }) (by kernel_rfl) (Step.append_nums hU 5 1 (.int .u8 0) .u8 0 1 (some ⟨b39, 0, none⟩) 0 0 ([] : List Int) A4 zs41.length c4 (row 5 1 (.slice A4 os.length c4) os.length (nums .u8 os)) zs41 rfl rfl rfl (by kernel_rfl) (by kernel_rfl) (by kernel_rfl) (by kernel_rfl) (hB44_t) (by first | rfl | omega | (simp; omega)) (by first | rfl | omega | (simp; omega)) (by omega) (by omega) (by kernel_rfl) (fun Aq46 cq47 hc48 hA49 => ?_))
        simp only [List.nil_append] at hc48 hA49
        refine RunR.sil hU [] 2 7 [6, 7] [(6, .slice Aq46 zs41.length cq47), (7, .int .i64 0)] ((True) ∧ (True) ∧ True) rfl (by kernel_rfl) ⟨trivial, trivial, trivial⟩ ?_
        refine RunR.done (by kernel_rfl) ?_
        refine kseq_n ?_
        refine RunC.ret ?_
        refine kret_r [.slice Aq46 zs41.length cq47, .int .i64 0] [0] [row 5 1 (.slice Aq46 zs41.length cq47) zs41.length (nums .u8 zs41)] ⟨rfl, rfl, trivial⟩ (by kernel_rfl) rfl ⟨Aq46, cq47, zs41, 0, rfl, rfl, (by exact .inl ⟨by omega, by omega, rfl, by omega⟩), (by intro _; simp only [hz42]; exact long_end ho (by omega) (by omega) (by omega)), (by simp only [hz42]; exact hios.take _), (by first | assumption | omega | (simp only [List.length_append, List.length_cons, List.length_nil, List.length_set, List.length_replicate, List.length_take, List.length_drop]; omega) | (simp only [fits] at *; omega) | (simp only [List.length_append, List.length_cons, List.length_nil, List.length_set, List.length_replicate, List.length_take, List.length_drop] at *; omega) | (simp; done) | decide), (fun h => hA49 (by first | exact h | (simp at h ⊢; omega)))⟩

theorem mr_Derive_spec (A : Option Addr) (c : Nat) (kk : List Int) (A6 : Option Addr) (c6 : Nat) (ss : List Int) (A3 : Option Addr) (c3 : Nat) (ms : List Int) (n : Int) (l_kk : Nat) (l_ss : Nat) (l_ms : Nat) (hIkk : In .u8 kk) (hCkk : kk.length ≤ c) (hBkk : kk.length ≤ 70368744177664) (hIss : In .u8 ss) (hCss : ss.length ≤ c6) (hBss : ss.length ≤ 70368744177664) (hIms : In .u8 ms) (hCms : ms.length ≤ c3) (hBms : ms.length ≤ 35184372088832) (hn : fits .i64 n) (hl_kk : kk.length = l_kk) (hl_ss : ss.length = l_ss) (hl_ms : ms.length = l_ms) :
    CallsS Try.prog 28 [.slice A l_kk c, .slice A6 l_ss c6, .slice A3 l_ms c3, .int .i64 n] [vw A (nums .u8 kk), vw A6 (nums .u8 ss), vw A3 (nums .u8 ms)] (fun r D => ∃ (A2 : Option Addr) (c2 : Nat) (zs : List Int) (e : Int), r = .tuple #[.slice A2 zs.length c2, .int .i64 e] ∧ D = [row 5 1 (.slice A2 zs.length c2) zs.length (nums .u8 zs)] ∧ (Said n e zs) ∧ (e = 0 → zs = expand (hmac ss kk) ms n.toNat) ∧ (In .u8 zs) ∧ (zs.length ≤ c2) ∧ (0 < zs.length → Option.isSome A2 = true)) := by
  subst hl_kk
  subst hl_ss
  subst hl_ms
  refine CallsS.enter hU Try.f28 _ [.tmp 8, .tmp 9] 18 Try.func28 rfl (by decide) rfl rfl (by kernel_rfl) fun w0 W => ?_
  refine RunC.know (p := 0 < kk.length → Option.isSome A = true) (fun w hs => vw_some hs 0 rfl (by simp [nums_length])) (fun hA1 => ?_)
  refine RunC.know (p := 0 < ss.length → Option.isSome A6 = true) (fun w hs => vw_some hs 1 rfl (by simp [nums_length])) (fun hA2 => ?_)
  refine RunC.know (p := 0 < ms.length → Option.isSome A3 = true) (fun w hs => vw_some hs 2 rfl (by simp [nums_length])) (fun hA3 => ?_)
  refine RunC.seq ?_
  refine RunC.region ?_
  refine RunR.sil hU [] 2 2 [0, 1, 2, 3, 8, 9] [(0, .slice A kk.length c), (1, .slice A6 ss.length c6), (2, .slice A3 ms.length c3), (3, .int .i64 n), (8, .slice none 0 0), (9, .int .i64 0)] ((True) ∧ (True) ∧ True) rfl (by kernel_rfl) ⟨trivial, trivial, trivial⟩ ?_
  refine RunR.done (by kernel_rfl) ?_
  refine kseq_n ?_
  refine RunC.seq ?_
  refine RunC.region ?_
  refine RunR.sil hU [] 2 2 [2, 3, 8, 9, 10, 11] [(2, .slice A3 ms.length c3), (3, .int .i64 n), (8, .slice none 0 0), (9, .int .i64 0), (10, .slice A6 ss.length c6), (11, .slice A kk.length c)] ((True) ∧ (True) ∧ True) rfl (by kernel_rfl) ⟨trivial, trivial, trivial⟩ ?_
  refine RunR.step (dst := some 12) (op := .call { callee := .value (.func 24), args := #[.tmp 10, .tmp 11], argTypes := #[22, 22] }) (by kernel_rfl) (Step.call 24 [.slice A6 ss.length c6, .slice A kk.length c] (by kernel_rfl) (by kernel_rfl) [] [vw A6 (nums .u8 ss), vw A (nums .u8 kk)] [vw A (nums .u8 kk), vw A6 (nums .u8 ss), vw A3 (nums .u8 ms)] (mr_Extract_spec A6 c6 ss A c kk ss.length kk.length hIss (by first | assumption | omega | (simp only [List.length_append, List.length_cons, List.length_nil, List.length_set, List.length_replicate, List.length_take, List.length_drop]; omega) | (simp only [fits] at *; omega) | (simp only [List.length_append, List.length_cons, List.length_nil, List.length_set, List.length_replicate, List.length_take, List.length_drop] at *; omega) | (simp; done) | decide) (by first | assumption | omega | (simp only [List.length_append, List.length_cons, List.length_nil, List.length_set, List.length_replicate, List.length_take, List.length_drop]; omega) | (simp only [fits] at *; omega) | (simp only [List.length_append, List.length_cons, List.length_nil, List.length_set, List.length_replicate, List.length_take, List.length_drop] at *; omega) | (simp; done) | decide) hIkk (by first | assumption | omega | (simp only [List.length_append, List.length_cons, List.length_nil, List.length_set, List.length_replicate, List.length_take, List.length_drop]; omega) | (simp only [fits] at *; omega) | (simp only [List.length_append, List.length_cons, List.length_nil, List.length_set, List.length_replicate, List.length_take, List.length_drop] at *; omega) | (simp; done) | decide) (by first | assumption | omega | (simp only [List.length_append, List.length_cons, List.length_nil, List.length_set, List.length_replicate, List.length_take, List.length_drop]; omega) | (simp only [fits] at *; omega) | (simp only [List.length_append, List.length_cons, List.length_nil, List.length_set, List.length_replicate, List.length_take, List.length_drop] at *; omega) | (simp; done) | decide) (by first | rfl | assumption | omega | (simp only [List.length_append, List.length_cons, List.length_nil, List.length_set, List.length_replicate, List.length_take, List.length_drop]; omega) | (simp; done)) (by first | rfl | assumption | omega | (simp only [List.length_append, List.length_cons, List.length_nil, List.length_set, List.length_replicate, List.length_take, List.length_drop]; omega) | (simp; done))) [] (by kernel_rfl) (((Lend.nil _).tells 0 (vw A (nums .u8 kk)) A (nums .u8 kk) (by kernel_rfl) (tells_vw _ _)).tells 1 (vw A6 (nums .u8 ss)) A6 (nums .u8 ss) (by kernel_rfl) (tells_vw _ _)) ?_)
  rintro _ _ ⟨A24, c25, zs6, rfl, rfl, hp7, hp8, hp9, hp10, hp11⟩
  refine RunR.sil hU [] 2 5 [8, 9, 12, 13, 14] [(8, .slice none 0 0), (9, .int .i64 0), (12, .slice A24 zs6.length c25), (13, .slice A3 ms.length c3), (14, .int .i64 n)] ((True) ∧ (True) ∧ True) rfl (by kernel_rfl) ⟨trivial, trivial, trivial⟩ ?_
  refine RunR.step (dst := some 15) (op := .call { callee := .value (.func 26), args := #[.tmp 12, .tmp 13, .tmp 14], argTypes := #[22, 22, 3] }) (by kernel_rfl) (Step.call 26 [.slice A24 zs6.length c25, .slice A3 ms.length c3, .int .i64 n] (by kernel_rfl) (by kernel_rfl) [] [vw A24 (nums .u8 zs6), vw A3 (nums .u8 ms)] [row 5 1 (.slice A24 zs6.length c25) zs6.length (nums .u8 zs6), vw A (nums .u8 kk), vw A6 (nums .u8 ss), vw A3 (nums .u8 ms)] (mr_Expand_spec A24 c25 zs6 A3 c3 ms n zs6.length ms.length hp9 (by first | assumption | omega | (simp only [List.length_append, List.length_cons, List.length_nil, List.length_set, List.length_replicate, List.length_take, List.length_drop]; omega) | (simp only [fits] at *; omega) | (simp only [List.length_append, List.length_cons, List.length_nil, List.length_set, List.length_replicate, List.length_take, List.length_drop] at *; omega) | (simp; done) | decide) (by first | assumption | omega | (simp only [List.length_append, List.length_cons, List.length_nil, List.length_set, List.length_replicate, List.length_take, List.length_drop]; omega) | (simp only [fits] at *; omega) | (simp only [List.length_append, List.length_cons, List.length_nil, List.length_set, List.length_replicate, List.length_take, List.length_drop] at *; omega) | (simp; done) | decide) hIms (by first | assumption | omega | (simp only [List.length_append, List.length_cons, List.length_nil, List.length_set, List.length_replicate, List.length_take, List.length_drop]; omega) | (simp only [fits] at *; omega) | (simp only [List.length_append, List.length_cons, List.length_nil, List.length_set, List.length_replicate, List.length_take, List.length_drop] at *; omega) | (simp; done) | decide) (by first | assumption | omega | (simp only [List.length_append, List.length_cons, List.length_nil, List.length_set, List.length_replicate, List.length_take, List.length_drop]; omega) | (simp only [fits] at *; omega) | (simp only [List.length_append, List.length_cons, List.length_nil, List.length_set, List.length_replicate, List.length_take, List.length_drop] at *; omega) | (simp; done) | decide) (by first | assumption | exact fits_wrap _ _ | exact fits_bits2 _ _ _ _ | (refine ⟨?_, ?_⟩ <;> omega)) (by first | rfl | assumption | omega | (simp only [List.length_append, List.length_cons, List.length_nil, List.length_set, List.length_replicate, List.length_take, List.length_drop]; omega) | (simp; done)) (by first | rfl | assumption | omega | (simp only [List.length_append, List.length_cons, List.length_nil, List.length_set, List.length_replicate, List.length_take, List.length_drop]; omega) | (simp; done))) [] (by kernel_rfl) (((Lend.nil _).tells 3 (vw A3 (nums .u8 ms)) A3 (nums .u8 ms) (by kernel_rfl) (tells_vw _ _)).tells 0 (row 5 1 (.slice A24 zs6.length c25) zs6.length (nums .u8 zs6)) A24 (nums .u8 zs6) (by kernel_rfl) (tells_row _ _ _ _ _ _)) ?_)
  rintro _ _ ⟨A212, c213, zs14, e15, rfl, rfl, hp16, hp17, hp18, hp19, hp20⟩
  refine RunR.sil hU [] 4 10 [8, 9] [(8, .slice A212 zs14.length c213), (9, .int .i64 e15)] ((True) ∧ (True) ∧ (True) ∧ (True) ∧ True) rfl (by kernel_rfl) ⟨trivial, trivial, trivial, trivial, trivial⟩ ?_
  refine RunR.done (by kernel_rfl) ?_
  refine kseq_n ?_
  refine RunC.ret ?_
  refine kret_r [.slice A212 zs14.length c213, .int .i64 e15] [0] [row 5 1 (.slice A212 zs14.length c213) zs14.length (nums .u8 zs14)] ⟨rfl, rfl, trivial⟩ (by kernel_rfl) rfl ⟨A212, c213, zs14, e15, rfl, rfl, (by assumption), (by exact derive_of (by assumption) (by assumption)), (by assumption), (by assumption), (by assumption)⟩
end Go.Proofs.Ytbnjcfhnbjaoiaa.Y2
