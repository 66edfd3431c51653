/- What these functions compute: a contract for each, walked through its code. -/
import Derived.Test.YtjhinpmnpdgadaaDoorZPure
import Derived.Test.YtjhinpmnpdgadaaDoorProg
import Derived.Test.YtjhinpmnpdgadaaDoorX1
import Derived.Test.YtjhinpmnpdgadaaDoorX2
namespace Go.Proofs.YtjhinpmnpdgadaaDoor.X3
open Go Go.Proofs.YtjhinpmnpdgadaaDoor.SL Go.Proofs.YtjhinpmnpdgadaaDoor.SL.W Go.Proofs.YtjhinpmnpdgadaaDoor.SL.Z Go.Proofs.YtjhinpmnpdgadaaDoor.X1 Go.Proofs.YtjhinpmnpdgadaaDoor.X2
set_option linter.unusedVariables false
set_option linter.unusedSimpArgs false
set_option maxRecDepth 100000
set_option maxHeartbeats 40000000
def U : Tab where
  und := [(3, .int .i64), (9, .string), (33, .slice 9)]
  fld := []
  sz := [(3, 1), (9, 1), (33, 1)]
  ti := [(3, (1, 8, .int .i64 0)), (9, (1, 16, .string ⟨#[]⟩)), (33, (1, 24, .slice none 0 0))]
  bld := []

theorem hU : U.OK Tryd.prog where
  und := by
    intro p hp
    simp only [U, List.mem_cons, List.not_mem_nil, or_false] at hp
    rcases hp with rfl | rfl | rfl
    · exact Tryd.underlying3
    · exact Tryd.underlying9
    · exact Tryd.underlying33
  fld := by
    intro p hp; cases hp
  sz := by
    intro p hp
    simp only [U, List.mem_cons, List.not_mem_nil, or_false] at hp
    rcases hp with rfl | rfl | rfl
    · exact ⟨Tryd.prog.types[3]!, by kernel_rfl, by kernel_rfl⟩
    · exact ⟨Tryd.prog.types[9]!, by kernel_rfl, by kernel_rfl⟩
    · exact ⟨Tryd.prog.types[33]!, by kernel_rfl, by kernel_rfl⟩
  ti := by
    intro p hp
    simp only [U, List.mem_cons, List.not_mem_nil, or_false] at hp
    rcases hp with rfl | rfl | rfl
    · exact ⟨Tryd.prog.types[3]!, by kernel_rfl, by kernel_rfl, by kernel_rfl, by kernel_rfl⟩
    · exact ⟨Tryd.prog.types[9]!, by kernel_rfl, by kernel_rfl, by kernel_rfl, by kernel_rfl⟩
    · exact ⟨Tryd.prog.types[33]!, by kernel_rfl, by kernel_rfl, by kernel_rfl, by kernel_rfl⟩
  bld := by
    intro p hp; cases hp
  mixed := by kernel_rfl

theorem pr_Same_spec (Aa : Option Addr) (ca : Nat) (xa : List ByteArray) (Ab : Option Addr) (cb : Nat) (xb : List ByteArray) (l_xa : Nat) (l_xb : Nat) (hBxa : xa.length ≤ 1000000) (hZxa : SzOK xa) (hCxa : xa.length ≤ ca) (hBxb : xb.length ≤ 1000000) (hZxb : SzOK xb) (hCxb : xb.length ≤ cb) (hl_xa : xa.length = l_xa) (hl_xb : xb.length = l_xb) :
    CallsS Tryd.prog 20 [.slice Aa l_xa ca, .slice Ab l_xb cb] [vw Aa (strV xa), vw Ab (strV xb)] (fun r D => r = .bool (decide (xa = xb)) ∧ D = []) := by
  subst hl_xa
  subst hl_xb
  refine CallsS.enter hU Tryd.f20 _ [.tmp 4] 26 Tryd.func20 rfl (by decide) rfl rfl (by kernel_rfl) fun w0 W => ?_
  refine RunC.know (p := 0 < xa.length → Option.isSome Aa = true) (fun _ _ w hs => vw_some hs 0 rfl (by first | (simp [nums_length]; done) | exact dosV_len _ | exact bls_len _ | exact chV_len _ | exact strV_len _)) (fun hA1 => ?_)
  refine RunC.know (p := 0 < xb.length → Option.isSome Ab = true) (fun _ _ w hs => vw_some hs 1 rfl (by first | (simp [nums_length]; done) | exact dosV_len _ | exact bls_len _ | exact chV_len _ | exact strV_len _)) (fun hA2 => ?_)
  refine RunC.seq ?_
  refine RunC.region ?_
  refine RunR.sil hU [] 1 1 [0, 1, 4] [(0, .slice Aa xa.length ca), (1, .slice Ab xb.length cb), (4, .bool false)] ((True) ∧ True) rfl (by kernel_rfl) ⟨trivial, trivial⟩ ?_
  refine RunR.done (by kernel_rfl) ?_
  refine kseq_n ?_
  refine RunC.seq ?_
  refine RunC.seq ?_
  refine RunC.region ?_
  refine RunR.sil hU [] 5 5 [0, 1, 4, 10] [(0, .slice Aa xa.length ca), (1, .slice Ab xb.length cb), (4, .bool false), (10, .bool (!decide (((xa.length : Nat) : Int) = ((xb.length : Nat) : Int))))] ((True) ∧ (True) ∧ (True) ∧ (True) ∧ (True) ∧ True) rfl (by kernel_rfl) ⟨trivial, trivial, trivial, trivial, trivial, trivial⟩ ?_
  refine RunR.done (by kernel_rfl) ?_
  refine kseq_n ?_
  refine RunC.condn (((xa.length : Nat) : Int) = ((xb.length : Nat) : Int)) (by kernel_rfl) (fun h3 => ?_) (fun h3 => ?_)
  · skip
    refine RunC.seq ?_
    refine RunC.region ?_
    refine RunR.sil hU [] 1 1 [0, 1, 4] [(0, .slice Aa xa.length ca), (1, .slice Ab xb.length cb), (4, .bool false)] ((True) ∧ True) rfl (by kernel_rfl) ⟨trivial, trivial⟩ ?_
    refine RunR.done (by kernel_rfl) ?_
    refine kseq_n ?_
    refine RunC.ret ?_
    refine kseq_r ?_
    refine kret_r [.bool false] [] [] ⟨rfl, trivial⟩ (by kernel_rfl) rfl ⟨(by first | rfl | (exact congrArg Value.bool (decide_eq_false (fun e => absurd (congrArg List.length e) (by omega))).symm)), (by first | rfl | (exact congrArg Value.bool (decide_eq_false (fun e => absurd (congrArg List.length e) (by omega))).symm))⟩
  · skip
    refine RunC.skip ?_
    refine kseq_n ?_
    refine RunC.seq ?_
    refine RunC.seq ?_
    refine RunC.region ?_
    refine RunR.sil hU [] 1 1 [0, 1, 4, 5] [(0, .slice Aa xa.length ca), (1, .slice Ab xb.length cb), (4, .bool false), (5, .int .i64 0)] ((True) ∧ True) rfl (by kernel_rfl) ⟨trivial, trivial⟩ ?_
    refine RunR.done (by kernel_rfl) ?_
    refine kseq_n ?_
    refine RunC.block ?_
    refine RunC.env [0, 1, 5] [(0, .slice Aa xa.length ca), (1, .slice Ab xb.length cb), (5, .int .i64 0)] (by kernel_rfl) ?_
    refine RunC.only [0, 0] [vw Aa (strV xa), vw Ab (strV xb)] (by kernel_rfl) ?_
    refine RunC.loop (σ := Nat) (fun n_ t_ D_ => ∃ (i : Int), (0 ≤ i) ∧ (i ≤ (xa.length : Int)) ∧ (xa.take i.toNat = xb.take i.toNat) ∧ n_ = ((xa.length - i).toNat : Nat) ∧ t_ = [(0, .slice Aa xa.length ca), (1, .slice Ab xb.length cb), (5, .int .i64 i)] ∧ D_ = [vw Aa (strV xa), vw Ab (strV xb)]) id _ ⟨0, (by first | assumption | omega | (simp only [List.length_append, List.length_cons, List.length_nil, List.length_set, List.length_replicate, List.length_take, List.length_drop]; omega) | (simp only [fits] at *; omega) | (simp only [List.length_append, List.length_cons, List.length_nil, List.length_set, List.length_replicate, List.length_take, List.length_drop] at *; omega) | (simp; done) | decide), (by first | assumption | omega | (simp only [List.length_append, List.length_cons, List.length_nil, List.length_set, List.length_replicate, List.length_take, List.length_drop]; omega) | (simp only [fits] at *; omega) | (simp only [List.length_append, List.length_cons, List.length_nil, List.length_set, List.length_replicate, List.length_take, List.length_drop] at *; omega) | (simp; done) | decide), (by rfl), rfl, rfl, rfl⟩ ?_
    rintro n_ _ _ ⟨i, hi, hin, hp, rfl, rfl, rfl⟩
    refine RunC.seq ?_
    refine RunC.seq ?_
    refine RunC.region ?_
    refine RunR.sil hU [] 4 4 [0, 1, 5, 14] [(0, .slice Aa xa.length ca), (1, .slice Ab xb.length cb), (5, .int .i64 i), (14, .bool (decide (i < ((xa.length : Nat) : Int))))] ((True) ∧ (True) ∧ (True) ∧ (True) ∧ True) rfl (by kernel_rfl) ⟨trivial, trivial, trivial, trivial, trivial⟩ ?_
    refine RunR.done (by kernel_rfl) ?_
    refine kseq_n ?_
    refine RunC.condp (i < ((xa.length : Nat) : Int)) (by kernel_rfl) (fun h4 => ?_) (fun h4 => ?_)
    · skip
      refine RunC.skip ?_
      refine kseq_n ?_
      refine RunC.seq ?_
      refine RunC.block ?_
      refine RunC.seq ?_
      refine RunC.regionU hU 9 [vw Aa (strV xa), vw Ab (strV xb)] [0, 1] [] (bm 9 0) (by kernel_rfl) (by kernel_rfl) (by kernel_rfl) ?_
      refine RunU.sil hU false 0 (bm 9 1) 17 (.slice Aa xa.length ca) (True) (by kernel_rfl) trivial (by kernel_rfl) (by kernel_rfl) (fun _ _ _ h => h) ?_
      refine RunU.sil hU false 1 (bm 9 3) 18 (.int .i64 i) (True) (by kernel_rfl) trivial (by kernel_rfl) (by kernel_rfl) (fun _ _ _ h => h) ?_
      refine RunU.sil hU false 2 (bm 9 7) 19 (.pointer (elemAt Aa i 1)) ((0 ≤ i ∧ i < ((xa.length : Nat) : Int)) ∧ Option.isSome Aa = true) (by kernel_rfl) ⟨by omega, hA1 (by omega)⟩ (by kernel_rfl) (by kernel_rfl) (fun _ _ _ h => h) ?_
      refine RunU.read 3 (bm 9 15) 20 (.load 9 (.tmp 19)) (.string (xa.getD (i).toNat ByteArray.empty)) [0, 1] (by kernel_rfl) (Reads.load hU 0 (vw Aa (strV xa)) Aa i 1 (strV xa) (.string (xa.getD (i).toNat ByteArray.empty)) (by kernel_rfl) (by kernel_rfl) (tells_vw _ _) (by rw [strV_len]; omega) (loadv_str (by kernel_rfl) (by omega))) (by kernel_rfl) (by kernel_rfl) (by kernel_rfl) (by kernel_rfl) (fun _ _ _ h => h) ?_
      refine RunU.sil hU false 4 (bm 9 31) 21 (.slice Ab xb.length cb) (True) (by kernel_rfl) trivial (by kernel_rfl) (by kernel_rfl) (fun _ _ _ h => h) ?_
      refine RunU.sil hU false 5 (bm 9 63) 22 (.int .i64 i) (True) (by kernel_rfl) trivial (by kernel_rfl) (by kernel_rfl) (fun _ _ _ h => h) ?_
      refine RunU.sil hU false 6 (bm 9 127) 23 (.pointer (elemAt Ab i 1)) ((0 ≤ i ∧ i < ((xb.length : Nat) : Int)) ∧ Option.isSome Ab = true) (by kernel_rfl) ⟨by omega, hA2 (by omega)⟩ (by kernel_rfl) (by kernel_rfl) (fun _ _ _ h => h) ?_
      refine RunU.read 7 (bm 9 255) 24 (.load 9 (.tmp 23)) (.string (xb.getD (i).toNat ByteArray.empty)) [0, 1] (by kernel_rfl) (Reads.load hU 1 (vw Ab (strV xb)) Ab i 1 (strV xb) (.string (xb.getD (i).toNat ByteArray.empty)) (by kernel_rfl) (by kernel_rfl) (tells_vw _ _) (by rw [strV_len]; omega) (loadv_str (by kernel_rfl) (by omega))) (by kernel_rfl) (by kernel_rfl) (by kernel_rfl) (by kernel_rfl) (fun _ _ _ h => h) ?_
      refine RunU.sil hU false 8 (bm 9 511) 25 (.bool (!decide ((xa.getD (i).toNat ByteArray.empty) = (xb.getD (i).toNat ByteArray.empty)))) (True) (by kernel_rfl) trivial (by kernel_rfl) (by kernel_rfl) (fun _ _ _ h => h) ?_
      refine RunU.env [0, 1, 5, 25] [(0, .slice Aa xa.length ca), (1, .slice Ab xb.length cb), (5, .int .i64 i), (25, .bool (!decide ((xa.getD (i).toNat ByteArray.empty) = (xb.getD (i).toNat ByteArray.empty))))] (by kernel_rfl) ?_
      refine RunU.done (by kernel_rfl) ?_
      refine kseq_n ?_
      refine RunC.condn ((xa.getD (i).toNat ByteArray.empty) = (xb.getD (i).toNat ByteArray.empty)) (by kernel_rfl) (fun h5 => ?_) (fun h5 => ?_)
      · skip
        refine RunC.seq ?_
        refine RunC.region ?_
        refine RunR.sil hU [] 1 1 [0, 1, 4, 5] [(0, .slice Aa xa.length ca), (1, .slice Ab xb.length cb), (4, .bool false), (5, .int .i64 i)] ((True) ∧ True) rfl (by kernel_rfl) ⟨trivial, trivial⟩ ?_
        refine RunR.done (by kernel_rfl) ?_
        refine kseq_n ?_
        refine RunC.ret ?_
        refine kblock_r ?_
        refine kseq_r ?_
        refine kloop_r ?_
        refine kblock_r ?_
        refine kseq_r ?_
        refine kret_r [.bool false] [] [] ⟨rfl, trivial⟩ (by kernel_rfl) rfl ⟨(by first | rfl | (exact congrArg Value.bool (decide_eq_false (fun e => absurd (congrArg (fun l : List ByteArray => l.getD i.toNat ByteArray.empty) e) (by assumption))).symm)), (by first | rfl | (exact congrArg Value.bool (decide_eq_false (fun e => absurd (congrArg (fun l : List ByteArray => l.getD i.toNat ByteArray.empty) e) (by assumption))).symm))⟩
      · skip
        refine RunC.skip ?_
        refine kblock_n ?_
        refine kseq_n ?_
        refine RunC.region ?_
        refine RunR.sil hU [1] 3 3 [0, 1, 5] [(0, .slice Aa xa.length ca), (1, .slice Ab xb.length cb), (5, .int .i64 (i + 1))] ((True) ∧ (-9223372036854775808 ≤ (i + 1) ∧ (i + 1) < 9223372036854775808) ∧ (True) ∧ True) rfl (by kernel_rfl) ⟨trivial, (by omega), trivial, trivial⟩ ?_
        refine RunR.done (by kernel_rfl) ?_
        refine kloop_n _ [0, 1, 5] [0, 0] [(0, .slice Aa xa.length ca), (1, .slice Ab xb.length cb), (5, .int .i64 (i + 1))] [vw Aa (strV xa), vw Ab (strV xb)] (by kernel_rfl) (by kernel_rfl) ?_ ⟨(i + 1), (by first | assumption | omega | (simp only [List.length_append, List.length_cons, List.length_nil, List.length_set, List.length_replicate, List.length_take, List.length_drop]; omega) | (simp only [fits] at *; omega) | (simp only [List.length_append, List.length_cons, List.length_nil, List.length_set, List.length_replicate, List.length_take, List.length_drop] at *; omega) | (simp; done) | decide), (by first | assumption | omega | (simp only [List.length_append, List.length_cons, List.length_nil, List.length_set, List.length_replicate, List.length_take, List.length_drop]; omega) | (simp only [fits] at *; omega) | (simp only [List.length_append, List.length_cons, List.length_nil, List.length_set, List.length_replicate, List.length_take, List.length_drop] at *; omega) | (simp; done) | decide), (by rw [show (i + 1).toNat = i.toNat + 1 by omega]; exact str_next hp (by omega) (by omega) (by assumption)), rfl, (by first | rfl | simp only [List.length_set]), (by first | rfl | simp only [List.length_set])⟩
        show ((xa.length - (i + 1)).toNat : Nat) < ((xa.length - i).toNat : Nat)
        omega
    · skip
      refine RunC.exit ?_
      refine kseq_e ?_
      refine kloop_e ?_
      refine kblock_e ?_
      refine kseq_n ?_
      refine RunC.seq ?_
      refine RunC.region ?_
      refine RunR.sil hU [] 1 1 [4] [(4, .bool true)] ((True) ∧ True) rfl (by kernel_rfl) ⟨trivial, trivial⟩ ?_
      refine RunR.done (by kernel_rfl) ?_
      refine kseq_n ?_
      refine RunC.ret ?_
      refine kret_r [.bool true] [] [] ⟨rfl, trivial⟩ (by kernel_rfl) rfl ⟨(by first | rfl | (exact congrArg Value.bool (decide_eq_true (by rwa [List.take_of_length_le (by omega), List.take_of_length_le (by omega)] at hp)).symm)), (by first | rfl | (exact congrArg Value.bool (decide_eq_true (by rwa [List.take_of_length_le (by omega), List.take_of_length_le (by omega)] at hp)).symm))⟩

theorem s_Clone_spec (A8 : Option Addr) (c8 : Nat) (xs : List ByteArray) (l_xs : Nat) (hBxs : xs.length ≤ 1000000) (hZxs : SzOK xs) (hCxs : xs.length ≤ c8) (hA8 : 0 < xs.length → Option.isSome A8 = true) (hl_xs : xs.length = l_xs) :
    CallsS Tryd.prog 36 [.slice A8 l_xs c8] [vw A8 (strV xs)] (fun r D => ∃ (A9 : Option Addr) (c9 : Nat) (zs : List ByteArray), r = .slice A9 zs.length c9 ∧ D = [row 9 1 (.slice A9 zs.length c9) zs.length (strV zs)] ∧ (zs = xs) ∧ (0 < zs.length → Option.isSome A9 = true) ∧ (zs.length ≤ c9)) := by
  subst hl_xs
  refine CallsS.enter hU Tryd.f36 _ [.tmp 2] 8 Tryd.func36 rfl (by decide) rfl rfl (by kernel_rfl) fun w0 W => ?_
  refine RunC.seq ?_
  refine RunC.region ?_
  refine RunR.sil hU [] 1 1 [0, 2] [(0, .slice A8 xs.length c8), (2, .slice none 0 0)] ((True) ∧ True) rfl (by kernel_rfl) ⟨trivial, trivial⟩ ?_
  refine RunR.done (by kernel_rfl) ?_
  refine kseq_n ?_
  refine RunC.seq ?_
  refine RunC.seq ?_
  refine RunC.region ?_
  refine RunR.sil hU [] 2 2 [0, 2, 4] [(0, .slice A8 xs.length c8), (2, .slice none 0 0), (4, .bool (Option.isNone A8))] ((True) ∧ (True) ∧ True) rfl (by kernel_rfl) ⟨trivial, trivial, trivial⟩ ?_
  refine RunR.done (by kernel_rfl) ?_
  refine kseq_n ?_
  refine RunC.cond (b := Option.isNone A8) (by kernel_rfl) (fun h1 => ?_) (fun h1 => ?_)
  · skip
    refine RunC.seq ?_
    refine RunC.region ?_
    refine RunR.sil hU [] 1 1 [0, 2] [(0, .slice A8 xs.length c8), (2, .slice none 0 0)] ((True) ∧ True) rfl (by kernel_rfl) ⟨trivial, trivial⟩ ?_
    refine RunR.done (by kernel_rfl) ?_
    refine kseq_n ?_
    refine RunC.ret ?_
    refine kseq_r ?_
    refine kret_rt ([row 9 1 (.slice none 0 0) 0 (strV ([] : List ByteArray)), vw A8 (strV xs)]) (fun w0 W w hs => (hs).nil_row 9 1) [.slice none 0 0] [0] [row 9 1 (.slice none 0 0) 0 (strV ([] : List ByteArray))] ⟨rfl, trivial⟩ (by kernel_rfl) rfl ⟨none, 0, ([] : List ByteArray), rfl, rfl, (by exact nilS (by assumption) hA8), (by intro h; simp at h), (by exact Nat.zero_le _)⟩
  · skip
    refine RunC.skip ?_
    refine kseq_n ?_
    refine RunC.seq ?_
    refine RunC.region ?_
    refine RunR.step (dst := some 5) (op := .buildSlice 33 0 #[]) (by kernel_rfl) (Step.lit_vals hU 9 16 (.string ⟨#[]⟩) (strV ([] : List ByteArray)) (by kernel_rfl) (by kernel_rfl) (by kernel_rfl) (by simp [strV, Value.cells]) rfl rfl (by kernel_rfl) (fun b2 => ?_))
    refine RunR.sil hU [] 1 2 [2, 5, 6] [(2, .slice none 0 0), (5, .slice (some ⟨b2, 0, none⟩) 0 0), (6, .slice A8 xs.length c8)] ((True) ∧ True) rfl (by kernel_rfl) ⟨trivial, trivial⟩ ?_
    refine RunR.step (dst := some 7) (op := .call { callee := .builtin .append, args := #[.tmp 5, .tmp 6], argTypes := #[33, 33] }) (by kernel_rfl) (Step.append_strs hU 9 16 (.string ⟨#[]⟩) 0 1 (some ⟨b2, 0, none⟩) 0 0 ([] : List ByteArray) A8 xs.length c8 (vw A8 (strV xs)) xs (by kernel_rfl) (by kernel_rfl) (by kernel_rfl) (by kernel_rfl) (by kernel_rfl) (by kernel_rfl) (by kernel_rfl) (tells_vw _ _) (by first | rfl | omega | (simp only [List.length_cons, List.length_nil] at *; omega)) (by first | rfl | omega | (simp only [List.length_cons, List.length_nil] at *; omega)) (by first | rfl | omega | (simp only [List.length_cons, List.length_nil] at *; omega)) (by first | rfl | omega | (simp only [List.length_cons, List.length_nil] at *; omega)) (by kernel_rfl) (fun Aq3 cq4 hc5 hA6 => ?_))
    have hl7 : (([] : List ByteArray) ++ xs).length = ([] : List ByteArray).length + xs.length := List.length_append
    refine RunR.sil hU [] 1 4 [2] [(2, .slice Aq3 ((([] : List ByteArray) ++ xs).length) cq4)] ((True) ∧ True) rfl (by kernel_rfl) ⟨trivial, trivial⟩ ?_
    refine RunR.done (by kernel_rfl) ?_
    refine kseq_n ?_
    refine RunC.ret ?_
    refine kret_r [.slice Aq3 ((([] : List ByteArray) ++ xs).length) cq4] [0] [row 9 1 (.slice Aq3 ((([] : List ByteArray) ++ xs).length) cq4) ((([] : List ByteArray) ++ xs).length) (strV (([] : List ByteArray) ++ xs))] ⟨rfl, trivial⟩ (by kernel_rfl) rfl ⟨Aq3, cq4, (([] : List ByteArray) ++ xs), rfl, rfl, (by exact List.nil_append _), (by assumption), (by assumption)⟩

theorem p_notMay_spec (s : ByteArray) (hsz : (s : ByteArray).size ≤ 140737488351232) :
    CallsS Tryd.prog 32 [.string s] [] (fun r D => r = .bool (decide (¬ mayP (sb s))) ∧ D = []) := by
  refine CallsS.enter hU Tryd.f32 _ [.tmp 2] 6 Tryd.func32 rfl (by decide) rfl rfl (by kernel_rfl) fun w0 W => ?_
  refine RunC.seq ?_
  refine RunC.region ?_
  refine RunR.sil hU [] 1 1 [0, 2] [(0, .string s), (2, .bool false)] ((True) ∧ True) rfl (by kernel_rfl) ⟨trivial, trivial⟩ ?_
  refine RunR.done (by kernel_rfl) ?_
  refine kseq_n ?_
  refine RunC.seq ?_
  refine RunC.region ?_
  refine RunR.sil hU [] 1 1 [2, 3] [(2, .bool false), (3, .string s)] ((True) ∧ True) rfl (by kernel_rfl) ⟨trivial, trivial⟩ ?_
  refine RunR.step (dst := some 4) (op := .call { callee := .value (.func 33), args := #[.tmp 3], argTypes := #[9] }) (by kernel_rfl) (Step.call 33 [.string s] (by kernel_rfl) (by kernel_rfl) [] [] [] (p_may_spec s (by first | assumption | omega | (simp only [List.length_append, List.length_cons, List.length_nil, List.length_set, List.length_replicate, List.length_take, List.length_drop]; omega) | (simp only [fits] at *; omega) | (simp only [List.length_append, List.length_cons, List.length_nil, List.length_set, List.length_replicate, List.length_take, List.length_drop] at *; omega) | (simp; done) | decide)) [] (by kernel_rfl) (Lend.nil _) ?_)
  rintro _ _ ⟨rfl, rfl⟩
  refine RunR.sil hU [] 2 4 [2] [(2, .bool (!decide (mayP (sb s))))] ((True) ∧ (True) ∧ True) rfl (by kernel_rfl) ⟨trivial, trivial, trivial⟩ ?_
  refine RunR.done (by kernel_rfl) ?_
  refine kseq_n ?_
  refine RunC.ret ?_
  refine kret_r [.bool (!decide (mayP (sb s)))] [] [] ⟨rfl, trivial⟩ (by kernel_rfl) rfl ⟨(by first | rfl | (exact congrArg Value.bool (by rw [← decide_not]))), (by first | rfl | (exact congrArg Value.bool (by rw [← decide_not])))⟩

theorem s_IndexFunc_spec (A8 : Option Addr) (c8 : Nat) (xs : List ByteArray) (l_xs : Nat) (hBxs : xs.length ≤ 1000000) (hZxs : SzOK xs) (hCxs : xs.length ≤ c8) (hl_xs : xs.length = l_xs) :
    CallsS Tryd.prog 46 [.slice A8 l_xs c8, .func (.func 32) #[] #[]] [vw A8 (strV xs)] (fun r D => ∃ (ix : Int), r = .int .i64 ix ∧ D = [] ∧ (0 ≤ ix ↔ ¬ MayAll xs)) := by
  subst hl_xs
  refine CallsS.enter hU Tryd.f46 _ [.tmp 4] 19 Tryd.func46 rfl (by decide) rfl rfl (by kernel_rfl) fun w0 W => ?_
  refine RunC.know (p := 0 < xs.length → Option.isSome A8 = true) (fun _ _ w hs => vw_some hs 0 rfl (by first | (simp [nums_length]; done) | exact dosV_len _ | exact bls_len _ | exact chV_len _ | exact strV_len _)) (fun hA1 => ?_)
  refine RunC.seq ?_
  refine RunC.region ?_
  refine RunR.sil hU [] 1 1 [0, 1, 4] [(0, .slice A8 xs.length c8), (1, .func (.func 32) #[] #[]), (4, .int .i64 0)] ((True) ∧ True) rfl (by kernel_rfl) ⟨trivial, trivial⟩ ?_
  refine RunR.done (by kernel_rfl) ?_
  refine kseq_n ?_
  refine RunC.seq ?_
  refine RunC.seq ?_
  refine RunC.region ?_
  refine RunR.sil hU [] 3 3 [0, 1, 4, 7, 8] [(0, .slice A8 xs.length c8), (1, .func (.func 32) #[] #[]), (4, .int .i64 0), (7, .int .i64 ((xs.length : Nat) : Int)), (8, .int .i64 0)] ((True) ∧ (True) ∧ (True) ∧ True) rfl (by kernel_rfl) ⟨trivial, trivial, trivial, trivial⟩ ?_
  refine RunR.done (by kernel_rfl) ?_
  refine kseq_n ?_
  refine RunC.block ?_
  refine RunC.env [0, 1, 7, 8] [(0, .slice A8 xs.length c8), (1, .func (.func 32) #[] #[]), (7, .int .i64 ((xs.length : Nat) : Int)), (8, .int .i64 0)] (by kernel_rfl) ?_
  refine RunC.only [0] [vw A8 (strV xs)] (by kernel_rfl) ?_
  refine RunC.loop (σ := Nat) (fun n_ t_ D_ => ∃ (i : Int), (0 ≤ i) ∧ (i ≤ (xs.length : Int)) ∧ (MayAll (xs.take i.toNat)) ∧ n_ = ((xs.length - i).toNat : Nat) ∧ t_ = [(0, .slice A8 xs.length c8), (1, .func (.func 32) #[] #[]), (7, .int .i64 ((xs.length : Nat) : Int)), (8, .int .i64 i)] ∧ D_ = [vw A8 (strV xs)]) id _ ⟨0, (by first | assumption | omega | (simp only [List.length_append, List.length_cons, List.length_nil, List.length_set, List.length_replicate, List.length_take, List.length_drop]; omega) | (simp only [fits] at *; omega) | (simp only [List.length_append, List.length_cons, List.length_nil, List.length_set, List.length_replicate, List.length_take, List.length_drop] at *; omega) | (simp; done) | decide), (by first | assumption | omega | (simp only [List.length_append, List.length_cons, List.length_nil, List.length_set, List.length_replicate, List.length_take, List.length_drop]; omega) | (simp only [fits] at *; omega) | (simp only [List.length_append, List.length_cons, List.length_nil, List.length_set, List.length_replicate, List.length_take, List.length_drop] at *; omega) | (simp; done) | decide), (by exact MayAll.nil), rfl, rfl, rfl⟩ ?_
  rintro n_ _ _ ⟨i, hi, him, hM, rfl, rfl, rfl⟩
  refine RunC.seq ?_
  refine RunC.region ?_
  refine RunR.sil hU [] 1 1 [0, 1, 7, 8, 9] [(0, .slice A8 xs.length c8), (1, .func (.func 32) #[] #[]), (7, .int .i64 ((xs.length : Nat) : Int)), (8, .int .i64 i), (9, .bool (decide (i < ((xs.length : Nat) : Int))))] ((True) ∧ True) rfl (by kernel_rfl) ⟨trivial, trivial⟩ ?_
  refine RunR.done (by kernel_rfl) ?_
  refine kseq_n ?_
  refine RunC.seq ?_
  refine RunC.condp (i < ((xs.length : Nat) : Int)) (by kernel_rfl) (fun h2 => ?_) (fun h2 => ?_)
  · skip
    refine RunC.skip ?_
    refine kseq_n ?_
    refine RunC.seq ?_
    refine RunC.block ?_
    refine RunC.seq ?_
    refine RunC.region ?_
    refine RunR.sil hU [] 2 2 [0, 1, 5, 7, 8] [(0, .slice A8 xs.length c8), (1, .func (.func 32) #[] #[]), (5, .int .i64 i), (7, .int .i64 ((xs.length : Nat) : Int)), (8, .int .i64 i)] ((True) ∧ (True) ∧ True) rfl (by kernel_rfl) ⟨trivial, trivial, trivial⟩ ?_
    refine RunR.done (by kernel_rfl) ?_
    refine kseq_n ?_
    refine RunC.seq ?_
    refine RunC.region ?_
    refine RunR.sil hU [] 4 4 [0, 1, 5, 7, 8, 11, 14] [(0, .slice A8 xs.length c8), (1, .func (.func 32) #[] #[]), (5, .int .i64 i), (7, .int .i64 ((xs.length : Nat) : Int)), (8, .int .i64 i), (11, .func (.func 32) #[] #[]), (14, .pointer (elemAt A8 i 1))] ((True) ∧ (True) ∧ (True) ∧ ((0 ≤ i ∧ i < ((xs.length : Nat) : Int)) ∧ Option.isSome A8 = true) ∧ True) rfl (by kernel_rfl) ⟨trivial, trivial, trivial, ⟨by omega, hA1 (by omega)⟩, trivial⟩ ?_
    refine RunR.step (dst := some 15) (op := .load 9 (.tmp 14)) (by kernel_rfl) (Step.load_of hU 0 (vw A8 (strV xs)) A8 i 1 (strV xs) (.string (xs.getD (i).toNat ByteArray.empty)) (by kernel_rfl) (by kernel_rfl) (tells_vw _ _) (loadv_str (by kernel_rfl) (by first | omega | (simp only [List.length_cons, List.length_nil]; omega))) (by kernel_rfl) (by rw [strV_len]; first | omega | (simp only [List.length_cons, List.length_nil]; omega)) ?_)
    refine RunR.step (dst := some 16) (op := .call { callee := .value (.tmp 11), args := #[.tmp 15], argTypes := #[9] }) (by kernel_rfl) (Step.call 32 [.string (xs.getD (i).toNat ByteArray.empty)] (by kernel_rfl) (by kernel_rfl) [] [] [vw A8 (strV xs)] (p_notMay_spec (xs.getD (i).toNat ByteArray.empty) (by exact hZxs.at_ _)) [] (by kernel_rfl) (Lend.nil _) ?_)
    rintro _ _ ⟨rfl, rfl⟩
    refine RunR.done (by kernel_rfl) ?_
    refine kseq_n ?_
    refine RunC.condp (¬ mayP (sb (xs.getD (i).toNat ByteArray.empty))) (by kernel_rfl) (fun h3 => ?_) (fun h3 => ?_)
    · skip
      refine RunC.seq ?_
      refine RunC.region ?_
      refine RunR.sil hU [] 2 2 [0, 1, 4, 7, 8] [(0, .slice A8 xs.length c8), (1, .func (.func 32) #[] #[]), (4, .int .i64 i), (7, .int .i64 ((xs.length : Nat) : Int)), (8, .int .i64 i)] ((True) ∧ (True) ∧ True) rfl (by kernel_rfl) ⟨trivial, trivial, trivial⟩ ?_
      refine RunR.done (by kernel_rfl) ?_
      refine kseq_n ?_
      refine RunC.ret ?_
      refine kblock_r ?_
      refine kseq_r ?_
      refine kloop_r ?_
      refine kblock_r ?_
      refine kseq_r ?_
      refine kret_r [.int .i64 i] [] [] ⟨rfl, trivial⟩ (by kernel_rfl) rfl ⟨i, rfl, rfl, (by exact ⟨fun _ => mayall_not (by assumption) (by omega), fun _ => by omega⟩)⟩
    · skip
      refine RunC.skip ?_
      refine kblock_n ?_
      refine kseq_n ?_
      refine RunC.region ?_
      refine RunR.sil hU [0] 2 2 [0, 1, 7, 8] [(0, .slice A8 xs.length c8), (1, .func (.func 32) #[] #[]), (7, .int .i64 ((xs.length : Nat) : Int)), (8, .int .i64 (i + 1))] ((-9223372036854775808 ≤ (i + 1) ∧ (i + 1) < 9223372036854775808) ∧ (True) ∧ True) rfl (by kernel_rfl) ⟨(by omega), trivial, trivial⟩ ?_
      refine RunR.done (by kernel_rfl) ?_
      refine kloop_n _ [0, 1, 7, 8] [0] [(0, .slice A8 xs.length c8), (1, .func (.func 32) #[] #[]), (7, .int .i64 ((xs.length : Nat) : Int)), (8, .int .i64 (i + 1))] [vw A8 (strV xs)] (by kernel_rfl) (by kernel_rfl) ?_ ⟨(i + 1), (by first | assumption | omega | (simp only [List.length_append, List.length_cons, List.length_nil, List.length_set, List.length_replicate, List.length_take, List.length_drop]; omega) | (simp only [fits] at *; omega) | (simp only [List.length_append, List.length_cons, List.length_nil, List.length_set, List.length_replicate, List.length_take, List.length_drop] at *; omega) | (simp; done) | decide), (by first | assumption | omega | (simp only [List.length_append, List.length_cons, List.length_nil, List.length_set, List.length_replicate, List.length_take, List.length_drop]; omega) | (simp only [fits] at *; omega) | (simp only [List.length_append, List.length_cons, List.length_nil, List.length_set, List.length_replicate, List.length_take, List.length_drop] at *; omega) | (simp; done) | decide), (by rw [show (i + 1).toNat = i.toNat + 1 by omega]; exact hM.succ (by omega) (by assumption)), rfl, (by first | rfl | simp only [List.length_set]), (by first | rfl | simp only [List.length_set])⟩
      show ((xs.length - (i + 1)).toNat : Nat) < ((xs.length - i).toNat : Nat)
      omega
  · skip
    refine RunC.exit ?_
    refine kseq_e ?_
    refine kloop_e ?_
    refine kblock_e ?_
    refine kseq_n ?_
    refine RunC.seq ?_
    refine RunC.region ?_
    refine RunR.sil hU [] 1 1 [4] [(4, .int .i64 (-1))] ((True) ∧ True) rfl (by kernel_rfl) ⟨trivial, trivial⟩ ?_
    refine RunR.done (by kernel_rfl) ?_
    refine kseq_n ?_
    refine RunC.ret ?_
    refine kret_r [.int .i64 (-1)] [] [] ⟨rfl, trivial⟩ (by kernel_rfl) rfl ⟨(-1), rfl, rfl, (by exact ⟨fun h => by omega, fun h => absurd (MayAll.all hM (by omega)) h⟩)⟩

theorem s_Contains_spec (A8 : Option Addr) (c8 : Nat) (xs : List ByteArray) (l_xs : Nat) (hBxs : xs.length ≤ 1000000) (hZxs : SzOK xs) (hCxs : xs.length ≤ c8) (hl_xs : xs.length = l_xs) :
    CallsS Tryd.prog 31 [.slice A8 l_xs c8, .func (.func 32) #[] #[]] [vw A8 (strV xs)] (fun r D => r = .bool (decide (¬ MayAll xs)) ∧ D = []) := by
  subst hl_xs
  refine CallsS.enter hU Tryd.f31 _ [.tmp 4] 9 Tryd.func31 rfl (by decide) rfl rfl (by kernel_rfl) fun w0 W => ?_
  refine RunC.know (p := 0 < xs.length → Option.isSome A8 = true) (fun _ _ w hs => vw_some hs 0 rfl (by first | (simp [nums_length]; done) | exact dosV_len _ | exact bls_len _ | exact chV_len _ | exact strV_len _)) (fun hA1 => ?_)
  refine RunC.seq ?_
  refine RunC.region ?_
  refine RunR.sil hU [] 1 1 [0, 1, 4] [(0, .slice A8 xs.length c8), (1, .func (.func 32) #[] #[]), (4, .bool false)] ((True) ∧ True) rfl (by kernel_rfl) ⟨trivial, trivial⟩ ?_
  refine RunR.done (by kernel_rfl) ?_
  refine kseq_n ?_
  refine RunC.seq ?_
  refine RunC.region ?_
  refine RunR.sil hU [] 2 2 [4, 5, 6] [(4, .bool false), (5, .slice A8 xs.length c8), (6, .func (.func 32) #[] #[])] ((True) ∧ (True) ∧ True) rfl (by kernel_rfl) ⟨trivial, trivial, trivial⟩ ?_
  refine RunR.step (dst := some 7) (op := .call { callee := .value (.func 46), args := #[.tmp 5, .tmp 6], argTypes := #[33, 29] }) (by kernel_rfl) (Step.call 46 [.slice A8 xs.length c8, .func (.func 32) #[] #[]] (by kernel_rfl) (by kernel_rfl) [] [vw A8 (strV xs)] [vw A8 (strV xs)] (s_IndexFunc_spec A8 c8 xs xs.length (by first | assumption | omega | (simp only [List.length_append, List.length_cons, List.length_nil, List.length_set, List.length_replicate, List.length_take, List.length_drop]; omega) | (simp only [fits] at *; omega) | (simp only [List.length_append, List.length_cons, List.length_nil, List.length_set, List.length_replicate, List.length_take, List.length_drop] at *; omega) | (simp; done) | decide) (by first | assumption | omega | (simp only [List.length_append, List.length_cons, List.length_nil, List.length_set, List.length_replicate, List.length_take, List.length_drop]; omega) | (simp only [fits] at *; omega) | (simp only [List.length_append, List.length_cons, List.length_nil, List.length_set, List.length_replicate, List.length_take, List.length_drop] at *; omega) | (simp; done) | decide) (by first | assumption | omega | (simp only [List.length_append, List.length_cons, List.length_nil, List.length_set, List.length_replicate, List.length_take, List.length_drop]; omega) | (simp only [fits] at *; omega) | (simp only [List.length_append, List.length_cons, List.length_nil, List.length_set, List.length_replicate, List.length_take, List.length_drop] at *; omega) | (simp; done) | decide) (by first | rfl | assumption | omega | (simp only [List.length_append, List.length_cons, List.length_nil, List.length_set, List.length_replicate, List.length_take, List.length_drop]; omega) | (simp; done))) [] (by kernel_rfl) ((Lend.nil _).tells 0 (vw A8 (strV xs)) A8 (strV xs) (by kernel_rfl) (tells_vw _ _)) ?_)
  rintro _ _ ⟨ix2, rfl, rfl, hp3⟩
  refine RunR.sil hU [] 2 5 [4] [(4, .bool (decide (ix2 ≥ 0)))] ((True) ∧ (True) ∧ True) rfl (by kernel_rfl) ⟨trivial, trivial, trivial⟩ ?_
  refine RunR.done (by kernel_rfl) ?_
  refine kseq_n ?_
  refine RunC.ret ?_
  refine kret_r [.bool (decide (ix2 ≥ 0))] [] [] ⟨rfl, trivial⟩ (by kernel_rfl) rfl ⟨(by first | rfl | (exact congrArg Value.bool (decide_eq_decide.2 hp3))), (by first | rfl | (exact congrArg Value.bool (decide_eq_decide.2 hp3)))⟩
end Go.Proofs.YtjhinpmnpdgadaaDoor.X3
