/- What these functions compute: a contract for each, walked through its code. -/
import Derived.Test.YtkehpipialmneaaAPure
import Derived.Test.YtkehpipialmneaaProg
import Derived.Test.YtkehpipialmneaaX1
import Derived.Test.YtkehpipialmneaaX2
import Derived.Test.YtkehpipialmneaaX3
import Derived.Test.YtkehpipialmneaaX4
import Derived.Test.YtkehpipialmneaaX5
import Derived.Test.YtkehpipialmneaaX6
import Derived.Test.YtkehpipialmneaaX7
import Derived.Test.YtkehpipialmneaaX8
import Derived.Test.YtkehpipialmneaaX9
import Derived.Test.YtkehpipialmneaaY1
import Derived.Test.YtkehpipialmneaaY2
import Derived.Test.YtkehpipialmneaaY3
namespace Go.Proofs.Ytkehpipialmneaa.Y4
open Go Go.Proofs.Ytkehpipialmneaa.SL Go.Proofs.Ytkehpipialmneaa.SL.W Go.Proofs.Ytkehpipialmneaa.SL.C Go.Proofs.Ytkehpipialmneaa.SL.H Go.Proofs.Ytkehpipialmneaa.SL.M Go.Proofs.Ytkehpipialmneaa.SL.Y Go.Proofs.Ytkehpipialmneaa.SL.A Go.Proofs.Ytkehpipialmneaa.X1 Go.Proofs.Ytkehpipialmneaa.X2 Go.Proofs.Ytkehpipialmneaa.X3 Go.Proofs.Ytkehpipialmneaa.X4 Go.Proofs.Ytkehpipialmneaa.X5 Go.Proofs.Ytkehpipialmneaa.X6 Go.Proofs.Ytkehpipialmneaa.X7 Go.Proofs.Ytkehpipialmneaa.X8 Go.Proofs.Ytkehpipialmneaa.X9 Go.Proofs.Ytkehpipialmneaa.Y1 Go.Proofs.Ytkehpipialmneaa.Y2 Go.Proofs.Ytkehpipialmneaa.Y3
set_option linter.unusedVariables false
set_option linter.unusedSimpArgs false
set_option maxRecDepth 100000
set_option maxHeartbeats 40000000
def U : Tab where
  und := [(3, .int .i64), (5, .int .u8), (24, .slice 5), (67, .slice 24)]
  fld := []
  sz := [(3, 1), (5, 1), (24, 1), (67, 1)]
  ti := [(3, (1, 8, .int .i64 0)), (5, (1, 1, .int .u8 0)), (24, (1, 24, .slice none 0 0)), (67, (1, 24, .slice none 0 0))]
  bld := []

theorem hU : U.OK Try.prog where
  und := by
    intro p hp
    simp only [U, List.mem_cons, List.not_mem_nil, or_false] at hp
    rcases hp with rfl | rfl | rfl | rfl
    · exact Try.underlying3
    · exact Try.underlying5
    · exact Try.underlying24
    · exact Try.underlying67
  fld := by
    intro p hp; cases hp
  sz := by
    intro p hp
    simp only [U, List.mem_cons, List.not_mem_nil, or_false] at hp
    rcases hp with rfl | rfl | rfl | rfl
    · exact ⟨Try.prog.types[3]!, by kernel_rfl, by kernel_rfl⟩
    · exact ⟨Try.prog.types[5]!, by kernel_rfl, by kernel_rfl⟩
    · exact ⟨Try.prog.types[24]!, by kernel_rfl, by kernel_rfl⟩
    · exact ⟨Try.prog.types[67]!, by kernel_rfl, by kernel_rfl⟩
  ti := by
    intro p hp
    simp only [U, List.mem_cons, List.not_mem_nil, or_false] at hp
    rcases hp with rfl | rfl | rfl | rfl
    · exact ⟨Try.prog.types[3]!, by kernel_rfl, by kernel_rfl, by kernel_rfl, by kernel_rfl⟩
    · exact ⟨Try.prog.types[5]!, by kernel_rfl, by kernel_rfl, by kernel_rfl, by kernel_rfl⟩
    · exact ⟨Try.prog.types[24]!, by kernel_rfl, by kernel_rfl, by kernel_rfl, by kernel_rfl⟩
    · exact ⟨Try.prog.types[67]!, by kernel_rfl, by kernel_rfl, by kernel_rfl, by kernel_rfl⟩
  bld := by
    intro p hp; cases hp
  mixed := by kernel_rfl

theorem m_masked_spec (x : Int) (p : Nat) (A : Option Addr) (c : Nat) (kk : List Int) (hx : fits .u8 x) (hIkk : In .u8 kk) (hCkk : kk.length ≤ c) (hBkk : kk.length ≤ 70368744177664) (h64 : kk.length ≤ 64) :
    CallsS Try.prog 71 [.int .u8 x, .pointer (some ⟨p, 0, none⟩)] [blk p 24 [.slice A kk.length c], vw A (nums .u8 kk)] (fun r D => ∃ (A2 : Option Addr) (c2 : Nat) (zs : List Int), r = .slice A2 zs.length c2 ∧ D = [row 5 1 (.slice A2 zs.length c2) zs.length (nums .u8 zs), blk p 24 [.slice A kk.length c]] ∧ (zs = maskB (pad64 kk) x 64) ∧ (zs.length = 64) ∧ (In .u8 zs) ∧ (zs.length ≤ c2) ∧ (0 < zs.length → Option.isSome A2 = true)) := by
  refine CallsS.enter hU Try.f71 _ [.tmp 3] 24 Try.func71 rfl (by decide) rfl rfl (by kernel_rfl) fun w0 W => ?_
  refine RunC.know (p := 0 < kk.length → Option.isSome A = true) (fun _ _ w hs => vw_some hs 1 rfl (by first | simp [nums_length]; done | exact dosV_len _)) (fun hA1 => ?_)
  refine RunC.seq ?_
  refine RunC.region ?_
  refine RunR.sil hU [] 1 1 [0, 1, 3] [(0, .int .u8 x), (1, .pointer (some ⟨p, 0, none⟩)), (3, .slice none 0 0)] ((True) ∧ True) rfl (by kernel_rfl) ⟨trivial, trivial⟩ ?_
  refine RunR.done (by kernel_rfl) ?_
  refine kseq_n ?_
  refine RunC.seq ?_
  refine RunC.region ?_
  refine RunR.step (dst := some 6) (op := .makeSlice 24 (.const (.int .i64 64)) (.const (.int .i64 64))) (by kernel_rfl) (Step.make_nums hU 5 1 .u8 .i64 .i64 (64) rfl rfl (by kernel_rfl) (by kernel_rfl) (by omega) (by omega) (by kernel_rfl) (fun b2 => ?_))
  have hl3 : (List.replicate 64 (0 : Int)).length = 64 := List.length_replicate
  refine RunR.sil hU [] 1 2 [0, 1, 3, 4] [(0, .int .u8 x), (1, .pointer (some ⟨p, 0, none⟩)), (3, .slice none 0 0), (4, .slice (some ⟨b2, 0, none⟩) 64 64)] ((True) ∧ True) rfl (by kernel_rfl) ⟨trivial, trivial⟩ ?_
  refine RunR.done (by kernel_rfl) ?_
  refine kseq_n ?_
  refine RunC.seq ?_
  refine RunC.region ?_
  refine RunR.sil hU [] 1 1 [0, 1, 3, 4, 7] [(0, .int .u8 x), (1, .pointer (some ⟨p, 0, none⟩)), (3, .slice none 0 0), (4, .slice (some ⟨b2, 0, none⟩) 64 64), (7, .slice (some ⟨b2, 0, none⟩) 64 64)] ((True) ∧ True) rfl (by kernel_rfl) ⟨trivial, trivial⟩ ?_
  refine RunR.step (dst := some 8) (op := .load 24 (.tmp 1)) (by kernel_rfl) (Step.load_blk hU 1 p (0) 24 [.slice A kk.length c] (.slice A kk.length c) (by kernel_rfl) (by kernel_rfl) (by kernel_rfl) (by kernel_rfl) ?_)
  refine RunR.step (dst := some 9) (op := .call { callee := .builtin .copy, args := #[.tmp 7, .tmp 8], argTypes := #[24, 24] }) (by kernel_rfl) (Step.copy_row hU 5 0 2 0 64 64 64 64 kk.length c (some ⟨b2, 0, none⟩) (some ⟨b2, 0, none⟩) A (List.replicate 64 (0 : Int)) (vw A (nums .u8 kk)) .u8 kk (by kernel_rfl) (by kernel_rfl) (by kernel_rfl) (fun _ b h => h) (by kernel_rfl) (by kernel_rfl) (by kernel_rfl) (tells_vw _ _) (by first | rfl | omega) (by omega) (by kernel_rfl) ?_)
  have hl4 : (putl (List.replicate 64 (0 : Int)) 0 (kk.take 64)).length = (List.replicate 64 (0 : Int)).length := putl_len (by simp only [List.length_take]; omega)
  refine RunR.done (by kernel_rfl) ?_
  refine kseq_n ?_
  refine RunC.seq ?_
  refine RunC.seq ?_
  refine RunC.region ?_
  refine RunR.sil hU [] 3 3 [0, 3, 4, 11, 12] [(0, .int .u8 x), (3, .slice none 0 0), (4, .slice (some ⟨b2, 0, none⟩) 64 64), (11, .int .i64 64), (12, .int .i64 0)] ((True) ∧ (True) ∧ (True) ∧ True) rfl (by kernel_rfl) ⟨trivial, trivial, trivial, trivial⟩ ?_
  refine RunR.done (by kernel_rfl) ?_
  refine kseq_n ?_
  refine RunC.block ?_
  refine RunC.env [0, 3, 4, 11, 12] [(0, .int .u8 x), (3, .slice none 0 0), (4, .slice (some ⟨b2, 0, none⟩) 64 64), (11, .int .i64 64), (12, .int .i64 0)] (by kernel_rfl) ?_
  refine RunC.only [0, 0, 0] [row 5 1 (.slice (some ⟨b2, 0, none⟩) 64 64) 64 (nums .u8 (putl (List.replicate 64 (0 : Int)) 0 (kk.take 64))), blk p 24 [.slice A kk.length c], vw A (nums .u8 kk)] (by kernel_rfl) ?_
  refine RunC.loop (σ := Nat) (fun n_ t_ D_ => ∃ (i : Int) (os : List Int), (0 ≤ i) ∧ (i ≤ 64) ∧ (os = maskB (pad64 kk) x i.toNat ++ (pad64 kk).drop i.toNat) ∧ (os.length = 64) ∧ (In .u8 os) ∧ n_ = ((64 - i).toNat : Nat) ∧ t_ = [(0, .int .u8 x), (3, .slice none 0 0), (4, .slice (some ⟨b2, 0, none⟩) 64 64), (11, .int .i64 64), (12, .int .i64 i)] ∧ D_ = [row 5 1 (.slice (some ⟨b2, 0, none⟩) 64 64) 64 (nums .u8 os), blk p 24 [.slice A kk.length c], vw A (nums .u8 kk)]) id _ ⟨0, (putl (List.replicate 64 (0 : Int)) 0 (kk.take 64)), (by first | assumption | omega | (simp only [List.length_append, List.length_cons, List.length_nil, List.length_set, List.length_replicate, List.length_take, List.length_drop]; omega) | (simp only [fits] at *; omega) | (simp only [List.length_append, List.length_cons, List.length_nil, List.length_set, List.length_replicate, List.length_take, List.length_drop] at *; omega) | (simp; done) | decide), (by first | assumption | omega | (simp only [List.length_append, List.length_cons, List.length_nil, List.length_set, List.length_replicate, List.length_take, List.length_drop]; omega) | (simp only [fits] at *; omega) | (simp only [List.length_append, List.length_cons, List.length_nil, List.length_set, List.length_replicate, List.length_take, List.length_drop] at *; omega) | (simp; done) | decide), (by exact mask_start x h64), (by first | rfl | assumption | omega | (simp only [List.length_append, List.length_cons, List.length_nil, List.length_set, List.length_replicate, List.length_take, List.length_drop]; omega) | (simp; done)), (by exact In.putl (In.replicate _ _) (hIkk.take _)), rfl, rfl, rfl⟩ ?_
  rintro n_ _ _ ⟨i, os, hi, hi2, ho, hol, hoi, rfl, rfl, rfl⟩
  refine RunC.seq ?_
  refine RunC.region ?_
  refine RunR.sil hU [] 1 1 [0, 3, 4, 11, 12, 13] [(0, .int .u8 x), (3, .slice none 0 0), (4, .slice (some ⟨b2, 0, none⟩) 64 64), (11, .int .i64 64), (12, .int .i64 i), (13, .bool (decide (i < 64)))] ((True) ∧ True) rfl (by kernel_rfl) ⟨trivial, trivial⟩ ?_
  refine RunR.done (by kernel_rfl) ?_
  refine kseq_n ?_
  refine RunC.seq ?_
  refine RunC.condp (i < 64) (by kernel_rfl) (fun h5 => ?_) (fun h5 => ?_)
  · skip
    refine RunC.skip ?_
    refine kseq_n ?_
    refine RunC.seq ?_
    refine RunC.block ?_
    refine RunC.seq ?_
    refine RunC.region ?_
    refine RunR.sil hU [] 2 2 [0, 3, 4, 5, 11, 12] [(0, .int .u8 x), (3, .slice none 0 0), (4, .slice (some ⟨b2, 0, none⟩) 64 64), (5, .int .i64 i), (11, .int .i64 64), (12, .int .i64 i)] ((True) ∧ (True) ∧ True) rfl (by kernel_rfl) ⟨trivial, trivial, trivial⟩ ?_
    refine RunR.done (by kernel_rfl) ?_
    refine kseq_n ?_
    refine RunC.region ?_
    refine RunR.sil hU [] 3 3 [0, 3, 4, 11, 12, 15, 16, 17] [(0, .int .u8 x), (3, .slice none 0 0), (4, .slice (some ⟨b2, 0, none⟩) 64 64), (11, .int .i64 64), (12, .int .i64 i), (15, .slice (some ⟨b2, 0, none⟩) 64 64), (16, .int .i64 i), (17, .pointer (elemAt (some ⟨b2, 0, none⟩) i 1))] ((True) ∧ (True) ∧ ((0 ≤ i ∧ i < ((64 : Nat) : Int)) ∧ Option.isSome (some ⟨b2, 0, none⟩ : Option Addr) = true) ∧ True) rfl (by kernel_rfl) ⟨trivial, trivial, ⟨by omega, rfl⟩, trivial⟩ ?_
    refine RunR.step (dst := some 18) (op := .load 5 (.tmp 17)) (by kernel_rfl) (Step.load_num hU 0 (row 5 1 (.slice (some ⟨b2, 0, none⟩) 64 64) 64 (nums .u8 os)) (some ⟨b2, 0, none⟩) i .u8 os rfl (by kernel_rfl) (by kernel_rfl) (tells_row _ _ _ _ _ _) (by kernel_rfl) (by omega) ?_)
    have hb6 : 0 ≤ os.getD ((i).toNat) 0 ∧ os.getD ((i).toNat) 0 < 256 := hoi.at_ _
    refine RunR.sil hU [] 3 7 [0, 3, 4, 11, 12, 20, 21] [(0, .int .u8 x), (3, .slice none 0 0), (4, .slice (some ⟨b2, 0, none⟩) 64 64), (11, .int .i64 64), (12, .int .i64 i), (20, .int .u8 (bits2 .xor .u8 (os.getD (i).toNat 0) x)), (21, .pointer (elemAt (some ⟨b2, 0, none⟩) i 1))] ((True) ∧ (True) ∧ ((0 ≤ i ∧ i < ((64 : Nat) : Int)) ∧ Option.isSome (some ⟨b2, 0, none⟩ : Option Addr) = true) ∧ True) rfl (by kernel_rfl) ⟨trivial, trivial, ⟨by omega, rfl⟩, trivial⟩ ?_
    refine RunR.step (dst := none) (op := .store 5 (.tmp 21) (.tmp 20)) (by kernel_rfl) (Step.store_num hU 0 5 64 64 (some ⟨b2, 0, none⟩) .u8 os i (bits2 .xor .u8 (os.getD (i).toNat 0) x) (by kernel_rfl) (by kernel_rfl) (by kernel_rfl) rfl (by omega) ?_)
    have hl7 : (os.set (i).toNat (bits2 .xor .u8 (os.getD (i).toNat 0) x)).length = os.length := List.length_set
    refine RunR.done (by kernel_rfl) ?_
    refine kblock_n ?_
    refine kseq_n ?_
    refine RunC.region ?_
    refine RunR.sil hU [0] 2 2 [0, 3, 4, 11, 12] [(0, .int .u8 x), (3, .slice none 0 0), (4, .slice (some ⟨b2, 0, none⟩) 64 64), (11, .int .i64 64), (12, .int .i64 (i + 1))] ((-9223372036854775808 ≤ (i + 1) ∧ (i + 1) < 9223372036854775808) ∧ (True) ∧ True) rfl (by kernel_rfl) ⟨(by omega), trivial, trivial⟩ ?_
    refine RunR.done (by kernel_rfl) ?_
    refine kloop_n _ [0, 3, 4, 11, 12] [0, 0, 0] [(0, .int .u8 x), (3, .slice none 0 0), (4, .slice (some ⟨b2, 0, none⟩) 64 64), (11, .int .i64 64), (12, .int .i64 (i + 1))] [row 5 1 (.slice (some ⟨b2, 0, none⟩) 64 64) 64 (nums .u8 (os.set (i).toNat (bits2 .xor .u8 (os.getD (i).toNat 0) x))), blk p 24 [.slice A kk.length c], vw A (nums .u8 kk)] (by kernel_rfl) (by kernel_rfl) ?_ ⟨(i + 1), (os.set (i).toNat (bits2 .xor .u8 (os.getD (i).toNat 0) x)), (by first | assumption | omega | (simp only [List.length_append, List.length_cons, List.length_nil, List.length_set, List.length_replicate, List.length_take, List.length_drop]; omega) | (simp only [fits] at *; omega) | (simp only [List.length_append, List.length_cons, List.length_nil, List.length_set, List.length_replicate, List.length_take, List.length_drop] at *; omega) | (simp; done) | decide), (by first | assumption | omega | (simp only [List.length_append, List.length_cons, List.length_nil, List.length_set, List.length_replicate, List.length_take, List.length_drop]; omega) | (simp only [fits] at *; omega) | (simp only [List.length_append, List.length_cons, List.length_nil, List.length_set, List.length_replicate, List.length_take, List.length_drop] at *; omega) | (simp; done) | decide), (by exact mask_step hi (by rw [pad64_len h64]; omega) ho), (by simpa using hol), (by (repeat first | assumption | (simp only [fits]; omega) | with_reducible first | exact fits_wrap _ _ | exact fits_bits2 _ _ _ _ | exact In.nil _ | exact In.sb _ | exact In.replicate _ _ | apply In.append | apply In.cons | apply In.set | apply In.take | apply In.drop | apply In.rev)), rfl, (by first | rfl | simp only [List.length_set]), (by first | rfl | simp only [List.length_set])⟩
    show ((64 - (i + 1)).toNat : Nat) < ((64 - i).toNat : Nat)
    omega
  · skip
    refine RunC.exit ?_
    refine kseq_e ?_
    refine kloop_e ?_
    refine kblock_e ?_
    refine kseq_n ?_
    refine RunC.seq ?_
    refine RunC.region ?_
    refine RunR.sil hU [] 2 2 [3] [(3, .slice (some ⟨b2, 0, none⟩) 64 64)] ((True) ∧ (True) ∧ True) rfl (by kernel_rfl) ⟨trivial, trivial, trivial⟩ ?_
    refine RunR.done (by kernel_rfl) ?_
    refine kseq_n ?_
    refine RunC.ret ?_
    refine kret_r [.slice (some ⟨b2, 0, none⟩) 64 64] [0, 0] [row 5 1 (.slice (some ⟨b2, 0, none⟩) 64 64) 64 (nums .u8 os), blk p 24 [.slice A kk.length c]] ⟨rfl, trivial⟩ (by kernel_rfl) rfl ⟨(some ⟨b2, 0, none⟩), 64, os, (by first | rfl | (simp only [hol, retv])), (by first | rfl | (simp only [hol, retv])), (by exact mask_end ho (by omega) (pad64_len h64)), (by exact hol), (by assumption), (by omega), (by intro _; rfl)⟩

theorem m_digest_spec (B : Option Addr) (d : Nat) (rs : List Ro) (l_rs : Nat) (hrs : RowsOK .u8 rs) (hrl : rs.length ≤ 16) (hcat : (cat rs).length ≤ 140737488351232) (hl_rs : rs.length = l_rs) :
    CallsS Try.prog 72 [.slice B l_rs d] [vw B (rowsV rs), vws (rowsL .u8 rs)] (fun r D => ∃ (A2 : Option Addr) (c2 : Nat) (zs : List Int), r = .slice A2 zs.length c2 ∧ D = [row 5 1 (.slice A2 zs.length c2) zs.length (nums .u8 zs)] ∧ (zs = digest (cat rs)) ∧ (zs.length = 32) ∧ (In .u8 zs) ∧ (zs.length ≤ c2) ∧ (0 < zs.length → Option.isSome A2 = true)) := by
  subst hl_rs
  refine CallsS.enter hU Try.f72 _ [.tmp 2] 19 Try.func72 rfl (by decide) rfl rfl (by kernel_rfl) fun w0 W => ?_
  refine RunC.know (p := 0 < rs.length → Option.isSome B = true) (fun _ _ w hs => vw_some hs 0 rfl (by simp [rowsV_len])) (fun hA1 => ?_)
  refine RunC.seq ?_
  refine RunC.region ?_
  refine RunR.sil hU [] 1 1 [0, 2] [(0, .slice B rs.length d), (2, .slice none 0 0)] ((True) ∧ True) rfl (by kernel_rfl) ⟨trivial, trivial⟩ ?_
  refine RunR.done (by kernel_rfl) ?_
  refine kseq_n ?_
  refine RunC.seq ?_
  refine RunC.region ?_
  refine RunR.step (dst := some 6) (op := .call { callee := .value (.func 92), args := #[], argTypes := #[] }) (by kernel_rfl) (Step.call 92 [] (by kernel_rfl) (by kernel_rfl) [] [] [vw B (rowsV rs), vws (rowsL .u8 rs)] (h_New_spec) [] (by kernel_rfl) (Lend.nil _) ?_)
  rintro _ _ ⟨b2, rfl, rfl⟩
  refine RunR.sil hU [] 1 2 [0, 2, 3] [(0, .slice B rs.length d), (2, .slice none 0 0), (3, .pointer (some ⟨b2, 0, none⟩))] ((True) ∧ True) rfl (by kernel_rfl) ⟨trivial, trivial⟩ ?_
  refine RunR.done (by kernel_rfl) ?_
  refine kseq_n ?_
  refine RunC.seq ?_
  refine RunC.seq ?_
  refine RunC.region ?_
  refine RunR.sil hU [] 3 3 [2, 3, 7, 8, 9] [(2, .slice none 0 0), (3, .pointer (some ⟨b2, 0, none⟩)), (7, .slice B rs.length d), (8, .int .i64 ((rs.length : Nat) : Int)), (9, .int .i64 0)] ((True) ∧ (True) ∧ (True) ∧ True) rfl (by kernel_rfl) ⟨trivial, trivial, trivial, trivial⟩ ?_
  refine RunR.done (by kernel_rfl) ?_
  refine kseq_n ?_
  refine RunC.block ?_
  refine RunC.env [2, 3, 7, 8, 9] [(2, .slice none 0 0), (3, .pointer (some ⟨b2, 0, none⟩)), (7, .slice B rs.length d), (8, .int .i64 ((rs.length : Nat) : Int)), (9, .int .i64 0)] (by kernel_rfl) ?_
  refine RunC.only [0, 0, 0] [blk b2 146 (nums .u32 h0 ++ (nums .u32 ks ++ (nums .u8 (List.replicate 64 (0 : Int)) ++ (([.int .i64 0] : List Value) ++ ([.int .u64 0] : List Value))))), vw B (rowsV rs), vws (rowsL .u8 rs)] (by kernel_rfl) ?_
  refine RunC.loop (σ := Nat) (fun n_ t_ D_ => ∃ (i : Int) (st : List Int) (wt : List Int) (m : Int) (n : Int), (0 ≤ i) ∧ (i ≤ rs.length) ∧ (Hash (cat (rs.take i.toNat)) st wt m n) ∧ n_ = ((rs.length - i).toNat : Nat) ∧ t_ = [(2, .slice none 0 0), (3, .pointer (some ⟨b2, 0, none⟩)), (7, .slice B rs.length d), (8, .int .i64 ((rs.length : Nat) : Int)), (9, .int .i64 i)] ∧ D_ = [blk b2 146 (nums .u32 st ++ (nums .u32 ks ++ (nums .u8 wt ++ (([.int .i64 m] : List Value) ++ ([.int .u64 n] : List Value))))), vw B (rowsV rs), vws (rowsL .u8 rs)]) id _ ⟨0, h0, (List.replicate 64 (0 : Int)), 0, 0, (by first | assumption | omega | (simp only [List.length_append, List.length_cons, List.length_nil, List.length_set, List.length_replicate, List.length_take, List.length_drop]; omega) | (simp only [fits] at *; omega) | (simp only [List.length_append, List.length_cons, List.length_nil, List.length_set, List.length_replicate, List.length_take, List.length_drop] at *; omega) | (simp; done) | decide), (by first | assumption | omega | (simp only [List.length_append, List.length_cons, List.length_nil, List.length_set, List.length_replicate, List.length_take, List.length_drop]; omega) | (simp only [fits] at *; omega) | (simp only [List.length_append, List.length_cons, List.length_nil, List.length_set, List.length_replicate, List.length_take, List.length_drop] at *; omega) | (simp; done) | decide), (by exact hash0), rfl, rfl, rfl⟩ ?_
  rintro n_ _ _ ⟨i, st, wt, m, n, hi, hi2, hH, rfl, rfl, rfl⟩
  refine RunC.seq ?_
  refine RunC.region ?_
  refine RunR.sil hU [] 1 1 [2, 3, 7, 8, 9, 10] [(2, .slice none 0 0), (3, .pointer (some ⟨b2, 0, none⟩)), (7, .slice B rs.length d), (8, .int .i64 ((rs.length : Nat) : Int)), (9, .int .i64 i), (10, .bool (decide (i < ((rs.length : Nat) : Int))))] ((True) ∧ True) rfl (by kernel_rfl) ⟨trivial, trivial⟩ ?_
  refine RunR.done (by kernel_rfl) ?_
  refine kseq_n ?_
  refine RunC.seq ?_
  refine RunC.condp (i < ((rs.length : Nat) : Int)) (by kernel_rfl) (fun h3 => ?_) (fun h3 => ?_)
  · skip
    refine RunC.skip ?_
    refine kseq_n ?_
    refine RunC.seq ?_
    refine RunC.block ?_
    refine RunC.seq ?_
    refine RunC.region ?_
    refine RunR.sil hU [] 1 1 [2, 3, 7, 8, 9, 11] [(2, .slice none 0 0), (3, .pointer (some ⟨b2, 0, none⟩)), (7, .slice B rs.length d), (8, .int .i64 ((rs.length : Nat) : Int)), (9, .int .i64 i), (11, .pointer (elemAt B i 1))] (((0 ≤ i ∧ i < ((rs.length : Nat) : Int)) ∧ Option.isSome B = true) ∧ True) rfl (by kernel_rfl) ⟨⟨by omega, hA1 (by omega)⟩, trivial⟩ ?_
    obtain ⟨Ae4, ce5, xe6, hg7, hr8, hc9, hl10⟩ := row_at (by assumption : RowsOK .u8 rs) (i := (i).toNat) (by omega)
    refine RunR.step (dst := some 12) (op := .load 24 (.tmp 11)) (by kernel_rfl) (Step.load_vw hU 1 B i 1 (rowsV rs) (.slice Ae4 xe6.length ce5) (by kernel_rfl) (by kernel_rfl) (loadv_row (by kernel_rfl) hg7 (Nat.mul_one _)) (by kernel_rfl) (by rw [rowsV_len]; omega) ?_)
    refine RunR.sil hU [] 1 3 [2, 3, 5, 7, 8, 9] [(2, .slice none 0 0), (3, .pointer (some ⟨b2, 0, none⟩)), (5, .slice Ae4 xe6.length ce5), (7, .slice B rs.length d), (8, .int .i64 ((rs.length : Nat) : Int)), (9, .int .i64 i)] ((True) ∧ True) rfl (by kernel_rfl) ⟨trivial, trivial⟩ ?_
    refine RunR.done (by kernel_rfl) ?_
    refine kseq_n ?_
    refine RunC.region ?_
    refine RunR.sil hU [] 2 2 [2, 3, 7, 8, 9, 13, 14] [(2, .slice none 0 0), (3, .pointer (some ⟨b2, 0, none⟩)), (7, .slice B rs.length d), (8, .int .i64 ((rs.length : Nat) : Int)), (9, .int .i64 i), (13, .pointer (some ⟨b2, 0, none⟩)), (14, .slice Ae4 xe6.length ce5)] ((True) ∧ (True) ∧ True) rfl (by kernel_rfl) ⟨trivial, trivial, trivial⟩ ?_
    refine RunR.step (dst := some 15) (op := .call { callee := .value (.func 93), args := #[.tmp 13, .tmp 14], argTypes := #[136, 24] }) (by kernel_rfl) (Step.call 93 [.pointer (some ⟨b2, 0, none⟩), .slice Ae4 xe6.length ce5] (by kernel_rfl) (by kernel_rfl) [blk b2 146 (nums .u32 st ++ (nums .u32 ks ++ (nums .u8 wt ++ (([.int .i64 m] : List Value) ++ ([.int .u64 n] : List Value)))))] [vw Ae4 (nums .u8 xe6)] [vw B (rowsV rs), vws (rowsL .u8 rs)] (h_Add_spec b2 st wt m n (cat (rs.take i.toNat)) Ae4 ce5 xe6 xe6.length (by first | assumption | omega | (simp only [List.length_append, List.length_cons, List.length_nil, List.length_set, List.length_replicate, List.length_take, List.length_drop]; omega) | (simp only [fits] at *; omega) | (simp only [List.length_append, List.length_cons, List.length_nil, List.length_set, List.length_replicate, List.length_take, List.length_drop] at *; omega) | (simp; done) | decide) hr8 (by first | assumption | omega | (simp only [List.length_append, List.length_cons, List.length_nil, List.length_set, List.length_replicate, List.length_take, List.length_drop]; omega) | (simp only [fits] at *; omega) | (simp only [List.length_append, List.length_cons, List.length_nil, List.length_set, List.length_replicate, List.length_take, List.length_drop] at *; omega) | (simp; done) | decide) (by first | assumption | omega | (simp only [List.length_append, List.length_cons, List.length_nil, List.length_set, List.length_replicate, List.length_take, List.length_drop]; omega) | (simp only [fits] at *; omega) | (simp only [List.length_append, List.length_cons, List.length_nil, List.length_set, List.length_replicate, List.length_take, List.length_drop] at *; omega) | (simp; done) | decide) (by first | rfl | assumption | omega | (simp only [List.length_append, List.length_cons, List.length_nil, List.length_set, List.length_replicate, List.length_take, List.length_drop]; omega) | (simp; done))) [0] (by kernel_rfl) ((Lend.nil _).tells 1 (vws (rowsL .u8 rs)) Ae4 (nums .u8 xe6) (by kernel_rfl) (tells_rows hg7)) ?_)
    rintro _ _ ⟨s211, w212, m213, n214, rfl, rfl, hp15, hp16, hp17, hp18⟩
    refine RunR.done (by kernel_rfl) ?_
    refine kblock_n ?_
    refine kseq_n ?_
    refine RunC.region ?_
    refine RunR.sil hU [0] 2 2 [2, 3, 7, 8, 9] [(2, .slice none 0 0), (3, .pointer (some ⟨b2, 0, none⟩)), (7, .slice B rs.length d), (8, .int .i64 ((rs.length : Nat) : Int)), (9, .int .i64 (i + 1))] ((-9223372036854775808 ≤ (i + 1) ∧ (i + 1) < 9223372036854775808) ∧ (True) ∧ True) rfl (by kernel_rfl) ⟨(by omega), trivial, trivial⟩ ?_
    refine RunR.done (by kernel_rfl) ?_
    refine kloop_n _ [2, 3, 7, 8, 9] [0, 0, 0] [(2, .slice none 0 0), (3, .pointer (some ⟨b2, 0, none⟩)), (7, .slice B rs.length d), (8, .int .i64 ((rs.length : Nat) : Int)), (9, .int .i64 (i + 1))] [blk b2 146 (nums .u32 s211 ++ (nums .u32 ks ++ (nums .u8 w212 ++ (([.int .i64 m213] : List Value) ++ ([.int .u64 n214] : List Value))))), vw B (rowsV rs), vws (rowsL .u8 rs)] (by kernel_rfl) (by kernel_rfl) ?_ ⟨(i + 1), s211, w212, m213, n214, (by first | assumption | omega | (simp only [List.length_append, List.length_cons, List.length_nil, List.length_set, List.length_replicate, List.length_take, List.length_drop]; omega) | (simp only [fits] at *; omega) | (simp only [List.length_append, List.length_cons, List.length_nil, List.length_set, List.length_replicate, List.length_take, List.length_drop] at *; omega) | (simp; done) | decide), (by first | assumption | omega | (simp only [List.length_append, List.length_cons, List.length_nil, List.length_set, List.length_replicate, List.length_take, List.length_drop]; omega) | (simp only [fits] at *; omega) | (simp only [List.length_append, List.length_cons, List.length_nil, List.length_set, List.length_replicate, List.length_take, List.length_drop] at *; omega) | (simp; done) | decide), (by have e := cat_step (rs := rs) (i := i.toNat) (by assumption); rw [show (i + 1).toNat = i.toNat + 1 by omega, ← e]; assumption), rfl, (by first | rfl | simp only [List.length_set]), (by first | rfl | simp only [List.length_set])⟩
    show ((rs.length - (i + 1)).toNat : Nat) < ((rs.length - i).toNat : Nat)
    omega
  · skip
    refine RunC.exit ?_
    refine kseq_e ?_
    refine kloop_e ?_
    refine kblock_e ?_
    refine kseq_n ?_
    refine RunC.seq ?_
    refine RunC.region ?_
    refine RunR.sil hU [] 1 1 [2, 17] [(2, .slice none 0 0), (17, .pointer (some ⟨b2, 0, none⟩))] ((True) ∧ True) rfl (by kernel_rfl) ⟨trivial, trivial⟩ ?_
    refine RunR.step (dst := some 18) (op := .call { callee := .value (.func 94), args := #[.tmp 17], argTypes := #[136] }) (by kernel_rfl) (Step.call 94 [.pointer (some ⟨b2, 0, none⟩)] (by kernel_rfl) (by kernel_rfl) [blk b2 146 (nums .u32 st ++ (nums .u32 ks ++ (nums .u8 wt ++ (([.int .i64 m] : List Value) ++ ([.int .u64 n] : List Value)))))] [] [vw B (rowsV rs), vws (rowsL .u8 rs)] (h_Sum_spec b2 st wt m n (cat (rs.take i.toNat)) (by first | assumption | omega | (simp only [List.length_append, List.length_cons, List.length_nil, List.length_set, List.length_replicate, List.length_take, List.length_drop]; omega) | (simp only [fits] at *; omega) | (simp only [List.length_append, List.length_cons, List.length_nil, List.length_set, List.length_replicate, List.length_take, List.length_drop] at *; omega) | (simp; done) | decide) (by exact Nat.le_trans (cat_le _ _) (by omega))) [0] (by kernel_rfl) (Lend.nil _) ?_)
    rintro _ _ ⟨A219, c220, zs21, rfl, rfl, hp22, hp23, hp24, hp25, hp26⟩
    refine RunR.sil hU [] 1 3 [2] [(2, .slice A219 zs21.length c220)] ((True) ∧ True) rfl (by kernel_rfl) ⟨trivial, trivial⟩ ?_
    refine RunR.done (by kernel_rfl) ?_
    refine kseq_n ?_
    refine RunC.ret ?_
    refine kret_r [.slice A219 zs21.length c220] [0] [row 5 1 (.slice A219 zs21.length c220) zs21.length (nums .u8 zs21)] ⟨rfl, trivial⟩ (by kernel_rfl) rfl ⟨A219, c220, zs21, rfl, rfl, (by simp only [hp22]; rw [List.take_of_length_le (by omega)]), (by first | rfl | assumption | omega | (simp only [List.length_append, List.length_cons, List.length_nil, List.length_set, List.length_replicate, List.length_take, List.length_drop]; omega) | (simp; done)), hp24, (by first | assumption | omega | (simp only [List.length_append, List.length_cons, List.length_nil, List.length_set, List.length_replicate, List.length_take, List.length_drop]; omega) | (simp only [fits] at *; omega) | (simp only [List.length_append, List.length_cons, List.length_nil, List.length_set, List.length_replicate, List.length_take, List.length_drop] at *; omega) | (simp; done) | decide), (fun h => hp26 (by first | exact h | (simp at h ⊢; omega)))⟩

theorem m_code_spec (A : Option Addr) (c : Nat) (kk : List Int) (B : Option Addr) (d : Nat) (rs : List Ro) (l_kk : Nat) (l_rs : Nat) (hIkk : In .u8 kk) (hCkk : kk.length ≤ c) (hBkk : kk.length ≤ 70368744177664) (hrs : RowsOK .u8 rs) (hrl : rs.length ≤ 8) (hcat : (cat rs).length ≤ 70368744177664) (hl_kk : kk.length = l_kk) (hl_rs : rs.length = l_rs) :
    CallsS Try.prog 48 [.slice A l_kk c, .slice B l_rs d] [vw A (nums .u8 kk), vw B (rowsV rs), vws (rowsL .u8 rs)] (fun r D => ∃ (A2 : Option Addr) (c2 : Nat) (zs : List Int), r = .slice A2 zs.length c2 ∧ D = [row 5 1 (.slice A2 zs.length c2) zs.length (nums .u8 zs)] ∧ (zs = hmac kk (cat rs)) ∧ (zs.length = 32) ∧ (In .u8 zs) ∧ (zs.length ≤ c2) ∧ (0 < zs.length → Option.isSome A2 = true)) := by
  subst hl_kk
  subst hl_rs
  refine CallsS.enter hU Try.f48 _ [.tmp 4] 24 Try.func48 rfl (by decide) rfl rfl (by kernel_rfl) fun w0 W => ?_
  refine RunC.know (p := 0 < kk.length → Option.isSome A = true) (fun _ _ w hs => vw_some hs 0 rfl (by first | simp [nums_length]; done | exact dosV_len _)) (fun hA1 => ?_)
  refine RunC.know (p := 0 < rs.length → Option.isSome B = true) (fun _ _ w hs => vw_some hs 1 rfl (by simp [rowsV_len])) (fun hA2 => ?_)
  refine RunC.seq ?_
  refine RunC.region ?_
  refine RunR.step (dst := some 2) (op := .box 24 (.tmp 0)) (by kernel_rfl) (Step.box (.slice A kk.length c) (by kernel_rfl) (by kernel_rfl) (fun b3 => ?_))
  refine RunR.sil hU [] 1 2 [1, 2, 4] [(1, .slice B rs.length d), (2, .pointer (some ⟨b3, 0, none⟩)), (4, .slice none 0 0)] ((True) ∧ True) rfl (by kernel_rfl) ⟨trivial, trivial⟩ ?_
  refine RunR.done (by kernel_rfl) ?_
  refine kseq_n ?_
  refine RunC.seq ?_
  refine RunC.seq ?_
  refine RunC.region ?_
  refine RunR.step (dst := some 7) (op := .load 24 (.tmp 2)) (by kernel_rfl) (Step.load_blk hU 0 b3 (0) 24 [.slice A kk.length c] (.slice A kk.length c) (by kernel_rfl) (by kernel_rfl) (by kernel_rfl) (by kernel_rfl) ?_)
  refine RunR.sil hU [] 2 3 [1, 2, 4, 9] [(1, .slice B rs.length d), (2, .pointer (some ⟨b3, 0, none⟩)), (4, .slice none 0 0), (9, .bool (decide (((kk.length : Nat) : Int) > 64)))] ((True) ∧ (True) ∧ True) rfl (by kernel_rfl) ⟨trivial, trivial, trivial⟩ ?_
  refine RunR.done (by kernel_rfl) ?_
  refine kseq_n ?_
  refine RunC.condp (((kk.length : Nat) : Int) > 64) (by kernel_rfl) (fun h4 => ?_) (fun h4 => ?_)
  · skip
    refine RunC.region ?_
    refine RunR.step (dst := some 10) (op := .load 24 (.tmp 2)) (by kernel_rfl) (Step.load_blk hU 0 b3 (0) 24 [.slice A kk.length c] (.slice A kk.length c) (by kernel_rfl) (by kernel_rfl) (by kernel_rfl) (by kernel_rfl) ?_)
    refine RunR.step (dst := some 11) (op := .call { callee := .value (.func 70), args := #[.tmp 10], argTypes := #[24] }) (by kernel_rfl) (Step.call 70 [.slice A kk.length c] (by kernel_rfl) (by kernel_rfl) [] [vw A (nums .u8 kk)] [blk b3 24 [.slice A kk.length c], vw A (nums .u8 kk), vw B (rowsV rs), vws (rowsL .u8 rs)] (h_Of_spec A c kk kk.length hIkk (by first | assumption | omega | (simp only [List.length_append, List.length_cons, List.length_nil, List.length_set, List.length_replicate, List.length_take, List.length_drop]; omega) | (simp only [fits] at *; omega) | (simp only [List.length_append, List.length_cons, List.length_nil, List.length_set, List.length_replicate, List.length_take, List.length_drop] at *; omega) | (simp; done) | decide) (by first | assumption | omega | (simp only [List.length_append, List.length_cons, List.length_nil, List.length_set, List.length_replicate, List.length_take, List.length_drop]; omega) | (simp only [fits] at *; omega) | (simp only [List.length_append, List.length_cons, List.length_nil, List.length_set, List.length_replicate, List.length_take, List.length_drop] at *; omega) | (simp; done) | decide) (by first | rfl | assumption | omega | (simp only [List.length_append, List.length_cons, List.length_nil, List.length_set, List.length_replicate, List.length_take, List.length_drop]; omega) | (simp; done))) [] (by kernel_rfl) ((Lend.nil _).tells 1 (vw A (nums .u8 kk)) A (nums .u8 kk) (by kernel_rfl) (tells_vw _ _)) ?_)
    rintro _ _ ⟨A25, c26, zs7, rfl, rfl, hp8, hp9, hp10, hp11, hp12⟩
    refine RunR.step (dst := none) (op := .store 24 (.tmp 2) (.tmp 11)) (by kernel_rfl) (Step.store_blk hU 1 b3 0 24 [.slice A kk.length c] (.slice A25 zs7.length c26) (by kernel_rfl) (by kernel_rfl) (by kernel_rfl) 1 rfl [.slice A25 zs7.length c26] (by kernel_rfl) rfl (by kernel_rfl) (by first | decide | simp) ?_)
    refine RunR.done (by kernel_rfl) ?_
    refine kseq_n ?_
    refine RunC.seq ?_
    refine RunC.region ?_
    refine RunR.sil hU [] 2 2 [1, 4, 5] [(1, .slice B rs.length d), (4, .slice none 0 0), (5, .func (.func 71) #[] #[.pointer (some ⟨b3, 0, none⟩)])] ((True) ∧ (True) ∧ True) rfl (by kernel_rfl) ⟨trivial, trivial, trivial⟩ ?_
    refine RunR.done (by kernel_rfl) ?_
    refine kseq_n ?_
    refine RunC.seq ?_
    refine RunC.region ?_
    refine RunR.sil hU [] 1 1 [1, 4, 5, 13] [(1, .slice B rs.length d), (4, .slice none 0 0), (5, .func (.func 71) #[] #[.pointer (some ⟨b3, 0, none⟩)]), (13, .func (.func 71) #[] #[.pointer (some ⟨b3, 0, none⟩)])] ((True) ∧ True) rfl (by kernel_rfl) ⟨trivial, trivial⟩ ?_
    refine RunR.step (dst := some 14) (op := .call { callee := .value (.tmp 13), args := #[.const (.int .u8 54)], argTypes := #[5] }) (by kernel_rfl) (Step.call 71 [.int .u8 54, .pointer (some ⟨b3, 0, none⟩)] (by kernel_rfl) (by kernel_rfl) [blk b3 24 [.slice A25 zs7.length c26]] [vw A25 (nums .u8 zs7)] [row 5 1 (.slice A25 zs7.length c26) zs7.length (nums .u8 zs7), vw A (nums .u8 kk), vw B (rowsV rs), vws (rowsL .u8 rs)] (m_masked_spec 54 b3 A25 c26 zs7 (by first | assumption | exact fits_wrap _ _ | exact fits_bits2 _ _ _ _ | (refine ⟨?_, ?_⟩ <;> omega)) hp10 (by first | assumption | omega | (simp only [List.length_append, List.length_cons, List.length_nil, List.length_set, List.length_replicate, List.length_take, List.length_drop]; omega) | (simp only [fits] at *; omega) | (simp only [List.length_append, List.length_cons, List.length_nil, List.length_set, List.length_replicate, List.length_take, List.length_drop] at *; omega) | (simp; done) | decide) (by first | assumption | omega | (simp only [List.length_append, List.length_cons, List.length_nil, List.length_set, List.length_replicate, List.length_take, List.length_drop]; omega) | (simp only [fits] at *; omega) | (simp only [List.length_append, List.length_cons, List.length_nil, List.length_set, List.length_replicate, List.length_take, List.length_drop] at *; omega) | (simp; done) | decide) (by first | assumption | omega | (simp only [List.length_append, List.length_cons, List.length_nil, List.length_set, List.length_replicate, List.length_take, List.length_drop]; omega) | (simp only [fits] at *; omega) | (simp only [List.length_append, List.length_cons, List.length_nil, List.length_set, List.length_replicate, List.length_take, List.length_drop] at *; omega) | (simp; done) | decide)) [0] (by kernel_rfl) ((Lend.nil _).tells 0 (row 5 1 (.slice A25 zs7.length c26) zs7.length (nums .u8 zs7)) A25 (nums .u8 zs7) (by kernel_rfl) (tells_row _ _ _ _ _ _)) ?_)
    rintro _ _ ⟨A213, c214, zs15, rfl, rfl, hp16, hp17, hp18, hp19, hp20⟩
    refine RunR.step (dst := some 15) (op := .buildSlice 67 1 #[(0, .tmp 14)]) (by kernel_rfl) (Step.lit_rows hU 24 24 (.slice none 0 0) [.slice A213 zs15.length c214] rfl rfl (by kernel_rfl) rfl rfl (by kernel_rfl) (fun b21 => ?_))
    refine RunR.sil hU [] 1 4 [4, 5, 15, 16] [(4, .slice none 0 0), (5, .func (.func 71) #[] #[.pointer (some ⟨b3, 0, none⟩)]), (15, .slice (some ⟨b21, 0, none⟩) 1 1), (16, .slice B rs.length d)] ((True) ∧ True) rfl (by kernel_rfl) ⟨trivial, trivial⟩ ?_
    refine RunR.step (dst := some 17) (op := .call { callee := .builtin .append, args := #[.tmp 15, .tmp 16], argTypes := #[67, 67] }) (by kernel_rfl) (Step.append_rows hU 24 24 (.slice none 0 0) 0 5 (some ⟨b21, 0, none⟩) 1 1 ((A213, c214, zs15) :: []) B rs.length d (vw B (rowsV rs)) rs (by kernel_rfl) (by kernel_rfl) (by kernel_rfl) (by kernel_rfl) (by kernel_rfl) (by kernel_rfl) (by kernel_rfl) (tells_vw _ _) (by first | rfl | omega | (simp; omega)) (by first | rfl | omega | (simp; omega)) (by simp only [List.length_cons, List.length_nil]; omega) (by simp only [List.length_cons, List.length_nil]; omega) (by kernel_rfl) (fun Aq22 cq23 hc24 hA25 => ?_))
    have hc26 : ((A213, c214, zs15) :: rs : List Ro).length ≤ cq23 := hc24
    refine RunR.step (dst := some 18) (op := .call { callee := .value (.func 72), args := #[.tmp 17], argTypes := #[67] }) (by kernel_rfl) (Step.call 72 [.slice Aq22 (((A213, c214, zs15) :: rs : List Ro).length) cq23] (by kernel_rfl) (by kernel_rfl) [] [vw Aq22 (rowsV ((A213, c214, zs15) :: rs)), vws (rowsL .u8 ((A213, c214, zs15) :: rs))] [row 24 1 (.slice Aq22 (((A213, c214, zs15) :: rs : List Ro).length) cq23) (((A213, c214, zs15) :: rs : List Ro).length) (rowsV ((A213, c214, zs15) :: rs)), row 5 1 (.slice A213 zs15.length c214) zs15.length (nums .u8 zs15), blk b3 24 [.slice A25 zs7.length c26], row 5 1 (.slice A25 zs7.length c26) zs7.length (nums .u8 zs7), vw A (nums .u8 kk), vw B (rowsV rs), vws (rowsL .u8 rs)] (m_digest_spec Aq22 cq23 ((A213, c214, zs15) :: rs) (((A213, c214, zs15) :: rs : List Ro).length) (RowsOK.cons hp18 (by first | assumption | omega | (simp; omega)) (by first | omega | (simp; omega)) (by first | assumption | omega | (simp only [List.length_append, List.length_cons, List.length_nil, List.length_set, List.length_replicate, List.length_take, List.length_drop]; omega) | (simp only [fits] at *; omega) | (simp only [List.length_append, List.length_cons, List.length_nil, List.length_set, List.length_replicate, List.length_take, List.length_drop] at *; omega) | (simp; done) | decide)) (by first | assumption | omega | (simp only [List.length_append, List.length_cons, List.length_nil, List.length_set, List.length_replicate, List.length_take, List.length_drop]; omega) | (simp only [fits] at *; omega) | (simp only [List.length_append, List.length_cons, List.length_nil, List.length_set, List.length_replicate, List.length_take, List.length_drop] at *; omega) | (simp; done) | decide) (by simp only [cat_cons, cat_nil, List.length_append, List.length_cons, List.length_nil]; omega) (by first | rfl | assumption | omega | (simp only [List.length_append, List.length_cons, List.length_nil, List.length_set, List.length_replicate, List.length_take, List.length_drop]; omega) | (simp; done))) [] (by kernel_rfl) ((((Lend.nil _).same 6 (vws (rowsL .u8 rs)) (by kernel_rfl) rfl).rows1 1 (row 5 1 (.slice A213 zs15.length c214) zs15.length (nums .u8 zs15)) A213 c214 zs15 (by kernel_rfl) (tells_row _ _ _ _ _ _)).tells 0 (row 24 1 (.slice Aq22 (((A213, c214, zs15) :: rs : List Ro).length) cq23) (((A213, c214, zs15) :: rs : List Ro).length) (rowsV ((A213, c214, zs15) :: rs))) Aq22 (rowsV ((A213, c214, zs15) :: rs)) (by kernel_rfl) (tells_row _ _ _ _ _ _)) ?_)
    rintro _ _ ⟨A227, c228, zs29, rfl, rfl, hp30, hp31, hp32, hp33, hp34⟩
    refine RunR.sil hU [] 1 7 [4, 5, 6] [(4, .slice none 0 0), (5, .func (.func 71) #[] #[.pointer (some ⟨b3, 0, none⟩)]), (6, .slice A227 zs29.length c228)] ((True) ∧ True) rfl (by kernel_rfl) ⟨trivial, trivial⟩ ?_
    refine RunR.done (by kernel_rfl) ?_
    refine kseq_n ?_
    refine RunC.seq ?_
    refine RunC.region ?_
    refine RunR.sil hU [] 1 1 [4, 6, 19] [(4, .slice none 0 0), (6, .slice A227 zs29.length c228), (19, .func (.func 71) #[] #[.pointer (some ⟨b3, 0, none⟩)])] ((True) ∧ True) rfl (by kernel_rfl) ⟨trivial, trivial⟩ ?_
    refine RunR.step (dst := some 20) (op := .call { callee := .value (.tmp 19), args := #[.const (.int .u8 92)], argTypes := #[5] }) (by kernel_rfl) (Step.call 71 [.int .u8 92, .pointer (some ⟨b3, 0, none⟩)] (by kernel_rfl) (by kernel_rfl) [blk b3 24 [.slice A25 zs7.length c26]] [vw A25 (nums .u8 zs7)] [row 5 1 (.slice A227 zs29.length c228) zs29.length (nums .u8 zs29), row 24 1 (.slice Aq22 (((A213, c214, zs15) :: rs : List Ro).length) cq23) (((A213, c214, zs15) :: rs : List Ro).length) (rowsV ((A213, c214, zs15) :: rs)), row 5 1 (.slice A213 zs15.length c214) zs15.length (nums .u8 zs15), row 5 1 (.slice A25 zs7.length c26) zs7.length (nums .u8 zs7), vw A (nums .u8 kk), vw B (rowsV rs), vws (rowsL .u8 rs)] (m_masked_spec 92 b3 A25 c26 zs7 (by first | assumption | exact fits_wrap _ _ | exact fits_bits2 _ _ _ _ | (refine ⟨?_, ?_⟩ <;> omega)) hp10 (by first | assumption | omega | (simp only [List.length_append, List.length_cons, List.length_nil, List.length_set, List.length_replicate, List.length_take, List.length_drop]; omega) | (simp only [fits] at *; omega) | (simp only [List.length_append, List.length_cons, List.length_nil, List.length_set, List.length_replicate, List.length_take, List.length_drop] at *; omega) | (simp; done) | decide) (by first | assumption | omega | (simp only [List.length_append, List.length_cons, List.length_nil, List.length_set, List.length_replicate, List.length_take, List.length_drop]; omega) | (simp only [fits] at *; omega) | (simp only [List.length_append, List.length_cons, List.length_nil, List.length_set, List.length_replicate, List.length_take, List.length_drop] at *; omega) | (simp; done) | decide) (by first | assumption | omega | (simp only [List.length_append, List.length_cons, List.length_nil, List.length_set, List.length_replicate, List.length_take, List.length_drop]; omega) | (simp only [fits] at *; omega) | (simp only [List.length_append, List.length_cons, List.length_nil, List.length_set, List.length_replicate, List.length_take, List.length_drop] at *; omega) | (simp; done) | decide)) [3] (by kernel_rfl) ((Lend.nil _).tells 3 (row 5 1 (.slice A25 zs7.length c26) zs7.length (nums .u8 zs7)) A25 (nums .u8 zs7) (by kernel_rfl) (tells_row _ _ _ _ _ _)) ?_)
    rintro _ _ ⟨A235, c236, zs37, rfl, rfl, hp38, hp39, hp40, hp41, hp42⟩
    refine RunR.sil hU [] 1 3 [4, 20, 21] [(4, .slice none 0 0), (20, .slice A235 zs37.length c236), (21, .slice A227 zs29.length c228)] ((True) ∧ True) rfl (by kernel_rfl) ⟨trivial, trivial⟩ ?_
    refine RunR.step (dst := some 22) (op := .buildSlice 67 2 #[(0, .tmp 20), (1, .tmp 21)]) (by kernel_rfl) (Step.lit_rows hU 24 24 (.slice none 0 0) [.slice A235 zs37.length c236, .slice A227 zs29.length c228] rfl rfl (by kernel_rfl) rfl rfl (by kernel_rfl) (fun b43 => ?_))
    refine RunR.step (dst := some 23) (op := .call { callee := .value (.func 72), args := #[.tmp 22], argTypes := #[67] }) (by kernel_rfl) (Step.call 72 [.slice (some ⟨b43, 0, none⟩) 2 2] (by kernel_rfl) (by kernel_rfl) [] [vw (some ⟨b43, 0, none⟩) (rowsV ((A235, c236, zs37) :: (A227, c228, zs29) :: [])), vws (rowsL .u8 ((A235, c236, zs37) :: (A227, c228, zs29) :: []))] [row 24 1 (.slice (some ⟨b43, 0, none⟩) 2 2) 2 (rowsV ((A235, c236, zs37) :: (A227, c228, zs29) :: [])), row 5 1 (.slice A235 zs37.length c236) zs37.length (nums .u8 zs37), blk b3 24 [.slice A25 zs7.length c26], row 5 1 (.slice A227 zs29.length c228) zs29.length (nums .u8 zs29), row 24 1 (.slice Aq22 (((A213, c214, zs15) :: rs : List Ro).length) cq23) (((A213, c214, zs15) :: rs : List Ro).length) (rowsV ((A213, c214, zs15) :: rs)), row 5 1 (.slice A213 zs15.length c214) zs15.length (nums .u8 zs15), row 5 1 (.slice A25 zs7.length c26) zs7.length (nums .u8 zs7), vw A (nums .u8 kk), vw B (rowsV rs), vws (rowsL .u8 rs)] (m_digest_spec (some ⟨b43, 0, none⟩) 2 ((A235, c236, zs37) :: (A227, c228, zs29) :: []) 2 (RowsOK.cons hp40 (by first | assumption | omega | (simp; omega)) (by first | omega | (simp; omega)) (RowsOK.cons hp32 (by first | assumption | omega | (simp; omega)) (by first | omega | (simp; omega)) (RowsOK.nil _))) (by first | assumption | omega | (simp only [List.length_append, List.length_cons, List.length_nil, List.length_set, List.length_replicate, List.length_take, List.length_drop]; omega) | (simp only [fits] at *; omega) | (simp only [List.length_append, List.length_cons, List.length_nil, List.length_set, List.length_replicate, List.length_take, List.length_drop] at *; omega) | (simp; done) | decide) (by simp only [cat_cons, cat_nil, List.length_append, List.length_cons, List.length_nil]; omega) (by first | rfl | assumption | omega | (simp only [List.length_append, List.length_cons, List.length_nil, List.length_set, List.length_replicate, List.length_take, List.length_drop]; omega) | (simp; done))) [] (by kernel_rfl) (((((Lend.nil _).rows0 .u8).rows1 3 (row 5 1 (.slice A227 zs29.length c228) zs29.length (nums .u8 zs29)) A227 c228 zs29 (by kernel_rfl) (tells_row _ _ _ _ _ _)).rows1 1 (row 5 1 (.slice A235 zs37.length c236) zs37.length (nums .u8 zs37)) A235 c236 zs37 (by kernel_rfl) (tells_row _ _ _ _ _ _)).tells 0 (row 24 1 (.slice (some ⟨b43, 0, none⟩) 2 2) 2 (rowsV ((A235, c236, zs37) :: (A227, c228, zs29) :: []))) (some ⟨b43, 0, none⟩) (rowsV ((A235, c236, zs37) :: (A227, c228, zs29) :: [])) (by kernel_rfl) (tells_row _ _ _ _ _ _)) ?_)
    rintro _ _ ⟨A244, c245, zs46, rfl, rfl, hp47, hp48, hp49, hp50, hp51⟩
    refine RunR.sil hU [] 1 6 [4] [(4, .slice A244 zs46.length c245)] ((True) ∧ True) rfl (by kernel_rfl) ⟨trivial, trivial⟩ ?_
    refine RunR.done (by kernel_rfl) ?_
    refine kseq_n ?_
    refine RunC.ret ?_
    refine kret_r [.slice A244 zs46.length c245] [0] [row 5 1 (.slice A244 zs46.length c245) zs46.length (nums .u8 zs46)] ⟨rfl, trivial⟩ (by kernel_rfl) rfl ⟨A244, c245, zs46, rfl, rfl, (by simp only [hp8, hp16, hp30, hp38, hp47, cat_cons, cat_nil, List.append_nil]; exact hmac_big (by omega)), (by first | rfl | assumption | omega | (simp only [List.length_append, List.length_cons, List.length_nil, List.length_set, List.length_replicate, List.length_take, List.length_drop]; omega) | (simp; done)), hp49, (by first | assumption | omega | (simp only [List.length_append, List.length_cons, List.length_nil, List.length_set, List.length_replicate, List.length_take, List.length_drop]; omega) | (simp only [fits] at *; omega) | (simp only [List.length_append, List.length_cons, List.length_nil, List.length_set, List.length_replicate, List.length_take, List.length_drop] at *; omega) | (simp; done) | decide), (fun h => hp51 (by first | exact h | (simp at h ⊢; omega)))⟩
  · skip
    refine RunC.skip ?_
    refine kseq_n ?_
    refine RunC.seq ?_
    refine RunC.region ?_
    refine RunR.sil hU [] 2 2 [1, 4, 5] [(1, .slice B rs.length d), (4, .slice none 0 0), (5, .func (.func 71) #[] #[.pointer (some ⟨b3, 0, none⟩)])] ((True) ∧ (True) ∧ True) rfl (by kernel_rfl) ⟨trivial, trivial, trivial⟩ ?_
    refine RunR.done (by kernel_rfl) ?_
    refine kseq_n ?_
    refine RunC.seq ?_
    refine RunC.region ?_
    refine RunR.sil hU [] 1 1 [1, 4, 5, 13] [(1, .slice B rs.length d), (4, .slice none 0 0), (5, .func (.func 71) #[] #[.pointer (some ⟨b3, 0, none⟩)]), (13, .func (.func 71) #[] #[.pointer (some ⟨b3, 0, none⟩)])] ((True) ∧ True) rfl (by kernel_rfl) ⟨trivial, trivial⟩ ?_
    refine RunR.step (dst := some 14) (op := .call { callee := .value (.tmp 13), args := #[.const (.int .u8 54)], argTypes := #[5] }) (by kernel_rfl) (Step.call 71 [.int .u8 54, .pointer (some ⟨b3, 0, none⟩)] (by kernel_rfl) (by kernel_rfl) [blk b3 24 [.slice A kk.length c]] [vw A (nums .u8 kk)] [vw A (nums .u8 kk), vw B (rowsV rs), vws (rowsL .u8 rs)] (m_masked_spec 54 b3 A c kk (by first | assumption | exact fits_wrap _ _ | exact fits_bits2 _ _ _ _ | (refine ⟨?_, ?_⟩ <;> omega)) hIkk (by first | assumption | omega | (simp only [List.length_append, List.length_cons, List.length_nil, List.length_set, List.length_replicate, List.length_take, List.length_drop]; omega) | (simp only [fits] at *; omega) | (simp only [List.length_append, List.length_cons, List.length_nil, List.length_set, List.length_replicate, List.length_take, List.length_drop] at *; omega) | (simp; done) | decide) (by first | assumption | omega | (simp only [List.length_append, List.length_cons, List.length_nil, List.length_set, List.length_replicate, List.length_take, List.length_drop]; omega) | (simp only [fits] at *; omega) | (simp only [List.length_append, List.length_cons, List.length_nil, List.length_set, List.length_replicate, List.length_take, List.length_drop] at *; omega) | (simp; done) | decide) (by first | assumption | omega | (simp only [List.length_append, List.length_cons, List.length_nil, List.length_set, List.length_replicate, List.length_take, List.length_drop]; omega) | (simp only [fits] at *; omega) | (simp only [List.length_append, List.length_cons, List.length_nil, List.length_set, List.length_replicate, List.length_take, List.length_drop] at *; omega) | (simp; done) | decide)) [0] (by kernel_rfl) ((Lend.nil _).tells 0 (vw A (nums .u8 kk)) A (nums .u8 kk) (by kernel_rfl) (tells_vw _ _)) ?_)
    rintro _ _ ⟨A252, c253, zs54, rfl, rfl, hp55, hp56, hp57, hp58, hp59⟩
    refine RunR.step (dst := some 15) (op := .buildSlice 67 1 #[(0, .tmp 14)]) (by kernel_rfl) (Step.lit_rows hU 24 24 (.slice none 0 0) [.slice A252 zs54.length c253] rfl rfl (by kernel_rfl) rfl rfl (by kernel_rfl) (fun b60 => ?_))
    refine RunR.sil hU [] 1 4 [4, 5, 15, 16] [(4, .slice none 0 0), (5, .func (.func 71) #[] #[.pointer (some ⟨b3, 0, none⟩)]), (15, .slice (some ⟨b60, 0, none⟩) 1 1), (16, .slice B rs.length d)] ((True) ∧ True) rfl (by kernel_rfl) ⟨trivial, trivial⟩ ?_
    refine RunR.step (dst := some 17) (op := .call { callee := .builtin .append, args := #[.tmp 15, .tmp 16], argTypes := #[67, 67] }) (by kernel_rfl) (Step.append_rows hU 24 24 (.slice none 0 0) 0 4 (some ⟨b60, 0, none⟩) 1 1 ((A252, c253, zs54) :: []) B rs.length d (vw B (rowsV rs)) rs (by kernel_rfl) (by kernel_rfl) (by kernel_rfl) (by kernel_rfl) (by kernel_rfl) (by kernel_rfl) (by kernel_rfl) (tells_vw _ _) (by first | rfl | omega | (simp; omega)) (by first | rfl | omega | (simp; omega)) (by simp only [List.length_cons, List.length_nil]; omega) (by simp only [List.length_cons, List.length_nil]; omega) (by kernel_rfl) (fun Aq61 cq62 hc63 hA64 => ?_))
    have hc65 : ((A252, c253, zs54) :: rs : List Ro).length ≤ cq62 := hc63
    refine RunR.step (dst := some 18) (op := .call { callee := .value (.func 72), args := #[.tmp 17], argTypes := #[67] }) (by kernel_rfl) (Step.call 72 [.slice Aq61 (((A252, c253, zs54) :: rs : List Ro).length) cq62] (by kernel_rfl) (by kernel_rfl) [] [vw Aq61 (rowsV ((A252, c253, zs54) :: rs)), vws (rowsL .u8 ((A252, c253, zs54) :: rs))] [row 24 1 (.slice Aq61 (((A252, c253, zs54) :: rs : List Ro).length) cq62) (((A252, c253, zs54) :: rs : List Ro).length) (rowsV ((A252, c253, zs54) :: rs)), row 5 1 (.slice A252 zs54.length c253) zs54.length (nums .u8 zs54), blk b3 24 [.slice A kk.length c], vw A (nums .u8 kk), vw B (rowsV rs), vws (rowsL .u8 rs)] (m_digest_spec Aq61 cq62 ((A252, c253, zs54) :: rs) (((A252, c253, zs54) :: rs : List Ro).length) (RowsOK.cons hp57 (by first | assumption | omega | (simp; omega)) (by first | omega | (simp; omega)) (by first | assumption | omega | (simp only [List.length_append, List.length_cons, List.length_nil, List.length_set, List.length_replicate, List.length_take, List.length_drop]; omega) | (simp only [fits] at *; omega) | (simp only [List.length_append, List.length_cons, List.length_nil, List.length_set, List.length_replicate, List.length_take, List.length_drop] at *; omega) | (simp; done) | decide)) (by first | assumption | omega | (simp only [List.length_append, List.length_cons, List.length_nil, List.length_set, List.length_replicate, List.length_take, List.length_drop]; omega) | (simp only [fits] at *; omega) | (simp only [List.length_append, List.length_cons, List.length_nil, List.length_set, List.length_replicate, List.length_take, List.length_drop] at *; omega) | (simp; done) | decide) (by simp only [cat_cons, cat_nil, List.length_append, List.length_cons, List.length_nil]; omega) (by first | rfl | assumption | omega | (simp only [List.length_append, List.length_cons, List.length_nil, List.length_set, List.length_replicate, List.length_take, List.length_drop]; omega) | (simp; done))) [] (by kernel_rfl) ((((Lend.nil _).same 5 (vws (rowsL .u8 rs)) (by kernel_rfl) rfl).rows1 1 (row 5 1 (.slice A252 zs54.length c253) zs54.length (nums .u8 zs54)) A252 c253 zs54 (by kernel_rfl) (tells_row _ _ _ _ _ _)).tells 0 (row 24 1 (.slice Aq61 (((A252, c253, zs54) :: rs : List Ro).length) cq62) (((A252, c253, zs54) :: rs : List Ro).length) (rowsV ((A252, c253, zs54) :: rs))) Aq61 (rowsV ((A252, c253, zs54) :: rs)) (by kernel_rfl) (tells_row _ _ _ _ _ _)) ?_)
    rintro _ _ ⟨A266, c267, zs68, rfl, rfl, hp69, hp70, hp71, hp72, hp73⟩
    refine RunR.sil hU [] 1 7 [4, 5, 6] [(4, .slice none 0 0), (5, .func (.func 71) #[] #[.pointer (some ⟨b3, 0, none⟩)]), (6, .slice A266 zs68.length c267)] ((True) ∧ True) rfl (by kernel_rfl) ⟨trivial, trivial⟩ ?_
    refine RunR.done (by kernel_rfl) ?_
    refine kseq_n ?_
    refine RunC.seq ?_
    refine RunC.region ?_
    refine RunR.sil hU [] 1 1 [4, 6, 19] [(4, .slice none 0 0), (6, .slice A266 zs68.length c267), (19, .func (.func 71) #[] #[.pointer (some ⟨b3, 0, none⟩)])] ((True) ∧ True) rfl (by kernel_rfl) ⟨trivial, trivial⟩ ?_
    refine RunR.step (dst := some 20) (op := .call { callee := .value (.tmp 19), args := #[.const (.int .u8 92)], argTypes := #[5] }) (by kernel_rfl) (Step.call 71 [.int .u8 92, .pointer (some ⟨b3, 0, none⟩)] (by kernel_rfl) (by kernel_rfl) [blk b3 24 [.slice A kk.length c]] [vw A (nums .u8 kk)] [row 5 1 (.slice A266 zs68.length c267) zs68.length (nums .u8 zs68), row 24 1 (.slice Aq61 (((A252, c253, zs54) :: rs : List Ro).length) cq62) (((A252, c253, zs54) :: rs : List Ro).length) (rowsV ((A252, c253, zs54) :: rs)), row 5 1 (.slice A252 zs54.length c253) zs54.length (nums .u8 zs54), vw A (nums .u8 kk), vw B (rowsV rs), vws (rowsL .u8 rs)] (m_masked_spec 92 b3 A c kk (by first | assumption | exact fits_wrap _ _ | exact fits_bits2 _ _ _ _ | (refine ⟨?_, ?_⟩ <;> omega)) hIkk (by first | assumption | omega | (simp only [List.length_append, List.length_cons, List.length_nil, List.length_set, List.length_replicate, List.length_take, List.length_drop]; omega) | (simp only [fits] at *; omega) | (simp only [List.length_append, List.length_cons, List.length_nil, List.length_set, List.length_replicate, List.length_take, List.length_drop] at *; omega) | (simp; done) | decide) (by first | assumption | omega | (simp only [List.length_append, List.length_cons, List.length_nil, List.length_set, List.length_replicate, List.length_take, List.length_drop]; omega) | (simp only [fits] at *; omega) | (simp only [List.length_append, List.length_cons, List.length_nil, List.length_set, List.length_replicate, List.length_take, List.length_drop] at *; omega) | (simp; done) | decide) (by first | assumption | omega | (simp only [List.length_append, List.length_cons, List.length_nil, List.length_set, List.length_replicate, List.length_take, List.length_drop]; omega) | (simp only [fits] at *; omega) | (simp only [List.length_append, List.length_cons, List.length_nil, List.length_set, List.length_replicate, List.length_take, List.length_drop] at *; omega) | (simp; done) | decide)) [3] (by kernel_rfl) ((Lend.nil _).tells 3 (vw A (nums .u8 kk)) A (nums .u8 kk) (by kernel_rfl) (tells_vw _ _)) ?_)
    rintro _ _ ⟨A274, c275, zs76, rfl, rfl, hp77, hp78, hp79, hp80, hp81⟩
    refine RunR.sil hU [] 1 3 [4, 20, 21] [(4, .slice none 0 0), (20, .slice A274 zs76.length c275), (21, .slice A266 zs68.length c267)] ((True) ∧ True) rfl (by kernel_rfl) ⟨trivial, trivial⟩ ?_
    refine RunR.step (dst := some 22) (op := .buildSlice 67 2 #[(0, .tmp 20), (1, .tmp 21)]) (by kernel_rfl) (Step.lit_rows hU 24 24 (.slice none 0 0) [.slice A274 zs76.length c275, .slice A266 zs68.length c267] rfl rfl (by kernel_rfl) rfl rfl (by kernel_rfl) (fun b82 => ?_))
    refine RunR.step (dst := some 23) (op := .call { callee := .value (.func 72), args := #[.tmp 22], argTypes := #[67] }) (by kernel_rfl) (Step.call 72 [.slice (some ⟨b82, 0, none⟩) 2 2] (by kernel_rfl) (by kernel_rfl) [] [vw (some ⟨b82, 0, none⟩) (rowsV ((A274, c275, zs76) :: (A266, c267, zs68) :: [])), vws (rowsL .u8 ((A274, c275, zs76) :: (A266, c267, zs68) :: []))] [row 24 1 (.slice (some ⟨b82, 0, none⟩) 2 2) 2 (rowsV ((A274, c275, zs76) :: (A266, c267, zs68) :: [])), row 5 1 (.slice A274 zs76.length c275) zs76.length (nums .u8 zs76), blk b3 24 [.slice A kk.length c], row 5 1 (.slice A266 zs68.length c267) zs68.length (nums .u8 zs68), row 24 1 (.slice Aq61 (((A252, c253, zs54) :: rs : List Ro).length) cq62) (((A252, c253, zs54) :: rs : List Ro).length) (rowsV ((A252, c253, zs54) :: rs)), row 5 1 (.slice A252 zs54.length c253) zs54.length (nums .u8 zs54), vw A (nums .u8 kk), vw B (rowsV rs), vws (rowsL .u8 rs)] (m_digest_spec (some ⟨b82, 0, none⟩) 2 ((A274, c275, zs76) :: (A266, c267, zs68) :: []) 2 (RowsOK.cons hp79 (by first | assumption | omega | (simp; omega)) (by first | omega | (simp; omega)) (RowsOK.cons hp71 (by first | assumption | omega | (simp; omega)) (by first | omega | (simp; omega)) (RowsOK.nil _))) (by first | assumption | omega | (simp only [List.length_append, List.length_cons, List.length_nil, List.length_set, List.length_replicate, List.length_take, List.length_drop]; omega) | (simp only [fits] at *; omega) | (simp only [List.length_append, List.length_cons, List.length_nil, List.length_set, List.length_replicate, List.length_take, List.length_drop] at *; omega) | (simp; done) | decide) (by simp only [cat_cons, cat_nil, List.length_append, List.length_cons, List.length_nil]; omega) (by first | rfl | assumption | omega | (simp only [List.length_append, List.length_cons, List.length_nil, List.length_set, List.length_replicate, List.length_take, List.length_drop]; omega) | (simp; done))) [] (by kernel_rfl) (((((Lend.nil _).rows0 .u8).rows1 3 (row 5 1 (.slice A266 zs68.length c267) zs68.length (nums .u8 zs68)) A266 c267 zs68 (by kernel_rfl) (tells_row _ _ _ _ _ _)).rows1 1 (row 5 1 (.slice A274 zs76.length c275) zs76.length (nums .u8 zs76)) A274 c275 zs76 (by kernel_rfl) (tells_row _ _ _ _ _ _)).tells 0 (row 24 1 (.slice (some ⟨b82, 0, none⟩) 2 2) 2 (rowsV ((A274, c275, zs76) :: (A266, c267, zs68) :: []))) (some ⟨b82, 0, none⟩) (rowsV ((A274, c275, zs76) :: (A266, c267, zs68) :: [])) (by kernel_rfl) (tells_row _ _ _ _ _ _)) ?_)
    rintro _ _ ⟨A283, c284, zs85, rfl, rfl, hp86, hp87, hp88, hp89, hp90⟩
    refine RunR.sil hU [] 1 6 [4] [(4, .slice A283 zs85.length c284)] ((True) ∧ True) rfl (by kernel_rfl) ⟨trivial, trivial⟩ ?_
    refine RunR.done (by kernel_rfl) ?_
    refine kseq_n ?_
    refine RunC.ret ?_
    refine kret_r [.slice A283 zs85.length c284] [0] [row 5 1 (.slice A283 zs85.length c284) zs85.length (nums .u8 zs85)] ⟨rfl, trivial⟩ (by kernel_rfl) rfl ⟨A283, c284, zs85, rfl, rfl, (by simp only [hp55, hp69, hp77, hp86, cat_cons, cat_nil, List.append_nil]; exact hmac_small (by omega)), (by first | rfl | assumption | omega | (simp only [List.length_append, List.length_cons, List.length_nil, List.length_set, List.length_replicate, List.length_take, List.length_drop]; omega) | (simp; done)), hp88, (by first | assumption | omega | (simp only [List.length_append, List.length_cons, List.length_nil, List.length_set, List.length_replicate, List.length_take, List.length_drop]; omega) | (simp only [fits] at *; omega) | (simp only [List.length_append, List.length_cons, List.length_nil, List.length_set, List.length_replicate, List.length_take, List.length_drop] at *; omega) | (simp; done) | decide), (fun h => hp90 (by first | exact h | (simp at h ⊢; omega)))⟩

theorem m_Extract_spec (A : Option Addr) (c : Nat) (kk : List Int) (A3 : Option Addr) (c3 : Nat) (ms : List Int) (l_kk : Nat) (l_ms : Nat) (hIkk : In .u8 kk) (hCkk : kk.length ≤ c) (hBkk : kk.length ≤ 70368744177664) (hIms : In .u8 ms) (hCms : ms.length ≤ c3) (hBms : ms.length ≤ 70368744177664) (hl_kk : kk.length = l_kk) (hl_ms : ms.length = l_ms) :
    CallsS Try.prog 25 [.slice A l_kk c, .slice A3 l_ms c3] [vw A (nums .u8 kk), vw A3 (nums .u8 ms)] (fun r D => ∃ (A2 : Option Addr) (c2 : Nat) (zs : List Int), r = .slice A2 zs.length c2 ∧ D = [row 5 1 (.slice A2 zs.length c2) zs.length (nums .u8 zs)] ∧ (zs = hmac kk ms) ∧ (zs.length = 32) ∧ (In .u8 zs) ∧ (zs.length ≤ c2) ∧ (0 < zs.length → Option.isSome A2 = true)) := by
  subst hl_kk
  subst hl_ms
  refine CallsS.enter hU Try.f25 _ [.tmp 4] 9 Try.func25 rfl (by decide) rfl rfl (by kernel_rfl) fun w0 W => ?_
  refine RunC.know (p := 0 < kk.length → Option.isSome A = true) (fun _ _ w hs => vw_some hs 0 rfl (by first | simp [nums_length]; done | exact dosV_len _)) (fun hA1 => ?_)
  refine RunC.know (p := 0 < ms.length → Option.isSome A3 = true) (fun _ _ w hs => vw_some hs 1 rfl (by first | simp [nums_length]; done | exact dosV_len _)) (fun hA2 => ?_)
  refine RunC.seq ?_
  refine RunC.region ?_
  refine RunR.sil hU [] 1 1 [0, 1, 4] [(0, .slice A kk.length c), (1, .slice A3 ms.length c3), (4, .slice none 0 0)] ((True) ∧ True) rfl (by kernel_rfl) ⟨trivial, trivial⟩ ?_
  refine RunR.done (by kernel_rfl) ?_
  refine kseq_n ?_
  refine RunC.seq ?_
  refine RunC.region ?_
  refine RunR.sil hU [] 2 2 [4, 5, 6] [(4, .slice none 0 0), (5, .slice A kk.length c), (6, .slice A3 ms.length c3)] ((True) ∧ (True) ∧ True) rfl (by kernel_rfl) ⟨trivial, trivial, trivial⟩ ?_
  refine RunR.step (dst := some 7) (op := .buildSlice 67 1 #[(0, .tmp 6)]) (by kernel_rfl) (Step.lit_rows hU 24 24 (.slice none 0 0) [.slice A3 ms.length c3] rfl rfl (by kernel_rfl) rfl rfl (by kernel_rfl) (fun b3 => ?_))
  refine RunR.step (dst := some 8) (op := .call { callee := .value (.func 48), args := #[.tmp 5, .tmp 7], argTypes := #[24, 67] }) (by kernel_rfl) (Step.call 48 [.slice A kk.length c, .slice (some ⟨b3, 0, none⟩) 1 1] (by kernel_rfl) (by kernel_rfl) [] [vw A (nums .u8 kk), vw (some ⟨b3, 0, none⟩) (rowsV ((A3, c3, ms) :: [])), vws (rowsL .u8 ((A3, c3, ms) :: []))] [row 24 1 (.slice (some ⟨b3, 0, none⟩) 1 1) 1 (rowsV ((A3, c3, ms) :: [])), vw A (nums .u8 kk), vw A3 (nums .u8 ms)] (m_code_spec A c kk (some ⟨b3, 0, none⟩) 1 ((A3, c3, ms) :: []) kk.length 1 hIkk (by first | assumption | omega | (simp only [List.length_append, List.length_cons, List.length_nil, List.length_set, List.length_replicate, List.length_take, List.length_drop]; omega) | (simp only [fits] at *; omega) | (simp only [List.length_append, List.length_cons, List.length_nil, List.length_set, List.length_replicate, List.length_take, List.length_drop] at *; omega) | (simp; done) | decide) (by first | assumption | omega | (simp only [List.length_append, List.length_cons, List.length_nil, List.length_set, List.length_replicate, List.length_take, List.length_drop]; omega) | (simp only [fits] at *; omega) | (simp only [List.length_append, List.length_cons, List.length_nil, List.length_set, List.length_replicate, List.length_take, List.length_drop] at *; omega) | (simp; done) | decide) (RowsOK.cons hIms (by first | assumption | omega | (simp; omega)) (by first | omega | (simp; omega)) (RowsOK.nil _)) (by first | assumption | omega | (simp only [List.length_append, List.length_cons, List.length_nil, List.length_set, List.length_replicate, List.length_take, List.length_drop]; omega) | (simp only [fits] at *; omega) | (simp only [List.length_append, List.length_cons, List.length_nil, List.length_set, List.length_replicate, List.length_take, List.length_drop] at *; omega) | (simp; done) | decide) (by simp only [cat_cons, cat_nil, List.length_append, List.length_cons, List.length_nil]; omega) (by first | rfl | assumption | omega | (simp only [List.length_append, List.length_cons, List.length_nil, List.length_set, List.length_replicate, List.length_take, List.length_drop]; omega) | (simp; done)) (by first | rfl | assumption | omega | (simp only [List.length_append, List.length_cons, List.length_nil, List.length_set, List.length_replicate, List.length_take, List.length_drop]; omega) | (simp; done))) [] (by kernel_rfl) (((((Lend.nil _).rows0 .u8).rows1 2 (vw A3 (nums .u8 ms)) A3 c3 ms (by kernel_rfl) (tells_vw _ _)).tells 0 (row 24 1 (.slice (some ⟨b3, 0, none⟩) 1 1) 1 (rowsV ((A3, c3, ms) :: []))) (some ⟨b3, 0, none⟩) (rowsV ((A3, c3, ms) :: [])) (by kernel_rfl) (tells_row _ _ _ _ _ _)).tells 1 (vw A (nums .u8 kk)) A (nums .u8 kk) (by kernel_rfl) (tells_vw _ _)) ?_)
  rintro _ _ ⟨A24, c25, zs6, rfl, rfl, hp7, hp8, hp9, hp10, hp11⟩
  refine RunR.sil hU [] 1 5 [4] [(4, .slice A24 zs6.length c25)] ((True) ∧ True) rfl (by kernel_rfl) ⟨trivial, trivial⟩ ?_
  refine RunR.done (by kernel_rfl) ?_
  refine kseq_n ?_
  refine RunC.ret ?_
  refine kret_r [.slice A24 zs6.length c25] [0] [row 5 1 (.slice A24 zs6.length c25) zs6.length (nums .u8 zs6)] ⟨rfl, trivial⟩ (by kernel_rfl) rfl ⟨A24, c25, zs6, rfl, rfl, (by simp only [hp7, cat_cons, cat_nil, List.append_nil]), (by first | rfl | assumption | omega | (simp only [List.length_append, List.length_cons, List.length_nil, List.length_set, List.length_replicate, List.length_take, List.length_drop]; omega) | (simp; done)), hp9, (by first | assumption | omega | (simp only [List.length_append, List.length_cons, List.length_nil, List.length_set, List.length_replicate, List.length_take, List.length_drop]; omega) | (simp only [fits] at *; omega) | (simp only [List.length_append, List.length_cons, List.length_nil, List.length_set, List.length_replicate, List.length_take, List.length_drop] at *; omega) | (simp; done) | decide), (fun h => hp11 (by first | exact h | (simp at h ⊢; omega)))⟩

theorem m_Expand_spec (A : Option Addr) (c : Nat) (kk : List Int) (A3 : Option Addr) (c3 : Nat) (ms : List Int) (n : Int) (l_kk : Nat) (l_ms : Nat) (hIkk : In .u8 kk) (hCkk : kk.length ≤ c) (hBkk : kk.length ≤ 70368744177664) (hIms : In .u8 ms) (hCms : ms.length ≤ c3) (hBms : ms.length ≤ 35184372088832) (hn : fits .i64 n) (hl_kk : kk.length = l_kk) (hl_ms : ms.length = l_ms) :
    CallsS Try.prog 24 [.slice A l_kk c, .slice A3 l_ms c3, .int .i64 n] [vw A (nums .u8 kk), vw A3 (nums .u8 ms)] (fun r D => ∃ (A2 : Option Addr) (c2 : Nat) (N : Nat) (ws : List Int) (zs : List Int) (e : Int), r = .tuple #[.slice A2 zs.length zs.length, .int .i64 e] ∧ D = [row 5 1 (.slice A2 N c2) N (nums .u8 ws)] ∧ (Said n e zs) ∧ (e = 0 → zs = expand kk ms n.toNat) ∧ (In .u8 zs) ∧ (zs = ws.take zs.length)) := by
  subst hl_kk
  subst hl_ms
  refine CallsS.enter hU Try.f24 _ [.tmp 6, .tmp 7] 38 Try.func24 rfl (by decide) rfl rfl (by kernel_rfl) fun w0 W => ?_
  have hn2 := hn; simp only [fits] at hn2
  refine RunC.know (p := 0 < kk.length → Option.isSome A = true) (fun _ _ w hs => vw_some hs 0 rfl (by first | simp [nums_length]; done | exact dosV_len _)) (fun hA1 => ?_)
  refine RunC.know (p := 0 < ms.length → Option.isSome A3 = true) (fun _ _ w hs => vw_some hs 1 rfl (by first | simp [nums_length]; done | exact dosV_len _)) (fun hA2 => ?_)
  refine RunC.seq ?_
  refine RunC.region ?_
  refine RunR.sil hU [] 2 2 [0, 1, 2, 6, 7] [(0, .slice A kk.length c), (1, .slice A3 ms.length c3), (2, .int .i64 n), (6, .slice none 0 0), (7, .int .i64 0)] ((True) ∧ (True) ∧ True) rfl (by kernel_rfl) ⟨trivial, trivial, trivial⟩ ?_
  refine RunR.done (by kernel_rfl) ?_
  refine kseq_n ?_
  refine RunC.seq ?_
  refine RunC.seq ?_
  refine RunC.region ?_
  refine RunR.sil hU [] 3 3 [0, 1, 2, 6, 7, 13] [(0, .slice A kk.length c), (1, .slice A3 ms.length c3), (2, .int .i64 n), (6, .slice none 0 0), (7, .int .i64 0), (13, .bool (decide (n < 0)))] ((True) ∧ (True) ∧ (True) ∧ True) rfl (by kernel_rfl) ⟨trivial, trivial, trivial, trivial⟩ ?_
  refine RunR.env [0, 1, 2, 6, 7, 13] [(0, .slice A kk.length c), (1, .slice A3 ms.length c3), (2, .int .i64 n), (6, .slice none 0 0), (7, .int .i64 0), (13, .bool (decide (n < 0)))] (by kernel_rfl) ?_
  by_cases h3 : n < 0
  · skip
    refine RunR.enveq [(0, .slice A kk.length c), (1, .slice A3 ms.length c3), (2, .int .i64 n), (6, .slice none 0 0), (7, .int .i64 0), (13, .bool true)] (by rw [decide_eq_true h3]; try rfl) ?_
    refine RunR.sil hU [] 3 6 [0, 1, 2, 6, 7, 16] [(0, .slice A kk.length c), (1, .slice A3 ms.length c3), (2, .int .i64 n), (6, .slice none 0 0), (7, .int .i64 0), (16, .bool true)] ((True) ∧ True) rfl (by kernel_rfl) ⟨trivial, trivial⟩ ?_
    refine RunR.done (by kernel_rfl) ?_
    refine kseq_n ?_
    refine RunC.cond (b := true) (by kernel_rfl) (fun _ => ?_) (fun h => by cases h)
    refine RunC.seq ?_
    refine RunC.region ?_
    refine RunR.sil hU [] 2 2 [0, 1, 2, 6, 7] [(0, .slice A kk.length c), (1, .slice A3 ms.length c3), (2, .int .i64 n), (6, .slice none 0 0), (7, .int .i64 1)] ((True) ∧ (True) ∧ True) rfl (by kernel_rfl) ⟨trivial, trivial, trivial⟩ ?_
    refine RunR.done (by kernel_rfl) ?_
    refine kseq_n ?_
    refine RunC.ret ?_
    refine kseq_r ?_
    refine kret_rt ([row 5 1 (.slice none 0 0) 0 (nums .u8 ([] : List Int)), vw A (nums .u8 kk), vw A3 (nums .u8 ms)]) (fun w0 W w hs => hs.nil_row 5 1) [.slice none 0 0, .int .i64 1] [0] [row 5 1 (.slice none 0 0) 0 (nums .u8 ([] : List Int))] ⟨rfl, rfl, trivial⟩ (by kernel_rfl) rfl ⟨none, 0, 0, ([] : List Int), [], 1, rfl, rfl, (by exact .inr ⟨by omega, rfl, rfl⟩), (by intro h; cases h), (by exact In.nil _), (by rfl)⟩
  · skip
    refine RunR.enveq [(0, .slice A kk.length c), (1, .slice A3 ms.length c3), (2, .int .i64 n), (6, .slice none 0 0), (7, .int .i64 0), (13, .bool false)] (by rw [decide_eq_false h3]; try rfl) ?_
    refine RunR.sil hU [] 3 6 [0, 1, 2, 6, 7, 16] [(0, .slice A kk.length c), (1, .slice A3 ms.length c3), (2, .int .i64 n), (6, .slice none 0 0), (7, .int .i64 0), (16, .bool (decide (n > 8160)))] ((True) ∧ (True) ∧ (True) ∧ True) rfl (by kernel_rfl) ⟨trivial, trivial, trivial, trivial⟩ ?_
    refine RunR.done (by kernel_rfl) ?_
    refine kseq_n ?_
    refine RunC.condp (n > 8160) (by kernel_rfl) (fun h4 => ?_) (fun h4 => ?_)
    · skip
      refine RunC.seq ?_
      refine RunC.region ?_
      refine RunR.sil hU [] 2 2 [0, 1, 2, 6, 7] [(0, .slice A kk.length c), (1, .slice A3 ms.length c3), (2, .int .i64 n), (6, .slice none 0 0), (7, .int .i64 1)] ((True) ∧ (True) ∧ True) rfl (by kernel_rfl) ⟨trivial, trivial, trivial⟩ ?_
      refine RunR.done (by kernel_rfl) ?_
      refine kseq_n ?_
      refine RunC.ret ?_
      refine kseq_r ?_
      refine kret_rt ([row 5 1 (.slice none 0 0) 0 (nums .u8 ([] : List Int)), vw A (nums .u8 kk), vw A3 (nums .u8 ms)]) (fun w0 W w hs => hs.nil_row 5 1) [.slice none 0 0, .int .i64 1] [0] [row 5 1 (.slice none 0 0) 0 (nums .u8 ([] : List Int))] ⟨rfl, rfl, trivial⟩ (by kernel_rfl) rfl ⟨none, 0, 0, ([] : List Int), [], 1, rfl, rfl, (by exact .inr ⟨by omega, rfl, rfl⟩), (by intro h; cases h), (by exact In.nil _), (by rfl)⟩
    · skip
      refine RunC.skip ?_
      refine kseq_n ?_
      refine RunC.seq ?_
      refine RunC.region ?_
      refine RunR.sil hU [] 2 2 [0, 1, 2, 6, 7, 8, 9] [(0, .slice A kk.length c), (1, .slice A3 ms.length c3), (2, .int .i64 n), (6, .slice none 0 0), (7, .int .i64 0), (8, .slice none 0 0), (9, .slice none 0 0)] ((True) ∧ (True) ∧ True) rfl (by kernel_rfl) ⟨trivial, trivial, trivial⟩ ?_
      refine RunR.done (by kernel_rfl) ?_
      refine kseq_n ?_
      refine RunC.seq ?_
      refine RunC.seq ?_
      refine RunC.region ?_
      refine RunR.sil hU [] 1 1 [0, 1, 2, 6, 7, 8, 9, 10] [(0, .slice A kk.length c), (1, .slice A3 ms.length c3), (2, .int .i64 n), (6, .slice none 0 0), (7, .int .i64 0), (8, .slice none 0 0), (9, .slice none 0 0), (10, .int .i64 1)] ((True) ∧ True) rfl (by kernel_rfl) ⟨trivial, trivial⟩ ?_
      refine RunR.done (by kernel_rfl) ?_
      refine kseq_n ?_
      refine RunC.block ?_
      refine RunC.turn ([row 5 1 (.slice none 0 0) 0 (nums .u8 ([] : List Int)), vw A (nums .u8 kk), vw A3 (nums .u8 ms)]) (fun _ _ w hs => hs.nil_row 5 1) ?_
      refine RunC.turn ([row 5 1 (.slice none 0 0) 0 (nums .u8 ([] : List Int)), row 5 1 (.slice none 0 0) 0 (nums .u8 ([] : List Int)), vw A (nums .u8 kk), vw A3 (nums .u8 ms)]) (fun _ _ w hs => hs.nil_row 5 1) ?_
      refine RunC.env [0, 1, 2, 6, 7, 8, 9, 10] [(0, .slice A kk.length c), (1, .slice A3 ms.length c3), (2, .int .i64 n), (6, .slice none 0 0), (7, .int .i64 0), (8, .slice none 0 0), (9, .slice none 0 0), (10, .int .i64 1)] (by kernel_rfl) ?_
      refine RunC.only [0, 0, 0, 0] [row 5 1 (.slice none 0 0) 0 (nums .u8 ([] : List Int)), row 5 1 (.slice none 0 0) 0 (nums .u8 ([] : List Int)), vw A (nums .u8 kk), vw A3 (nums .u8 ms)] (by kernel_rfl) ?_
      refine RunC.loop (σ := Nat) (fun n_ t_ D_ => ∃ (i : Int) (os : List Int) (A4 : Option Addr) (c4 : Nat) (ls : List Int) (A5 : Option Addr) (c5 : Nat), (1 ≤ i) ∧ (os = long kk ms (i - 1).toNat) ∧ (os.length = 32 * (i - 1).toNat) ∧ (os.length < n + 32) ∧ (ls = rows kk ms (i - 1).toNat) ∧ (ls.length ≤ 32) ∧ (In .u8 os) ∧ (os.length ≤ c4) ∧ (0 < os.length → Option.isSome A4 = true) ∧ (In .u8 ls) ∧ (ls.length ≤ c5) ∧ (0 < ls.length → Option.isSome A5 = true) ∧ n_ = ((n + 32 - 32 * i).toNat : Nat) ∧ t_ = [(0, .slice A kk.length c), (1, .slice A3 ms.length c3), (2, .int .i64 n), (6, .slice none 0 0), (7, .int .i64 0), (8, .slice A4 os.length c4), (9, .slice A5 ls.length c5), (10, .int .i64 i)] ∧ D_ = [row 5 1 (.slice A4 os.length c4) os.length (nums .u8 os), row 5 1 (.slice A5 ls.length c5) ls.length (nums .u8 ls), vw A (nums .u8 kk), vw A3 (nums .u8 ms)]) id _ ⟨1, ([] : List Int), none, 0, ([] : List Int), none, 0, (by first | assumption | omega | (simp only [List.length_append, List.length_cons, List.length_nil, List.length_set, List.length_replicate, List.length_take, List.length_drop]; omega) | (simp only [fits] at *; omega) | (simp only [List.length_append, List.length_cons, List.length_nil, List.length_set, List.length_replicate, List.length_take, List.length_drop] at *; omega) | (simp; done) | decide), (by rfl), (by rfl), (by simp only [List.length_nil]; omega), (by rfl), (by exact Nat.zero_le _), (by exact In.nil _), (by exact Nat.zero_le _), (by intro h; simp at h), (by exact In.nil _), (by exact Nat.zero_le _), (by intro h; simp at h), rfl, rfl, rfl⟩ ?_
      rintro n_ _ _ ⟨i, os, A4, c4, ls, A5, c5, hi, ho, hol, hon, hl, hll, hios, hcos, hAos, hils, hcls, hAls, rfl, rfl, rfl⟩
      refine RunC.seq ?_
      refine RunC.seq ?_
      refine RunC.region ?_
      refine RunR.sil hU [] 4 4 [0, 1, 2, 6, 7, 8, 9, 10, 20] [(0, .slice A kk.length c), (1, .slice A3 ms.length c3), (2, .int .i64 n), (6, .slice none 0 0), (7, .int .i64 0), (8, .slice A4 os.length c4), (9, .slice A5 ls.length c5), (10, .int .i64 i), (20, .bool (decide (((os.length : Nat) : Int) < n)))] ((True) ∧ (True) ∧ (True) ∧ (True) ∧ True) rfl (by kernel_rfl) ⟨trivial, trivial, trivial, trivial, trivial⟩ ?_
      refine RunR.done (by kernel_rfl) ?_
      refine kseq_n ?_
      refine RunC.condp (((os.length : Nat) : Int) < n) (by kernel_rfl) (fun h5 => ?_) (fun h5 => ?_)
      · skip
        refine RunC.skip ?_
        refine kseq_n ?_
        refine RunC.seq ?_
        refine RunC.block ?_
        refine RunC.seq ?_
        refine RunC.region ?_
        refine RunR.sil hU [] 5 5 [0, 1, 2, 6, 7, 8, 9, 10, 23, 24, 25, 27] [(0, .slice A kk.length c), (1, .slice A3 ms.length c3), (2, .int .i64 n), (6, .slice none 0 0), (7, .int .i64 0), (8, .slice A4 os.length c4), (9, .slice A5 ls.length c5), (10, .int .i64 i), (23, .slice A kk.length c), (24, .slice A5 ls.length c5), (25, .slice A3 ms.length c3), (27, .int .u8 (IntKind.wrap .u8 i))] ((True) ∧ (True) ∧ (True) ∧ (True) ∧ (True) ∧ True) rfl (by kernel_rfl) ⟨trivial, trivial, trivial, trivial, trivial, trivial⟩ ?_
        refine RunR.step (dst := some 28) (op := .buildSlice 24 1 #[(0, .tmp 27)]) (by kernel_rfl) (Step.lit_nums hU 5 1 .u8 (.int .u8 0) ([IntKind.wrap .u8 i] : List Int) rfl rfl (by kernel_rfl) rfl rfl (by kernel_rfl) (fun b6 => ?_))
        have hl7 : (([IntKind.wrap .u8 i] : List Int)).length = 1 := rfl
        refine RunR.step (dst := some 29) (op := .buildSlice 67 3 #[(0, .tmp 24), (1, .tmp 25), (2, .tmp 28)]) (by kernel_rfl) (Step.lit_rows hU 24 24 (.slice none 0 0) [.slice A5 ls.length c5, .slice A3 ms.length c3, .slice (some ⟨b6, 0, none⟩) 1 1] rfl rfl (by kernel_rfl) rfl rfl (by kernel_rfl) (fun b8 => ?_))
        refine RunR.step (dst := some 30) (op := .call { callee := .value (.func 48), args := #[.tmp 23, .tmp 29], argTypes := #[24, 67] }) (by kernel_rfl) (Step.call 48 [.slice A kk.length c, .slice (some ⟨b8, 0, none⟩) 3 3] (by kernel_rfl) (by kernel_rfl) [] [vw A (nums .u8 kk), vw (some ⟨b8, 0, none⟩) (rowsV ((A5, c5, ls) :: (A3, c3, ms) :: (some ⟨b6, 0, none⟩, 1, ([IntKind.wrap .u8 i] : List Int)) :: [])), vws (rowsL .u8 ((A5, c5, ls) :: (A3, c3, ms) :: (some ⟨b6, 0, none⟩, 1, ([IntKind.wrap .u8 i] : List Int)) :: []))] [row 24 1 (.slice (some ⟨b8, 0, none⟩) 3 3) 3 (rowsV ((A5, c5, ls) :: (A3, c3, ms) :: (some ⟨b6, 0, none⟩, 1, ([IntKind.wrap .u8 i] : List Int)) :: [])), row 5 1 (.slice (some ⟨b6, 0, none⟩) 1 1) 1 (nums .u8 ([IntKind.wrap .u8 i] : List Int)), row 5 1 (.slice A4 os.length c4) os.length (nums .u8 os), row 5 1 (.slice A5 ls.length c5) ls.length (nums .u8 ls), vw A (nums .u8 kk), vw A3 (nums .u8 ms)] (m_code_spec A c kk (some ⟨b8, 0, none⟩) 3 ((A5, c5, ls) :: (A3, c3, ms) :: (some ⟨b6, 0, none⟩, 1, ([IntKind.wrap .u8 i] : List Int)) :: []) kk.length 3 hIkk (by first | assumption | omega | (simp only [List.length_append, List.length_cons, List.length_nil, List.length_set, List.length_replicate, List.length_take, List.length_drop]; omega) | (simp only [fits] at *; omega) | (simp only [List.length_append, List.length_cons, List.length_nil, List.length_set, List.length_replicate, List.length_take, List.length_drop] at *; omega) | (simp; done) | decide) (by first | assumption | omega | (simp only [List.length_append, List.length_cons, List.length_nil, List.length_set, List.length_replicate, List.length_take, List.length_drop]; omega) | (simp only [fits] at *; omega) | (simp only [List.length_append, List.length_cons, List.length_nil, List.length_set, List.length_replicate, List.length_take, List.length_drop] at *; omega) | (simp; done) | decide) (RowsOK.cons hils (by first | assumption | omega | (simp; omega)) (by first | omega | (simp; omega)) (RowsOK.cons hIms (by first | assumption | omega | (simp; omega)) (by first | omega | (simp; omega)) (RowsOK.cons (by (repeat first | assumption | (simp only [fits]; omega) | with_reducible first | exact fits_wrap _ _ | exact fits_bits2 _ _ _ _ | exact In.nil _ | exact In.sb _ | exact In.replicate _ _ | apply In.append | apply In.cons | apply In.set | apply In.take | apply In.drop | apply In.rev)) (by first | assumption | omega | (simp; omega)) (by first | omega | (simp; omega)) (RowsOK.nil _)))) (by first | assumption | omega | (simp only [List.length_append, List.length_cons, List.length_nil, List.length_set, List.length_replicate, List.length_take, List.length_drop]; omega) | (simp only [fits] at *; omega) | (simp only [List.length_append, List.length_cons, List.length_nil, List.length_set, List.length_replicate, List.length_take, List.length_drop] at *; omega) | (simp; done) | decide) (by simp only [cat_cons, cat_nil, List.length_append, List.length_cons, List.length_nil]; omega) (by first | rfl | assumption | omega | (simp only [List.length_append, List.length_cons, List.length_nil, List.length_set, List.length_replicate, List.length_take, List.length_drop]; omega) | (simp; done)) (by first | rfl | assumption | omega | (simp only [List.length_append, List.length_cons, List.length_nil, List.length_set, List.length_replicate, List.length_take, List.length_drop]; omega) | (simp; done))) [] (by kernel_rfl) (((((((Lend.nil _).rows0 .u8).rows1 1 (row 5 1 (.slice (some ⟨b6, 0, none⟩) 1 1) 1 (nums .u8 ([IntKind.wrap .u8 i] : List Int))) (some ⟨b6, 0, none⟩) 1 ([IntKind.wrap .u8 i] : List Int) (by kernel_rfl) (tells_row _ _ _ _ _ _)).rows1 5 (vw A3 (nums .u8 ms)) A3 c3 ms (by kernel_rfl) (tells_vw _ _)).rows1 3 (row 5 1 (.slice A5 ls.length c5) ls.length (nums .u8 ls)) A5 c5 ls (by kernel_rfl) (tells_row _ _ _ _ _ _)).tells 0 (row 24 1 (.slice (some ⟨b8, 0, none⟩) 3 3) 3 (rowsV ((A5, c5, ls) :: (A3, c3, ms) :: (some ⟨b6, 0, none⟩, 1, ([IntKind.wrap .u8 i] : List Int)) :: []))) (some ⟨b8, 0, none⟩) (rowsV ((A5, c5, ls) :: (A3, c3, ms) :: (some ⟨b6, 0, none⟩, 1, ([IntKind.wrap .u8 i] : List Int)) :: [])) (by kernel_rfl) (tells_row _ _ _ _ _ _)).tells 4 (vw A (nums .u8 kk)) A (nums .u8 kk) (by kernel_rfl) (tells_vw _ _)) ?_)
        rintro _ _ ⟨A29, c210, zs11, rfl, rfl, hp12, hp13, hp14, hp15, hp16⟩
        refine RunR.sil hU [] 1 9 [0, 1, 2, 6, 7, 8, 9, 10] [(0, .slice A kk.length c), (1, .slice A3 ms.length c3), (2, .int .i64 n), (6, .slice none 0 0), (7, .int .i64 0), (8, .slice A4 os.length c4), (9, .slice A29 zs11.length c210), (10, .int .i64 i)] ((True) ∧ True) rfl (by kernel_rfl) ⟨trivial, trivial⟩ ?_
        refine RunR.done (by kernel_rfl) ?_
        refine kseq_n ?_
        refine RunC.region ?_
        refine RunR.sil hU [] 2 2 [0, 1, 2, 6, 7, 8, 9, 10, 31, 32] [(0, .slice A kk.length c), (1, .slice A3 ms.length c3), (2, .int .i64 n), (6, .slice none 0 0), (7, .int .i64 0), (8, .slice A4 os.length c4), (9, .slice A29 zs11.length c210), (10, .int .i64 i), (31, .slice A4 os.length c4), (32, .slice A29 zs11.length c210)] ((True) ∧ (True) ∧ True) rfl (by kernel_rfl) ⟨trivial, trivial, trivial⟩ ?_
        refine RunR.step (dst := some 33) (op := .call { callee := .builtin .append, args := #[.tmp 31, .tmp 32], argTypes := #[24, 24] }) (by kernel_rfl) (Step.append_nums hU 5 1 (.int .u8 0) .u8 3 0 A4 os.length c4 os A29 zs11.length c210 (row 5 1 (.slice A29 zs11.length c210) zs11.length (nums .u8 zs11)) zs11 rfl rfl rfl (by kernel_rfl) (by kernel_rfl) (by kernel_rfl) (by kernel_rfl) (tells_row _ _ _ _ _ _) (by first | rfl | omega | (simp; omega)) (by first | rfl | omega | (simp; omega)) (by omega) (by omega) (by kernel_rfl) (fun Aq17 cq18 hc19 hA20 => ?_))
        have hl21 : (os ++ zs11).length = os.length + zs11.length := List.length_append
        refine RunR.sil hU [] 1 4 [0, 1, 2, 6, 7, 8, 9, 10] [(0, .slice A kk.length c), (1, .slice A3 ms.length c3), (2, .int .i64 n), (6, .slice none 0 0), (7, .int .i64 0), (8, .slice Aq17 ((os ++ zs11).length) cq18), (9, .slice A29 zs11.length c210), (10, .int .i64 i)] ((True) ∧ True) rfl (by kernel_rfl) ⟨trivial, trivial⟩ ?_
        refine RunR.done (by kernel_rfl) ?_
        refine kblock_n ?_
        refine kseq_n ?_
        refine RunC.region ?_
        refine RunR.sil hU [1] 3 3 [0, 1, 2, 6, 7, 8, 9, 10] [(0, .slice A kk.length c), (1, .slice A3 ms.length c3), (2, .int .i64 n), (6, .slice none 0 0), (7, .int .i64 0), (8, .slice Aq17 ((os ++ zs11).length) cq18), (9, .slice A29 zs11.length c210), (10, .int .i64 (i + 1))] ((True) ∧ (-9223372036854775808 ≤ (i + 1) ∧ (i + 1) < 9223372036854775808) ∧ (True) ∧ True) rfl (by kernel_rfl) ⟨trivial, (by omega), trivial, trivial⟩ ?_
        refine RunR.done (by kernel_rfl) ?_
        refine kloop_n _ [0, 1, 2, 6, 7, 8, 9, 10] [0, 0, 3, 3] [(0, .slice A kk.length c), (1, .slice A3 ms.length c3), (2, .int .i64 n), (6, .slice none 0 0), (7, .int .i64 0), (8, .slice Aq17 ((os ++ zs11).length) cq18), (9, .slice A29 zs11.length c210), (10, .int .i64 (i + 1))] [row 5 1 (.slice Aq17 ((os ++ zs11).length) cq18) ((os ++ zs11).length) (nums .u8 (os ++ zs11)), row 5 1 (.slice A29 zs11.length c210) zs11.length (nums .u8 zs11), vw A (nums .u8 kk), vw A3 (nums .u8 ms)] (by kernel_rfl) (by kernel_rfl) ?_ ⟨(i + 1), (os ++ zs11), Aq17, cq18, zs11, A29, c210, (by first | assumption | omega | (simp only [List.length_append, List.length_cons, List.length_nil, List.length_set, List.length_replicate, List.length_take, List.length_drop]; omega) | (simp only [fits] at *; omega) | (simp only [List.length_append, List.length_cons, List.length_nil, List.length_set, List.length_replicate, List.length_take, List.length_drop] at *; omega) | (simp; done) | decide), (by exact long_step hi ho (rows_step hi hl (by simp only [hp12, cat_cons, cat_nil, List.append_nil, List.append_assoc]))), (by first | rfl | assumption | omega | (simp only [List.length_append, List.length_cons, List.length_nil, List.length_set, List.length_replicate, List.length_take, List.length_drop]; omega) | (simp; done)), (by first | assumption | omega | (simp only [List.length_append, List.length_cons, List.length_nil, List.length_set, List.length_replicate, List.length_take, List.length_drop]; omega) | (simp only [fits] at *; omega) | (simp only [List.length_append, List.length_cons, List.length_nil, List.length_set, List.length_replicate, List.length_take, List.length_drop] at *; omega) | (simp; done) | decide), (by exact rows_step hi hl (by simp only [hp12, cat_cons, cat_nil, List.append_nil, List.append_assoc])), (by first | assumption | omega | (simp only [List.length_append, List.length_cons, List.length_nil, List.length_set, List.length_replicate, List.length_take, List.length_drop]; omega) | (simp only [fits] at *; omega) | (simp only [List.length_append, List.length_cons, List.length_nil, List.length_set, List.length_replicate, List.length_take, List.length_drop] at *; omega) | (simp; done) | decide), (by (repeat first | assumption | (simp only [fits]; omega) | with_reducible first | exact fits_wrap _ _ | exact fits_bits2 _ _ _ _ | exact In.nil _ | exact In.sb _ | exact In.replicate _ _ | apply In.append | apply In.cons | apply In.set | apply In.take | apply In.drop | apply In.rev)), (by first | assumption | omega | (simp only [List.length_append, List.length_cons, List.length_nil, List.length_set, List.length_replicate, List.length_take, List.length_drop]; omega) | (simp only [fits] at *; omega) | (simp only [List.length_append, List.length_cons, List.length_nil, List.length_set, List.length_replicate, List.length_take, List.length_drop] at *; omega) | (simp; done) | decide), (fun h => hA20 (by first | exact h | (simp at h ⊢; omega))), hp14, (by first | assumption | omega | (simp only [List.length_append, List.length_cons, List.length_nil, List.length_set, List.length_replicate, List.length_take, List.length_drop]; omega) | (simp only [fits] at *; omega) | (simp only [List.length_append, List.length_cons, List.length_nil, List.length_set, List.length_replicate, List.length_take, List.length_drop] at *; omega) | (simp; done) | decide), (fun h => hp16 (by first | exact h | (simp at h ⊢; omega))), rfl, (by first | rfl | simp only [List.length_set]), (by first | rfl | simp only [List.length_set])⟩
        show ((n + 32 - 32 * (i + 1)).toNat : Nat) < ((n + 32 - 32 * i).toNat : Nat)
        omega
      · skip
        refine RunC.exit ?_
        refine kseq_e ?_
        refine kloop_e ?_
        refine kblock_e ?_
        refine kseq_n ?_
        refine RunC.seq ?_
        refine RunC.region ?_
        refine RunR.sil hU [] 6 6 [6, 7] [(6, .slice A4 ((n).toNat) ((n).toNat)), (7, .int .i64 0)] ((True) ∧ (True) ∧ (True) ∧ (0 ≤ n ∧ n ≤ n ∧ n ≤ ((c4 : Nat) : Int)) ∧ (True) ∧ (True) ∧ True) rfl (by kernel_rfl) ⟨trivial, trivial, trivial, (by omega), trivial, trivial, trivial⟩ ?_
        refine RunR.done (by kernel_rfl) ?_
        refine kseq_n ?_
        refine RunC.ret ?_
        refine kret_r [.slice A4 ((n).toNat) ((n).toNat), .int .i64 0] [0] [row 5 1 (.slice A4 os.length c4) os.length (nums .u8 os)] ⟨rfl, rfl, trivial⟩ (by kernel_rfl) rfl ⟨A4, c4, os.length, os, (os.take n.toNat), 0, (by first | rfl | (rw [(show (os.take n.toNat).length = n.toNat by rw [List.length_take]; omega)]; rfl)), (by first | rfl | (rw [(show (os.take n.toNat).length = n.toNat by rw [List.length_take]; omega)]; rfl)), (by exact .inl ⟨by omega, by omega, rfl, by rw [List.length_take]; omega⟩), (by intro _; exact long_end ho (by omega) (by omega) (by omega)), (by exact hios.take _), (by rw [(show (os.take n.toNat).length = n.toNat by rw [List.length_take]; omega)])⟩

theorem m_Derive_spec (A : Option Addr) (c : Nat) (kk : List Int) (A6 : Option Addr) (c6 : Nat) (ss : List Int) (A3 : Option Addr) (c3 : Nat) (ms : List Int) (n : Int) (l_kk : Nat) (l_ss : Nat) (l_ms : Nat) (hIkk : In .u8 kk) (hCkk : kk.length ≤ c) (hBkk : kk.length ≤ 70368744177664) (hIss : In .u8 ss) (hCss : ss.length ≤ c6) (hBss : ss.length ≤ 70368744177664) (hIms : In .u8 ms) (hCms : ms.length ≤ c3) (hBms : ms.length ≤ 35184372088832) (hn : fits .i64 n) (hl_kk : kk.length = l_kk) (hl_ss : ss.length = l_ss) (hl_ms : ms.length = l_ms) :
    CallsS Try.prog 11 [.slice A l_kk c, .slice A6 l_ss c6, .slice A3 l_ms c3, .int .i64 n] [vw A (nums .u8 kk), vw A6 (nums .u8 ss), vw A3 (nums .u8 ms)] (fun r D => ∃ (A2 : Option Addr) (c2 : Nat) (N : Nat) (ws : List Int) (zs : List Int) (e : Int), r = .tuple #[.slice A2 zs.length zs.length, .int .i64 e] ∧ D = [row 5 1 (.slice A2 N c2) N (nums .u8 ws)] ∧ (Said n e zs) ∧ (e = 0 → zs = expand (hmac ss kk) ms n.toNat) ∧ (In .u8 zs) ∧ (zs = ws.take zs.length)) := by
  subst hl_kk
  subst hl_ss
  subst hl_ms
  refine CallsS.enter hU Try.f11 _ [.tmp 8, .tmp 9] 18 Try.func11 rfl (by decide) rfl rfl (by kernel_rfl) fun w0 W => ?_
  refine RunC.know (p := 0 < kk.length → Option.isSome A = true) (fun _ _ w hs => vw_some hs 0 rfl (by first | simp [nums_length]; done | exact dosV_len _)) (fun hA1 => ?_)
  refine RunC.know (p := 0 < ss.length → Option.isSome A6 = true) (fun _ _ w hs => vw_some hs 1 rfl (by first | simp [nums_length]; done | exact dosV_len _)) (fun hA2 => ?_)
  refine RunC.know (p := 0 < ms.length → Option.isSome A3 = true) (fun _ _ w hs => vw_some hs 2 rfl (by first | simp [nums_length]; done | exact dosV_len _)) (fun hA3 => ?_)
  refine RunC.seq ?_
  refine RunC.region ?_
  refine RunR.sil hU [] 2 2 [0, 1, 2, 3, 8, 9] [(0, .slice A kk.length c), (1, .slice A6 ss.length c6), (2, .slice A3 ms.length c3), (3, .int .i64 n), (8, .slice none 0 0), (9, .int .i64 0)] ((True) ∧ (True) ∧ True) rfl (by kernel_rfl) ⟨trivial, trivial, trivial⟩ ?_
  refine RunR.done (by kernel_rfl) ?_
  refine kseq_n ?_
  refine RunC.seq ?_
  refine RunC.region ?_
  refine RunR.sil hU [] 2 2 [2, 3, 8, 9, 10, 11] [(2, .slice A3 ms.length c3), (3, .int .i64 n), (8, .slice none 0 0), (9, .int .i64 0), (10, .slice A6 ss.length c6), (11, .slice A kk.length c)] ((True) ∧ (True) ∧ True) rfl (by kernel_rfl) ⟨trivial, trivial, trivial⟩ ?_
  refine RunR.step (dst := some 12) (op := .call { callee := .value (.func 25), args := #[.tmp 10, .tmp 11], argTypes := #[24, 24] }) (by kernel_rfl) (Step.call 25 [.slice A6 ss.length c6, .slice A kk.length c] (by kernel_rfl) (by kernel_rfl) [] [vw A6 (nums .u8 ss), vw A (nums .u8 kk)] [vw A (nums .u8 kk), vw A6 (nums .u8 ss), vw A3 (nums .u8 ms)] (m_Extract_spec A6 c6 ss A c kk ss.length kk.length hIss (by first | assumption | omega | (simp only [List.length_append, List.length_cons, List.length_nil, List.length_set, List.length_replicate, List.length_take, List.length_drop]; omega) | (simp only [fits] at *; omega) | (simp only [List.length_append, List.length_cons, List.length_nil, List.length_set, List.length_replicate, List.length_take, List.length_drop] at *; omega) | (simp; done) | decide) (by first | assumption | omega | (simp only [List.length_append, List.length_cons, List.length_nil, List.length_set, List.length_replicate, List.length_take, List.length_drop]; omega) | (simp only [fits] at *; omega) | (simp only [List.length_append, List.length_cons, List.length_nil, List.length_set, List.length_replicate, List.length_take, List.length_drop] at *; omega) | (simp; done) | decide) hIkk (by first | assumption | omega | (simp only [List.length_append, List.length_cons, List.length_nil, List.length_set, List.length_replicate, List.length_take, List.length_drop]; omega) | (simp only [fits] at *; omega) | (simp only [List.length_append, List.length_cons, List.length_nil, List.length_set, List.length_replicate, List.length_take, List.length_drop] at *; omega) | (simp; done) | decide) (by first | assumption | omega | (simp only [List.length_append, List.length_cons, List.length_nil, List.length_set, List.length_replicate, List.length_take, List.length_drop]; omega) | (simp only [fits] at *; omega) | (simp only [List.length_append, List.length_cons, List.length_nil, List.length_set, List.length_replicate, List.length_take, List.length_drop] at *; omega) | (simp; done) | decide) (by first | rfl | assumption | omega | (simp only [List.length_append, List.length_cons, List.length_nil, List.length_set, List.length_replicate, List.length_take, List.length_drop]; omega) | (simp; done)) (by first | rfl | assumption | omega | (simp only [List.length_append, List.length_cons, List.length_nil, List.length_set, List.length_replicate, List.length_take, List.length_drop]; omega) | (simp; done))) [] (by kernel_rfl) (((Lend.nil _).tells 0 (vw A (nums .u8 kk)) A (nums .u8 kk) (by kernel_rfl) (tells_vw _ _)).tells 1 (vw A6 (nums .u8 ss)) A6 (nums .u8 ss) (by kernel_rfl) (tells_vw _ _)) ?_)
  rintro _ _ ⟨A24, c25, zs6, rfl, rfl, hp7, hp8, hp9, hp10, hp11⟩
  refine RunR.sil hU [] 2 5 [8, 9, 12, 13, 14] [(8, .slice none 0 0), (9, .int .i64 0), (12, .slice A24 zs6.length c25), (13, .slice A3 ms.length c3), (14, .int .i64 n)] ((True) ∧ (True) ∧ True) rfl (by kernel_rfl) ⟨trivial, trivial, trivial⟩ ?_
  refine RunR.step (dst := some 15) (op := .call { callee := .value (.func 24), args := #[.tmp 12, .tmp 13, .tmp 14], argTypes := #[24, 24, 3] }) (by kernel_rfl) (Step.call 24 [.slice A24 zs6.length c25, .slice A3 ms.length c3, .int .i64 n] (by kernel_rfl) (by kernel_rfl) [] [vw A24 (nums .u8 zs6), vw A3 (nums .u8 ms)] [row 5 1 (.slice A24 zs6.length c25) zs6.length (nums .u8 zs6), vw A (nums .u8 kk), vw A6 (nums .u8 ss), vw A3 (nums .u8 ms)] (m_Expand_spec A24 c25 zs6 A3 c3 ms n zs6.length ms.length hp9 (by first | assumption | omega | (simp only [List.length_append, List.length_cons, List.length_nil, List.length_set, List.length_replicate, List.length_take, List.length_drop]; omega) | (simp only [fits] at *; omega) | (simp only [List.length_append, List.length_cons, List.length_nil, List.length_set, List.length_replicate, List.length_take, List.length_drop] at *; omega) | (simp; done) | decide) (by first | assumption | omega | (simp only [List.length_append, List.length_cons, List.length_nil, List.length_set, List.length_replicate, List.length_take, List.length_drop]; omega) | (simp only [fits] at *; omega) | (simp only [List.length_append, List.length_cons, List.length_nil, List.length_set, List.length_replicate, List.length_take, List.length_drop] at *; omega) | (simp; done) | decide) hIms (by first | assumption | omega | (simp only [List.length_append, List.length_cons, List.length_nil, List.length_set, List.length_replicate, List.length_take, List.length_drop]; omega) | (simp only [fits] at *; omega) | (simp only [List.length_append, List.length_cons, List.length_nil, List.length_set, List.length_replicate, List.length_take, List.length_drop] at *; omega) | (simp; done) | decide) (by first | assumption | omega | (simp only [List.length_append, List.length_cons, List.length_nil, List.length_set, List.length_replicate, List.length_take, List.length_drop]; omega) | (simp only [fits] at *; omega) | (simp only [List.length_append, List.length_cons, List.length_nil, List.length_set, List.length_replicate, List.length_take, List.length_drop] at *; omega) | (simp; done) | decide) (by first | assumption | exact fits_wrap _ _ | exact fits_bits2 _ _ _ _ | (refine ⟨?_, ?_⟩ <;> omega)) (by first | rfl | assumption | omega | (simp only [List.length_append, List.length_cons, List.length_nil, List.length_set, List.length_replicate, List.length_take, List.length_drop]; omega) | (simp; done)) (by first | rfl | assumption | omega | (simp only [List.length_append, List.length_cons, List.length_nil, List.length_set, List.length_replicate, List.length_take, List.length_drop]; omega) | (simp; done))) [] (by kernel_rfl) (((Lend.nil _).tells 3 (vw A3 (nums .u8 ms)) A3 (nums .u8 ms) (by kernel_rfl) (tells_vw _ _)).tells 0 (row 5 1 (.slice A24 zs6.length c25) zs6.length (nums .u8 zs6)) A24 (nums .u8 zs6) (by kernel_rfl) (tells_row _ _ _ _ _ _)) ?_)
  rintro _ _ ⟨A212, c213, N14, ws15, zs16, e17, rfl, rfl, hp18, hp19, hp20, hp21⟩
  have hB22_t : Tells (row 5 1 (.slice A212 N14 c213) N14 (nums .u8 ws15)) (A212) (nums .u8 zs16) := by rw [hp21]; exact tells_take_nums (tells_row _ _ _ _ _ _) _
  refine RunR.sil hU [] 4 10 [8, 9] [(8, .slice A212 zs16.length zs16.length), (9, .int .i64 e17)] ((True) ∧ (True) ∧ (True) ∧ (True) ∧ True) rfl (by kernel_rfl) ⟨trivial, trivial, trivial, trivial, trivial⟩ ?_
  refine RunR.done (by kernel_rfl) ?_
  refine kseq_n ?_
  refine RunC.ret ?_
  refine kret_r [.slice A212 zs16.length zs16.length, .int .i64 e17] [0] [row 5 1 (.slice A212 N14 c213) N14 (nums .u8 ws15)] ⟨rfl, rfl, trivial⟩ (by kernel_rfl) rfl ⟨A212, c213, N14, ws15, zs16, e17, rfl, rfl, (by assumption), (by exact derive_of (by assumption) (by assumption)), (by assumption), (by assumption)⟩
end Go.Proofs.Ytkehpipialmneaa.Y4
