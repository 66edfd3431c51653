/- What these functions compute: a contract for each, walked through its code. -/
import Derived.Test.YtkehpipialmneaaSLzn
import Derived.Test.YtkehpipialmneaaBPure
import Derived.Test.YtkehpipialmneaaProg
import Derived.Test.YtkehpipialmneaaX1
import Derived.Test.YtkehpipialmneaaX2
import Derived.Test.YtkehpipialmneaaX3
import Derived.Test.YtkehpipialmneaaX4
namespace Go.Proofs.Ytkehpipialmneaa.X5
open Go Go.Proofs.Ytkehpipialmneaa.SL Go.Proofs.Ytkehpipialmneaa.SL.W Go.Proofs.Ytkehpipialmneaa.SL.C Go.Proofs.Ytkehpipialmneaa.SL.H Go.Proofs.Ytkehpipialmneaa.SL.M Go.Proofs.Ytkehpipialmneaa.SL.Y Go.Proofs.Ytkehpipialmneaa.SL.A Go.Proofs.Ytkehpipialmneaa.SL.B Go.Proofs.Ytkehpipialmneaa.X1 Go.Proofs.Ytkehpipialmneaa.X2 Go.Proofs.Ytkehpipialmneaa.X3 Go.Proofs.Ytkehpipialmneaa.X4
set_option linter.unusedVariables false
set_option linter.unusedSimpArgs false
set_option maxRecDepth 100000
set_option maxHeartbeats 40000000
def U : Tab where
  und := [(3, .int .i64), (5, .int .u8), (24, .slice 5), (53, .int .u32)]
  fld := []
  sz := [(3, 1), (5, 1), (24, 1), (53, 1)]
  ti := [(3, (1, 8, .int .i64 0)), (5, (1, 1, .int .u8 0)), (24, (1, 24, .slice none 0 0)), (53, (1, 4, .int .u32 0))]
  bld := []

theorem hU : U.OK Try.prog where
  und := by
    intro p hp
    simp only [U, List.mem_cons, List.not_mem_nil, or_false] at hp
    rcases hp with rfl | rfl | rfl | rfl
    · exact Try.underlying3
    · exact Try.underlying5
    · exact Try.underlying24
    · exact Try.underlying53
  fld := by
    intro p hp; cases hp
  sz := by
    intro p hp
    simp only [U, List.mem_cons, List.not_mem_nil, or_false] at hp
    rcases hp with rfl | rfl | rfl | rfl
    · exact ⟨Try.prog.types[3]!, by kernel_rfl, by kernel_rfl⟩
    · exact ⟨Try.prog.types[5]!, by kernel_rfl, by kernel_rfl⟩
    · exact ⟨Try.prog.types[24]!, by kernel_rfl, by kernel_rfl⟩
    · exact ⟨Try.prog.types[53]!, by kernel_rfl, by kernel_rfl⟩
  ti := by
    intro p hp
    simp only [U, List.mem_cons, List.not_mem_nil, or_false] at hp
    rcases hp with rfl | rfl | rfl | rfl
    · exact ⟨Try.prog.types[3]!, by kernel_rfl, by kernel_rfl, by kernel_rfl, by kernel_rfl⟩
    · exact ⟨Try.prog.types[5]!, by kernel_rfl, by kernel_rfl, by kernel_rfl, by kernel_rfl⟩
    · exact ⟨Try.prog.types[24]!, by kernel_rfl, by kernel_rfl, by kernel_rfl, by kernel_rfl⟩
    · exact ⟨Try.prog.types[53]!, by kernel_rfl, by kernel_rfl, by kernel_rfl, by kernel_rfl⟩
  bld := by
    intro p hp; cases hp
  mixed := by kernel_rfl

theorem c_may_spec (A : Option Addr) (c : Nat) (u : Nat) (A2 : Option Addr) (c2 : Nat) (v : Nat) :
    CallsS Try.prog 41 [.slice A u c, .slice A2 v c2] [] (fun r D => r = .bool (decide (u = 32 ∧ v = 12)) ∧ D = []) := by
  refine CallsS.enter hU Try.f41 _ [.tmp 4] 13 Try.func41 rfl (by decide) rfl rfl (by kernel_rfl) fun w0 W => ?_
  refine RunC.sr ?_
  refine RunR.sl hU [] 1 1 [0, 1, 4] [(0, .slice A u c), (1, .slice A2 v c2), (4, .bool false)] 1 ?_
  refine RunR.nx ?_
  refine RunR.sl hU [] 4 4 [1, 4, 8] [(1, .slice A2 v c2), (4, .bool false), (8, .bool (decide (((u : Nat) : Int) = 32)))] 4 ?_
  refine RunR.ev [1, 4, 8] [(1, .slice A2 v c2), (4, .bool false), (8, .bool (decide (((u : Nat) : Int) = 32)))] ?_
  by_cases h1 : ((u : Nat) : Int) = 32
  · skip
    refine RunR.enveq [(1, .slice A2 v c2), (4, .bool false), (8, .bool true)] (by rw [decide_eq_true h1]; try rfl) ?_
    refine RunR.sl hU [] 5 9 [4] [(4, .bool (decide (((v : Nat) : Int) = 12)))] 5 ?_
    refine RunR.nn ?_
    refine RunC.ret ?_
    refine kret_r [.bool (decide (((v : Nat) : Int) = 12))] [] [] ⟨rfl, trivial⟩ (by kernel_rfl) rfl ⟨(by first | rfl | (exact congrArg Value.bool (decide_eq_decide.2 (by omega)))), (by first | rfl | (exact congrArg Value.bool (decide_eq_decide.2 (by omega))))⟩
  · skip
    refine RunR.enveq [(1, .slice A2 v c2), (4, .bool false), (8, .bool false)] (by rw [decide_eq_false h1]; try rfl) ?_
    refine RunR.sl hU [] 5 9 [4] [(4, .bool false)] 2 ?_
    refine RunR.nn ?_
    refine RunC.ret ?_
    refine kret_r [.bool false] [] [] ⟨rfl, trivial⟩ (by kernel_rfl) rfl ⟨(by first | rfl | (exact congrArg Value.bool (decide_eq_false (by omega)).symm)), (by first | rfl | (exact congrArg Value.bool (decide_eq_false (by omega)).symm))⟩

theorem c_Block_spec (A : Option Addr) (c : Nat) (xs : List Int) (A2 : Option Addr) (c2 : Nat) (ys : List Int) (n : Int) (l_xs : Nat) (l_ys : Nat) (hx : In .u8 xs) (hy : In .u8 ys) (hn : fits .u32 n) (hcx : xs.length ≤ c) (hcy : ys.length ≤ c2) (hl_xs : xs.length = l_xs) (hl_ys : ys.length = l_ys) :
    CallsS Try.prog 43 [.slice A l_xs c, .slice A2 l_ys c2, .int .u32 n] [vw A (nums .u8 xs), vw A2 (nums .u8 ys)] (fun r D => ∃ (A3 : Option Addr) (c3 : Nat) (zs : List Int) (e : Int), r = .tuple #[.slice A3 zs.length c3, .int .i64 e] ∧ D = [row 5 1 (.slice A3 zs.length c3) zs.length (nums .u8 zs)] ∧ ((xs.length = 32 ∧ ys.length = 12 ∧ e = 0 ∧ zs.length = 64) ∨ (¬ (xs.length = 32 ∧ ys.length = 12) ∧ e = 1 ∧ zs.length = 0)) ∧ (e = 0 → zs = block xs ys n) ∧ (In .u8 zs) ∧ (zs.length ≤ c3) ∧ (0 < zs.length → Option.isSome A3 = true)) := by
  subst hl_xs
  subst hl_ys
  refine CallsS.enter hU Try.f43 _ [.tmp 6, .tmp 7] 16 Try.func43 rfl (by decide) rfl rfl (by kernel_rfl) fun w0 W => ?_
  refine RunC.know (p := 0 < xs.length → Option.isSome A = true) (fun _ _ w hs => vw_some hs 0 rfl (by first | (simp [nums_length]; done) | exact dosV_len _ | exact bls_len _ | exact chV_len _)) (fun hA1 => ?_)
  refine RunC.know (p := 0 < ys.length → Option.isSome A2 = true) (fun _ _ w hs => vw_some hs 1 rfl (by first | (simp [nums_length]; done) | exact dosV_len _ | exact bls_len _ | exact chV_len _)) (fun hA2 => ?_)
  refine RunC.sr ?_
  refine RunR.sl hU [] 2 2 [0, 1, 2, 6, 7] [(0, .slice A xs.length c), (1, .slice A2 ys.length c2), (2, .int .u32 n), (6, .slice none 0 0), (7, .int .i64 0)] 2 ?_
  refine RunR.nn ?_
  refine RunC.seq ?_
  refine RunC.sr ?_
  refine RunR.sl hU [] 2 2 [0, 1, 2, 6, 7, 8, 9] [(0, .slice A xs.length c), (1, .slice A2 ys.length c2), (2, .int .u32 n), (6, .slice none 0 0), (7, .int .i64 0), (8, .slice A xs.length c), (9, .slice A2 ys.length c2)] 2 ?_
  refine RunR.st (some 10) (.call { callee := .value (.func 41), args := #[.tmp 8, .tmp 9], argTypes := #[24, 24] }) (Step.cn 41 [.slice A xs.length c, .slice A2 ys.length c2] [] [vw A (nums .u8 xs), vw A2 (nums .u8 ys)] (c_may_spec A c xs.length A2 c2 ys.length) [] ?_)
  rintro _ _ ⟨rfl, rfl⟩
  refine RunR.sl hU [] 1 4 [0, 1, 2, 6, 7, 11] [(0, .slice A xs.length c), (1, .slice A2 ys.length c2), (2, .int .u32 n), (6, .slice none 0 0), (7, .int .i64 0), (11, .bool (!decide (xs.length = 32 ∧ ys.length = 12)))] 1 ?_
  refine RunR.nn ?_
  refine RunC.condn (xs.length = 32 ∧ ys.length = 12) (by kernel_rfl) (fun h3 => ?_) (fun h3 => ?_)
  · skip
    refine RunC.sr ?_
    refine RunR.sl hU [] 2 2 [0, 1, 2, 6, 7] [(0, .slice A xs.length c), (1, .slice A2 ys.length c2), (2, .int .u32 n), (6, .slice none 0 0), (7, .int .i64 1)] 2 ?_
    refine RunR.nn ?_
    refine RunC.ret ?_
    refine kseq_r ?_
    refine kret_rt ([row 5 1 (.slice none 0 0) 0 (nums .u8 ([] : List Int)), vw A (nums .u8 xs), vw A2 (nums .u8 ys)]) (fun w0 W w hs => (hs).nil_row 5 1) [.slice none 0 0, .int .i64 1] [0] [row 5 1 (.slice none 0 0) 0 (nums .u8 ([] : List Int))] ⟨rfl, rfl, trivial⟩ (by kernel_rfl) rfl ⟨none, 0, [], 1, rfl, rfl, (by exact .inr ⟨by first | assumption | omega, rfl, rfl⟩), (by intro h; cases h), (by exact In.nil _), (by exact Nat.le_refl _), (by intro h; simp at h)⟩
  · skip
    refine RunC.ksr ?_
    refine RunR.sl hU [] 3 3 [6, 7, 12, 13, 14] [(6, .slice none 0 0), (7, .int .i64 0), (12, .slice A xs.length c), (13, .slice A2 ys.length c2), (14, .int .u32 n)] 3 ?_
    refine RunR.st (some 15) (.call { callee := .value (.func 42), args := #[.tmp 12, .tmp 13, .tmp 14], argTypes := #[24, 24, 53] }) (Step.cl 42 [.slice A xs.length c, .slice A2 ys.length c2, .int .u32 n] [] [vw A (nums .u8 xs), vw A2 (nums .u8 ys)] [vw A (nums .u8 xs), vw A2 (nums .u8 ys)] (c_block_spec A c xs A2 c2 ys n xs.length ys.length hx hy (by first | rfl | assumption | omega | (simp only [List.length_append, List.length_cons, List.length_nil, List.length_set, List.length_replicate, List.length_take, List.length_drop]; omega) | (simp; done)) (by first | rfl | assumption | omega | (simp only [List.length_append, List.length_cons, List.length_nil, List.length_set, List.length_replicate, List.length_take, List.length_drop]; omega) | (simp; done)) (by first | assumption | exact fits_wrap _ _ | exact fits_bits2 _ _ _ _ | (refine ⟨?_, ?_⟩ <;> omega)) (by first | assumption | omega | (simp only [List.length_append, List.length_cons, List.length_nil, List.length_set, List.length_replicate, List.length_take, List.length_drop]; omega) | (simp only [fits] at *; omega) | (simp only [List.length_append, List.length_cons, List.length_nil, List.length_set, List.length_replicate, List.length_take, List.length_drop] at *; omega) | (simp; done) | decide) (by first | assumption | omega | (simp only [List.length_append, List.length_cons, List.length_nil, List.length_set, List.length_replicate, List.length_take, List.length_drop]; omega) | (simp only [fits] at *; omega) | (simp only [List.length_append, List.length_cons, List.length_nil, List.length_set, List.length_replicate, List.length_take, List.length_drop] at *; omega) | (simp; done) | decide) (by first | rfl | assumption | omega | (simp only [List.length_append, List.length_cons, List.length_nil, List.length_set, List.length_replicate, List.length_take, List.length_drop]; omega) | (simp; done)) (by first | rfl | assumption | omega | (simp only [List.length_append, List.length_cons, List.length_nil, List.length_set, List.length_replicate, List.length_take, List.length_drop]; omega) | (simp; done))) [] (((Lend.nil _).tells 1 (vw A2 (nums .u8 ys)) A2 (nums .u8 ys) (by kernel_rfl) (tells_vw _ _)).tells 0 (vw A (nums .u8 xs)) A (nums .u8 xs) (by kernel_rfl) (tells_vw _ _)) ?_)
    rintro _ _ ⟨A34, c35, zs6, rfl, rfl, hp7, hp8, hp9, hp10, hp11⟩
    refine RunR.sl hU [] 2 6 [6, 7] [(6, .slice A34 zs6.length c35), (7, .int .i64 0)] 2 ?_
    refine RunR.nn ?_
    refine RunC.ret ?_
    refine kret_r [.slice A34 zs6.length c35, .int .i64 0] [0] [row 5 1 (.slice A34 zs6.length c35) zs6.length (nums .u8 zs6)] ⟨rfl, rfl, trivial⟩ (by kernel_rfl) rfl ⟨A34, c35, zs6, 0, rfl, rfl, (by exact .inl ⟨by omega, by omega, rfl, by omega⟩), (by intro _; assumption), (by assumption), (by assumption), (by assumption)⟩

theorem c_Xor_spec (A : Option Addr) (c : Nat) (xs : List Int) (A2 : Option Addr) (c2 : Nat) (ys : List Int) (n : Int) (A4 : Option Addr) (c4 : Nat) (bs : List Int) (l_xs : Nat) (l_ys : Nat) (l_bs : Nat) (hx : In .u8 xs) (hy : In .u8 ys) (hn : fits .u32 n) (hcx : xs.length ≤ c) (hcy : ys.length ≤ c2) (hb : In .u8 bs) (hbl : bs.length ≤ 140737488351232) (hl_xs : xs.length = l_xs) (hl_ys : ys.length = l_ys) (hl_bs : bs.length = l_bs) :
    CallsS Try.prog 20 [.slice A l_xs c, .slice A2 l_ys c2, .int .u32 n, .slice A4 l_bs c4] [vw A (nums .u8 xs), vw A2 (nums .u8 ys), vw A4 (nums .u8 bs)] (fun r D => ∃ (A3 : Option Addr) (c3 : Nat) (zs : List Int) (e : Int), r = .tuple #[.slice A3 zs.length c3, .int .i64 e] ∧ D = [row 5 1 (.slice A3 zs.length c3) zs.length (nums .u8 zs)] ∧ ((xs.length = 32 ∧ ys.length = 12 ∧ e = 0 ∧ zs.length = bs.length) ∨ (¬ (xs.length = 32 ∧ ys.length = 12) ∧ e = 1 ∧ zs.length = 0)) ∧ (e = 0 → zs = xorP xs ys n bs bs.length) ∧ (In .u8 zs) ∧ (zs.length ≤ c3) ∧ (0 < zs.length → Option.isSome A3 = true)) := by
  subst hl_xs
  subst hl_ys
  subst hl_bs
  refine CallsS.enter hU Try.f20 _ [.tmp 8, .tmp 9] 60 Try.func20 rfl (by decide) rfl rfl (by kernel_rfl) fun w0 W => ?_
  refine RunC.know (p := 0 < xs.length → Option.isSome A = true) (fun _ _ w hs => vw_some hs 0 rfl (by first | (simp [nums_length]; done) | exact dosV_len _ | exact bls_len _ | exact chV_len _)) (fun hA1 => ?_)
  refine RunC.know (p := 0 < ys.length → Option.isSome A2 = true) (fun _ _ w hs => vw_some hs 1 rfl (by first | (simp [nums_length]; done) | exact dosV_len _ | exact bls_len _ | exact chV_len _)) (fun hA2 => ?_)
  refine RunC.know (p := 0 < bs.length → Option.isSome A4 = true) (fun _ _ w hs => vw_some hs 2 rfl (by first | (simp [nums_length]; done) | exact dosV_len _ | exact bls_len _ | exact chV_len _)) (fun hA3 => ?_)
  refine RunC.sr ?_
  refine RunR.sl hU [] 2 2 [0, 1, 2, 3, 8, 9] [(0, .slice A xs.length c), (1, .slice A2 ys.length c2), (2, .int .u32 n), (3, .slice A4 bs.length c4), (8, .slice none 0 0), (9, .int .i64 0)] 2 ?_
  refine RunR.nn ?_
  refine RunC.seq ?_
  refine RunC.sr ?_
  refine RunR.sl hU [] 2 2 [0, 1, 2, 3, 8, 9, 14, 15] [(0, .slice A xs.length c), (1, .slice A2 ys.length c2), (2, .int .u32 n), (3, .slice A4 bs.length c4), (8, .slice none 0 0), (9, .int .i64 0), (14, .slice A xs.length c), (15, .slice A2 ys.length c2)] 2 ?_
  refine RunR.st (some 16) (.call { callee := .value (.func 41), args := #[.tmp 14, .tmp 15], argTypes := #[24, 24] }) (Step.cn 41 [.slice A xs.length c, .slice A2 ys.length c2] [] [vw A (nums .u8 xs), vw A2 (nums .u8 ys), vw A4 (nums .u8 bs)] (c_may_spec A c xs.length A2 c2 ys.length) [] ?_)
  rintro _ _ ⟨rfl, rfl⟩
  refine RunR.sl hU [] 1 4 [0, 1, 2, 3, 8, 9, 17] [(0, .slice A xs.length c), (1, .slice A2 ys.length c2), (2, .int .u32 n), (3, .slice A4 bs.length c4), (8, .slice none 0 0), (9, .int .i64 0), (17, .bool (!decide (xs.length = 32 ∧ ys.length = 12)))] 1 ?_
  refine RunR.nn ?_
  refine RunC.condn (xs.length = 32 ∧ ys.length = 12) (by kernel_rfl) (fun h4 => ?_) (fun h4 => ?_)
  · skip
    refine RunC.sr ?_
    refine RunR.sl hU [] 2 2 [0, 1, 2, 3, 8, 9] [(0, .slice A xs.length c), (1, .slice A2 ys.length c2), (2, .int .u32 n), (3, .slice A4 bs.length c4), (8, .slice none 0 0), (9, .int .i64 1)] 2 ?_
    refine RunR.nn ?_
    refine RunC.ret ?_
    refine kseq_r ?_
    refine kret_rt ([row 5 1 (.slice none 0 0) 0 (nums .u8 ([] : List Int)), vw A (nums .u8 xs), vw A2 (nums .u8 ys), vw A4 (nums .u8 bs)]) (fun w0 W w hs => (hs).nil_row 5 1) [.slice none 0 0, .int .i64 1] [0] [row 5 1 (.slice none 0 0) 0 (nums .u8 ([] : List Int))] ⟨rfl, rfl, trivial⟩ (by kernel_rfl) rfl ⟨none, 0, [], 1, rfl, rfl, (by exact .inr ⟨by first | assumption | omega, rfl, rfl⟩), (by intro h; cases h), (by exact In.nil _), (by exact Nat.le_refl _), (by intro h; simp at h)⟩
  · skip
    refine RunC.ksr ?_
    refine RunR.sl hU [] 2 2 [0, 1, 2, 3, 8, 9, 19] [(0, .slice A xs.length c), (1, .slice A2 ys.length c2), (2, .int .u32 n), (3, .slice A4 bs.length c4), (8, .slice none 0 0), (9, .int .i64 0), (19, .int .i64 ((bs.length : Nat) : Int))] 2 ?_
    refine RunR.st (some 20) (.makeSlice 24 (.const (.int .i64 0)) (.tmp 19)) (Step.make_room hU 5 1 .u8 .i64 .i64 0 ((bs.length : Nat) : Int) rfl rfl (by kernel_rfl) (by kernel_rfl) (by omega) (by omega) (by kernel_rfl) (fun b5 => ?_))
    refine RunR.sl hU [] 1 4 [0, 1, 2, 3, 8, 9, 10] [(0, .slice A xs.length c), (1, .slice A2 ys.length c2), (2, .int .u32 n), (3, .slice A4 bs.length c4), (8, .slice none 0 0), (9, .int .i64 0), (10, .slice (some ⟨b5, 0, none⟩) 0 ((((bs.length : Nat) : Int)).toNat))] 1 ?_
    refine RunR.nn ?_
    refine RunC.seq ?_
    refine RunC.sr ?_
    refine RunR.sl hU [] 1 1 [0, 1, 2, 3, 8, 9, 10, 11] [(0, .slice A xs.length c), (1, .slice A2 ys.length c2), (2, .int .u32 n), (3, .slice A4 bs.length c4), (8, .slice none 0 0), (9, .int .i64 0), (10, .slice (some ⟨b5, 0, none⟩) 0 ((((bs.length : Nat) : Int)).toNat)), (11, .int .i64 0)] 1 ?_
    refine RunR.nn ?_
    refine RunC.block ?_
    refine RunC.env [0, 1, 2, 3, 8, 9, 10, 11] [(0, .slice A xs.length c), (1, .slice A2 ys.length c2), (2, .int .u32 n), (3, .slice A4 bs.length c4), (8, .slice none 0 0), (9, .int .i64 0), (10, .slice (some ⟨b5, 0, none⟩) 0 ((((bs.length : Nat) : Int)).toNat)), (11, .int .i64 0)] (by kernel_rfl) ?_
    refine RunC.only [0, 0, 0, 0] [row 5 1 (.slice (some ⟨b5, 0, none⟩) 0 ((((bs.length : Nat) : Int)).toNat)) 0 (nums .u8 ([] : List Int)), vw A (nums .u8 xs), vw A2 (nums .u8 ys), vw A4 (nums .u8 bs)] (by kernel_rfl) ?_
    refine RunC.loop (σ := Nat) (fun n_ t_ D_ => ∃ (a : Int) (cn : Int) (os : List Int) (A5 : Option Addr) (c5 : Nat), (0 ≤ a) ∧ (a ≤ bs.length + 63) ∧ (a % 64 = 0) ∧ (cn = add32 n ((a / 64).toNat : Nat)) ∧ (fits .u32 cn) ∧ (os = xorP xs ys n bs (min a.toNat bs.length)) ∧ (os.length = min a.toNat bs.length) ∧ (In .u8 os) ∧ (os.length ≤ c5) ∧ (0 < os.length → Option.isSome A5 = true) ∧ n_ = ((bs.length + 64 - a).toNat : Nat) ∧ t_ = [(0, .slice A xs.length c), (1, .slice A2 ys.length c2), (2, .int .u32 cn), (3, .slice A4 bs.length c4), (8, .slice none 0 0), (9, .int .i64 0), (10, .slice A5 os.length c5), (11, .int .i64 a)] ∧ D_ = [row 5 1 (.slice A5 os.length c5) os.length (nums .u8 os), vw A (nums .u8 xs), vw A2 (nums .u8 ys), vw A4 (nums .u8 bs)]) id _ ⟨0, n, ([] : List Int), (some ⟨b5, 0, none⟩), ((((bs.length : Nat) : Int)).toNat), (by first | assumption | omega | (simp only [List.length_append, List.length_cons, List.length_nil, List.length_set, List.length_replicate, List.length_take, List.length_drop]; omega) | (simp only [fits] at *; omega) | (simp only [List.length_append, List.length_cons, List.length_nil, List.length_set, List.length_replicate, List.length_take, List.length_drop] at *; omega) | (simp; done) | decide), (by first | assumption | omega | (simp only [List.length_append, List.length_cons, List.length_nil, List.length_set, List.length_replicate, List.length_take, List.length_drop]; omega) | (simp only [fits] at *; omega) | (simp only [List.length_append, List.length_cons, List.length_nil, List.length_set, List.length_replicate, List.length_take, List.length_drop] at *; omega) | (simp; done) | decide), (by first | assumption | omega | (simp only [List.length_append, List.length_cons, List.length_nil, List.length_set, List.length_replicate, List.length_take, List.length_drop]; omega) | (simp only [fits] at *; omega) | (simp only [List.length_append, List.length_cons, List.length_nil, List.length_set, List.length_replicate, List.length_take, List.length_drop] at *; omega) | (simp; done) | decide), (by exact (add32_0 hn).symm), (by first | assumption | exact fits_wrap _ _ | exact fits_bits2 _ _ _ _ | (refine ⟨?_, ?_⟩ <;> omega)), (by simp [xorP]), (by simp), (by exact In.nil _), (by exact Nat.zero_le _), (by intro h; simp at h), rfl, rfl, rfl⟩ ?_
    rintro n_ _ _ ⟨a, cn, os, A5, c5, ha, ha2, ha3, hcn, hcf, ho, hol, hios, hcos, hAos, rfl, rfl, rfl⟩
    refine RunC.seq ?_
    refine RunC.sr ?_
    refine RunR.sl hU [] 4 4 [0, 1, 2, 3, 8, 9, 10, 11, 24] [(0, .slice A xs.length c), (1, .slice A2 ys.length c2), (2, .int .u32 cn), (3, .slice A4 bs.length c4), (8, .slice none 0 0), (9, .int .i64 0), (10, .slice A5 os.length c5), (11, .int .i64 a), (24, .bool (decide (a < ((bs.length : Nat) : Int))))] 4 ?_
    refine RunR.nn ?_
    refine RunC.condp (a < ((bs.length : Nat) : Int)) (by kernel_rfl) (fun h6 => ?_) (fun h6 => ?_)
    · skip
      refine RunC.ks ?_
      refine RunC.seq ?_
      refine RunC.block ?_
      refine RunC.sr ?_
      refine RunR.sl hU [] 3 3 [0, 1, 2, 3, 8, 9, 10, 11, 27, 28, 29] [(0, .slice A xs.length c), (1, .slice A2 ys.length c2), (2, .int .u32 cn), (3, .slice A4 bs.length c4), (8, .slice none 0 0), (9, .int .i64 0), (10, .slice A5 os.length c5), (11, .int .i64 a), (27, .slice A xs.length c), (28, .slice A2 ys.length c2), (29, .int .u32 cn)] 3 ?_
      refine RunR.st (some 30) (.call { callee := .value (.func 42), args := #[.tmp 27, .tmp 28, .tmp 29], argTypes := #[24, 24, 53] }) (Step.cl 42 [.slice A xs.length c, .slice A2 ys.length c2, .int .u32 cn] [] [vw A (nums .u8 xs), vw A2 (nums .u8 ys)] [row 5 1 (.slice A5 os.length c5) os.length (nums .u8 os), vw A (nums .u8 xs), vw A2 (nums .u8 ys), vw A4 (nums .u8 bs)] (c_block_spec A c xs A2 c2 ys cn xs.length ys.length hx hy (by first | rfl | assumption | omega | (simp only [List.length_append, List.length_cons, List.length_nil, List.length_set, List.length_replicate, List.length_take, List.length_drop]; omega) | (simp; done)) (by first | rfl | assumption | omega | (simp only [List.length_append, List.length_cons, List.length_nil, List.length_set, List.length_replicate, List.length_take, List.length_drop]; omega) | (simp; done)) (by first | assumption | exact fits_wrap _ _ | exact fits_bits2 _ _ _ _ | (refine ⟨?_, ?_⟩ <;> omega)) (by first | assumption | omega | (simp only [List.length_append, List.length_cons, List.length_nil, List.length_set, List.length_replicate, List.length_take, List.length_drop]; omega) | (simp only [fits] at *; omega) | (simp only [List.length_append, List.length_cons, List.length_nil, List.length_set, List.length_replicate, List.length_take, List.length_drop] at *; omega) | (simp; done) | decide) (by first | assumption | omega | (simp only [List.length_append, List.length_cons, List.length_nil, List.length_set, List.length_replicate, List.length_take, List.length_drop]; omega) | (simp only [fits] at *; omega) | (simp only [List.length_append, List.length_cons, List.length_nil, List.length_set, List.length_replicate, List.length_take, List.length_drop] at *; omega) | (simp; done) | decide) (by first | rfl | assumption | omega | (simp only [List.length_append, List.length_cons, List.length_nil, List.length_set, List.length_replicate, List.length_take, List.length_drop]; omega) | (simp; done)) (by first | rfl | assumption | omega | (simp only [List.length_append, List.length_cons, List.length_nil, List.length_set, List.length_replicate, List.length_take, List.length_drop]; omega) | (simp; done))) [] (((Lend.nil _).tells 2 (vw A2 (nums .u8 ys)) A2 (nums .u8 ys) (by kernel_rfl) (tells_vw _ _)).tells 1 (vw A (nums .u8 xs)) A (nums .u8 xs) (by kernel_rfl) (tells_vw _ _)) ?_)
      rintro _ _ ⟨A37, c38, zs9, rfl, rfl, hp10, hp11, hp12, hp13, hp14⟩
      refine RunR.sl hU [] 1 5 [0, 1, 2, 3, 8, 9, 10, 11, 12] [(0, .slice A xs.length c), (1, .slice A2 ys.length c2), (2, .int .u32 cn), (3, .slice A4 bs.length c4), (8, .slice none 0 0), (9, .int .i64 0), (10, .slice A5 os.length c5), (11, .int .i64 a), (12, .slice A37 zs9.length c38)] 1 ?_
      refine RunR.nx ?_
      refine RunR.sl hU [] 3 3 [0, 1, 2, 3, 8, 9, 10, 11, 12] [(0, .slice A xs.length c), (1, .slice A2 ys.length c2), (2, .int .u32 (IntKind.wrap .u32 (cn + 1))), (3, .slice A4 bs.length c4), (8, .slice none 0 0), (9, .int .i64 0), (10, .slice A5 os.length c5), (11, .int .i64 a), (12, .slice A37 zs9.length c38)] 3 ?_
      refine RunR.nx ?_
      refine RunR.sl hU [] 1 1 [0, 1, 2, 3, 8, 9, 10, 11, 12, 13] [(0, .slice A xs.length c), (1, .slice A2 ys.length c2), (2, .int .u32 (IntKind.wrap .u32 (cn + 1))), (3, .slice A4 bs.length c4), (8, .slice none 0 0), (9, .int .i64 0), (10, .slice A5 os.length c5), (11, .int .i64 a), (12, .slice A37 zs9.length c38), (13, .int .i64 0)] 1 ?_
      refine RunR.nn ?_
      refine RunC.block ?_
      refine RunC.env [0, 1, 2, 3, 8, 9, 10, 11, 12, 13] [(0, .slice A xs.length c), (1, .slice A2 ys.length c2), (2, .int .u32 (IntKind.wrap .u32 (cn + 1))), (3, .slice A4 bs.length c4), (8, .slice none 0 0), (9, .int .i64 0), (10, .slice A5 os.length c5), (11, .int .i64 a), (12, .slice A37 zs9.length c38), (13, .int .i64 0)] (by kernel_rfl) ?_
      refine RunC.only [1, 0, 0, 0, 0] [row 5 1 (.slice A5 os.length c5) os.length (nums .u8 os), row 5 1 (.slice A37 zs9.length c38) zs9.length (nums .u8 zs9), vw A (nums .u8 xs), vw A2 (nums .u8 ys), vw A4 (nums .u8 bs)] (by kernel_rfl) ?_
      refine RunC.loop (σ := Nat) (fun n_ t_ D_ => ∃ (i : Int) (ps : List Int) (A6 : Option Addr) (c6 : Nat), (0 ≤ i) ∧ (i ≤ 64) ∧ (a + i ≤ bs.length) ∧ (ps = xorP xs ys n bs (a + i).toNat) ∧ (ps.length = (a + i).toNat) ∧ (In .u8 ps) ∧ (ps.length ≤ c6) ∧ (0 < ps.length → Option.isSome A6 = true) ∧ n_ = ((64 - i).toNat : Nat) ∧ t_ = [(0, .slice A xs.length c), (1, .slice A2 ys.length c2), (2, .int .u32 (IntKind.wrap .u32 (cn + 1))), (3, .slice A4 bs.length c4), (8, .slice none 0 0), (9, .int .i64 0), (10, .slice A6 ps.length c6), (11, .int .i64 a), (12, .slice A37 zs9.length c38), (13, .int .i64 i)] ∧ D_ = [row 5 1 (.slice A6 ps.length c6) ps.length (nums .u8 ps), row 5 1 (.slice A37 zs9.length c38) zs9.length (nums .u8 zs9), vw A (nums .u8 xs), vw A2 (nums .u8 ys), vw A4 (nums .u8 bs)]) id _ ⟨0, os, A5, c5, (by first | assumption | omega | (simp only [List.length_append, List.length_cons, List.length_nil, List.length_set, List.length_replicate, List.length_take, List.length_drop]; omega) | (simp only [fits] at *; omega) | (simp only [List.length_append, List.length_cons, List.length_nil, List.length_set, List.length_replicate, List.length_take, List.length_drop] at *; omega) | (simp; done) | decide), (by first | assumption | omega | (simp only [List.length_append, List.length_cons, List.length_nil, List.length_set, List.length_replicate, List.length_take, List.length_drop]; omega) | (simp only [fits] at *; omega) | (simp only [List.length_append, List.length_cons, List.length_nil, List.length_set, List.length_replicate, List.length_take, List.length_drop] at *; omega) | (simp; done) | decide), (by omega), (by rw [ho, show min a.toNat bs.length = (a + 0).toNat by omega]), (by first | rfl | assumption | omega | (simp only [List.length_append, List.length_cons, List.length_nil, List.length_set, List.length_replicate, List.length_take, List.length_drop]; omega) | (simp; done)), hios, (by first | assumption | omega | (simp only [List.length_append, List.length_cons, List.length_nil, List.length_set, List.length_replicate, List.length_take, List.length_drop]; omega) | (simp only [fits] at *; omega) | (simp only [List.length_append, List.length_cons, List.length_nil, List.length_set, List.length_replicate, List.length_take, List.length_drop] at *; omega) | (simp; done) | decide), (fun h => hAos (by first | exact h | (simp at h ⊢; omega))), rfl, rfl, rfl⟩ ?_
      rintro n_ _ _ ⟨i, ps, A6, c6, hi, hi2, hi3, hp, hpl, hips, hcps, hAps, rfl, rfl, rfl⟩
      refine RunC.seq ?_
      refine RunC.sr ?_
      refine RunR.sl hU [] 3 3 [0, 1, 2, 3, 8, 9, 10, 11, 12, 13, 35] [(0, .slice A xs.length c), (1, .slice A2 ys.length c2), (2, .int .u32 (IntKind.wrap .u32 (cn + 1))), (3, .slice A4 bs.length c4), (8, .slice none 0 0), (9, .int .i64 0), (10, .slice A6 ps.length c6), (11, .int .i64 a), (12, .slice A37 zs9.length c38), (13, .int .i64 i), (35, .bool (decide (i < 64)))] 3 ?_
      refine RunR.ev [0, 1, 2, 3, 8, 9, 10, 11, 12, 13, 35] [(0, .slice A xs.length c), (1, .slice A2 ys.length c2), (2, .int .u32 (IntKind.wrap .u32 (cn + 1))), (3, .slice A4 bs.length c4), (8, .slice none 0 0), (9, .int .i64 0), (10, .slice A6 ps.length c6), (11, .int .i64 a), (12, .slice A37 zs9.length c38), (13, .int .i64 i), (35, .bool (decide (i < 64)))] ?_
      by_cases h15 : i < 64
      · skip
        refine RunR.enveq [(0, .slice A xs.length c), (1, .slice A2 ys.length c2), (2, .int .u32 (IntKind.wrap .u32 (cn + 1))), (3, .slice A4 bs.length c4), (8, .slice none 0 0), (9, .int .i64 0), (10, .slice A6 ps.length c6), (11, .int .i64 a), (12, .slice A37 zs9.length c38), (13, .int .i64 i), (35, .bool true)] (by rw [decide_eq_true h15]; try rfl) ?_
        refine RunR.sil hU [5] 7 10 [0, 1, 2, 3, 8, 9, 10, 11, 12, 13, 42] [(0, .slice A xs.length c), (1, .slice A2 ys.length c2), (2, .int .u32 (IntKind.wrap .u32 (cn + 1))), (3, .slice A4 bs.length c4), (8, .slice none 0 0), (9, .int .i64 0), (10, .slice A6 ps.length c6), (11, .int .i64 a), (12, .slice A37 zs9.length c38), (13, .int .i64 i), (42, .bool (decide ((a + i) < ((bs.length : Nat) : Int))))] ((True) ∧ (True) ∧ (-9223372036854775808 ≤ (a + i) ∧ (a + i) < 9223372036854775808) ∧ (True) ∧ (True) ∧ (True) ∧ (True) ∧ True) rfl (by kernel_rfl) ⟨trivial, trivial, (by omega), trivial, trivial, trivial, trivial, trivial⟩ ?_
        refine RunR.nn ?_
        refine RunC.condp ((a + i) < ((bs.length : Nat) : Int)) (by kernel_rfl) (fun h16 => ?_) (fun h16 => ?_)
        · skip
          refine RunC.ks ?_
          refine RunC.seq ?_
          refine RunC.block ?_
          refine RunC.regionU hU 15 [vw A4 (nums .u8 bs), row 5 1 (.slice A37 zs9.length c38) zs9.length (nums .u8 zs9)] [4, 1] [13, 14] (bm 15 0) (by kernel_rfl) (by kernel_rfl) (by kernel_rfl) ?_
          refine RunU.sl hU 0 (bm 15 1) 45 (.slice A6 ps.length c6) ?_
          refine RunU.sl hU 1 (bm 15 3) 46 (.slice A4 bs.length c4) ?_
          refine RunU.sl hU 2 (bm 15 7) 47 (.int .i64 a) ?_
          refine RunU.sl hU 3 (bm 15 15) 48 (.int .i64 i) ?_
          refine RunU.sil hU true 4 (bm 15 31) 49 (.int .i64 (a + i)) (-9223372036854775808 ≤ (a + i) ∧ (a + i) < 9223372036854775808) (by kernel_rfl) (by omega) (by kernel_rfl) (by kernel_rfl) (fun _ _ _ h => h) ?_
          refine RunU.sil hU false 5 (bm 15 63) 50 (.pointer (elemAt A4 (a + i) 1)) ((0 ≤ (a + i) ∧ (a + i) < ((bs.length : Nat) : Int)) ∧ Option.isSome A4 = true) (by kernel_rfl) ⟨by omega, hA3 (by omega)⟩ (by kernel_rfl) (by kernel_rfl) (fun _ _ _ h => h) ?_
          refine RunU.rd 6 (bm 15 127) 51 (.load 5 (.tmp 50)) (.int .u8 (bs.getD (a + i).toNat 0)) [4, 1] (Reads.load_num hU 0 (vw A4 (nums .u8 bs)) A4 (a + i) .u8 bs rfl (by kernel_rfl) (by kernel_rfl) (tells_vw _ _) (by omega)) ?_
          have hb17 : 0 ≤ bs.getD ((a + i).toNat) 0 ∧ bs.getD ((a + i).toNat) 0 < 256 := hb.at_ _
          refine RunU.sl hU 7 (bm 15 255) 52 (.slice A37 zs9.length c38) ?_
          refine RunU.sl hU 8 (bm 15 511) 53 (.int .i64 i) ?_
          refine RunU.sil hU false 9 (bm 15 1023) 54 (.pointer (elemAt A37 i 1)) ((0 ≤ i ∧ i < ((zs9.length : Nat) : Int)) ∧ Option.isSome A37 = true) (by kernel_rfl) ⟨by omega, hp14 (by omega)⟩ (by kernel_rfl) (by kernel_rfl) (fun _ _ _ h => h) ?_
          refine RunU.rd 10 (bm 15 2047) 55 (.load 5 (.tmp 54)) (.int .u8 (zs9.getD (i).toNat 0)) [4, 1] (Reads.load_num hU 1 (row 5 1 (.slice A37 zs9.length c38) zs9.length (nums .u8 zs9)) A37 i .u8 zs9 rfl (by kernel_rfl) (by kernel_rfl) (tells_row _ _ _ _ _ _) (by omega)) ?_
          have hb18 : 0 ≤ zs9.getD ((i).toNat) 0 ∧ zs9.getD ((i).toNat) 0 < 256 := hp12.at_ _
          refine RunU.sl hU 11 (bm 15 4095) 56 (.int .u8 (bits2 .xor .u8 (bs.getD (a + i).toNat 0) (zs9.getD (i).toNat 0))) ?_
          refine RunU.on (some 57) (.buildSlice 24 1 #[(0, .tmp 56)]) 12 (bm 15 8191) [5, 2] (Step.lit_nums hU 5 1 .u8 (.int .u8 0) ([bits2 .xor .u8 (bs.getD (a + i).toNat 0) (zs9.getD (i).toNat 0)] : List Int) rfl rfl (by kernel_rfl) rfl rfl (by kernel_rfl) (fun b19 => ?_))
          have hl20 : (([bits2 .xor .u8 (bs.getD (a + i).toNat 0) (zs9.getD (i).toNat 0)] : List Int)).length = 1 := rfl
          refine orL ?_
          have hl25 : (([bits2 .xor .u8 (bs.getD (a + i).toNat 0) (zs9.getD (i).toNat 0)] : List Int)).length = 1 := rfl
          refine RunU.on (some 58) (.call { callee := .builtin .append, args := #[.tmp 45, .tmp 57], argTypes := #[24, 24] }) 13 (bm 15 16383) [] (Step.append_nums hU 5 1 (.int .u8 0) .u8 1 0 A6 ps.length c6 ps (some ⟨b19, 0, none⟩) 1 1 (row 5 1 (.slice (some ⟨b19, 0, none⟩) 1 1) 1 (nums .u8 ([bits2 .xor .u8 (bs.getD (a + i).toNat 0) (zs9.getD (i).toNat 0)] : List Int))) ([bits2 .xor .u8 (bs.getD (a + i).toNat 0) (zs9.getD (i).toNat 0)] : List Int) rfl rfl rfl (by kernel_rfl) (by kernel_rfl) (by kernel_rfl) (by kernel_rfl) (tells_row _ _ _ _ _ _) (by first | rfl | omega | (simp; omega)) (by first | rfl | omega | (simp; omega)) (by omega) (by omega) (by kernel_rfl) (fun Aq21 cq22 hc23 hA24 => ?_))
          have hl26 : (ps ++ ([bits2 .xor .u8 (bs.getD (a + i).toNat 0) (zs9.getD (i).toNat 0)] : List Int)).length = ps.length + ([bits2 .xor .u8 (bs.getD (a + i).toNat 0) (zs9.getD (i).toNat 0)] : List Int).length := List.length_append
          simp only [List.length_cons, List.length_nil] at hl26
          refine orR ?_
          refine RunU.sl hU 14 (bm 15 32767) 10 (.slice Aq21 ((ps ++ ([bits2 .xor .u8 (bs.getD (a + i).toNat 0) (zs9.getD (i).toNat 0)] : List Int)).length) cq22) ?_
          refine RunU.ev [0, 1, 2, 3, 8, 9, 10, 11, 12, 13] [(0, .slice A xs.length c), (1, .slice A2 ys.length c2), (2, .int .u32 (IntKind.wrap .u32 (cn + 1))), (3, .slice A4 bs.length c4), (8, .slice none 0 0), (9, .int .i64 0), (10, .slice Aq21 ((ps ++ ([bits2 .xor .u8 (bs.getD (a + i).toNat 0) (zs9.getD (i).toNat 0)] : List Int)).length) cq22), (11, .int .i64 a), (12, .slice A37 zs9.length c38), (13, .int .i64 i)] ?_
          refine RunU.dn ?_
          refine kblock_n ?_
          refine kseq_n ?_
          refine RunC.region ?_
          refine RunR.sil hU [1] 3 3 [0, 1, 2, 3, 8, 9, 10, 11, 12, 13] [(0, .slice A xs.length c), (1, .slice A2 ys.length c2), (2, .int .u32 (IntKind.wrap .u32 (cn + 1))), (3, .slice A4 bs.length c4), (8, .slice none 0 0), (9, .int .i64 0), (10, .slice Aq21 ((ps ++ ([bits2 .xor .u8 (bs.getD (a + i).toNat 0) (zs9.getD (i).toNat 0)] : List Int)).length) cq22), (11, .int .i64 a), (12, .slice A37 zs9.length c38), (13, .int .i64 (i + 1))] ((True) ∧ (-9223372036854775808 ≤ (i + 1) ∧ (i + 1) < 9223372036854775808) ∧ (True) ∧ True) rfl (by kernel_rfl) ⟨trivial, (by omega), trivial, trivial⟩ ?_
          refine RunR.dn ?_
          refine kloop_n _ [0, 1, 2, 3, 8, 9, 10, 11, 12, 13] [0, 1, 1, 1, 1] [(0, .slice A xs.length c), (1, .slice A2 ys.length c2), (2, .int .u32 (IntKind.wrap .u32 (cn + 1))), (3, .slice A4 bs.length c4), (8, .slice none 0 0), (9, .int .i64 0), (10, .slice Aq21 ((ps ++ ([bits2 .xor .u8 (bs.getD (a + i).toNat 0) (zs9.getD (i).toNat 0)] : List Int)).length) cq22), (11, .int .i64 a), (12, .slice A37 zs9.length c38), (13, .int .i64 (i + 1))] [row 5 1 (.slice Aq21 ((ps ++ ([bits2 .xor .u8 (bs.getD (a + i).toNat 0) (zs9.getD (i).toNat 0)] : List Int)).length) cq22) ((ps ++ ([bits2 .xor .u8 (bs.getD (a + i).toNat 0) (zs9.getD (i).toNat 0)] : List Int)).length) (nums .u8 (ps ++ ([bits2 .xor .u8 (bs.getD (a + i).toNat 0) (zs9.getD (i).toNat 0)] : List Int))), row 5 1 (.slice A37 zs9.length c38) zs9.length (nums .u8 zs9), vw A (nums .u8 xs), vw A2 (nums .u8 ys), vw A4 (nums .u8 bs)] (by kernel_rfl) (by kernel_rfl) ?_ ⟨(i + 1), (ps ++ ([bits2 .xor .u8 (bs.getD (a + i).toNat 0) (zs9.getD (i).toNat 0)] : List Int)), Aq21, cq22, (by first | assumption | omega | (simp only [List.length_append, List.length_cons, List.length_nil, List.length_set, List.length_replicate, List.length_take, List.length_drop]; omega) | (simp only [fits] at *; omega) | (simp only [List.length_append, List.length_cons, List.length_nil, List.length_set, List.length_replicate, List.length_take, List.length_drop] at *; omega) | (simp; done) | decide), (by first | assumption | omega | (simp only [List.length_append, List.length_cons, List.length_nil, List.length_set, List.length_replicate, List.length_take, List.length_drop]; omega) | (simp only [fits] at *; omega) | (simp only [List.length_append, List.length_cons, List.length_nil, List.length_set, List.length_replicate, List.length_take, List.length_drop] at *; omega) | (simp; done) | decide), (by first | assumption | omega | (simp only [List.length_append, List.length_cons, List.length_nil, List.length_set, List.length_replicate, List.length_take, List.length_drop]; omega) | (simp only [fits] at *; omega) | (simp only [List.length_append, List.length_cons, List.length_nil, List.length_set, List.length_replicate, List.length_take, List.length_drop] at *; omega) | (simp; done) | decide), (by rw [show (a + (i + 1)).toNat = (a + i).toNat + 1 by omega, xorP_succ, ← hp]; simp only [hp10]; rw [stream_at (q := (a / 64).toNat) (i := i.toNat) hcn (by omega), show 64 * (a / 64).toNat + i.toNat = (a + i).toNat by omega]), (by first | rfl | assumption | omega | (simp only [List.length_append, List.length_cons, List.length_nil, List.length_set, List.length_replicate, List.length_take, List.length_drop]; omega) | (simp; done)), (by exact hips.append (In.cons (fits_bits2 _ _ _ _) (In.nil _))), (by first | assumption | omega | (simp only [List.length_append, List.length_cons, List.length_nil, List.length_set, List.length_replicate, List.length_take, List.length_drop]; omega) | (simp only [fits] at *; omega) | (simp only [List.length_append, List.length_cons, List.length_nil, List.length_set, List.length_replicate, List.length_take, List.length_drop] at *; omega) | (simp; done) | decide), (fun h => hA24 (by first | exact h | (simp at h ⊢; omega))), rfl, (by first | rfl | simp only [List.length_set]), (by first | rfl | simp only [List.length_set])⟩
          show ((64 - (i + 1)).toNat : Nat) < ((64 - i).toNat : Nat)
          omega
        · skip
          refine RunC.exit ?_
          refine kseq_e ?_
          refine kloop_e ?_
          refine kblock_e ?_
          refine kblock_n ?_
          refine kseq_n ?_
          refine RunC.region ?_
          refine RunR.sil hU [1] 3 3 [0, 1, 2, 3, 8, 9, 10, 11] [(0, .slice A xs.length c), (1, .slice A2 ys.length c2), (2, .int .u32 (IntKind.wrap .u32 (cn + 1))), (3, .slice A4 bs.length c4), (8, .slice none 0 0), (9, .int .i64 0), (10, .slice A6 ps.length c6), (11, .int .i64 (a + 64))] ((True) ∧ (-9223372036854775808 ≤ (a + 64) ∧ (a + 64) < 9223372036854775808) ∧ (True) ∧ True) rfl (by kernel_rfl) ⟨trivial, (by omega), trivial, trivial⟩ ?_
          refine RunR.dn ?_
          refine kloop_n _ [0, 1, 2, 3, 8, 9, 10, 11] [0, 1, 1, 1] [(0, .slice A xs.length c), (1, .slice A2 ys.length c2), (2, .int .u32 (IntKind.wrap .u32 (cn + 1))), (3, .slice A4 bs.length c4), (8, .slice none 0 0), (9, .int .i64 0), (10, .slice A6 ps.length c6), (11, .int .i64 (a + 64))] [row 5 1 (.slice A6 ps.length c6) ps.length (nums .u8 ps), vw A (nums .u8 xs), vw A2 (nums .u8 ys), vw A4 (nums .u8 bs)] (by kernel_rfl) (by kernel_rfl) ?_ ⟨(a + 64), (IntKind.wrap .u32 (cn + 1)), ps, A6, c6, (by first | assumption | omega | (simp only [List.length_append, List.length_cons, List.length_nil, List.length_set, List.length_replicate, List.length_take, List.length_drop]; omega) | (simp only [fits] at *; omega) | (simp only [List.length_append, List.length_cons, List.length_nil, List.length_set, List.length_replicate, List.length_take, List.length_drop] at *; omega) | (simp; done) | decide), (by first | assumption | omega | (simp only [List.length_append, List.length_cons, List.length_nil, List.length_set, List.length_replicate, List.length_take, List.length_drop]; omega) | (simp only [fits] at *; omega) | (simp only [List.length_append, List.length_cons, List.length_nil, List.length_set, List.length_replicate, List.length_take, List.length_drop] at *; omega) | (simp; done) | decide), (by first | assumption | omega | (simp only [List.length_append, List.length_cons, List.length_nil, List.length_set, List.length_replicate, List.length_take, List.length_drop]; omega) | (simp only [fits] at *; omega) | (simp only [List.length_append, List.length_cons, List.length_nil, List.length_set, List.length_replicate, List.length_take, List.length_drop] at *; omega) | (simp; done) | decide), (by rw [hcn, show ((a + 64) / 64).toNat = (a / 64).toNat + 1 by omega]; exact add32_add n _ 1), (by exact fits_wrap .u32 _), (by rw [hp, show min (a + 64).toNat bs.length = (a + i).toNat by omega]), (by omega), hips, (by first | assumption | omega | (simp only [List.length_append, List.length_cons, List.length_nil, List.length_set, List.length_replicate, List.length_take, List.length_drop]; omega) | (simp only [fits] at *; omega) | (simp only [List.length_append, List.length_cons, List.length_nil, List.length_set, List.length_replicate, List.length_take, List.length_drop] at *; omega) | (simp; done) | decide), (fun h => hAps (by first | exact h | (simp at h ⊢; omega))), rfl, (by first | rfl | simp only [List.length_set]), (by first | rfl | simp only [List.length_set])⟩
          show ((bs.length + 64 - (a + 64)).toNat : Nat) < ((bs.length + 64 - a).toNat : Nat)
          omega
      · skip
        refine RunR.enveq [(0, .slice A xs.length c), (1, .slice A2 ys.length c2), (2, .int .u32 (IntKind.wrap .u32 (cn + 1))), (3, .slice A4 bs.length c4), (8, .slice none 0 0), (9, .int .i64 0), (10, .slice A6 ps.length c6), (11, .int .i64 a), (12, .slice A37 zs9.length c38), (13, .int .i64 i), (35, .bool false)] (by rw [decide_eq_false h15]; try rfl) ?_
        refine RunR.sl hU [] 7 10 [0, 1, 2, 3, 8, 9, 10, 11, 12, 13, 42] [(0, .slice A xs.length c), (1, .slice A2 ys.length c2), (2, .int .u32 (IntKind.wrap .u32 (cn + 1))), (3, .slice A4 bs.length c4), (8, .slice none 0 0), (9, .int .i64 0), (10, .slice A6 ps.length c6), (11, .int .i64 a), (12, .slice A37 zs9.length c38), (13, .int .i64 i), (42, .bool false)] 1 ?_
        refine RunR.nn ?_
        refine RunC.cond (b := false) (by kernel_rfl) (fun h => by cases h) (fun _ => ?_)
        refine RunC.exit ?_
        refine kseq_e ?_
        refine kloop_e ?_
        refine kblock_e ?_
        refine kblock_n ?_
        refine kseq_n ?_
        refine RunC.region ?_
        refine RunR.sil hU [1] 3 3 [0, 1, 2, 3, 8, 9, 10, 11] [(0, .slice A xs.length c), (1, .slice A2 ys.length c2), (2, .int .u32 (IntKind.wrap .u32 (cn + 1))), (3, .slice A4 bs.length c4), (8, .slice none 0 0), (9, .int .i64 0), (10, .slice A6 ps.length c6), (11, .int .i64 (a + 64))] ((True) ∧ (-9223372036854775808 ≤ (a + 64) ∧ (a + 64) < 9223372036854775808) ∧ (True) ∧ True) rfl (by kernel_rfl) ⟨trivial, (by omega), trivial, trivial⟩ ?_
        refine RunR.dn ?_
        refine kloop_n _ [0, 1, 2, 3, 8, 9, 10, 11] [0, 1, 1, 1] [(0, .slice A xs.length c), (1, .slice A2 ys.length c2), (2, .int .u32 (IntKind.wrap .u32 (cn + 1))), (3, .slice A4 bs.length c4), (8, .slice none 0 0), (9, .int .i64 0), (10, .slice A6 ps.length c6), (11, .int .i64 (a + 64))] [row 5 1 (.slice A6 ps.length c6) ps.length (nums .u8 ps), vw A (nums .u8 xs), vw A2 (nums .u8 ys), vw A4 (nums .u8 bs)] (by kernel_rfl) (by kernel_rfl) ?_ ⟨(a + 64), (IntKind.wrap .u32 (cn + 1)), ps, A6, c6, (by first | assumption | omega | (simp only [List.length_append, List.length_cons, List.length_nil, List.length_set, List.length_replicate, List.length_take, List.length_drop]; omega) | (simp only [fits] at *; omega) | (simp only [List.length_append, List.length_cons, List.length_nil, List.length_set, List.length_replicate, List.length_take, List.length_drop] at *; omega) | (simp; done) | decide), (by first | assumption | omega | (simp only [List.length_append, List.length_cons, List.length_nil, List.length_set, List.length_replicate, List.length_take, List.length_drop]; omega) | (simp only [fits] at *; omega) | (simp only [List.length_append, List.length_cons, List.length_nil, List.length_set, List.length_replicate, List.length_take, List.length_drop] at *; omega) | (simp; done) | decide), (by first | assumption | omega | (simp only [List.length_append, List.length_cons, List.length_nil, List.length_set, List.length_replicate, List.length_take, List.length_drop]; omega) | (simp only [fits] at *; omega) | (simp only [List.length_append, List.length_cons, List.length_nil, List.length_set, List.length_replicate, List.length_take, List.length_drop] at *; omega) | (simp; done) | decide), (by rw [hcn, show ((a + 64) / 64).toNat = (a / 64).toNat + 1 by omega]; exact add32_add n _ 1), (by exact fits_wrap .u32 _), (by rw [hp, show min (a + 64).toNat bs.length = (a + i).toNat by omega]), (by omega), hips, (by first | assumption | omega | (simp only [List.length_append, List.length_cons, List.length_nil, List.length_set, List.length_replicate, List.length_take, List.length_drop]; omega) | (simp only [fits] at *; omega) | (simp only [List.length_append, List.length_cons, List.length_nil, List.length_set, List.length_replicate, List.length_take, List.length_drop] at *; omega) | (simp; done) | decide), (fun h => hAps (by first | exact h | (simp at h ⊢; omega))), rfl, (by first | rfl | simp only [List.length_set]), (by first | rfl | simp only [List.length_set])⟩
        show ((bs.length + 64 - (a + 64)).toNat : Nat) < ((bs.length + 64 - a).toNat : Nat)
        omega
    · skip
      refine RunC.exit ?_
      refine kseq_e ?_
      refine kloop_e ?_
      refine kblock_e ?_
      refine kseq_n ?_
      refine RunC.sr ?_
      refine RunR.sl hU [] 3 3 [8, 9] [(8, .slice A5 os.length c5), (9, .int .i64 0)] 3 ?_
      refine RunR.nn ?_
      refine RunC.ret ?_
      refine kret_r [.slice A5 os.length c5, .int .i64 0] [0] [row 5 1 (.slice A5 os.length c5) os.length (nums .u8 os)] ⟨rfl, rfl, trivial⟩ (by kernel_rfl) rfl ⟨A5, c5, os, 0, rfl, rfl, (by exact .inl ⟨by omega, by omega, rfl, by omega⟩), (by intro _; rw [ho, show min a.toNat bs.length = bs.length by omega]), (by assumption), (by assumption), (by assumption)⟩
end Go.Proofs.Ytkehpipialmneaa.X5
