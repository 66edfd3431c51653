/- The law ChachaStream returns true whatever it is handed: its walk, on the contracts of what it calls. -/
import Derived.Test.YtoaoabnhkiijpaaCPure
import Derived.Test.YtoaoabnhkiijpaaProg
import Derived.Test.YtoaoabnhkiijpaaV1
import Derived.Test.YtoaoabnhkiijpaaV2
import Derived.Test.YtoaoabnhkiijpaaV3
import Derived.Test.YtoaoabnhkiijpaaV4
import Derived.Test.YtoaoabnhkiijpaaV5
import Derived.Test.YtoaoabnhkiijpaaV6
import Derived.Test.YtoaoabnhkiijpaaV7
namespace Go.Proofs.Ytoaoabnhkiijpaa.LChachaStream
open Go Go.Proofs.Ytoaoabnhkiijpaa.SL Go.Proofs.Ytoaoabnhkiijpaa.SL.W Go.Proofs.Ytoaoabnhkiijpaa.SL.C Go.Proofs.Ytoaoabnhkiijpaa.V1 Go.Proofs.Ytoaoabnhkiijpaa.V2 Go.Proofs.Ytoaoabnhkiijpaa.V3 Go.Proofs.Ytoaoabnhkiijpaa.V4 Go.Proofs.Ytoaoabnhkiijpaa.V5 Go.Proofs.Ytoaoabnhkiijpaa.V6 Go.Proofs.Ytoaoabnhkiijpaa.V7
set_option linter.unusedVariables false
set_option linter.unusedSimpArgs false
set_option maxRecDepth 100000
set_option maxHeartbeats 40000000
def U : Tab where
  und := [(3, .int .i64), (5, .int .u8), (22, .slice 5), (23, .int .u32), (25, .int .i64), (31, .array 32 5), (32, .array 12 5), (33, .struct #[{ name := "Key", type := 31, offset := 0, embedded := false, tag := "", pkgPath := "", byteOffset := 0 }, { name := "Nonce", type := 32, offset := 32, embedded := false, tag := "", pkgPath := "", byteOffset := 32 }, { name := "Counter", type := 23, offset := 44, embedded := false, tag := "", pkgPath := "", byteOffset := 44 }, { name := "Text", type := 22, offset := 45, embedded := false, tag := "", pkgPath := "", byteOffset := 48 }]), (34, .struct #[{ name := "Key", type := 31, offset := 0, embedded := false, tag := "", pkgPath := "", byteOffset := 0 }, { name := "Nonce", type := 32, offset := 32, embedded := false, tag := "", pkgPath := "", byteOffset := 32 }, { name := "Counter", type := 23, offset := 44, embedded := false, tag := "", pkgPath := "", byteOffset := 44 }, { name := "Text", type := 22, offset := 45, embedded := false, tag := "", pkgPath := "", byteOffset := 48 }])]
  fld := [((33, 0), (0, 31)), ((33, 1), (32, 32)), ((33, 2), (44, 23)), ((33, 3), (45, 22)), ((34, 0), (0, 31)), ((34, 1), (32, 32)), ((34, 2), (44, 23)), ((34, 3), (45, 22))]
  sz := [(3, 1), (5, 1), (22, 1), (23, 1), (25, 1), (31, 32), (32, 12), (33, 46), (34, 46)]
  ti := [(3, (1, 8, .int .i64 0)), (5, (1, 1, .int .u8 0)), (22, (1, 24, .slice none 0 0)), (23, (1, 4, .int .u32 0)), (25, (1, 8, .int .i64 0)), (31, (32, 32, .agg #[.int .u8 0, .int .u8 0, .int .u8 0, .int .u8 0, .int .u8 0, .int .u8 0, .int .u8 0, .int .u8 0, .int .u8 0, .int .u8 0, .int .u8 0, .int .u8 0, .int .u8 0, .int .u8 0, .int .u8 0, .int .u8 0, .int .u8 0, .int .u8 0, .int .u8 0, .int .u8 0, .int .u8 0, .int .u8 0, .int .u8 0, .int .u8 0, .int .u8 0, .int .u8 0, .int .u8 0, .int .u8 0, .int .u8 0, .int .u8 0, .int .u8 0, .int .u8 0])), (32, (12, 12, .agg #[.int .u8 0, .int .u8 0, .int .u8 0, .int .u8 0, .int .u8 0, .int .u8 0, .int .u8 0, .int .u8 0, .int .u8 0, .int .u8 0, .int .u8 0, .int .u8 0])), (33, (46, 72, .agg #[.int .u8 0, .int .u8 0, .int .u8 0, .int .u8 0, .int .u8 0, .int .u8 0, .int .u8 0, .int .u8 0, .int .u8 0, .int .u8 0, .int .u8 0, .int .u8 0, .int .u8 0, .int .u8 0, .int .u8 0, .int .u8 0, .int .u8 0, .int .u8 0, .int .u8 0, .int .u8 0, .int .u8 0, .int .u8 0, .int .u8 0, .int .u8 0, .int .u8 0, .int .u8 0, .int .u8 0, .int .u8 0, .int .u8 0, .int .u8 0, .int .u8 0, .int .u8 0, .int .u8 0, .int .u8 0, .int .u8 0, .int .u8 0, .int .u8 0, .int .u8 0, .int .u8 0, .int .u8 0, .int .u8 0, .int .u8 0, .int .u8 0, .int .u8 0, .int .u32 0, .slice none 0 0])), (34, (46, 72, .agg #[.int .u8 0, .int .u8 0, .int .u8 0, .int .u8 0, .int .u8 0, .int .u8 0, .int .u8 0, .int .u8 0, .int .u8 0, .int .u8 0, .int .u8 0, .int .u8 0, .int .u8 0, .int .u8 0, .int .u8 0, .int .u8 0, .int .u8 0, .int .u8 0, .int .u8 0, .int .u8 0, .int .u8 0, .int .u8 0, .int .u8 0, .int .u8 0, .int .u8 0, .int .u8 0, .int .u8 0, .int .u8 0, .int .u8 0, .int .u8 0, .int .u8 0, .int .u8 0, .int .u8 0, .int .u8 0, .int .u8 0, .int .u8 0, .int .u8 0, .int .u8 0, .int .u8 0, .int .u8 0, .int .u8 0, .int .u8 0, .int .u8 0, .int .u8 0, .int .u32 0, .slice none 0 0]))]
  bld := [(33, [(0, 32), (32, 12), (44, 1), (45, 1)]), (34, [(0, 32), (32, 12), (44, 1), (45, 1)])]

theorem hU : U.OK Try.prog where
  und := by
    intro p hp
    simp only [U, List.mem_cons, List.not_mem_nil, or_false] at hp
    rcases hp with rfl | rfl | rfl | rfl | rfl | rfl | rfl | rfl | rfl
    · exact Try.underlying3
    · exact Try.underlying5
    · exact Try.underlying22
    · exact Try.underlying23
    · exact Try.underlying25
    · exact Try.underlying31
    · exact Try.underlying32
    · exact Try.underlying33
    · exact Try.underlying34
  fld := by
    intro p hp
    simp only [U, List.mem_cons, List.not_mem_nil, or_false] at hp
    rcases hp with rfl | rfl | rfl | rfl | rfl | rfl | rfl | rfl
    · exact ⟨_, _, Try.underlying33, rfl, rfl, rfl, Try.prog.types[31]!, by kernel_rfl, by decide +kernel⟩
    · exact ⟨_, _, Try.underlying33, rfl, rfl, rfl, Try.prog.types[32]!, by kernel_rfl, by decide +kernel⟩
    · exact ⟨_, _, Try.underlying33, rfl, rfl, rfl, Try.prog.types[23]!, by kernel_rfl, by decide +kernel⟩
    · exact ⟨_, _, Try.underlying33, rfl, rfl, rfl, Try.prog.types[22]!, by kernel_rfl, by decide +kernel⟩
    · exact ⟨_, _, Try.underlying34, rfl, rfl, rfl, Try.prog.types[31]!, by kernel_rfl, by decide +kernel⟩
    · exact ⟨_, _, Try.underlying34, rfl, rfl, rfl, Try.prog.types[32]!, by kernel_rfl, by decide +kernel⟩
    · exact ⟨_, _, Try.underlying34, rfl, rfl, rfl, Try.prog.types[23]!, by kernel_rfl, by decide +kernel⟩
    · exact ⟨_, _, Try.underlying34, rfl, rfl, rfl, Try.prog.types[22]!, by kernel_rfl, by decide +kernel⟩
  sz := by
    intro p hp
    simp only [U, List.mem_cons, List.not_mem_nil, or_false] at hp
    rcases hp with rfl | rfl | rfl | rfl | rfl | rfl | rfl | rfl | rfl
    · exact ⟨Try.prog.types[3]!, by kernel_rfl, by kernel_rfl⟩
    · exact ⟨Try.prog.types[5]!, by kernel_rfl, by kernel_rfl⟩
    · exact ⟨Try.prog.types[22]!, by kernel_rfl, by kernel_rfl⟩
    · exact ⟨Try.prog.types[23]!, by kernel_rfl, by kernel_rfl⟩
    · exact ⟨Try.prog.types[25]!, by kernel_rfl, by kernel_rfl⟩
    · exact ⟨Try.prog.types[31]!, by kernel_rfl, by kernel_rfl⟩
    · exact ⟨Try.prog.types[32]!, by kernel_rfl, by kernel_rfl⟩
    · exact ⟨Try.prog.types[33]!, by kernel_rfl, by kernel_rfl⟩
    · exact ⟨Try.prog.types[34]!, by kernel_rfl, by kernel_rfl⟩
  ti := by
    intro p hp
    simp only [U, List.mem_cons, List.not_mem_nil, or_false] at hp
    rcases hp with rfl | rfl | rfl | rfl | rfl | rfl | rfl | rfl | rfl
    · exact ⟨Try.prog.types[3]!, by kernel_rfl, by kernel_rfl, by kernel_rfl, by kernel_rfl⟩
    · exact ⟨Try.prog.types[5]!, by kernel_rfl, by kernel_rfl, by kernel_rfl, by kernel_rfl⟩
    · exact ⟨Try.prog.types[22]!, by kernel_rfl, by kernel_rfl, by kernel_rfl, by kernel_rfl⟩
    · exact ⟨Try.prog.types[23]!, by kernel_rfl, by kernel_rfl, by kernel_rfl, by kernel_rfl⟩
    · exact ⟨Try.prog.types[25]!, by kernel_rfl, by kernel_rfl, by kernel_rfl, by kernel_rfl⟩
    · exact ⟨Try.prog.types[31]!, by kernel_rfl, by kernel_rfl, by kernel_rfl, by kernel_rfl⟩
    · exact ⟨Try.prog.types[32]!, by kernel_rfl, by kernel_rfl, by kernel_rfl, by kernel_rfl⟩
    · exact ⟨Try.prog.types[33]!, by kernel_rfl, by kernel_rfl, by kernel_rfl, by kernel_rfl⟩
    · exact ⟨Try.prog.types[34]!, by kernel_rfl, by kernel_rfl, by kernel_rfl, by kernel_rfl⟩
  bld := by
    intro p hp
    simp only [U, List.mem_cons, List.not_mem_nil, or_false] at hp
    rcases hp with rfl | rfl
    · exact ⟨_, Try.underlying33, by kernel_rfl⟩
    · exact ⟨_, Try.underlying34, by kernel_rfl⟩
  mixed := by kernel_rfl

theorem l4_ChachaStream_spec (ks : List Int) (ns : List Int) (n : Int) (A : Option Addr) (c : Nat) (bs : List Int) (b : Int) (l_bs : Nat) (hk : ks.length = 32) (hnl : ns.length = 12) (hki : In .u8 ks) (hni : In .u8 ns) (hn : fits .u32 n) (hb : In .u8 bs) (hbc : bs.length ≤ c) (hbb : fits .u8 b) (hl_bs : bs.length = l_bs) :
    CallsS Try.prog 6 [.agg (nums .u8 ks ++ (nums .u8 ns ++ (([.int .u32 n] : List Value) ++ ([.slice A l_bs c] : List Value)))).toArray, .int .u8 b] [vw A (nums .u8 bs)] (fun r D => r = .bool true ∧ D = []) := by
  subst hl_bs
  refine CallsS.enter hU Try.f6 _ [.tmp 4] 61 Try.func6 rfl (by decide) rfl rfl (by kernel_rfl) fun w0 W => ?_
  have hb2 := hbb; simp only [fits] at hb2
  refine RunC.know (p := 0 < bs.length → Option.isSome A = true) (fun w hs => vw_some hs 0 rfl (by simp [nums_length])) (fun hA1 => ?_)
  refine RunC.seq ?_
  refine RunC.region ?_
  refine RunR.step (dst := some 2) (op := .box 34 (.tmp 0)) (by kernel_rfl) (Step.box (.agg (nums .u8 ks ++ (nums .u8 ns ++ (([.int .u32 n] : List Value) ++ ([.slice A bs.length c] : List Value)))).toArray) (by kernel_rfl) (by kernel_rfl) (fun b2 => ?_))
  refine RunR.sil hU [] 1 2 [1, 2, 4] [(1, .int .u8 b), (2, .pointer (some ⟨b2, 0, none⟩)), (4, .bool false)] ((True) ∧ True) rfl (by kernel_rfl) ⟨trivial, trivial⟩ ?_
  refine RunR.done (by kernel_rfl) ?_
  refine kseq_n ?_
  refine RunC.seq ?_
  refine RunC.seq ?_
  refine RunC.region ?_
  refine RunR.step (dst := some 12) (op := .call { callee := .value (.func 15), args := #[], argTypes := #[] }) (by kernel_rfl) (Step.call 15 [] (by kernel_rfl) (by kernel_rfl) [] [] [blk b2 34 (nums .u8 ks ++ (nums .u8 ns ++ (([.int .u32 n] : List Value) ++ ([.slice A bs.length c] : List Value)))), vw A (nums .u8 bs)] (l4_awake_spec) [] (by kernel_rfl) (Lend.nil _) ?_)
  rintro _ _ ⟨rfl, rfl⟩
  refine RunR.sil hU [] 1 2 [1, 2, 4, 13] [(1, .int .u8 b), (2, .pointer (some ⟨b2, 0, none⟩)), (4, .bool false), (13, .bool false)] ((True) ∧ True) rfl (by kernel_rfl) ⟨trivial, trivial⟩ ?_
  refine RunR.done (by kernel_rfl) ?_
  refine kseq_n ?_
  refine RunC.cond (b := false) (by kernel_rfl) (fun h => by cases h) (fun _ => ?_)
  refine RunC.skip ?_
  refine kseq_n ?_
  refine RunC.seq ?_
  refine RunC.region ?_
  refine RunR.sil hU [1, 2, 3] 5 5 [2, 4, 5] [(2, .pointer (some ⟨b2, 0, none⟩)), (4, .bool false), (5, .int .i64 (1 + (b % (5 : Int))))] ((True) ∧ (-9223372036854775808 ≤ b ∧ b < 9223372036854775808) ∧ (0 ≤ b ∧ 0 < (5 : Int)) ∧ (-9223372036854775808 ≤ (1 + (b % (5 : Int))) ∧ (1 + (b % (5 : Int))) < 9223372036854775808) ∧ (True) ∧ True) rfl (by kernel_rfl) ⟨trivial, (by omega), (by omega), (by omega), trivial, trivial⟩ ?_
  refine RunR.done (by kernel_rfl) ?_
  refine kseq_n ?_
  refine RunC.seq ?_
  refine RunC.regionU hU 15 [blk b2 34 (nums .u8 ks ++ (nums .u8 ns ++ (([.int .u32 n] : List Value) ++ ([.slice A bs.length c] : List Value))))] [0] [9, 14] #[false, false, false, false, false, false, false, false, false, false, false, false, false, false, false] (by kernel_rfl) (by kernel_rfl) (by kernel_rfl) ?_
  refine RunU.sil hU false 0 #[true, false, false, false, false, false, false, false, false, false, false, false, false, false, false] 19 (.pointer (some ⟨b2, 0, none⟩)) (True) (by kernel_rfl) trivial (by kernel_rfl) (by kernel_rfl) (fun _ _ _ h => h) ?_
  refine RunU.sil hU false 1 #[true, true, false, false, false, false, false, false, false, false, false, false, false, false, false] 20 (.slice (some ⟨b2, 0, none⟩) 32 32) (True) (by kernel_rfl) trivial (by kernel_rfl) (by kernel_rfl) (fun _ _ _ h => h) ?_
  refine RunU.sil hU false 2 #[true, true, true, false, false, false, false, false, false, false, false, false, false, false, false] 21 (.pointer (some ⟨b2, 32, none⟩)) (True) (by kernel_rfl) trivial (by kernel_rfl) (by kernel_rfl) (fun _ _ _ h => h) ?_
  refine RunU.sil hU false 3 #[true, true, true, true, false, false, false, false, false, false, false, false, false, false, false] 22 (.slice (some ⟨b2, 32, none⟩) 12 12) (True) (by kernel_rfl) trivial (by kernel_rfl) (by kernel_rfl) (fun _ _ _ h => h) ?_
  refine RunU.sil hU false 4 #[true, true, true, true, true, false, false, false, false, false, false, false, false, false, false] 23 (.pointer (some ⟨b2, 44, none⟩)) (True) (by kernel_rfl) trivial (by kernel_rfl) (by kernel_rfl) (fun _ _ _ h => h) ?_
  refine RunU.read 5 #[true, true, true, true, true, true, false, false, false, false, false, false, false, false, false] 24 (.load 23 (.tmp 23)) (.int .u32 n) [0] (by kernel_rfl) (Reads.load_blk hU 0 b2 (44) 34 (nums .u8 ks ++ (nums .u8 ns ++ (([.int .u32 n] : List Value) ++ ([.slice A bs.length c] : List Value)))) (.int .u32 n) (by kernel_rfl) (by kernel_rfl) (loadv_one (by kernel_rfl) (show Seg _ 44 _ from Seg.skip (n := 32) (o := 12) (by rw [nums_length]; first | assumption | omega | rfl | (simp; done) | (simp; omega)) (Seg.skip (n := 12) (o := 0) (by rw [nums_length]; first | assumption | omega | rfl | (simp; done) | (simp; omega)) (Seg.here _ _))))) (by kernel_rfl) (by kernel_rfl) (by kernel_rfl) (by kernel_rfl) (fun _ _ _ h => h) ?_
  refine RunU.sil hU false 6 #[true, true, true, true, true, true, true, false, false, false, false, false, false, false, false] 25 (.int .i64 (1 + (b % (5 : Int)))) (True) (by kernel_rfl) trivial (by kernel_rfl) (by kernel_rfl) (fun _ _ _ h => h) ?_
  refine RunU.sil hU true 7 #[true, true, true, true, true, true, true, true, false, false, false, false, false, false, false] 26 (.int .i64 (64 * (1 + (b % (5 : Int))))) (-9223372036854775808 ≤ (64 * (1 + (b % (5 : Int)))) ∧ (64 * (1 + (b % (5 : Int)))) < 9223372036854775808) (by kernel_rfl) (by omega) (by kernel_rfl) (by kernel_rfl) (fun _ _ _ h => h) ?_
  refine RunU.one (dst := some 27) (op := .makeSlice 22 (.tmp 26) (.tmp 26)) 8 #[true, true, true, true, true, true, true, true, true, false, false, false, false, false, false] [1] (by kernel_rfl) (by kernel_rfl) (Step.make_nums hU 5 1 .u8 .i64 .i64 (64 * (1 + (b % (5 : Int)))) rfl rfl (by kernel_rfl) (by kernel_rfl) (by omega) (by omega) (by kernel_rfl) (fun b3 => ?_))
  have hl4 : (List.replicate ((64 * (1 + (b % (5 : Int)))).toNat) (0 : Int)).length = (64 * (1 + (b % (5 : Int)))).toNat := List.length_replicate
  refine ⟨.inl (by kernel_rfl), ?_⟩
  refine RunU.one (dst := some 28) (op := .call { callee := .value (.func 19), args := #[.tmp 20, .tmp 22, .tmp 24, .tmp 27], argTypes := #[22, 22, 23, 22] }) 9 #[true, true, true, true, true, true, true, true, true, true, false, false, false, false, false] [] (by kernel_rfl) (by kernel_rfl) (Step.call 19 [.slice (some ⟨b2, 0, none⟩) 32 32, .slice (some ⟨b2, 32, none⟩) 12 12, .int .u32 n, .slice (some ⟨b3, 0, none⟩) ((64 * (1 + (b % (5 : Int)))).toNat) ((64 * (1 + (b % (5 : Int)))).toNat)] (by kernel_rfl) (by kernel_rfl) [] [vw (some ⟨b2, 0, none⟩) (nums .u8 ks), vw (some ⟨b2, 32, none⟩) (nums .u8 ns), vw (some ⟨b3, 0, none⟩) (nums .u8 (List.replicate ((64 * (1 + (b % (5 : Int)))).toNat) (0 : Int)))] [row 5 1 (.slice (some ⟨b3, 0, none⟩) ((64 * (1 + (b % (5 : Int)))).toNat) ((64 * (1 + (b % (5 : Int)))).toNat)) ((64 * (1 + (b % (5 : Int)))).toNat) (nums .u8 (List.replicate ((64 * (1 + (b % (5 : Int)))).toNat) (0 : Int))), blk b2 34 (nums .u8 ks ++ (nums .u8 ns ++ (([.int .u32 n] : List Value) ++ ([.slice A bs.length c] : List Value)))), vw A (nums .u8 bs)] (c_Xor_spec (some ⟨b2, 0, none⟩) 32 ks (some ⟨b2, 32, none⟩) 12 ns n (some ⟨b3, 0, none⟩) ((64 * (1 + (b % (5 : Int)))).toNat) (List.replicate ((64 * (1 + (b % (5 : Int)))).toNat) (0 : Int)) 32 12 ((64 * (1 + (b % (5 : Int)))).toNat) hki hni (by first | assumption | exact fits_wrap _ _ | exact fits_bits2 _ _ _ _ | (refine ⟨?_, ?_⟩ <;> omega)) (by first | assumption | omega | (simp only [List.length_append, List.length_cons, List.length_nil, List.length_set, List.length_replicate, List.length_take, List.length_drop]; omega) | (simp only [fits] at *; omega) | (simp only [List.length_append, List.length_cons, List.length_nil, List.length_set, List.length_replicate, List.length_take, List.length_drop] at *; omega) | (simp; done) | decide) (by first | assumption | omega | (simp only [List.length_append, List.length_cons, List.length_nil, List.length_set, List.length_replicate, List.length_take, List.length_drop]; omega) | (simp only [fits] at *; omega) | (simp only [List.length_append, List.length_cons, List.length_nil, List.length_set, List.length_replicate, List.length_take, List.length_drop] at *; omega) | (simp; done) | decide) (by (repeat first | assumption | (simp only [fits]; omega) | with_reducible first | exact fits_wrap _ _ | exact fits_bits2 _ _ _ _ | exact In.nil _ | exact In.sb _ | exact In.replicate _ _ | apply In.append | apply In.cons | apply In.set | apply In.take | apply In.drop | apply In.rev)) (by first | assumption | omega | (simp only [List.length_append, List.length_cons, List.length_nil, List.length_set, List.length_replicate, List.length_take, List.length_drop]; omega) | (simp only [fits] at *; omega) | (simp only [List.length_append, List.length_cons, List.length_nil, List.length_set, List.length_replicate, List.length_take, List.length_drop] at *; omega) | (simp; done) | decide) (by first | rfl | assumption | omega | (simp only [List.length_append, List.length_cons, List.length_nil, List.length_set, List.length_replicate, List.length_take, List.length_drop]; omega) | (simp; done)) (by first | rfl | assumption | omega | (simp only [List.length_append, List.length_cons, List.length_nil, List.length_set, List.length_replicate, List.length_take, List.length_drop]; omega) | (simp; done)) (by first | rfl | assumption | omega | (simp only [List.length_append, List.length_cons, List.length_nil, List.length_set, List.length_replicate, List.length_take, List.length_drop]; omega) | (simp; done))) [] (by kernel_rfl) ((((Lend.nil _).tells 0 (row 5 1 (.slice (some ⟨b3, 0, none⟩) ((64 * (1 + (b % (5 : Int)))).toNat) ((64 * (1 + (b % (5 : Int)))).toNat)) ((64 * (1 + (b % (5 : Int)))).toNat) (nums .u8 (List.replicate ((64 * (1 + (b % (5 : Int)))).toNat) (0 : Int)))) (some ⟨b3, 0, none⟩) (nums .u8 (List.replicate ((64 * (1 + (b % (5 : Int)))).toNat) (0 : Int))) (by kernel_rfl) (tells_row _ _ _ _ _ _)).tells 1 (blk b2 34 (nums .u8 ks ++ (nums .u8 ns ++ (([.int .u32 n] : List Value) ++ ([.slice A bs.length c] : List Value))))) (some ⟨b2, 32, none⟩) (nums .u8 ns) (by kernel_rfl) (tells_seg (show Seg _ 32 _ from Seg.skip (n := 32) (o := 0) (by rw [nums_length]; first | assumption | omega | rfl | (simp; done) | (simp; omega)) (Seg.here _ _)))).tells 1 (blk b2 34 (nums .u8 ks ++ (nums .u8 ns ++ (([.int .u32 n] : List Value) ++ ([.slice A bs.length c] : List Value))))) (some ⟨b2, 0, none⟩) (nums .u8 ks) (by kernel_rfl) (tells_seg (show Seg _ 0 _ from Seg.here _ _))) ?_)
  rintro _ _ ⟨A35, c36, zs7, e8, rfl, rfl, hp9, hp10, hp11, hp12, hp13⟩
  refine ⟨.inr (by kernel_rfl), ?_⟩
  refine RunU.sil hU false 10 #[true, true, true, true, true, true, true, true, true, true, true, false, false, false, false] 18 (.tuple #[.slice A35 zs7.length c36, .int .i64 e8]) (True) (by kernel_rfl) trivial (by kernel_rfl) (by kernel_rfl) (fun _ _ _ h => h) ?_
  refine RunU.sil hU false 11 #[true, true, true, true, true, true, true, true, true, true, true, true, false, false, false] 29 (.slice A35 zs7.length c36) (True) (by kernel_rfl) trivial (by kernel_rfl) (by kernel_rfl) (fun _ _ _ h => h) ?_
  refine RunU.sil hU false 12 #[true, true, true, true, true, true, true, true, true, true, true, true, true, false, false] 30 (.int .i64 e8) (True) (by kernel_rfl) trivial (by kernel_rfl) (by kernel_rfl) (fun _ _ _ h => h) ?_
  refine RunU.sil hU false 13 #[true, true, true, true, true, true, true, true, true, true, true, true, true, true, false] 6 (.slice A35 zs7.length c36) (True) (by kernel_rfl) trivial (by kernel_rfl) (by kernel_rfl) (fun _ _ _ h => h) ?_
  refine RunU.sil hU false 14 #[true, true, true, true, true, true, true, true, true, true, true, true, true, true, true] 7 (.int .i64 e8) (True) (by kernel_rfl) trivial (by kernel_rfl) (by kernel_rfl) (fun _ _ _ h => h) ?_
  refine RunU.env [2, 4, 5, 6, 7] [(2, .pointer (some ⟨b2, 0, none⟩)), (4, .bool false), (5, .int .i64 (1 + (b % (5 : Int)))), (6, .slice A35 zs7.length c36), (7, .int .i64 e8)] (by kernel_rfl) ?_
  refine RunU.done (by kernel_rfl) ?_
  refine kseq_n ?_
  refine RunC.seq ?_
  refine RunC.region ?_
  refine RunR.sil hU [] 1 1 [2, 4, 5, 6, 7, 8] [(2, .pointer (some ⟨b2, 0, none⟩)), (4, .bool false), (5, .int .i64 (1 + (b % (5 : Int)))), (6, .slice A35 zs7.length c36), (7, .int .i64 e8), (8, .slice none 0 0)] ((True) ∧ True) rfl (by kernel_rfl) ⟨trivial, trivial⟩ ?_
  refine RunR.done (by kernel_rfl) ?_
  refine kseq_n ?_
  refine RunC.seq ?_
  refine RunC.seq ?_
  refine RunC.region ?_
  refine RunR.sil hU [] 1 1 [2, 4, 5, 6, 7, 8, 9] [(2, .pointer (some ⟨b2, 0, none⟩)), (4, .bool false), (5, .int .i64 (1 + (b % (5 : Int)))), (6, .slice A35 zs7.length c36), (7, .int .i64 e8), (8, .slice none 0 0), (9, .int .i64 0)] ((True) ∧ True) rfl (by kernel_rfl) ⟨trivial, trivial⟩ ?_
  refine RunR.done (by kernel_rfl) ?_
  refine kseq_n ?_
  refine RunC.block ?_
  refine RunC.turn ([row 5 1 (.slice none 0 0) 0 (nums .u8 ([] : List Int)), row 5 1 (.slice A35 zs7.length c36) zs7.length (nums .u8 zs7), row 5 1 (.slice (some ⟨b3, 0, none⟩) ((64 * (1 + (b % (5 : Int)))).toNat) ((64 * (1 + (b % (5 : Int)))).toNat)) ((64 * (1 + (b % (5 : Int)))).toNat) (nums .u8 (List.replicate ((64 * (1 + (b % (5 : Int)))).toNat) (0 : Int))), blk b2 34 (nums .u8 ks ++ (nums .u8 ns ++ (([.int .u32 n] : List Value) ++ ([.slice A bs.length c] : List Value)))), vw A (nums .u8 bs)]) (fun w hs => hs.nil_row 5 1) ?_
  refine RunC.env [2, 5, 6, 7, 8, 9] [(2, .pointer (some ⟨b2, 0, none⟩)), (5, .int .i64 (1 + (b % (5 : Int)))), (6, .slice A35 zs7.length c36), (7, .int .i64 e8), (8, .slice none 0 0), (9, .int .i64 0)] (by kernel_rfl) ?_
  refine RunC.only [0, 0, 0, 0, 0] [row 5 1 (.slice none 0 0) 0 (nums .u8 ([] : List Int)), row 5 1 (.slice A35 zs7.length c36) zs7.length (nums .u8 zs7), row 5 1 (.slice (some ⟨b3, 0, none⟩) ((64 * (1 + (b % (5 : Int)))).toNat) ((64 * (1 + (b % (5 : Int)))).toNat)) ((64 * (1 + (b % (5 : Int)))).toNat) (nums .u8 (List.replicate ((64 * (1 + (b % (5 : Int)))).toNat) (0 : Int))), blk b2 34 (nums .u8 ks ++ (nums .u8 ns ++ (([.int .u32 n] : List Value) ++ ([.slice A bs.length c] : List Value)))), vw A (nums .u8 bs)] (by kernel_rfl) ?_
  refine RunC.loop (σ := Nat) (fun n_ t_ D_ => ∃ (i : Int) (os : List Int) (A5 : Option Addr) (c5 : Nat), (0 ≤ i) ∧ (i ≤ (1 + (b % (5 : Int)))) ∧ (os = blocksP ks ns n i.toNat) ∧ (os.length = 64 * i.toNat) ∧ (In .u8 os) ∧ (os.length ≤ c5) ∧ (0 < os.length → Option.isSome A5 = true) ∧ n_ = (((1 + (b % (5 : Int))) - i).toNat : Nat) ∧ t_ = [(2, .pointer (some ⟨b2, 0, none⟩)), (5, .int .i64 (1 + (b % (5 : Int)))), (6, .slice A35 zs7.length c36), (7, .int .i64 e8), (8, .slice A5 os.length c5), (9, .int .i64 i)] ∧ D_ = [row 5 1 (.slice A5 os.length c5) os.length (nums .u8 os), row 5 1 (.slice A35 zs7.length c36) zs7.length (nums .u8 zs7), row 5 1 (.slice (some ⟨b3, 0, none⟩) ((64 * (1 + (b % (5 : Int)))).toNat) ((64 * (1 + (b % (5 : Int)))).toNat)) ((64 * (1 + (b % (5 : Int)))).toNat) (nums .u8 (List.replicate ((64 * (1 + (b % (5 : Int)))).toNat) (0 : Int))), blk b2 34 (nums .u8 ks ++ (nums .u8 ns ++ (([.int .u32 n] : List Value) ++ ([.slice A bs.length c] : List Value)))), vw A (nums .u8 bs)]) id _ ⟨0, ([] : List Int), none, 0, (by first | assumption | omega | (simp only [List.length_append, List.length_cons, List.length_nil, List.length_set, List.length_replicate, List.length_take, List.length_drop]; omega) | (simp only [fits] at *; omega) | (simp only [List.length_append, List.length_cons, List.length_nil, List.length_set, List.length_replicate, List.length_take, List.length_drop] at *; omega) | (simp; done) | decide), (by first | assumption | omega | (simp only [List.length_append, List.length_cons, List.length_nil, List.length_set, List.length_replicate, List.length_take, List.length_drop]; omega) | (simp only [fits] at *; omega) | (simp only [List.length_append, List.length_cons, List.length_nil, List.length_set, List.length_replicate, List.length_take, List.length_drop] at *; omega) | (simp; done) | decide), (by rfl), (by rfl), (by exact In.nil _), (by exact Nat.zero_le _), (by intro h; simp at h), rfl, rfl, rfl⟩ ?_
  rintro n_ _ _ ⟨i, os, A5, c5, hi, hi2, ho, hol, hios, hcos, hAos, rfl, rfl, rfl⟩
  refine RunC.seq ?_
  refine RunC.seq ?_
  refine RunC.region ?_
  refine RunR.sil hU [] 3 3 [2, 5, 6, 7, 8, 9, 33] [(2, .pointer (some ⟨b2, 0, none⟩)), (5, .int .i64 (1 + (b % (5 : Int)))), (6, .slice A35 zs7.length c36), (7, .int .i64 e8), (8, .slice A5 os.length c5), (9, .int .i64 i), (33, .bool (decide (i < (1 + (b % (5 : Int))))))] ((True) ∧ (True) ∧ (True) ∧ True) rfl (by kernel_rfl) ⟨trivial, trivial, trivial, trivial⟩ ?_
  refine RunR.done (by kernel_rfl) ?_
  refine kseq_n ?_
  refine RunC.condp (i < (1 + (b % (5 : Int)))) (by kernel_rfl) (fun h14 => ?_) (fun h14 => ?_)
  · skip
    refine RunC.skip ?_
    refine kseq_n ?_
    refine RunC.seq ?_
    refine RunC.block ?_
    refine RunC.seq ?_
    refine RunC.regionU hU 15 [blk b2 34 (nums .u8 ks ++ (nums .u8 ns ++ (([.int .u32 n] : List Value) ++ ([.slice A bs.length c] : List Value))))] [3] [14] #[false, false, false, false, false, false, false, false, false, false, false, false, false, false, false] (by kernel_rfl) (by kernel_rfl) (by kernel_rfl) ?_
    refine RunU.sil hU false 0 #[true, false, false, false, false, false, false, false, false, false, false, false, false, false, false] 37 (.pointer (some ⟨b2, 0, none⟩)) (True) (by kernel_rfl) trivial (by kernel_rfl) (by kernel_rfl) (fun _ _ _ h => h) ?_
    refine RunU.sil hU false 1 #[true, true, false, false, false, false, false, false, false, false, false, false, false, false, false] 38 (.slice (some ⟨b2, 0, none⟩) 32 32) (True) (by kernel_rfl) trivial (by kernel_rfl) (by kernel_rfl) (fun _ _ _ h => h) ?_
    refine RunU.sil hU false 2 #[true, true, true, false, false, false, false, false, false, false, false, false, false, false, false] 39 (.pointer (some ⟨b2, 32, none⟩)) (True) (by kernel_rfl) trivial (by kernel_rfl) (by kernel_rfl) (fun _ _ _ h => h) ?_
    refine RunU.sil hU false 3 #[true, true, true, true, false, false, false, false, false, false, false, false, false, false, false] 40 (.slice (some ⟨b2, 32, none⟩) 12 12) (True) (by kernel_rfl) trivial (by kernel_rfl) (by kernel_rfl) (fun _ _ _ h => h) ?_
    refine RunU.sil hU false 4 #[true, true, true, true, true, false, false, false, false, false, false, false, false, false, false] 41 (.pointer (some ⟨b2, 44, none⟩)) (True) (by kernel_rfl) trivial (by kernel_rfl) (by kernel_rfl) (fun _ _ _ h => h) ?_
    refine RunU.read 5 #[true, true, true, true, true, true, false, false, false, false, false, false, false, false, false] 42 (.load 23 (.tmp 41)) (.int .u32 n) [3] (by kernel_rfl) (Reads.load_blk hU 0 b2 (44) 34 (nums .u8 ks ++ (nums .u8 ns ++ (([.int .u32 n] : List Value) ++ ([.slice A bs.length c] : List Value)))) (.int .u32 n) (by kernel_rfl) (by kernel_rfl) (loadv_one (by kernel_rfl) (show Seg _ 44 _ from Seg.skip (n := 32) (o := 12) (by rw [nums_length]; first | assumption | omega | rfl | (simp; done) | (simp; omega)) (Seg.skip (n := 12) (o := 0) (by rw [nums_length]; first | assumption | omega | rfl | (simp; done) | (simp; omega)) (Seg.here _ _))))) (by kernel_rfl) (by kernel_rfl) (by kernel_rfl) (by kernel_rfl) (fun _ _ _ h => h) ?_
    refine RunU.sil hU false 6 #[true, true, true, true, true, true, true, false, false, false, false, false, false, false, false] 43 (.int .i64 i) (True) (by kernel_rfl) trivial (by kernel_rfl) (by kernel_rfl) (fun _ _ _ h => h) ?_
    refine RunU.sil hU false 7 #[true, true, true, true, true, true, true, true, false, false, false, false, false, false, false] 44 (.int .u32 (IntKind.wrap .u32 i)) (True) (by kernel_rfl) trivial (by kernel_rfl) (by kernel_rfl) (fun _ _ _ h => h) ?_
    refine RunU.sil hU false 8 #[true, true, true, true, true, true, true, true, true, false, false, false, false, false, false] 45 (.int .u32 (IntKind.wrap .u32 (n + (IntKind.wrap .u32 i)))) (True) (by kernel_rfl) trivial (by kernel_rfl) (by kernel_rfl) (fun _ _ _ h => h) ?_
    refine RunU.one (dst := some 46) (op := .call { callee := .value (.func 16), args := #[.tmp 38, .tmp 40, .tmp 45], argTypes := #[22, 22, 23] }) 9 #[true, true, true, true, true, true, true, true, true, true, false, false, false, false, false] [4] (by kernel_rfl) (by kernel_rfl) (Step.call 16 [.slice (some ⟨b2, 0, none⟩) 32 32, .slice (some ⟨b2, 32, none⟩) 12 12, .int .u32 (IntKind.wrap .u32 (n + (IntKind.wrap .u32 i)))] (by kernel_rfl) (by kernel_rfl) [] [vw (some ⟨b2, 0, none⟩) (nums .u8 ks), vw (some ⟨b2, 32, none⟩) (nums .u8 ns)] [row 5 1 (.slice A5 os.length c5) os.length (nums .u8 os), row 5 1 (.slice A35 zs7.length c36) zs7.length (nums .u8 zs7), row 5 1 (.slice (some ⟨b3, 0, none⟩) ((64 * (1 + (b % (5 : Int)))).toNat) ((64 * (1 + (b % (5 : Int)))).toNat)) ((64 * (1 + (b % (5 : Int)))).toNat) (nums .u8 (List.replicate ((64 * (1 + (b % (5 : Int)))).toNat) (0 : Int))), blk b2 34 (nums .u8 ks ++ (nums .u8 ns ++ (([.int .u32 n] : List Value) ++ ([.slice A bs.length c] : List Value)))), vw A (nums .u8 bs)] (c_Block_spec (some ⟨b2, 0, none⟩) 32 ks (some ⟨b2, 32, none⟩) 12 ns (IntKind.wrap .u32 (n + (IntKind.wrap .u32 i))) 32 12 hki hni (by first | assumption | exact fits_wrap _ _ | exact fits_bits2 _ _ _ _ | (refine ⟨?_, ?_⟩ <;> omega)) (by first | assumption | omega | (simp only [List.length_append, List.length_cons, List.length_nil, List.length_set, List.length_replicate, List.length_take, List.length_drop]; omega) | (simp only [fits] at *; omega) | (simp only [List.length_append, List.length_cons, List.length_nil, List.length_set, List.length_replicate, List.length_take, List.length_drop] at *; omega) | (simp; done) | decide) (by first | assumption | omega | (simp only [List.length_append, List.length_cons, List.length_nil, List.length_set, List.length_replicate, List.length_take, List.length_drop]; omega) | (simp only [fits] at *; omega) | (simp only [List.length_append, List.length_cons, List.length_nil, List.length_set, List.length_replicate, List.length_take, List.length_drop] at *; omega) | (simp; done) | decide) (by first | rfl | assumption | omega | (simp only [List.length_append, List.length_cons, List.length_nil, List.length_set, List.length_replicate, List.length_take, List.length_drop]; omega) | (simp; done)) (by first | rfl | assumption | omega | (simp only [List.length_append, List.length_cons, List.length_nil, List.length_set, List.length_replicate, List.length_take, List.length_drop]; omega) | (simp; done))) [] (by kernel_rfl) (((Lend.nil _).tells 3 (blk b2 34 (nums .u8 ks ++ (nums .u8 ns ++ (([.int .u32 n] : List Value) ++ ([.slice A bs.length c] : List Value))))) (some ⟨b2, 32, none⟩) (nums .u8 ns) (by kernel_rfl) (tells_seg (show Seg _ 32 _ from Seg.skip (n := 32) (o := 0) (by rw [nums_length]; first | assumption | omega | rfl | (simp; done) | (simp; omega)) (Seg.here _ _)))).tells 3 (blk b2 34 (nums .u8 ks ++ (nums .u8 ns ++ (([.int .u32 n] : List Value) ++ ([.slice A bs.length c] : List Value))))) (some ⟨b2, 0, none⟩) (nums .u8 ks) (by kernel_rfl) (tells_seg (show Seg _ 0 _ from Seg.here _ _))) ?_)
    rintro _ _ ⟨A315, c316, zs17, e18, rfl, rfl, hp19, hp20, hp21, hp22, hp23⟩
    refine ⟨.inl (by kernel_rfl), ?_⟩
    refine RunU.sil hU false 10 #[true, true, true, true, true, true, true, true, true, true, true, false, false, false, false] 36 (.tuple #[.slice A315 zs17.length c316, .int .i64 e18]) (True) (by kernel_rfl) trivial (by kernel_rfl) (by kernel_rfl) (fun _ _ _ h => h) ?_
    refine RunU.sil hU false 11 #[true, true, true, true, true, true, true, true, true, true, true, true, false, false, false] 47 (.slice A315 zs17.length c316) (True) (by kernel_rfl) trivial (by kernel_rfl) (by kernel_rfl) (fun _ _ _ h => h) ?_
    refine RunU.sil hU false 12 #[true, true, true, true, true, true, true, true, true, true, true, true, true, false, false] 48 (.int .i64 e18) (True) (by kernel_rfl) trivial (by kernel_rfl) (by kernel_rfl) (fun _ _ _ h => h) ?_
    refine RunU.sil hU false 13 #[true, true, true, true, true, true, true, true, true, true, true, true, true, true, false] 10 (.slice A315 zs17.length c316) (True) (by kernel_rfl) trivial (by kernel_rfl) (by kernel_rfl) (fun _ _ _ h => h) ?_
    refine RunU.sil hU false 14 #[true, true, true, true, true, true, true, true, true, true, true, true, true, true, true] 11 (.int .i64 e18) (True) (by kernel_rfl) trivial (by kernel_rfl) (by kernel_rfl) (fun _ _ _ h => h) ?_
    refine RunU.env [2, 5, 6, 7, 8, 9, 10, 11] [(2, .pointer (some ⟨b2, 0, none⟩)), (5, .int .i64 (1 + (b % (5 : Int)))), (6, .slice A35 zs7.length c36), (7, .int .i64 e8), (8, .slice A5 os.length c5), (9, .int .i64 i), (10, .slice A315 zs17.length c316), (11, .int .i64 e18)] (by kernel_rfl) ?_
    refine RunU.done (by kernel_rfl) ?_
    refine kseq_n ?_
    refine RunC.seq ?_
    refine RunC.seq ?_
    refine RunC.region ?_
    refine RunR.sil hU [] 2 2 [2, 5, 6, 7, 8, 9, 10, 50] [(2, .pointer (some ⟨b2, 0, none⟩)), (5, .int .i64 (1 + (b % (5 : Int)))), (6, .slice A35 zs7.length c36), (7, .int .i64 e8), (8, .slice A5 os.length c5), (9, .int .i64 i), (10, .slice A315 zs17.length c316), (50, .bool (!decide (e18 = 0)))] ((True) ∧ (True) ∧ True) rfl (by kernel_rfl) ⟨trivial, trivial, trivial⟩ ?_
    refine RunR.env [2, 5, 6, 7, 8, 9, 10, 50] [(2, .pointer (some ⟨b2, 0, none⟩)), (5, .int .i64 (1 + (b % (5 : Int)))), (6, .slice A35 zs7.length c36), (7, .int .i64 e8), (8, .slice A5 os.length c5), (9, .int .i64 i), (10, .slice A315 zs17.length c316), (50, .bool (!decide (e18 = 0)))] (by kernel_rfl) ?_
    have hk24 : (e18 = 0) := by omega
    refine RunR.enveq [(2, .pointer (some ⟨b2, 0, none⟩)), (5, .int .i64 (1 + (b % (5 : Int)))), (6, .slice A35 zs7.length c36), (7, .int .i64 e8), (8, .slice A5 os.length c5), (9, .int .i64 i), (10, .slice A315 zs17.length c316), (50, .bool false)] (by rw [decide_eq_true hk24]; try rfl) ?_
    refine RunR.done (by kernel_rfl) ?_
    refine kseq_n ?_
    refine RunC.cond (b := false) (by kernel_rfl) (fun h => by cases h) (fun _ => ?_)
    refine RunC.skip ?_
    refine kseq_n ?_
    refine RunC.region ?_
    refine RunR.sil hU [] 2 2 [2, 5, 6, 7, 8, 9, 51, 52] [(2, .pointer (some ⟨b2, 0, none⟩)), (5, .int .i64 (1 + (b % (5 : Int)))), (6, .slice A35 zs7.length c36), (7, .int .i64 e8), (8, .slice A5 os.length c5), (9, .int .i64 i), (51, .slice A5 os.length c5), (52, .slice A315 zs17.length c316)] ((True) ∧ (True) ∧ True) rfl (by kernel_rfl) ⟨trivial, trivial, trivial⟩ ?_
    refine RunR.step (dst := some 53) (op := .call { callee := .builtin .append, args := #[.tmp 51, .tmp 52], argTypes := #[22, 22] }) (by kernel_rfl) (Step.append_nums hU 5 1 (.int .u8 0) .u8 1 0 A5 os.length c5 os A315 zs17.length c316 (row 5 1 (.slice A315 zs17.length c316) zs17.length (nums .u8 zs17)) zs17 rfl rfl rfl (by kernel_rfl) (by kernel_rfl) (by kernel_rfl) (by kernel_rfl) (tells_row _ _ _ _ _ _) (by first | rfl | omega | (simp; omega)) (by first | rfl | omega | (simp; omega)) (by omega) (by omega) (by kernel_rfl) (fun A25 c26 hc27 hA28 => ?_))
    have hl29 : (os ++ zs17).length = os.length + zs17.length := List.length_append
    refine RunR.sil hU [] 1 4 [2, 5, 6, 7, 8, 9] [(2, .pointer (some ⟨b2, 0, none⟩)), (5, .int .i64 (1 + (b % (5 : Int)))), (6, .slice A35 zs7.length c36), (7, .int .i64 e8), (8, .slice A25 ((os ++ zs17).length) c26), (9, .int .i64 i)] ((True) ∧ True) rfl (by kernel_rfl) ⟨trivial, trivial⟩ ?_
    refine RunR.done (by kernel_rfl) ?_
    refine kblock_n ?_
    refine kseq_n ?_
    refine RunC.region ?_
    refine RunR.sil hU [1] 3 3 [2, 5, 6, 7, 8, 9] [(2, .pointer (some ⟨b2, 0, none⟩)), (5, .int .i64 (1 + (b % (5 : Int)))), (6, .slice A35 zs7.length c36), (7, .int .i64 e8), (8, .slice A25 ((os ++ zs17).length) c26), (9, .int .i64 (i + 1))] ((True) ∧ (-9223372036854775808 ≤ (i + 1) ∧ (i + 1) < 9223372036854775808) ∧ (True) ∧ True) rfl (by kernel_rfl) ⟨trivial, (by omega), trivial, trivial⟩ ?_
    refine RunR.done (by kernel_rfl) ?_
    refine kloop_n _ [2, 5, 6, 7, 8, 9] [0, 1, 1, 1, 1] [(2, .pointer (some ⟨b2, 0, none⟩)), (5, .int .i64 (1 + (b % (5 : Int)))), (6, .slice A35 zs7.length c36), (7, .int .i64 e8), (8, .slice A25 ((os ++ zs17).length) c26), (9, .int .i64 (i + 1))] [row 5 1 (.slice A25 ((os ++ zs17).length) c26) ((os ++ zs17).length) (nums .u8 (os ++ zs17)), row 5 1 (.slice A35 zs7.length c36) zs7.length (nums .u8 zs7), row 5 1 (.slice (some ⟨b3, 0, none⟩) ((64 * (1 + (b % (5 : Int)))).toNat) ((64 * (1 + (b % (5 : Int)))).toNat)) ((64 * (1 + (b % (5 : Int)))).toNat) (nums .u8 (List.replicate ((64 * (1 + (b % (5 : Int)))).toNat) (0 : Int))), blk b2 34 (nums .u8 ks ++ (nums .u8 ns ++ (([.int .u32 n] : List Value) ++ ([.slice A bs.length c] : List Value)))), vw A (nums .u8 bs)] (by kernel_rfl) (by kernel_rfl) ?_ ⟨(i + 1), (os ++ zs17), A25, c26, (by first | assumption | omega | (simp only [List.length_append, List.length_cons, List.length_nil, List.length_set, List.length_replicate, List.length_take, List.length_drop]; omega) | (simp only [fits] at *; omega) | (simp only [List.length_append, List.length_cons, List.length_nil, List.length_set, List.length_replicate, List.length_take, List.length_drop] at *; omega) | (simp; done) | decide), (by first | assumption | omega | (simp only [List.length_append, List.length_cons, List.length_nil, List.length_set, List.length_replicate, List.length_take, List.length_drop]; omega) | (simp only [fits] at *; omega) | (simp only [List.length_append, List.length_cons, List.length_nil, List.length_set, List.length_replicate, List.length_take, List.length_drop] at *; omega) | (simp; done) | decide), (by exact blocks_step ho hi (by assumption) (by omega)), (by first | rfl | assumption | omega | (simp only [List.length_append, List.length_cons, List.length_nil, List.length_set, List.length_replicate, List.length_take, List.length_drop]; omega) | (simp; done)), (by (repeat first | assumption | (simp only [fits]; omega) | with_reducible first | exact fits_wrap _ _ | exact fits_bits2 _ _ _ _ | exact In.nil _ | exact In.sb _ | exact In.replicate _ _ | apply In.append | apply In.cons | apply In.set | apply In.take | apply In.drop | apply In.rev)), (by first | assumption | omega | (simp only [List.length_append, List.length_cons, List.length_nil, List.length_set, List.length_replicate, List.length_take, List.length_drop]; omega) | (simp only [fits] at *; omega) | (simp only [List.length_append, List.length_cons, List.length_nil, List.length_set, List.length_replicate, List.length_take, List.length_drop] at *; omega) | (simp; done) | decide), (fun h => hA28 (by first | exact h | (simp at h ⊢; omega))), rfl, (by rfl), (by rfl)⟩
    show (((1 + (b % (5 : Int))) - (i + 1)).toNat : Nat) < (((1 + (b % (5 : Int))) - i).toNat : Nat)
    omega
  · skip
    refine RunC.exit ?_
    refine kseq_e ?_
    refine kloop_e ?_
    refine kblock_e ?_
    refine kseq_n ?_
    refine RunC.seq ?_
    refine RunC.region ?_
    refine RunR.sil hU [] 3 3 [6, 8, 56] [(6, .slice A35 zs7.length c36), (8, .slice A5 os.length c5), (56, .bool (decide (e8 = 0)))] ((True) ∧ (True) ∧ (True) ∧ True) rfl (by kernel_rfl) ⟨trivial, trivial, trivial, trivial⟩ ?_
    refine RunR.env [6, 8, 56] [(6, .slice A35 zs7.length c36), (8, .slice A5 os.length c5), (56, .bool (decide (e8 = 0)))] (by kernel_rfl) ?_
    have hk30 : (e8 = 0) := by omega
    refine RunR.enveq [(6, .slice A35 zs7.length c36), (8, .slice A5 os.length c5), (56, .bool true)] (by rw [decide_eq_true hk30]; try rfl) ?_
    refine RunR.sil hU [] 2 5 [56, 57, 58] [(56, .bool true), (57, .slice A35 zs7.length c36), (58, .slice A5 os.length c5)] ((True) ∧ (True) ∧ True) rfl (by kernel_rfl) ⟨trivial, trivial, trivial⟩ ?_
    refine RunR.step (dst := some 59) (op := .call { callee := .value (.func 17), args := #[.tmp 57, .tmp 58], argTypes := #[22, 22] }) (by kernel_rfl) (Step.call 17 [.slice A35 zs7.length c36, .slice A5 os.length c5] (by kernel_rfl) (by kernel_rfl) [] [vw A35 (nums .u8 zs7), vw A5 (nums .u8 os)] [row 5 1 (.slice A5 os.length c5) os.length (nums .u8 os), row 5 1 (.slice A35 zs7.length c36) zs7.length (nums .u8 zs7), row 5 1 (.slice (some ⟨b3, 0, none⟩) ((64 * (1 + (b % (5 : Int)))).toNat) ((64 * (1 + (b % (5 : Int)))).toNat)) ((64 * (1 + (b % (5 : Int)))).toNat) (nums .u8 (List.replicate ((64 * (1 + (b % (5 : Int)))).toNat) (0 : Int))), blk b2 34 (nums .u8 ks ++ (nums .u8 ns ++ (([.int .u32 n] : List Value) ++ ([.slice A bs.length c] : List Value)))), vw A (nums .u8 bs)] (r_Equal_spec A35 c36 zs7 A5 c5 os zs7.length os.length hp11 (by first | assumption | omega | (simp only [List.length_append, List.length_cons, List.length_nil, List.length_set, List.length_replicate, List.length_take, List.length_drop]; omega) | (simp only [fits] at *; omega) | (simp only [List.length_append, List.length_cons, List.length_nil, List.length_set, List.length_replicate, List.length_take, List.length_drop] at *; omega) | (simp; done) | decide) hios (by first | assumption | omega | (simp only [List.length_append, List.length_cons, List.length_nil, List.length_set, List.length_replicate, List.length_take, List.length_drop]; omega) | (simp only [fits] at *; omega) | (simp only [List.length_append, List.length_cons, List.length_nil, List.length_set, List.length_replicate, List.length_take, List.length_drop] at *; omega) | (simp; done) | decide) (by first | rfl | assumption | omega | (simp only [List.length_append, List.length_cons, List.length_nil, List.length_set, List.length_replicate, List.length_take, List.length_drop]; omega) | (simp; done)) (by first | rfl | assumption | omega | (simp only [List.length_append, List.length_cons, List.length_nil, List.length_set, List.length_replicate, List.length_take, List.length_drop]; omega) | (simp; done))) [] (by kernel_rfl) (((Lend.nil _).tells 0 (row 5 1 (.slice A5 os.length c5) os.length (nums .u8 os)) A5 (nums .u8 os) (by kernel_rfl) (tells_row _ _ _ _ _ _)).tells 1 (row 5 1 (.slice A35 zs7.length c36) zs7.length (nums .u8 zs7)) A35 (nums .u8 zs7) (by kernel_rfl) (tells_row _ _ _ _ _ _)) ?_)
    rintro _ _ ⟨rfl, rfl⟩
    refine RunR.sil hU [] 2 8 [4] [(4, .bool (decide (zs7 = os)))] ((True) ∧ (True) ∧ True) rfl (by kernel_rfl) ⟨trivial, trivial, trivial⟩ ?_
    refine RunR.env [4] [(4, .bool (decide (zs7 = os)))] (by kernel_rfl) ?_
    have hk31 : (zs7 = os) := by exact stream_of (by assumption) (by omega) ho (by omega)
    refine RunR.enveq [(4, .bool true)] (by rw [decide_eq_true hk31]; try rfl) ?_
    refine RunR.done (by kernel_rfl) ?_
    refine kseq_n ?_
    refine RunC.ret ?_
    refine kret_r [.bool true] [] [] ⟨rfl, trivial⟩ (by kernel_rfl) rfl ⟨rfl, rfl⟩
end Go.Proofs.Ytoaoabnhkiijpaa.LChachaStream
