/- What these functions compute: a contract for each, walked through its code. -/
import Derived.Test.YtbnjcfhnbjaoiaaMPure
import Derived.Test.YtbnjcfhnbjaoiaaProg
import Derived.Test.YtbnjcfhnbjaoiaaX1
import Derived.Test.YtbnjcfhnbjaoiaaX2
import Derived.Test.YtbnjcfhnbjaoiaaX3
import Derived.Test.YtbnjcfhnbjaoiaaX4
import Derived.Test.YtbnjcfhnbjaoiaaX5
namespace Go.Proofs.Ytbnjcfhnbjaoiaa.X6
open Go Go.Proofs.Ytbnjcfhnbjaoiaa.SL Go.Proofs.Ytbnjcfhnbjaoiaa.SL.W Go.Proofs.Ytbnjcfhnbjaoiaa.SL.C Go.Proofs.Ytbnjcfhnbjaoiaa.SL.H Go.Proofs.Ytbnjcfhnbjaoiaa.SL.M Go.Proofs.Ytbnjcfhnbjaoiaa.X1 Go.Proofs.Ytbnjcfhnbjaoiaa.X2 Go.Proofs.Ytbnjcfhnbjaoiaa.X3 Go.Proofs.Ytbnjcfhnbjaoiaa.X4 Go.Proofs.Ytbnjcfhnbjaoiaa.X5
set_option linter.unusedVariables false
set_option linter.unusedSimpArgs false
set_option maxRecDepth 100000
set_option maxHeartbeats 40000000
def U : Tab where
  und := [(3, .int .i64), (5, .int .u8), (22, .slice 5), (24, .int .u64), (49, .int .u32), (94, .slice 49)]
  fld := []
  sz := [(3, 1), (5, 1), (22, 1), (24, 1), (49, 1), (94, 1)]
  ti := [(3, (1, 8, .int .i64 0)), (5, (1, 1, .int .u8 0)), (22, (1, 24, .slice none 0 0)), (24, (1, 8, .int .u64 0)), (49, (1, 4, .int .u32 0)), (94, (1, 24, .slice none 0 0))]
  bld := []

theorem hU : U.OK Try.prog where
  und := by
    intro p hp
    simp only [U, List.mem_cons, List.not_mem_nil, or_false] at hp
    rcases hp with rfl | rfl | rfl | rfl | rfl | rfl
    · exact Try.underlying3
    · exact Try.underlying5
    · exact Try.underlying22
    · exact Try.underlying24
    · exact Try.underlying49
    · exact Try.underlying94
  fld := by
    intro p hp; cases hp
  sz := by
    intro p hp
    simp only [U, List.mem_cons, List.not_mem_nil, or_false] at hp
    rcases hp with rfl | rfl | rfl | rfl | rfl | rfl
    · exact ⟨Try.prog.types[3]!, by kernel_rfl, by kernel_rfl⟩
    · exact ⟨Try.prog.types[5]!, by kernel_rfl, by kernel_rfl⟩
    · exact ⟨Try.prog.types[22]!, by kernel_rfl, by kernel_rfl⟩
    · exact ⟨Try.prog.types[24]!, by kernel_rfl, by kernel_rfl⟩
    · exact ⟨Try.prog.types[49]!, by kernel_rfl, by kernel_rfl⟩
    · exact ⟨Try.prog.types[94]!, by kernel_rfl, by kernel_rfl⟩
  ti := by
    intro p hp
    simp only [U, List.mem_cons, List.not_mem_nil, or_false] at hp
    rcases hp with rfl | rfl | rfl | rfl | rfl | rfl
    · exact ⟨Try.prog.types[3]!, by kernel_rfl, by kernel_rfl, by kernel_rfl, by kernel_rfl⟩
    · exact ⟨Try.prog.types[5]!, by kernel_rfl, by kernel_rfl, by kernel_rfl, by kernel_rfl⟩
    · exact ⟨Try.prog.types[22]!, by kernel_rfl, by kernel_rfl, by kernel_rfl, by kernel_rfl⟩
    · exact ⟨Try.prog.types[24]!, by kernel_rfl, by kernel_rfl, by kernel_rfl, by kernel_rfl⟩
    · exact ⟨Try.prog.types[49]!, by kernel_rfl, by kernel_rfl, by kernel_rfl, by kernel_rfl⟩
    · exact ⟨Try.prog.types[94]!, by kernel_rfl, by kernel_rfl, by kernel_rfl, by kernel_rfl⟩
  bld := by
    intro p hp; cases hp
  mixed := by kernel_rfl

theorem hr_H_spec  :
    CallsS Try.prog 65 [] [] (fun r D => ∃ (A2 : Option Addr) (c2 : Nat) (zs : List Int), r = .slice A2 zs.length c2 ∧ D = [row 49 1 (.slice A2 zs.length c2) zs.length (nums .u32 zs)] ∧ (zs = h0) ∧ (zs.length = 8) ∧ (In .u32 zs) ∧ (zs.length ≤ c2) ∧ (0 < zs.length → Option.isSome A2 = true)) := by
  refine CallsS.enter hU Try.f65 _ [.tmp 0] 2 Try.func65 rfl (by decide) rfl rfl (by kernel_rfl) fun w0 W => ?_
  refine RunC.seq ?_
  refine RunC.region ?_
  refine RunR.sil hU [] 1 1 [0] [(0, .slice none 0 0)] ((True) ∧ True) rfl (by kernel_rfl) ⟨trivial, trivial⟩ ?_
  refine RunR.done (by kernel_rfl) ?_
  refine kseq_n ?_
  refine RunC.seq ?_
  refine RunC.region ?_
  refine RunR.step (dst := some 1) (op := .buildSlice 94 8 #[(0, .const (.int .u32 1779033703)), (1, .const (.int .u32 3144134277)), (2, .const (.int .u32 1013904242)), (3, .const (.int .u32 2773480762)), (4, .const (.int .u32 1359893119)), (5, .const (.int .u32 2600822924)), (6, .const (.int .u32 528734635)), (7, .const (.int .u32 1541459225))]) (by kernel_rfl) (Step.lit_nums hU 49 4 .u32 (.int .u32 0) ([1779033703, 3144134277, 1013904242, 2773480762, 1359893119, 2600822924, 528734635, 1541459225] : List Int) rfl rfl (by kernel_rfl) rfl rfl (by kernel_rfl) (fun b1 => ?_))
  have hl2 : (([1779033703, 3144134277, 1013904242, 2773480762, 1359893119, 2600822924, 528734635, 1541459225] : List Int)).length = 8 := rfl
  refine RunR.sil hU [] 1 2 [0] [(0, .slice (some ⟨b1, 0, none⟩) 8 8)] ((True) ∧ True) rfl (by kernel_rfl) ⟨trivial, trivial⟩ ?_
  refine RunR.done (by kernel_rfl) ?_
  refine kseq_n ?_
  refine RunC.ret ?_
  refine kret_r [.slice (some ⟨b1, 0, none⟩) 8 8] [0] [row 49 1 (.slice (some ⟨b1, 0, none⟩) 8 8) 8 (nums .u32 ([1779033703, 3144134277, 1013904242, 2773480762, 1359893119, 2600822924, 528734635, 1541459225] : List Int))] ⟨rfl, trivial⟩ (by kernel_rfl) rfl ⟨(some ⟨b1, 0, none⟩), 8, ([1779033703, 3144134277, 1013904242, 2773480762, 1359893119, 2600822924, 528734635, 1541459225] : List Int), rfl, rfl, (by rfl), (by rfl), (by exact in_u32 (by decide +kernel)), (by exact Nat.le_refl _), (by intro _; rfl)⟩

theorem hr_K_spec  :
    CallsS Try.prog 66 [] [] (fun r D => ∃ (A2 : Option Addr) (c2 : Nat) (zs : List Int), r = .slice A2 zs.length c2 ∧ D = [row 49 1 (.slice A2 zs.length c2) zs.length (nums .u32 zs)] ∧ (zs = ks) ∧ (zs.length = 64) ∧ (In .u32 zs) ∧ (zs.length ≤ c2) ∧ (0 < zs.length → Option.isSome A2 = true)) := by
  refine CallsS.enter hU Try.f66 _ [.tmp 0] 2 Try.func66 rfl (by decide) rfl rfl (by kernel_rfl) fun w0 W => ?_
  refine RunC.seq ?_
  refine RunC.region ?_
  refine RunR.sil hU [] 1 1 [0] [(0, .slice none 0 0)] ((True) ∧ True) rfl (by kernel_rfl) ⟨trivial, trivial⟩ ?_
  refine RunR.done (by kernel_rfl) ?_
  refine kseq_n ?_
  refine RunC.seq ?_
  refine RunC.region ?_
  refine RunR.step (dst := some 1) (op := .buildSlice 94 64 #[(0, .const (.int .u32 1116352408)), (1, .const (.int .u32 1899447441)), (2, .const (.int .u32 3049323471)), (3, .const (.int .u32 3921009573)), (4, .const (.int .u32 961987163)), (5, .const (.int .u32 1508970993)), (6, .const (.int .u32 2453635748)), (7, .const (.int .u32 2870763221)), (8, .const (.int .u32 3624381080)), (9, .const (.int .u32 310598401)), (10, .const (.int .u32 607225278)), (11, .const (.int .u32 1426881987)), (12, .const (.int .u32 1925078388)), (13, .const (.int .u32 2162078206)), (14, .const (.int .u32 2614888103)), (15, .const (.int .u32 3248222580)), (16, .const (.int .u32 3835390401)), (17, .const (.int .u32 4022224774)), (18, .const (.int .u32 264347078)), (19, .const (.int .u32 604807628)), (20, .const (.int .u32 770255983)), (21, .const (.int .u32 1249150122)), (22, .const (.int .u32 1555081692)), (23, .const (.int .u32 1996064986)), (24, .const (.int .u32 2554220882)), (25, .const (.int .u32 2821834349)), (26, .const (.int .u32 2952996808)), (27, .const (.int .u32 3210313671)), (28, .const (.int .u32 3336571891)), (29, .const (.int .u32 3584528711)), (30, .const (.int .u32 113926993)), (31, .const (.int .u32 338241895)), (32, .const (.int .u32 666307205)), (33, .const (.int .u32 773529912)), (34, .const (.int .u32 1294757372)), (35, .const (.int .u32 1396182291)), (36, .const (.int .u32 1695183700)), (37, .const (.int .u32 1986661051)), (38, .const (.int .u32 2177026350)), (39, .const (.int .u32 2456956037)), (40, .const (.int .u32 2730485921)), (41, .const (.int .u32 2820302411)), (42, .const (.int .u32 3259730800)), (43, .const (.int .u32 3345764771)), (44, .const (.int .u32 3516065817)), (45, .const (.int .u32 3600352804)), (46, .const (.int .u32 4094571909)), (47, .const (.int .u32 275423344)), (48, .const (.int .u32 430227734)), (49, .const (.int .u32 506948616)), (50, .const (.int .u32 659060556)), (51, .const (.int .u32 883997877)), (52, .const (.int .u32 958139571)), (53, .const (.int .u32 1322822218)), (54, .const (.int .u32 1537002063)), (55, .const (.int .u32 1747873779)), (56, .const (.int .u32 1955562222)), (57, .const (.int .u32 2024104815)), (58, .const (.int .u32 2227730452)), (59, .const (.int .u32 2361852424)), (60, .const (.int .u32 2428436474)), (61, .const (.int .u32 2756734187)), (62, .const (.int .u32 3204031479)), (63, .const (.int .u32 3329325298))]) (by kernel_rfl) (Step.lit_nums hU 49 4 .u32 (.int .u32 0) ([1116352408, 1899447441, 3049323471, 3921009573, 961987163, 1508970993, 2453635748, 2870763221, 3624381080, 310598401, 607225278, 1426881987, 1925078388, 2162078206, 2614888103, 3248222580, 3835390401, 4022224774, 264347078, 604807628, 770255983, 1249150122, 1555081692, 1996064986, 2554220882, 2821834349, 2952996808, 3210313671, 3336571891, 3584528711, 113926993, 338241895, 666307205, 773529912, 1294757372, 1396182291, 1695183700, 1986661051, 2177026350, 2456956037, 2730485921, 2820302411, 3259730800, 3345764771, 3516065817, 3600352804, 4094571909, 275423344, 430227734, 506948616, 659060556, 883997877, 958139571, 1322822218, 1537002063, 1747873779, 1955562222, 2024104815, 2227730452, 2361852424, 2428436474, 2756734187, 3204031479, 3329325298] : List Int) rfl rfl (by kernel_rfl) rfl rfl (by kernel_rfl) (fun b1 => ?_))
  have hl2 : (([1116352408, 1899447441, 3049323471, 3921009573, 961987163, 1508970993, 2453635748, 2870763221, 3624381080, 310598401, 607225278, 1426881987, 1925078388, 2162078206, 2614888103, 3248222580, 3835390401, 4022224774, 264347078, 604807628, 770255983, 1249150122, 1555081692, 1996064986, 2554220882, 2821834349, 2952996808, 3210313671, 3336571891, 3584528711, 113926993, 338241895, 666307205, 773529912, 1294757372, 1396182291, 1695183700, 1986661051, 2177026350, 2456956037, 2730485921, 2820302411, 3259730800, 3345764771, 3516065817, 3600352804, 4094571909, 275423344, 430227734, 506948616, 659060556, 883997877, 958139571, 1322822218, 1537002063, 1747873779, 1955562222, 2024104815, 2227730452, 2361852424, 2428436474, 2756734187, 3204031479, 3329325298] : List Int)).length = 64 := rfl
  refine RunR.sil hU [] 1 2 [0] [(0, .slice (some ⟨b1, 0, none⟩) 64 64)] ((True) ∧ True) rfl (by kernel_rfl) ⟨trivial, trivial⟩ ?_
  refine RunR.done (by kernel_rfl) ?_
  refine kseq_n ?_
  refine RunC.ret ?_
  refine kret_r [.slice (some ⟨b1, 0, none⟩) 64 64] [0] [row 49 1 (.slice (some ⟨b1, 0, none⟩) 64 64) 64 (nums .u32 ([1116352408, 1899447441, 3049323471, 3921009573, 961987163, 1508970993, 2453635748, 2870763221, 3624381080, 310598401, 607225278, 1426881987, 1925078388, 2162078206, 2614888103, 3248222580, 3835390401, 4022224774, 264347078, 604807628, 770255983, 1249150122, 1555081692, 1996064986, 2554220882, 2821834349, 2952996808, 3210313671, 3336571891, 3584528711, 113926993, 338241895, 666307205, 773529912, 1294757372, 1396182291, 1695183700, 1986661051, 2177026350, 2456956037, 2730485921, 2820302411, 3259730800, 3345764771, 3516065817, 3600352804, 4094571909, 275423344, 430227734, 506948616, 659060556, 883997877, 958139571, 1322822218, 1537002063, 1747873779, 1955562222, 2024104815, 2227730452, 2361852424, 2428436474, 2756734187, 3204031479, 3329325298] : List Int))] ⟨rfl, trivial⟩ (by kernel_rfl) rfl ⟨(some ⟨b1, 0, none⟩), 64, ([1116352408, 1899447441, 3049323471, 3921009573, 961987163, 1508970993, 2453635748, 2870763221, 3624381080, 310598401, 607225278, 1426881987, 1925078388, 2162078206, 2614888103, 3248222580, 3835390401, 4022224774, 264347078, 604807628, 770255983, 1249150122, 1555081692, 1996064986, 2554220882, 2821834349, 2952996808, 3210313671, 3336571891, 3584528711, 113926993, 338241895, 666307205, 773529912, 1294757372, 1396182291, 1695183700, 1986661051, 2177026350, 2456956037, 2730485921, 2820302411, 3259730800, 3345764771, 3516065817, 3600352804, 4094571909, 275423344, 430227734, 506948616, 659060556, 883997877, 958139571, 1322822218, 1537002063, 1747873779, 1955562222, 2024104815, 2227730452, 2361852424, 2428436474, 2756734187, 3204031479, 3329325298] : List Int), rfl, rfl, (by rfl), (by rfl), (by exact in_u32 (by decide +kernel)), (by exact Nat.le_refl _), (by intro _; rfl)⟩

theorem hr_Pad_spec (A : Option Addr) (c : Nat) (bs : List Int) (l_bs : Nat) (hb : In .u8 bs) (hbl : bs.length ≤ 140737488351232) (hl_bs : bs.length = l_bs) :
    CallsS Try.prog 64 [.slice A l_bs c] [vw A (nums .u8 bs)] (fun r D => ∃ (A2 : Option Addr) (c2 : Nat) (zs : List Int), r = .slice A2 zs.length c2 ∧ D = [row 5 1 (.slice A2 zs.length c2) zs.length (nums .u8 zs)] ∧ (zs = padded bs) ∧ (In .u8 zs) ∧ (zs.length ≤ c2) ∧ (0 < zs.length → Option.isSome A2 = true)) := by
  subst hl_bs
  refine CallsS.enter hU Try.f64 _ [.tmp 2] 24 Try.func64 rfl (by decide) rfl rfl (by kernel_rfl) fun w0 W => ?_
  refine RunC.know (p := 0 < bs.length → Option.isSome A = true) (fun w hs => vw_some hs 0 rfl (by simp [nums_length])) (fun hA1 => ?_)
  refine RunC.seq ?_
  refine RunC.region ?_
  refine RunR.sil hU [] 1 1 [0, 2] [(0, .slice A bs.length c), (2, .slice none 0 0)] ((True) ∧ True) rfl (by kernel_rfl) ⟨trivial, trivial⟩ ?_
  refine RunR.done (by kernel_rfl) ?_
  refine kseq_n ?_
  refine RunC.seq ?_
  refine RunC.region ?_
  refine RunR.step (dst := some 4) (op := .buildSlice 22 0 #[]) (by kernel_rfl) (Step.lit_nums hU 5 1 .u8 (.int .u8 0) ([] : List Int) rfl rfl (by kernel_rfl) rfl rfl (by kernel_rfl) (fun b2 => ?_))
  have hl3 : (([] : List Int)).length = 0 := rfl
  refine RunR.sil hU [] 1 2 [0, 2, 4, 5] [(0, .slice A bs.length c), (2, .slice none 0 0), (4, .slice (some ⟨b2, 0, none⟩) 0 0), (5, .slice A bs.length c)] ((True) ∧ True) rfl (by kernel_rfl) ⟨trivial, trivial⟩ ?_
  have hl8 : (([] : List Int)).length = 0 := rfl
  refine RunR.step (dst := some 6) (op := .call { callee := .builtin .append, args := #[.tmp 4, .tmp 5], argTypes := #[22, 22] }) (by kernel_rfl) (Step.append_nums hU 5 1 (.int .u8 0) .u8 0 1 (some ⟨b2, 0, none⟩) 0 0 ([] : List Int) A bs.length c (vw A (nums .u8 bs)) bs rfl rfl rfl (by kernel_rfl) (by kernel_rfl) (by kernel_rfl) (by kernel_rfl) (tells_vw _ _) (by first | rfl | omega | (simp; omega)) (by first | rfl | omega | (simp; omega)) (by omega) (by omega) (by kernel_rfl) (fun Aq4 cq5 hc6 hA7 => ?_))
  simp only [List.nil_append] at hc6 hA7
  refine RunR.step (dst := some 7) (op := .buildSlice 22 1 #[(0, .const (.int .u8 128))]) (by kernel_rfl) (Step.lit_nums hU 5 1 .u8 (.int .u8 0) ([128] : List Int) rfl rfl (by kernel_rfl) rfl rfl (by kernel_rfl) (fun b9 => ?_))
  have hl10 : (([128] : List Int)).length = 1 := rfl
  have hl15 : (([128] : List Int)).length = 1 := rfl
  refine RunR.step (dst := some 8) (op := .call { callee := .builtin .append, args := #[.tmp 6, .tmp 7], argTypes := #[22, 22] }) (by kernel_rfl) (Step.append_nums hU 5 1 (.int .u8 0) .u8 1 0 Aq4 bs.length cq5 bs (some ⟨b9, 0, none⟩) 1 1 (row 5 1 (.slice (some ⟨b9, 0, none⟩) 1 1) 1 (nums .u8 ([128] : List Int))) ([128] : List Int) rfl rfl rfl (by kernel_rfl) (by kernel_rfl) (by kernel_rfl) (by kernel_rfl) (tells_row _ _ _ _ _ _) (by first | rfl | omega | (simp; omega)) (by first | rfl | omega | (simp; omega)) (by omega) (by omega) (by kernel_rfl) (fun Aq11 cq12 hc13 hA14 => ?_))
  have hl16 : (bs ++ ([128] : List Int)).length = bs.length + ([128] : List Int).length := List.length_append
  simp only [List.length_cons, List.length_nil] at hl16
  refine RunR.sil hU [] 1 6 [0, 2, 3] [(0, .slice A bs.length c), (2, .slice none 0 0), (3, .slice Aq11 ((bs ++ ([128] : List Int)).length) cq12)] ((True) ∧ True) rfl (by kernel_rfl) ⟨trivial, trivial⟩ ?_
  refine RunR.done (by kernel_rfl) ?_
  refine kseq_n ?_
  refine RunC.seq ?_
  refine RunC.block ?_
  refine RunC.env [0, 2, 3] [(0, .slice A bs.length c), (2, .slice none 0 0), (3, .slice Aq11 ((bs ++ ([128] : List Int)).length) cq12)] (by kernel_rfl) ?_
  refine RunC.only [0, 0, 0] [row 5 1 (.slice Aq11 ((bs ++ ([128] : List Int)).length) cq12) ((bs ++ ([128] : List Int)).length) (nums .u8 (bs ++ ([128] : List Int))), row 5 1 (.slice (some ⟨b9, 0, none⟩) 1 1) 1 (nums .u8 ([128] : List Int)), vw A (nums .u8 bs)] (by kernel_rfl) ?_
  refine RunC.loop (σ := Nat) (fun n_ t_ D_ => ∃ (j : Nat) (os : List Int) (A2 : Option Addr) (c2 : Nat), (os = bs ++ [128] ++ List.replicate j 0) ∧ (os.length = bs.length + 1 + j) ∧ (j ≤ (119 - bs.length % 64) % 64) ∧ (In .u8 os) ∧ (os.length ≤ c2) ∧ (0 < os.length → Option.isSome A2 = true) ∧ n_ = (64 - j : Nat) ∧ t_ = [(0, .slice A bs.length c), (2, .slice none 0 0), (3, .slice A2 os.length c2)] ∧ D_ = [row 5 1 (.slice A2 os.length c2) os.length (nums .u8 os), row 5 1 (.slice (some ⟨b9, 0, none⟩) 1 1) 1 (nums .u8 ([128] : List Int)), vw A (nums .u8 bs)]) id _ ⟨0, (bs ++ ([128] : List Int)), Aq11, cq12, (by simp), (by simp), (by first | assumption | omega | (simp only [List.length_append, List.length_cons, List.length_nil, List.length_set, List.length_replicate, List.length_take, List.length_drop]; omega) | (simp only [fits] at *; omega) | (simp only [List.length_append, List.length_cons, List.length_nil, List.length_set, List.length_replicate, List.length_take, List.length_drop] at *; omega) | (simp; done) | decide), (by (repeat first | assumption | (simp only [fits]; omega) | with_reducible first | exact fits_wrap _ _ | exact fits_bits2 _ _ _ _ | exact In.nil _ | exact In.sb _ | exact In.replicate _ _ | apply In.append | apply In.cons | apply In.set | apply In.take | apply In.drop | apply In.rev)), (by first | assumption | omega | (simp only [List.length_append, List.length_cons, List.length_nil, List.length_set, List.length_replicate, List.length_take, List.length_drop]; omega) | (simp only [fits] at *; omega) | (simp only [List.length_append, List.length_cons, List.length_nil, List.length_set, List.length_replicate, List.length_take, List.length_drop] at *; omega) | (simp; done) | decide), (fun h => hA14 (by first | exact h | (simp at h ⊢; omega))), rfl, rfl, rfl⟩ ?_
  rintro n_ _ _ ⟨j, os, A2, c2, ho, hol, hj, hios, hcos, hAos, rfl, rfl, rfl⟩
  refine RunC.seq ?_
  refine RunC.seq ?_
  refine RunC.region ?_
  refine RunR.sil hU [2] 4 4 [0, 2, 3, 12] [(0, .slice A bs.length c), (2, .slice none 0 0), (3, .slice A2 os.length c2), (12, .bool (!decide ((((os.length : Nat) : Int) % (64 : Int)) = 56)))] ((True) ∧ (True) ∧ (0 ≤ ((os.length : Nat) : Int) ∧ 0 < (64 : Int)) ∧ (True) ∧ True) rfl (by kernel_rfl) ⟨trivial, trivial, (by omega), trivial, trivial⟩ ?_
  refine RunR.done (by kernel_rfl) ?_
  refine kseq_n ?_
  refine RunC.condn ((((os.length : Nat) : Int) % (64 : Int)) = 56) (by kernel_rfl) (fun h17 => ?_) (fun h17 => ?_)
  · skip
    refine RunC.skip ?_
    refine kseq_n ?_
    refine RunC.block ?_
    refine RunC.region ?_
    refine RunR.sil hU [] 1 1 [0, 2, 3, 13] [(0, .slice A bs.length c), (2, .slice none 0 0), (3, .slice A2 os.length c2), (13, .slice A2 os.length c2)] ((True) ∧ True) rfl (by kernel_rfl) ⟨trivial, trivial⟩ ?_
    refine RunR.step (dst := some 14) (op := .buildSlice 22 1 #[(0, .const (.int .u8 0))]) (by kernel_rfl) (Step.lit_nums hU 5 1 .u8 (.int .u8 0) ([0] : List Int) rfl rfl (by kernel_rfl) rfl rfl (by kernel_rfl) (fun b18 => ?_))
    have hl19 : (([0] : List Int)).length = 1 := rfl
    have hl24 : (([0] : List Int)).length = 1 := rfl
    refine RunR.step (dst := some 15) (op := .call { callee := .builtin .append, args := #[.tmp 13, .tmp 14], argTypes := #[22, 22] }) (by kernel_rfl) (Step.append_nums hU 5 1 (.int .u8 0) .u8 1 0 A2 os.length c2 os (some ⟨b18, 0, none⟩) 1 1 (row 5 1 (.slice (some ⟨b18, 0, none⟩) 1 1) 1 (nums .u8 ([0] : List Int))) ([0] : List Int) rfl rfl rfl (by kernel_rfl) (by kernel_rfl) (by kernel_rfl) (by kernel_rfl) (tells_row _ _ _ _ _ _) (by first | rfl | omega | (simp; omega)) (by first | rfl | omega | (simp; omega)) (by omega) (by omega) (by kernel_rfl) (fun Aq20 cq21 hc22 hA23 => ?_))
    have hl25 : (os ++ ([0] : List Int)).length = os.length + ([0] : List Int).length := List.length_append
    simp only [List.length_cons, List.length_nil] at hl25
    refine RunR.sil hU [] 1 4 [0, 2, 3] [(0, .slice A bs.length c), (2, .slice none 0 0), (3, .slice Aq20 ((os ++ ([0] : List Int)).length) cq21)] ((True) ∧ True) rfl (by kernel_rfl) ⟨trivial, trivial⟩ ?_
    refine RunR.done (by kernel_rfl) ?_
    refine kblock_n ?_
    refine kloop_n _ [0, 2, 3] [0, 1, 1] [(0, .slice A bs.length c), (2, .slice none 0 0), (3, .slice Aq20 ((os ++ ([0] : List Int)).length) cq21)] [row 5 1 (.slice Aq20 ((os ++ ([0] : List Int)).length) cq21) ((os ++ ([0] : List Int)).length) (nums .u8 (os ++ ([0] : List Int))), row 5 1 (.slice (some ⟨b9, 0, none⟩) 1 1) 1 (nums .u8 ([128] : List Int)), vw A (nums .u8 bs)] (by kernel_rfl) (by kernel_rfl) ?_ ⟨(j + 1), (os ++ ([0] : List Int)), Aq20, cq21, (by rw [ho, List.append_assoc, List.append_assoc, List.append_assoc]; congr 2; simp [List.replicate_succ']), (by rw [List.length_append, hol]; simp; omega), (by omega), (by (repeat first | assumption | (simp only [fits]; omega) | with_reducible first | exact fits_wrap _ _ | exact fits_bits2 _ _ _ _ | exact In.nil _ | exact In.sb _ | exact In.replicate _ _ | apply In.append | apply In.cons | apply In.set | apply In.take | apply In.drop | apply In.rev)), (by first | assumption | omega | (simp only [List.length_append, List.length_cons, List.length_nil, List.length_set, List.length_replicate, List.length_take, List.length_drop]; omega) | (simp only [fits] at *; omega) | (simp only [List.length_append, List.length_cons, List.length_nil, List.length_set, List.length_replicate, List.length_take, List.length_drop] at *; omega) | (simp; done) | decide), (fun h => hA23 (by first | exact h | (simp at h ⊢; omega))), rfl, (by rfl), (by rfl)⟩
    show (64 - (j + 1) : Nat) < (64 - j : Nat)
    omega
  · skip
    refine RunC.exit ?_
    refine kseq_e ?_
    refine kloop_e ?_
    refine kblock_e ?_
    refine kseq_n ?_
    refine RunC.seq ?_
    refine RunC.region ?_
    refine RunR.sil hU [3, 4] 5 5 [2, 16, 20] [(2, .slice none 0 0), (16, .slice A2 os.length c2), (20, .int .u64 (8 * ((bs.length : Nat) : Int)))] ((True) ∧ (True) ∧ (True) ∧ (0 ≤ ((bs.length : Nat) : Int) ∧ ((bs.length : Nat) : Int) < 18446744073709551616) ∧ (0 ≤ (8 * ((bs.length : Nat) : Int)) ∧ (8 * ((bs.length : Nat) : Int)) < 18446744073709551616) ∧ True) rfl (by kernel_rfl) ⟨trivial, trivial, trivial, (by omega), (by omega), trivial⟩ ?_
    refine RunR.step (dst := some 21) (op := .call { callee := .value (.func 69), args := #[.tmp 20, .const (.int .i64 8)], argTypes := #[24, 3] }) (by kernel_rfl) (Step.call 69 [.int .u64 (8 * ((bs.length : Nat) : Int)), .int .i64 8] (by kernel_rfl) (by kernel_rfl) [] [] [row 5 1 (.slice A2 os.length c2) os.length (nums .u8 os), row 5 1 (.slice (some ⟨b9, 0, none⟩) 1 1) 1 (nums .u8 ([128] : List Int)), vw A (nums .u8 bs)] (r_Little_spec (8 * ((bs.length : Nat) : Int)) 8 (by first | assumption | exact fits_wrap _ _ | exact fits_bits2 _ _ _ _ | (refine ⟨?_, ?_⟩ <;> omega)) (by first | assumption | omega | (simp only [List.length_append, List.length_cons, List.length_nil, List.length_set, List.length_replicate, List.length_take, List.length_drop]; omega) | (simp only [fits] at *; omega) | (simp only [List.length_append, List.length_cons, List.length_nil, List.length_set, List.length_replicate, List.length_take, List.length_drop] at *; omega) | (simp; done) | decide) (by first | assumption | omega | (simp only [List.length_append, List.length_cons, List.length_nil, List.length_set, List.length_replicate, List.length_take, List.length_drop]; omega) | (simp only [fits] at *; omega) | (simp only [List.length_append, List.length_cons, List.length_nil, List.length_set, List.length_replicate, List.length_take, List.length_drop] at *; omega) | (simp; done) | decide)) [] (by kernel_rfl) (Lend.nil _) ?_)
    rintro _ _ ⟨Aq26, cq27, zs28, rfl, rfl, hp29, hp30, hp31, hp32, hp33⟩
    refine RunR.step (dst := some 22) (op := .call { callee := .value (.func 68), args := #[.tmp 21], argTypes := #[22] }) (by kernel_rfl) (Step.call 68 [.slice Aq26 zs28.length cq27] (by kernel_rfl) (by kernel_rfl) [] [vw Aq26 (nums .u8 zs28)] [row 5 1 (.slice Aq26 zs28.length cq27) zs28.length (nums .u8 zs28), row 5 1 (.slice A2 os.length c2) os.length (nums .u8 os), row 5 1 (.slice (some ⟨b9, 0, none⟩) 1 1) 1 (nums .u8 ([128] : List Int)), vw A (nums .u8 bs)] (r_Back_spec Aq26 cq27 zs28 zs28.length hp31 (by first | assumption | omega | (simp only [List.length_append, List.length_cons, List.length_nil, List.length_set, List.length_replicate, List.length_take, List.length_drop]; omega) | (simp only [fits] at *; omega) | (simp only [List.length_append, List.length_cons, List.length_nil, List.length_set, List.length_replicate, List.length_take, List.length_drop] at *; omega) | (simp; done) | decide) (by first | rfl | assumption | omega | (simp only [List.length_append, List.length_cons, List.length_nil, List.length_set, List.length_replicate, List.length_take, List.length_drop]; omega) | (simp; done))) [] (by kernel_rfl) ((Lend.nil _).tells 0 (row 5 1 (.slice Aq26 zs28.length cq27) zs28.length (nums .u8 zs28)) Aq26 (nums .u8 zs28) (by kernel_rfl) (tells_row _ _ _ _ _ _)) ?_)
    rintro _ _ ⟨A234, c235, zs36, rfl, rfl, hp37, hp38, hp39, hp40, hp41⟩
    refine RunR.step (dst := some 23) (op := .call { callee := .builtin .append, args := #[.tmp 16, .tmp 22], argTypes := #[22, 22] }) (by kernel_rfl) (Step.append_nums hU 5 1 (.int .u8 0) .u8 2 0 A2 os.length c2 os A234 zs36.length c235 (row 5 1 (.slice A234 zs36.length c235) zs36.length (nums .u8 zs36)) zs36 rfl rfl rfl (by kernel_rfl) (by kernel_rfl) (by kernel_rfl) (by kernel_rfl) (tells_row _ _ _ _ _ _) (by first | rfl | omega | (simp; omega)) (by first | rfl | omega | (simp; omega)) (by omega) (by omega) (by kernel_rfl) (fun Aq42 cq43 hc44 hA45 => ?_))
    have hl46 : (os ++ zs36).length = os.length + zs36.length := List.length_append
    refine RunR.sil hU [] 1 9 [2] [(2, .slice Aq42 ((os ++ zs36).length) cq43)] ((True) ∧ True) rfl (by kernel_rfl) ⟨trivial, trivial⟩ ?_
    refine RunR.done (by kernel_rfl) ?_
    refine kseq_n ?_
    refine RunC.ret ?_
    refine kret_r [.slice Aq42 ((os ++ zs36).length) cq43] [0] [row 5 1 (.slice Aq42 ((os ++ zs36).length) cq43) ((os ++ zs36).length) (nums .u8 (os ++ zs36))] ⟨rfl, trivial⟩ (by kernel_rfl) rfl ⟨Aq42, cq43, (os ++ zs36), rfl, rfl, (by rw [ho]; exact pad_ref (by unfold padn; omega) (by simp only [hp29, hp37]; rfl)), (by (repeat first | assumption | (simp only [fits]; omega) | with_reducible first | exact fits_wrap _ _ | exact fits_bits2 _ _ _ _ | exact In.nil _ | exact In.sb _ | exact In.replicate _ _ | apply In.append | apply In.cons | apply In.set | apply In.take | apply In.drop | apply In.rev)), (by first | assumption | omega | (simp only [List.length_append, List.length_cons, List.length_nil, List.length_set, List.length_replicate, List.length_take, List.length_drop]; omega) | (simp only [fits] at *; omega) | (simp only [List.length_append, List.length_cons, List.length_nil, List.length_set, List.length_replicate, List.length_take, List.length_drop] at *; omega) | (simp; done) | decide), (fun h => hA45 (by first | exact h | (simp at h ⊢; omega)))⟩
end Go.Proofs.Ytbnjcfhnbjaoiaa.X6
