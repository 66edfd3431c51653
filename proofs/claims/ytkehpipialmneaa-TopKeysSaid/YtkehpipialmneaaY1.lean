/- What these functions compute: a contract for each, walked through its code. -/
import Derived.Test.YtkehpipialmneaaAPure
import Derived.Test.YtkehpipialmneaaProg
import Derived.Test.YtkehpipialmneaaX1
import Derived.Test.YtkehpipialmneaaX2
import Derived.Test.YtkehpipialmneaaX3
import Derived.Test.YtkehpipialmneaaX4
import Derived.Test.YtkehpipialmneaaX5
import Derived.Test.YtkehpipialmneaaX6
import Derived.Test.YtkehpipialmneaaX7
import Derived.Test.YtkehpipialmneaaX8
import Derived.Test.YtkehpipialmneaaX9
namespace Go.Proofs.Ytkehpipialmneaa.Y1
open Go Go.Proofs.Ytkehpipialmneaa.SL Go.Proofs.Ytkehpipialmneaa.SL.W Go.Proofs.Ytkehpipialmneaa.SL.C Go.Proofs.Ytkehpipialmneaa.SL.H Go.Proofs.Ytkehpipialmneaa.SL.M Go.Proofs.Ytkehpipialmneaa.SL.Y Go.Proofs.Ytkehpipialmneaa.SL.A Go.Proofs.Ytkehpipialmneaa.X1 Go.Proofs.Ytkehpipialmneaa.X2 Go.Proofs.Ytkehpipialmneaa.X3 Go.Proofs.Ytkehpipialmneaa.X4 Go.Proofs.Ytkehpipialmneaa.X5 Go.Proofs.Ytkehpipialmneaa.X6 Go.Proofs.Ytkehpipialmneaa.X7 Go.Proofs.Ytkehpipialmneaa.X8 Go.Proofs.Ytkehpipialmneaa.X9
set_option linter.unusedVariables false
set_option linter.unusedSimpArgs false
set_option maxRecDepth 100000
set_option maxHeartbeats 40000000
def U : Tab where
  und := [(3, .int .i64), (5, .int .u8), (24, .slice 5), (53, .int .u32), (140, .array 8 53), (142, .array 64 53)]
  fld := []
  sz := [(3, 1), (5, 1), (24, 1), (53, 1), (140, 8), (142, 64)]
  ti := [(3, (1, 8, .int .i64 0)), (5, (1, 1, .int .u8 0)), (24, (1, 24, .slice none 0 0)), (53, (1, 4, .int .u32 0)), (140, (8, 32, .agg #[.int .u32 0, .int .u32 0, .int .u32 0, .int .u32 0, .int .u32 0, .int .u32 0, .int .u32 0, .int .u32 0])), (142, (64, 256, .agg #[.int .u32 0, .int .u32 0, .int .u32 0, .int .u32 0, .int .u32 0, .int .u32 0, .int .u32 0, .int .u32 0, .int .u32 0, .int .u32 0, .int .u32 0, .int .u32 0, .int .u32 0, .int .u32 0, .int .u32 0, .int .u32 0, .int .u32 0, .int .u32 0, .int .u32 0, .int .u32 0, .int .u32 0, .int .u32 0, .int .u32 0, .int .u32 0, .int .u32 0, .int .u32 0, .int .u32 0, .int .u32 0, .int .u32 0, .int .u32 0, .int .u32 0, .int .u32 0, .int .u32 0, .int .u32 0, .int .u32 0, .int .u32 0, .int .u32 0, .int .u32 0, .int .u32 0, .int .u32 0, .int .u32 0, .int .u32 0, .int .u32 0, .int .u32 0, .int .u32 0, .int .u32 0, .int .u32 0, .int .u32 0, .int .u32 0, .int .u32 0, .int .u32 0, .int .u32 0, .int .u32 0, .int .u32 0, .int .u32 0, .int .u32 0, .int .u32 0, .int .u32 0, .int .u32 0, .int .u32 0, .int .u32 0, .int .u32 0, .int .u32 0, .int .u32 0]))]
  bld := []

theorem hU : U.OK Try.prog where
  und := by
    intro p hp
    simp only [U, List.mem_cons, List.not_mem_nil, or_false] at hp
    rcases hp with rfl | rfl | rfl | rfl | rfl | rfl
    · exact Try.underlying3
    · exact Try.underlying5
    · exact Try.underlying24
    · exact Try.underlying53
    · exact Try.underlying140
    · exact Try.underlying142
  fld := by
    intro p hp; cases hp
  sz := by
    intro p hp
    simp only [U, List.mem_cons, List.not_mem_nil, or_false] at hp
    rcases hp with rfl | rfl | rfl | rfl | rfl | rfl
    · exact ⟨Try.prog.types[3]!, by kernel_rfl, by kernel_rfl⟩
    · exact ⟨Try.prog.types[5]!, by kernel_rfl, by kernel_rfl⟩
    · exact ⟨Try.prog.types[24]!, by kernel_rfl, by kernel_rfl⟩
    · exact ⟨Try.prog.types[53]!, by kernel_rfl, by kernel_rfl⟩
    · exact ⟨Try.prog.types[140]!, by kernel_rfl, by kernel_rfl⟩
    · exact ⟨Try.prog.types[142]!, by kernel_rfl, by kernel_rfl⟩
  ti := by
    intro p hp
    simp only [U, List.mem_cons, List.not_mem_nil, or_false] at hp
    rcases hp with rfl | rfl | rfl | rfl | rfl | rfl
    · exact ⟨Try.prog.types[3]!, by kernel_rfl, by kernel_rfl, by kernel_rfl, by kernel_rfl⟩
    · exact ⟨Try.prog.types[5]!, by kernel_rfl, by kernel_rfl, by kernel_rfl, by kernel_rfl⟩
    · exact ⟨Try.prog.types[24]!, by kernel_rfl, by kernel_rfl, by kernel_rfl, by kernel_rfl⟩
    · exact ⟨Try.prog.types[53]!, by kernel_rfl, by kernel_rfl, by kernel_rfl, by kernel_rfl⟩
    · exact ⟨Try.prog.types[140]!, by kernel_rfl, by kernel_rfl, by kernel_rfl, by kernel_rfl⟩
    · exact ⟨Try.prog.types[142]!, by kernel_rfl, by kernel_rfl, by kernel_rfl, by kernel_rfl⟩
  bld := by
    intro p hp; cases hp
  mixed := by kernel_rfl

theorem h_beginning_spec  :
    CallsS Try.prog 97 [] [] (fun r D => r = .agg (nums .u32 h0).toArray ∧ D = []) := by
  refine CallsS.enter hU Try.f97 _ [.cell 0 140] 2 Try.func97 rfl (by decide) rfl rfl (by kernel_rfl) fun w0 W => ?_
  refine RunC.seq ?_
  refine RunC.region ?_
  refine RunR.step (dst := some 0) (op := .alloc 140) (by kernel_rfl) (Step.alloc hU 8 32 (.agg #[.int .u32 0, .int .u32 0, .int .u32 0, .int .u32 0, .int .u32 0, .int .u32 0, .int .u32 0, .int .u32 0]) rfl (by kernel_rfl) (fun b1 => ?_))
  have hl2 : (List.replicate 8 (0 : Int)).length = 8 := List.length_replicate
  refine RunR.done (by kernel_rfl) ?_
  refine kseq_n ?_
  refine RunC.seq ?_
  refine RunC.region ?_
  refine RunR.sil hU [] 1 1 [0, 1] [(0, .pointer (some ⟨b1, 0, none⟩)), (1, .agg (nums .u32 ([1779033703, 3144134277, 1013904242, 2773480762, 1359893119, 2600822924, 528734635, 1541459225] : List Int)).toArray)] ((True) ∧ True) rfl (by kernel_rfl) ⟨trivial, trivial⟩ ?_
  refine RunR.step (dst := none) (op := .store 140 (.tmp 0) (.tmp 1)) (by kernel_rfl) (Step.store_arr hU 0 b1 140 8 .u32 (List.replicate 8 (0 : Int)) ([1779033703, 3144134277, 1013904242, 2773480762, 1359893119, 2600822924, 528734635, 1541459225] : List Int) (by kernel_rfl) (by kernel_rfl) (by kernel_rfl) (by kernel_rfl) (by first | rfl | omega | (simp; done)) (by first | rfl | omega | (simp; done)) ?_)
  have hl3 : (([1779033703, 3144134277, 1013904242, 2773480762, 1359893119, 2600822924, 528734635, 1541459225] : List Int)).length = 8 := rfl
  refine RunR.done (by kernel_rfl) ?_
  refine kseq_n ?_
  refine RunC.ret ?_
  refine kret_r [.agg (nums .u32 ([1779033703, 3144134277, 1013904242, 2773480762, 1359893119, 2600822924, 528734635, 1541459225] : List Int)).toArray] [] [] ⟨⟨0, b1, 0, 140, nums .u32 ([1779033703, 3144134277, 1013904242, 2773480762, 1359893119, 2600822924, 528734635, 1541459225] : List Int), rfl, rfl, by kernel_rfl⟩, trivial⟩ (by kernel_rfl) rfl ⟨rfl, rfl⟩

theorem h_constants_spec  :
    CallsS Try.prog 98 [] [] (fun r D => r = .agg (nums .u32 ks).toArray ∧ D = []) := by
  refine CallsS.enter hU Try.f98 _ [.cell 0 142] 2 Try.func98 rfl (by decide) rfl rfl (by kernel_rfl) fun w0 W => ?_
  refine RunC.seq ?_
  refine RunC.region ?_
  refine RunR.step (dst := some 0) (op := .alloc 142) (by kernel_rfl) (Step.alloc hU 64 256 (.agg #[.int .u32 0, .int .u32 0, .int .u32 0, .int .u32 0, .int .u32 0, .int .u32 0, .int .u32 0, .int .u32 0, .int .u32 0, .int .u32 0, .int .u32 0, .int .u32 0, .int .u32 0, .int .u32 0, .int .u32 0, .int .u32 0, .int .u32 0, .int .u32 0, .int .u32 0, .int .u32 0, .int .u32 0, .int .u32 0, .int .u32 0, .int .u32 0, .int .u32 0, .int .u32 0, .int .u32 0, .int .u32 0, .int .u32 0, .int .u32 0, .int .u32 0, .int .u32 0, .int .u32 0, .int .u32 0, .int .u32 0, .int .u32 0, .int .u32 0, .int .u32 0, .int .u32 0, .int .u32 0, .int .u32 0, .int .u32 0, .int .u32 0, .int .u32 0, .int .u32 0, .int .u32 0, .int .u32 0, .int .u32 0, .int .u32 0, .int .u32 0, .int .u32 0, .int .u32 0, .int .u32 0, .int .u32 0, .int .u32 0, .int .u32 0, .int .u32 0, .int .u32 0, .int .u32 0, .int .u32 0, .int .u32 0, .int .u32 0, .int .u32 0, .int .u32 0]) rfl (by kernel_rfl) (fun b1 => ?_))
  have hl2 : (List.replicate 64 (0 : Int)).length = 64 := List.length_replicate
  refine RunR.done (by kernel_rfl) ?_
  refine kseq_n ?_
  refine RunC.seq ?_
  refine RunC.region ?_
  refine RunR.sil hU [] 1 1 [0, 1] [(0, .pointer (some ⟨b1, 0, none⟩)), (1, .agg (nums .u32 ([1116352408, 1899447441, 3049323471, 3921009573, 961987163, 1508970993, 2453635748, 2870763221, 3624381080, 310598401, 607225278, 1426881987, 1925078388, 2162078206, 2614888103, 3248222580, 3835390401, 4022224774, 264347078, 604807628, 770255983, 1249150122, 1555081692, 1996064986, 2554220882, 2821834349, 2952996808, 3210313671, 3336571891, 3584528711, 113926993, 338241895, 666307205, 773529912, 1294757372, 1396182291, 1695183700, 1986661051, 2177026350, 2456956037, 2730485921, 2820302411, 3259730800, 3345764771, 3516065817, 3600352804, 4094571909, 275423344, 430227734, 506948616, 659060556, 883997877, 958139571, 1322822218, 1537002063, 1747873779, 1955562222, 2024104815, 2227730452, 2361852424, 2428436474, 2756734187, 3204031479, 3329325298] : List Int)).toArray)] ((True) ∧ True) rfl (by kernel_rfl) ⟨trivial, trivial⟩ ?_
  refine RunR.step (dst := none) (op := .store 142 (.tmp 0) (.tmp 1)) (by kernel_rfl) (Step.store_arr hU 0 b1 142 64 .u32 (List.replicate 64 (0 : Int)) ([1116352408, 1899447441, 3049323471, 3921009573, 961987163, 1508970993, 2453635748, 2870763221, 3624381080, 310598401, 607225278, 1426881987, 1925078388, 2162078206, 2614888103, 3248222580, 3835390401, 4022224774, 264347078, 604807628, 770255983, 1249150122, 1555081692, 1996064986, 2554220882, 2821834349, 2952996808, 3210313671, 3336571891, 3584528711, 113926993, 338241895, 666307205, 773529912, 1294757372, 1396182291, 1695183700, 1986661051, 2177026350, 2456956037, 2730485921, 2820302411, 3259730800, 3345764771, 3516065817, 3600352804, 4094571909, 275423344, 430227734, 506948616, 659060556, 883997877, 958139571, 1322822218, 1537002063, 1747873779, 1955562222, 2024104815, 2227730452, 2361852424, 2428436474, 2756734187, 3204031479, 3329325298] : List Int) (by kernel_rfl) (by kernel_rfl) (by kernel_rfl) (by kernel_rfl) (by first | rfl | omega | (simp; done)) (by first | rfl | omega | (simp; done)) ?_)
  have hl3 : (([1116352408, 1899447441, 3049323471, 3921009573, 961987163, 1508970993, 2453635748, 2870763221, 3624381080, 310598401, 607225278, 1426881987, 1925078388, 2162078206, 2614888103, 3248222580, 3835390401, 4022224774, 264347078, 604807628, 770255983, 1249150122, 1555081692, 1996064986, 2554220882, 2821834349, 2952996808, 3210313671, 3336571891, 3584528711, 113926993, 338241895, 666307205, 773529912, 1294757372, 1396182291, 1695183700, 1986661051, 2177026350, 2456956037, 2730485921, 2820302411, 3259730800, 3345764771, 3516065817, 3600352804, 4094571909, 275423344, 430227734, 506948616, 659060556, 883997877, 958139571, 1322822218, 1537002063, 1747873779, 1955562222, 2024104815, 2227730452, 2361852424, 2428436474, 2756734187, 3204031479, 3329325298] : List Int)).length = 64 := rfl
  refine RunR.done (by kernel_rfl) ?_
  refine kseq_n ?_
  refine RunC.ret ?_
  refine kret_r [.agg (nums .u32 ([1116352408, 1899447441, 3049323471, 3921009573, 961987163, 1508970993, 2453635748, 2870763221, 3624381080, 310598401, 607225278, 1426881987, 1925078388, 2162078206, 2614888103, 3248222580, 3835390401, 4022224774, 264347078, 604807628, 770255983, 1249150122, 1555081692, 1996064986, 2554220882, 2821834349, 2952996808, 3210313671, 3336571891, 3584528711, 113926993, 338241895, 666307205, 773529912, 1294757372, 1396182291, 1695183700, 1986661051, 2177026350, 2456956037, 2730485921, 2820302411, 3259730800, 3345764771, 3516065817, 3600352804, 4094571909, 275423344, 430227734, 506948616, 659060556, 883997877, 958139571, 1322822218, 1537002063, 1747873779, 1955562222, 2024104815, 2227730452, 2361852424, 2428436474, 2756734187, 3204031479, 3329325298] : List Int)).toArray] [] [] ⟨⟨0, b1, 0, 142, nums .u32 ([1116352408, 1899447441, 3049323471, 3921009573, 961987163, 1508970993, 2453635748, 2870763221, 3624381080, 310598401, 607225278, 1426881987, 1925078388, 2162078206, 2614888103, 3248222580, 3835390401, 4022224774, 264347078, 604807628, 770255983, 1249150122, 1555081692, 1996064986, 2554220882, 2821834349, 2952996808, 3210313671, 3336571891, 3584528711, 113926993, 338241895, 666307205, 773529912, 1294757372, 1396182291, 1695183700, 1986661051, 2177026350, 2456956037, 2730485921, 2820302411, 3259730800, 3345764771, 3516065817, 3600352804, 4094571909, 275423344, 430227734, 506948616, 659060556, 883997877, 958139571, 1322822218, 1537002063, 1747873779, 1955562222, 2024104815, 2227730452, 2361852424, 2428436474, 2756734187, 3204031479, 3329325298] : List Int), rfl, rfl, by kernel_rfl⟩, trivial⟩ (by kernel_rfl) rfl ⟨rfl, rfl⟩

theorem h_schedule_spec (A : Option Addr) (c : Nat) (bs : List Int) (l_bs : Nat) (hb : In .u8 bs) (hbl : bs.length = 64) (hbc : bs.length ≤ c) (hl_bs : bs.length = l_bs) :
    CallsS Try.prog 101 [.slice A l_bs c] [vw A (nums .u8 bs)] (fun r D => ∃ (zs : List Int), r = .agg (nums .u32 zs).toArray ∧ D = [] ∧ (zs = sch bs 48) ∧ (zs.length = 64)) := by
  subst hl_bs
  refine CallsS.enter hU Try.f101 _ [.cell 2 142] 68 Try.func101 rfl (by decide) rfl rfl (by kernel_rfl) fun w0 W => ?_
  refine RunC.know (p := 0 < bs.length → Option.isSome A = true) (fun _ _ w hs => vw_some hs 0 rfl (by first | simp [nums_length]; done | exact dosV_len _)) (fun hA1 => ?_)
  refine RunC.seq ?_
  refine RunC.region ?_
  refine RunR.step (dst := some 2) (op := .alloc 142) (by kernel_rfl) (Step.alloc hU 64 256 (.agg #[.int .u32 0, .int .u32 0, .int .u32 0, .int .u32 0, .int .u32 0, .int .u32 0, .int .u32 0, .int .u32 0, .int .u32 0, .int .u32 0, .int .u32 0, .int .u32 0, .int .u32 0, .int .u32 0, .int .u32 0, .int .u32 0, .int .u32 0, .int .u32 0, .int .u32 0, .int .u32 0, .int .u32 0, .int .u32 0, .int .u32 0, .int .u32 0, .int .u32 0, .int .u32 0, .int .u32 0, .int .u32 0, .int .u32 0, .int .u32 0, .int .u32 0, .int .u32 0, .int .u32 0, .int .u32 0, .int .u32 0, .int .u32 0, .int .u32 0, .int .u32 0, .int .u32 0, .int .u32 0, .int .u32 0, .int .u32 0, .int .u32 0, .int .u32 0, .int .u32 0, .int .u32 0, .int .u32 0, .int .u32 0, .int .u32 0, .int .u32 0, .int .u32 0, .int .u32 0, .int .u32 0, .int .u32 0, .int .u32 0, .int .u32 0, .int .u32 0, .int .u32 0, .int .u32 0, .int .u32 0, .int .u32 0, .int .u32 0, .int .u32 0, .int .u32 0]) rfl (by kernel_rfl) (fun b2 => ?_))
  have hl3 : (List.replicate 64 (0 : Int)).length = 64 := List.length_replicate
  refine RunR.done (by kernel_rfl) ?_
  refine kseq_n ?_
  refine RunC.seq ?_
  refine RunC.region ?_
  refine RunR.step (dst := some 3) (op := .alloc 142) (by kernel_rfl) (Step.alloc hU 64 256 (.agg #[.int .u32 0, .int .u32 0, .int .u32 0, .int .u32 0, .int .u32 0, .int .u32 0, .int .u32 0, .int .u32 0, .int .u32 0, .int .u32 0, .int .u32 0, .int .u32 0, .int .u32 0, .int .u32 0, .int .u32 0, .int .u32 0, .int .u32 0, .int .u32 0, .int .u32 0, .int .u32 0, .int .u32 0, .int .u32 0, .int .u32 0, .int .u32 0, .int .u32 0, .int .u32 0, .int .u32 0, .int .u32 0, .int .u32 0, .int .u32 0, .int .u32 0, .int .u32 0, .int .u32 0, .int .u32 0, .int .u32 0, .int .u32 0, .int .u32 0, .int .u32 0, .int .u32 0, .int .u32 0, .int .u32 0, .int .u32 0, .int .u32 0, .int .u32 0, .int .u32 0, .int .u32 0, .int .u32 0, .int .u32 0, .int .u32 0, .int .u32 0, .int .u32 0, .int .u32 0, .int .u32 0, .int .u32 0, .int .u32 0, .int .u32 0, .int .u32 0, .int .u32 0, .int .u32 0, .int .u32 0, .int .u32 0, .int .u32 0, .int .u32 0, .int .u32 0]) rfl (by kernel_rfl) (fun b4 => ?_))
  have hl5 : (List.replicate 64 (0 : Int)).length = 64 := List.length_replicate
  refine RunR.done (by kernel_rfl) ?_
  refine kseq_n ?_
  refine RunC.seq ?_
  refine RunC.seq ?_
  refine RunC.region ?_
  refine RunR.sil hU [] 1 1 [0, 2, 3, 10] [(0, .slice A bs.length c), (2, .pointer (some ⟨b2, 0, none⟩)), (3, .pointer (some ⟨b4, 0, none⟩)), (10, .int .i64 0)] ((True) ∧ True) rfl (by kernel_rfl) ⟨trivial, trivial⟩ ?_
  refine RunR.done (by kernel_rfl) ?_
  refine kseq_n ?_
  refine RunC.block ?_
  refine RunC.env [0, 2, 3, 10] [(0, .slice A bs.length c), (2, .pointer (some ⟨b2, 0, none⟩)), (3, .pointer (some ⟨b4, 0, none⟩)), (10, .int .i64 0)] (by kernel_rfl) ?_
  refine RunC.only [0, 0, 0] [blk b4 142 (nums .u32 (List.replicate 64 (0 : Int))), blk b2 142 (nums .u32 (List.replicate 64 (0 : Int))), vw A (nums .u8 bs)] (by kernel_rfl) ?_
  refine RunC.loop (σ := Nat) (fun n_ t_ D_ => ∃ (i : Int) (ws : List Int), (0 ≤ i) ∧ (i ≤ 16) ∧ (ws = kwb bs i.toNat ++ List.replicate (64 - i).toNat 0) ∧ (ws.length = 64) ∧ n_ = ((16 - i).toNat : Nat) ∧ t_ = [(0, .slice A bs.length c), (2, .pointer (some ⟨b2, 0, none⟩)), (3, .pointer (some ⟨b4, 0, none⟩)), (10, .int .i64 i)] ∧ D_ = [blk b4 142 (nums .u32 ws), blk b2 142 (nums .u32 (List.replicate 64 (0 : Int))), vw A (nums .u8 bs)]) id _ ⟨0, (List.replicate 64 (0 : Int)), (by first | assumption | omega | (simp only [List.length_append, List.length_cons, List.length_nil, List.length_set, List.length_replicate, List.length_take, List.length_drop]; omega) | (simp only [fits] at *; omega) | (simp only [List.length_append, List.length_cons, List.length_nil, List.length_set, List.length_replicate, List.length_take, List.length_drop] at *; omega) | (simp; done) | decide), (by first | assumption | omega | (simp only [List.length_append, List.length_cons, List.length_nil, List.length_set, List.length_replicate, List.length_take, List.length_drop]; omega) | (simp only [fits] at *; omega) | (simp only [List.length_append, List.length_cons, List.length_nil, List.length_set, List.length_replicate, List.length_take, List.length_drop] at *; omega) | (simp; done) | decide), (by rfl), (by rfl), rfl, rfl, rfl⟩ ?_
  rintro n_ _ _ ⟨i, ws, hi, hi2, hw, hwl, rfl, rfl, rfl⟩
  refine RunC.seq ?_
  refine RunC.region ?_
  refine RunR.sil hU [] 1 1 [0, 2, 3, 10, 11] [(0, .slice A bs.length c), (2, .pointer (some ⟨b2, 0, none⟩)), (3, .pointer (some ⟨b4, 0, none⟩)), (10, .int .i64 i), (11, .bool (decide (i < 16)))] ((True) ∧ True) rfl (by kernel_rfl) ⟨trivial, trivial⟩ ?_
  refine RunR.done (by kernel_rfl) ?_
  refine kseq_n ?_
  refine RunC.seq ?_
  refine RunC.condp (i < 16) (by kernel_rfl) (fun h6 => ?_) (fun h6 => ?_)
  · skip
    refine RunC.skip ?_
    refine kseq_n ?_
    refine RunC.seq ?_
    refine RunC.block ?_
    refine RunC.seq ?_
    refine RunC.region ?_
    refine RunR.sil hU [] 2 2 [0, 2, 3, 4, 10] [(0, .slice A bs.length c), (2, .pointer (some ⟨b2, 0, none⟩)), (3, .pointer (some ⟨b4, 0, none⟩)), (4, .int .i64 i), (10, .int .i64 i)] ((True) ∧ (True) ∧ True) rfl (by kernel_rfl) ⟨trivial, trivial, trivial⟩ ?_
    refine RunR.done (by kernel_rfl) ?_
    refine kseq_n ?_
    refine RunC.region ?_
    refine RunR.sil hU [3, 5, 6] 8 8 [0, 2, 3, 10, 13, 20] [(0, .slice A bs.length c), (2, .pointer (some ⟨b2, 0, none⟩)), (3, .pointer (some ⟨b4, 0, none⟩)), (10, .int .i64 i), (13, .int .i64 i), (20, .slice (subBase A ((4 * i).toNat) c 1) ((((4 * i) + 4).toNat) - ((4 * i).toNat)) (c - ((4 * i).toNat)))] ((True) ∧ (True) ∧ (True) ∧ (-9223372036854775808 ≤ (4 * i) ∧ (4 * i) < 9223372036854775808) ∧ (True) ∧ (-9223372036854775808 ≤ (4 * i) ∧ (4 * i) < 9223372036854775808) ∧ (-9223372036854775808 ≤ ((4 * i) + 4) ∧ ((4 * i) + 4) < 9223372036854775808) ∧ (0 ≤ (4 * i) ∧ (4 * i) ≤ ((4 * i) + 4) ∧ ((4 * i) + 4) ≤ ((c : Nat) : Int)) ∧ True) rfl (by kernel_rfl) ⟨trivial, trivial, trivial, (by omega), trivial, (by omega), (by omega), (by omega), trivial⟩ ?_
    obtain ⟨zs7, hz8⟩ : ∃ z : List Int, z = (bs.drop ((4 * i).toNat)).take ((((4 * i) + 4).toNat) - ((4 * i).toNat)) := ⟨_, rfl⟩
    have hl9 : zs7.length = (((4 * i) + 4).toNat) - ((4 * i).toNat) := by rw [hz8, List.length_take, List.length_drop]; omega
    have hB11_t : Tells (vw A (nums .u8 bs)) (subBase A ((4 * i).toNat) c 1) (nums .u8 zs7) := by rw [hz8]; exact tells_sub_nums (tells_vw _ _) _ _ _ (by omega) (by omega)
    have hA12 : 0 < zs7.length → Option.isSome (subBase A ((4 * i).toNat) c 1) = true := fun h => part_some (hA1 (by omega)) _ _ _
    refine RunR.env [0, 2, 3, 10, 13, 20] [(0, .slice A bs.length c), (2, .pointer (some ⟨b2, 0, none⟩)), (3, .pointer (some ⟨b4, 0, none⟩)), (10, .int .i64 i), (13, .int .i64 i), (20, .slice (subBase A ((4 * i).toNat) c 1) ((((4 * i) + 4).toNat) - ((4 * i).toNat)) (c - ((4 * i).toNat)))] (by kernel_rfl) ?_
    refine RunR.enveq [(0, .slice A bs.length c), (2, .pointer (some ⟨b2, 0, none⟩)), (3, .pointer (some ⟨b4, 0, none⟩)), (10, .int .i64 i), (13, .int .i64 i), (20, .slice (subBase A ((4 * i).toNat) c 1) zs7.length (c - ((4 * i).toNat)))] (by rw [hl9]) ?_
    have hr13 : In .u8 zs7 := by rw [hz8]; exact (hb.drop _).take _
    refine RunR.step (dst := some 21) (op := .call { callee := .value (.func 52), args := #[.tmp 20], argTypes := #[24] }) (by kernel_rfl) (Step.call 52 [.slice (subBase A ((4 * i).toNat) c 1) zs7.length (c - ((4 * i).toNat))] (by kernel_rfl) (by kernel_rfl) [] [vw (subBase A ((4 * i).toNat) c 1) (nums .u8 zs7)] [blk b4 142 (nums .u32 ws), blk b2 142 (nums .u32 (List.replicate 64 (0 : Int))), vw A (nums .u8 bs)] (w_GetBig32_spec (subBase A ((4 * i).toNat) c 1) (c - ((4 * i).toNat)) zs7 zs7.length hr13 (by first | assumption | omega | (simp only [List.length_append, List.length_cons, List.length_nil, List.length_set, List.length_replicate, List.length_take, List.length_drop]; omega) | (simp only [fits] at *; omega) | (simp only [List.length_append, List.length_cons, List.length_nil, List.length_set, List.length_replicate, List.length_take, List.length_drop] at *; omega) | (simp; done) | decide) (by first | rfl | assumption | omega | (simp only [List.length_append, List.length_cons, List.length_nil, List.length_set, List.length_replicate, List.length_take, List.length_drop]; omega) | (simp; done))) [] (by kernel_rfl) ((Lend.nil _).tells 2 (vw A (nums .u8 bs)) (subBase A ((4 * i).toNat) c 1) (nums .u8 zs7) (by kernel_rfl) (hB11_t)) ?_)
    rintro _ _ ⟨rfl, rfl⟩
    refine RunR.sil hU [] 1 10 [0, 2, 3, 10, 21, 22] [(0, .slice A bs.length c), (2, .pointer (some ⟨b2, 0, none⟩)), (3, .pointer (some ⟨b4, 0, none⟩)), (10, .int .i64 i), (21, .int .u32 (beN zs7 4)), (22, .pointer (some ⟨b4, 0 + (i).toNat * 1, none⟩))] ((0 ≤ i ∧ i < ((64 : Nat) : Int)) ∧ True) rfl (by kernel_rfl) ⟨(by omega), trivial⟩ ?_
    refine RunR.step (dst := none) (op := .store 53 (.tmp 22) (.tmp 21)) (by kernel_rfl) (Step.store_blknum hU 0 b4 (0 + (i).toNat * 1) 142 ((i).toNat) .u32 ws (beN zs7 4) (by kernel_rfl) (by kernel_rfl) (by kernel_rfl) rfl (by omega) (by first | omega | (simp only [List.length_cons, List.length_nil]; omega)) ?_)
    have hl14 : (ws.set ((i).toNat) (beN zs7 4)).length = ws.length := List.length_set
    refine RunR.done (by kernel_rfl) ?_
    refine kblock_n ?_
    refine kseq_n ?_
    refine RunC.region ?_
    refine RunR.sil hU [0] 2 2 [0, 2, 3, 10] [(0, .slice A bs.length c), (2, .pointer (some ⟨b2, 0, none⟩)), (3, .pointer (some ⟨b4, 0, none⟩)), (10, .int .i64 (i + 1))] ((-9223372036854775808 ≤ (i + 1) ∧ (i + 1) < 9223372036854775808) ∧ (True) ∧ True) rfl (by kernel_rfl) ⟨(by omega), trivial, trivial⟩ ?_
    refine RunR.done (by kernel_rfl) ?_
    refine kloop_n _ [0, 2, 3, 10] [0, 0, 0] [(0, .slice A bs.length c), (2, .pointer (some ⟨b2, 0, none⟩)), (3, .pointer (some ⟨b4, 0, none⟩)), (10, .int .i64 (i + 1))] [blk b4 142 (nums .u32 (ws.set ((i).toNat) (beN zs7 4))), blk b2 142 (nums .u32 (List.replicate 64 (0 : Int))), vw A (nums .u8 bs)] (by kernel_rfl) (by kernel_rfl) ?_ ⟨(i + 1), (ws.set ((i).toNat) (beN zs7 4)), (by first | assumption | omega | (simp only [List.length_append, List.length_cons, List.length_nil, List.length_set, List.length_replicate, List.length_take, List.length_drop]; omega) | (simp only [fits] at *; omega) | (simp only [List.length_append, List.length_cons, List.length_nil, List.length_set, List.length_replicate, List.length_take, List.length_drop] at *; omega) | (simp; done) | decide), (by first | assumption | omega | (simp only [List.length_append, List.length_cons, List.length_nil, List.length_set, List.length_replicate, List.length_take, List.length_drop]; omega) | (simp only [fits] at *; omega) | (simp only [List.length_append, List.length_cons, List.length_nil, List.length_set, List.length_replicate, List.length_take, List.length_drop] at *; omega) | (simp; done) | decide), (by rw [hw]; simp only [hz8]; exact kwb_step hi (by omega)), (by first | rfl | assumption | omega | (simp only [List.length_append, List.length_cons, List.length_nil, List.length_set, List.length_replicate, List.length_take, List.length_drop]; omega) | (simp; done)), rfl, (by first | rfl | simp only [List.length_set]), (by first | rfl | simp only [List.length_set])⟩
    show ((16 - (i + 1)).toNat : Nat) < ((16 - i).toNat : Nat)
    omega
  · skip
    refine RunC.exit ?_
    refine kseq_e ?_
    refine kloop_e ?_
    refine kblock_e ?_
    refine kseq_n ?_
    refine RunC.seq ?_
    refine RunC.seq ?_
    refine RunC.region ?_
    refine RunR.sil hU [] 1 1 [2, 3, 5] [(2, .pointer (some ⟨b2, 0, none⟩)), (3, .pointer (some ⟨b4, 0, none⟩)), (5, .int .i64 16)] ((True) ∧ True) rfl (by kernel_rfl) ⟨trivial, trivial⟩ ?_
    refine RunR.done (by kernel_rfl) ?_
    refine kseq_n ?_
    refine RunC.block ?_
    refine RunC.env [2, 3, 5] [(2, .pointer (some ⟨b2, 0, none⟩)), (3, .pointer (some ⟨b4, 0, none⟩)), (5, .int .i64 16)] (by kernel_rfl) ?_
    refine RunC.only [0, 0, 0] [blk b4 142 (nums .u32 ws), blk b2 142 (nums .u32 (List.replicate 64 (0 : Int))), vw A (nums .u8 bs)] (by kernel_rfl) ?_
    refine RunC.loop (σ := Nat) (fun n_ t_ D_ => ∃ (j : Int) (us : List Int), (16 ≤ j) ∧ (j ≤ 64) ∧ (us = sch bs (j - 16).toNat ++ List.replicate (64 - j).toNat 0) ∧ (us.length = 64) ∧ n_ = ((64 - j).toNat : Nat) ∧ t_ = [(2, .pointer (some ⟨b2, 0, none⟩)), (3, .pointer (some ⟨b4, 0, none⟩)), (5, .int .i64 j)] ∧ D_ = [blk b4 142 (nums .u32 us), blk b2 142 (nums .u32 (List.replicate 64 (0 : Int))), vw A (nums .u8 bs)]) id _ ⟨16, ws, (by first | assumption | omega | (simp only [List.length_append, List.length_cons, List.length_nil, List.length_set, List.length_replicate, List.length_take, List.length_drop]; omega) | (simp only [fits] at *; omega) | (simp only [List.length_append, List.length_cons, List.length_nil, List.length_set, List.length_replicate, List.length_take, List.length_drop] at *; omega) | (simp; done) | decide), (by first | assumption | omega | (simp only [List.length_append, List.length_cons, List.length_nil, List.length_set, List.length_replicate, List.length_take, List.length_drop]; omega) | (simp only [fits] at *; omega) | (simp only [List.length_append, List.length_cons, List.length_nil, List.length_set, List.length_replicate, List.length_take, List.length_drop] at *; omega) | (simp; done) | decide), (by rw [hw, show i = 16 by omega]; rfl), (by first | rfl | assumption | omega | (simp only [List.length_append, List.length_cons, List.length_nil, List.length_set, List.length_replicate, List.length_take, List.length_drop]; omega) | (simp; done)), rfl, rfl, rfl⟩ ?_
    rintro n_ _ _ ⟨j, us, hj, hj2, hu, hul, rfl, rfl, rfl⟩
    refine RunC.seq ?_
    refine RunC.seq ?_
    refine RunC.region ?_
    refine RunR.sil hU [] 2 2 [2, 3, 5, 25] [(2, .pointer (some ⟨b2, 0, none⟩)), (3, .pointer (some ⟨b4, 0, none⟩)), (5, .int .i64 j), (25, .bool (decide (j < 64)))] ((True) ∧ (True) ∧ True) rfl (by kernel_rfl) ⟨trivial, trivial, trivial⟩ ?_
    refine RunR.done (by kernel_rfl) ?_
    refine kseq_n ?_
    refine RunC.condp (j < 64) (by kernel_rfl) (fun h15 => ?_) (fun h15 => ?_)
    · skip
      refine RunC.skip ?_
      refine kseq_n ?_
      refine RunC.seq ?_
      refine RunC.block ?_
      refine RunC.seq ?_
      refine RunC.regionU hU 10 [blk b4 142 (nums .u32 us)] [0] [9] (bm 10 0) (by kernel_rfl) (by kernel_rfl) (by kernel_rfl) ?_
      refine RunU.sil hU false 0 (bm 10 1) 28 (.int .i64 j) (True) (by kernel_rfl) trivial (by kernel_rfl) (by kernel_rfl) (fun _ _ _ h => h) ?_
      refine RunU.sil hU true 1 (bm 10 3) 29 (.int .i64 (j - 15)) (-9223372036854775808 ≤ (j - 15) ∧ (j - 15) < 9223372036854775808) (by kernel_rfl) (by omega) (by kernel_rfl) (by kernel_rfl) (fun _ _ _ h => h) ?_
      refine RunU.sil hU false 2 (bm 10 7) 30 (.pointer (some ⟨b4, 0 + (j - 15).toNat * 1, none⟩)) (0 ≤ (j - 15) ∧ (j - 15) < ((64 : Nat) : Int)) (by kernel_rfl) (by omega) (by kernel_rfl) (by kernel_rfl) (fun _ _ _ h => h) ?_
      refine RunU.read 3 (bm 10 15) 31 (.load 53 (.tmp 30)) (.int .u32 (us.getD ((j - 15).toNat) 0)) [0] (by kernel_rfl) (Reads.load_blknum hU 0 b4 (0 + (j - 15).toNat * 1) 142 ((j - 15).toNat) .u32 us rfl (by kernel_rfl) (by kernel_rfl) (by omega) (by first | omega | (simp only [List.length_cons, List.length_nil]; omega))) (by kernel_rfl) (by kernel_rfl) (by kernel_rfl) (by kernel_rfl) (fun _ _ _ h => h) ?_
      refine RunU.sil hU false 4 (bm 10 31) 32 (.int .i64 j) (True) (by kernel_rfl) trivial (by kernel_rfl) (by kernel_rfl) (fun _ _ _ h => h) ?_
      refine RunU.sil hU true 5 (bm 10 63) 33 (.int .i64 (j - 2)) (-9223372036854775808 ≤ (j - 2) ∧ (j - 2) < 9223372036854775808) (by kernel_rfl) (by omega) (by kernel_rfl) (by kernel_rfl) (fun _ _ _ h => h) ?_
      refine RunU.sil hU false 6 (bm 10 127) 34 (.pointer (some ⟨b4, 0 + (j - 2).toNat * 1, none⟩)) (0 ≤ (j - 2) ∧ (j - 2) < ((64 : Nat) : Int)) (by kernel_rfl) (by omega) (by kernel_rfl) (by kernel_rfl) (fun _ _ _ h => h) ?_
      refine RunU.read 7 (bm 10 255) 35 (.load 53 (.tmp 34)) (.int .u32 (us.getD ((j - 2).toNat) 0)) [0] (by kernel_rfl) (Reads.load_blknum hU 0 b4 (0 + (j - 2).toNat * 1) 142 ((j - 2).toNat) .u32 us rfl (by kernel_rfl) (by kernel_rfl) (by omega) (by first | omega | (simp only [List.length_cons, List.length_nil]; omega))) (by kernel_rfl) (by kernel_rfl) (by kernel_rfl) (by kernel_rfl) (fun _ _ _ h => h) ?_
      refine RunU.sil hU false 8 (bm 10 511) 6 (.int .u32 (us.getD ((j - 15).toNat) 0)) (True) (by kernel_rfl) trivial (by kernel_rfl) (by kernel_rfl) (fun _ _ _ h => h) ?_
      refine RunU.sil hU false 9 (bm 10 1023) 7 (.int .u32 (us.getD ((j - 2).toNat) 0)) (True) (by kernel_rfl) trivial (by kernel_rfl) (by kernel_rfl) (fun _ _ _ h => h) ?_
      refine RunU.env [2, 3, 5, 6, 7] [(2, .pointer (some ⟨b2, 0, none⟩)), (3, .pointer (some ⟨b4, 0, none⟩)), (5, .int .i64 j), (6, .int .u32 (us.getD ((j - 15).toNat) 0)), (7, .int .u32 (us.getD ((j - 2).toNat) 0))] (by kernel_rfl) ?_
      refine RunU.done (by kernel_rfl) ?_
      refine kseq_n ?_
      refine RunC.seq ?_
      refine RunC.region ?_
      refine RunR.sil hU [] 1 1 [2, 3, 5, 6, 7, 36] [(2, .pointer (some ⟨b2, 0, none⟩)), (3, .pointer (some ⟨b4, 0, none⟩)), (5, .int .i64 j), (6, .int .u32 (us.getD ((j - 15).toNat) 0)), (7, .int .u32 (us.getD ((j - 2).toNat) 0)), (36, .int .u32 (us.getD ((j - 15).toNat) 0))] ((True) ∧ True) rfl (by kernel_rfl) ⟨trivial, trivial⟩ ?_
      refine RunR.step (dst := some 37) (op := .call { callee := .value (.func 96), args := #[.tmp 36, .const (.int .i64 (-7))], argTypes := #[53, 3] }) (by kernel_rfl) (Step.call 96 [.int .u32 (us.getD ((j - 15).toNat) 0), .int .i64 (-7)] (by kernel_rfl) (by kernel_rfl) [] [] [blk b4 142 (nums .u32 us), blk b2 142 (nums .u32 (List.replicate 64 (0 : Int))), vw A (nums .u8 bs)] (h_rot_spec (us.getD ((j - 15).toNat) 0) (-7) (by first | assumption | omega | (simp only [List.length_append, List.length_cons, List.length_nil, List.length_set, List.length_replicate, List.length_take, List.length_drop]; omega) | (simp only [fits] at *; omega) | (simp only [List.length_append, List.length_cons, List.length_nil, List.length_set, List.length_replicate, List.length_take, List.length_drop] at *; omega) | (simp; done) | decide) (by first | assumption | omega | (simp only [List.length_append, List.length_cons, List.length_nil, List.length_set, List.length_replicate, List.length_take, List.length_drop]; omega) | (simp only [fits] at *; omega) | (simp only [List.length_append, List.length_cons, List.length_nil, List.length_set, List.length_replicate, List.length_take, List.length_drop] at *; omega) | (simp; done) | decide)) [] (by kernel_rfl) (Lend.nil _) ?_)
      rintro _ _ ⟨rfl, rfl⟩
      refine RunR.sil hU [] 1 3 [2, 3, 5, 6, 7, 37, 38] [(2, .pointer (some ⟨b2, 0, none⟩)), (3, .pointer (some ⟨b4, 0, none⟩)), (5, .int .i64 j), (6, .int .u32 (us.getD ((j - 15).toNat) 0)), (7, .int .u32 (us.getD ((j - 2).toNat) 0)), (37, .int .u32 (rotl (us.getD ((j - 15).toNat) 0) ((-7) + 32))), (38, .int .u32 (us.getD ((j - 15).toNat) 0))] ((True) ∧ True) rfl (by kernel_rfl) ⟨trivial, trivial⟩ ?_
      refine RunR.step (dst := some 39) (op := .call { callee := .value (.func 96), args := #[.tmp 38, .const (.int .i64 (-18))], argTypes := #[53, 3] }) (by kernel_rfl) (Step.call 96 [.int .u32 (us.getD ((j - 15).toNat) 0), .int .i64 (-18)] (by kernel_rfl) (by kernel_rfl) [] [] [blk b4 142 (nums .u32 us), blk b2 142 (nums .u32 (List.replicate 64 (0 : Int))), vw A (nums .u8 bs)] (h_rot_spec (us.getD ((j - 15).toNat) 0) (-18) (by first | assumption | omega | (simp only [List.length_append, List.length_cons, List.length_nil, List.length_set, List.length_replicate, List.length_take, List.length_drop]; omega) | (simp only [fits] at *; omega) | (simp only [List.length_append, List.length_cons, List.length_nil, List.length_set, List.length_replicate, List.length_take, List.length_drop] at *; omega) | (simp; done) | decide) (by first | assumption | omega | (simp only [List.length_append, List.length_cons, List.length_nil, List.length_set, List.length_replicate, List.length_take, List.length_drop]; omega) | (simp only [fits] at *; omega) | (simp only [List.length_append, List.length_cons, List.length_nil, List.length_set, List.length_replicate, List.length_take, List.length_drop] at *; omega) | (simp; done) | decide)) [] (by kernel_rfl) (Lend.nil _) ?_)
      rintro _ _ ⟨rfl, rfl⟩
      refine RunR.sil hU [6] 5 9 [2, 3, 5, 7, 8] [(2, .pointer (some ⟨b2, 0, none⟩)), (3, .pointer (some ⟨b4, 0, none⟩)), (5, .int .i64 j), (7, .int .u32 (us.getD ((j - 2).toNat) 0)), (8, .int .u32 (bits2 .xor .u32 (bits2 .xor .u32 (rotl (us.getD ((j - 15).toNat) 0) ((-7) + 32)) (rotl (us.getD ((j - 15).toNat) 0) ((-18) + 32))) ((us.getD ((j - 15).toNat) 0) / 2 ^ 3)))] ((True) ∧ (True) ∧ (0 ≤ (3 : Int)) ∧ (True) ∧ (True) ∧ True) rfl (by kernel_rfl) ⟨trivial, trivial, (by omega), trivial, trivial, trivial⟩ ?_
      refine RunR.done (by kernel_rfl) ?_
      refine kseq_n ?_
      refine RunC.seq ?_
      refine RunC.region ?_
      refine RunR.sil hU [] 1 1 [2, 3, 5, 7, 8, 44] [(2, .pointer (some ⟨b2, 0, none⟩)), (3, .pointer (some ⟨b4, 0, none⟩)), (5, .int .i64 j), (7, .int .u32 (us.getD ((j - 2).toNat) 0)), (8, .int .u32 (bits2 .xor .u32 (bits2 .xor .u32 (rotl (us.getD ((j - 15).toNat) 0) ((-7) + 32)) (rotl (us.getD ((j - 15).toNat) 0) ((-18) + 32))) ((us.getD ((j - 15).toNat) 0) / 2 ^ 3))), (44, .int .u32 (us.getD ((j - 2).toNat) 0))] ((True) ∧ True) rfl (by kernel_rfl) ⟨trivial, trivial⟩ ?_
      refine RunR.step (dst := some 45) (op := .call { callee := .value (.func 96), args := #[.tmp 44, .const (.int .i64 (-17))], argTypes := #[53, 3] }) (by kernel_rfl) (Step.call 96 [.int .u32 (us.getD ((j - 2).toNat) 0), .int .i64 (-17)] (by kernel_rfl) (by kernel_rfl) [] [] [blk b4 142 (nums .u32 us), blk b2 142 (nums .u32 (List.replicate 64 (0 : Int))), vw A (nums .u8 bs)] (h_rot_spec (us.getD ((j - 2).toNat) 0) (-17) (by first | assumption | omega | (simp only [List.length_append, List.length_cons, List.length_nil, List.length_set, List.length_replicate, List.length_take, List.length_drop]; omega) | (simp only [fits] at *; omega) | (simp only [List.length_append, List.length_cons, List.length_nil, List.length_set, List.length_replicate, List.length_take, List.length_drop] at *; omega) | (simp; done) | decide) (by first | assumption | omega | (simp only [List.length_append, List.length_cons, List.length_nil, List.length_set, List.length_replicate, List.length_take, List.length_drop]; omega) | (simp only [fits] at *; omega) | (simp only [List.length_append, List.length_cons, List.length_nil, List.length_set, List.length_replicate, List.length_take, List.length_drop] at *; omega) | (simp; done) | decide)) [] (by kernel_rfl) (Lend.nil _) ?_)
      rintro _ _ ⟨rfl, rfl⟩
      refine RunR.sil hU [] 1 3 [2, 3, 5, 7, 8, 45, 46] [(2, .pointer (some ⟨b2, 0, none⟩)), (3, .pointer (some ⟨b4, 0, none⟩)), (5, .int .i64 j), (7, .int .u32 (us.getD ((j - 2).toNat) 0)), (8, .int .u32 (bits2 .xor .u32 (bits2 .xor .u32 (rotl (us.getD ((j - 15).toNat) 0) ((-7) + 32)) (rotl (us.getD ((j - 15).toNat) 0) ((-18) + 32))) ((us.getD ((j - 15).toNat) 0) / 2 ^ 3))), (45, .int .u32 (rotl (us.getD ((j - 2).toNat) 0) ((-17) + 32))), (46, .int .u32 (us.getD ((j - 2).toNat) 0))] ((True) ∧ True) rfl (by kernel_rfl) ⟨trivial, trivial⟩ ?_
      refine RunR.step (dst := some 47) (op := .call { callee := .value (.func 96), args := #[.tmp 46, .const (.int .i64 (-19))], argTypes := #[53, 3] }) (by kernel_rfl) (Step.call 96 [.int .u32 (us.getD ((j - 2).toNat) 0), .int .i64 (-19)] (by kernel_rfl) (by kernel_rfl) [] [] [blk b4 142 (nums .u32 us), blk b2 142 (nums .u32 (List.replicate 64 (0 : Int))), vw A (nums .u8 bs)] (h_rot_spec (us.getD ((j - 2).toNat) 0) (-19) (by first | assumption | omega | (simp only [List.length_append, List.length_cons, List.length_nil, List.length_set, List.length_replicate, List.length_take, List.length_drop]; omega) | (simp only [fits] at *; omega) | (simp only [List.length_append, List.length_cons, List.length_nil, List.length_set, List.length_replicate, List.length_take, List.length_drop] at *; omega) | (simp; done) | decide) (by first | assumption | omega | (simp only [List.length_append, List.length_cons, List.length_nil, List.length_set, List.length_replicate, List.length_take, List.length_drop]; omega) | (simp only [fits] at *; omega) | (simp only [List.length_append, List.length_cons, List.length_nil, List.length_set, List.length_replicate, List.length_take, List.length_drop] at *; omega) | (simp; done) | decide)) [] (by kernel_rfl) (Lend.nil _) ?_)
      rintro _ _ ⟨rfl, rfl⟩
      refine RunR.sil hU [6] 5 9 [2, 3, 5, 8, 9] [(2, .pointer (some ⟨b2, 0, none⟩)), (3, .pointer (some ⟨b4, 0, none⟩)), (5, .int .i64 j), (8, .int .u32 (bits2 .xor .u32 (bits2 .xor .u32 (rotl (us.getD ((j - 15).toNat) 0) ((-7) + 32)) (rotl (us.getD ((j - 15).toNat) 0) ((-18) + 32))) ((us.getD ((j - 15).toNat) 0) / 2 ^ 3))), (9, .int .u32 (bits2 .xor .u32 (bits2 .xor .u32 (rotl (us.getD ((j - 2).toNat) 0) ((-17) + 32)) (rotl (us.getD ((j - 2).toNat) 0) ((-19) + 32))) ((us.getD ((j - 2).toNat) 0) / 2 ^ 10)))] ((True) ∧ (True) ∧ (0 ≤ (10 : Int)) ∧ (True) ∧ (True) ∧ True) rfl (by kernel_rfl) ⟨trivial, trivial, (by omega), trivial, trivial, trivial⟩ ?_
      refine RunR.done (by kernel_rfl) ?_
      refine kseq_n ?_
      refine RunC.regionU hU 16 [blk b4 142 (nums .u32 us)] [0] [14, 15] (bm 16 0) (by kernel_rfl) (by kernel_rfl) (by kernel_rfl) ?_
      refine RunU.sil hU false 0 (bm 16 1) 52 (.int .i64 j) (True) (by kernel_rfl) trivial (by kernel_rfl) (by kernel_rfl) (fun _ _ _ h => h) ?_
      refine RunU.sil hU false 1 (bm 16 3) 53 (.int .i64 j) (True) (by kernel_rfl) trivial (by kernel_rfl) (by kernel_rfl) (fun _ _ _ h => h) ?_
      refine RunU.sil hU true 2 (bm 16 7) 54 (.int .i64 (j - 16)) (-9223372036854775808 ≤ (j - 16) ∧ (j - 16) < 9223372036854775808) (by kernel_rfl) (by omega) (by kernel_rfl) (by kernel_rfl) (fun _ _ _ h => h) ?_
      refine RunU.sil hU false 3 (bm 16 15) 55 (.pointer (some ⟨b4, 0 + (j - 16).toNat * 1, none⟩)) (0 ≤ (j - 16) ∧ (j - 16) < ((64 : Nat) : Int)) (by kernel_rfl) (by omega) (by kernel_rfl) (by kernel_rfl) (fun _ _ _ h => h) ?_
      refine RunU.read 4 (bm 16 31) 56 (.load 53 (.tmp 55)) (.int .u32 (us.getD ((j - 16).toNat) 0)) [0] (by kernel_rfl) (Reads.load_blknum hU 0 b4 (0 + (j - 16).toNat * 1) 142 ((j - 16).toNat) .u32 us rfl (by kernel_rfl) (by kernel_rfl) (by omega) (by first | omega | (simp only [List.length_cons, List.length_nil]; omega))) (by kernel_rfl) (by kernel_rfl) (by kernel_rfl) (by kernel_rfl) (fun _ _ _ h => h) ?_
      refine RunU.sil hU false 5 (bm 16 63) 57 (.int .u32 (bits2 .xor .u32 (bits2 .xor .u32 (rotl (us.getD ((j - 15).toNat) 0) ((-7) + 32)) (rotl (us.getD ((j - 15).toNat) 0) ((-18) + 32))) ((us.getD ((j - 15).toNat) 0) / 2 ^ 3))) (True) (by kernel_rfl) trivial (by kernel_rfl) (by kernel_rfl) (fun _ _ _ h => h) ?_
      refine RunU.sil hU false 6 (bm 16 127) 58 (.int .u32 (IntKind.wrap .u32 ((us.getD ((j - 16).toNat) 0) + (bits2 .xor .u32 (bits2 .xor .u32 (rotl (us.getD ((j - 15).toNat) 0) ((-7) + 32)) (rotl (us.getD ((j - 15).toNat) 0) ((-18) + 32))) ((us.getD ((j - 15).toNat) 0) / 2 ^ 3))))) (True) (by kernel_rfl) trivial (by kernel_rfl) (by kernel_rfl) (fun _ _ _ h => h) ?_
      refine RunU.sil hU false 7 (bm 16 255) 59 (.int .i64 j) (True) (by kernel_rfl) trivial (by kernel_rfl) (by kernel_rfl) (fun _ _ _ h => h) ?_
      refine RunU.sil hU true 8 (bm 16 511) 60 (.int .i64 (j - 7)) (-9223372036854775808 ≤ (j - 7) ∧ (j - 7) < 9223372036854775808) (by kernel_rfl) (by omega) (by kernel_rfl) (by kernel_rfl) (fun _ _ _ h => h) ?_
      refine RunU.sil hU false 9 (bm 16 1023) 61 (.pointer (some ⟨b4, 0 + (j - 7).toNat * 1, none⟩)) (0 ≤ (j - 7) ∧ (j - 7) < ((64 : Nat) : Int)) (by kernel_rfl) (by omega) (by kernel_rfl) (by kernel_rfl) (fun _ _ _ h => h) ?_
      refine RunU.read 10 (bm 16 2047) 62 (.load 53 (.tmp 61)) (.int .u32 (us.getD ((j - 7).toNat) 0)) [0] (by kernel_rfl) (Reads.load_blknum hU 0 b4 (0 + (j - 7).toNat * 1) 142 ((j - 7).toNat) .u32 us rfl (by kernel_rfl) (by kernel_rfl) (by omega) (by first | omega | (simp only [List.length_cons, List.length_nil]; omega))) (by kernel_rfl) (by kernel_rfl) (by kernel_rfl) (by kernel_rfl) (fun _ _ _ h => h) ?_
      refine RunU.sil hU false 11 (bm 16 4095) 63 (.int .u32 (IntKind.wrap .u32 ((IntKind.wrap .u32 ((us.getD ((j - 16).toNat) 0) + (bits2 .xor .u32 (bits2 .xor .u32 (rotl (us.getD ((j - 15).toNat) 0) ((-7) + 32)) (rotl (us.getD ((j - 15).toNat) 0) ((-18) + 32))) ((us.getD ((j - 15).toNat) 0) / 2 ^ 3)))) + (us.getD ((j - 7).toNat) 0)))) (True) (by kernel_rfl) trivial (by kernel_rfl) (by kernel_rfl) (fun _ _ _ h => h) ?_
      refine RunU.sil hU false 12 (bm 16 8191) 64 (.int .u32 (bits2 .xor .u32 (bits2 .xor .u32 (rotl (us.getD ((j - 2).toNat) 0) ((-17) + 32)) (rotl (us.getD ((j - 2).toNat) 0) ((-19) + 32))) ((us.getD ((j - 2).toNat) 0) / 2 ^ 10))) (True) (by kernel_rfl) trivial (by kernel_rfl) (by kernel_rfl) (fun _ _ _ h => h) ?_
      refine RunU.sil hU false 13 (bm 16 16383) 65 (.int .u32 (IntKind.wrap .u32 ((IntKind.wrap .u32 ((IntKind.wrap .u32 ((us.getD ((j - 16).toNat) 0) + (bits2 .xor .u32 (bits2 .xor .u32 (rotl (us.getD ((j - 15).toNat) 0) ((-7) + 32)) (rotl (us.getD ((j - 15).toNat) 0) ((-18) + 32))) ((us.getD ((j - 15).toNat) 0) / 2 ^ 3)))) + (us.getD ((j - 7).toNat) 0))) + (bits2 .xor .u32 (bits2 .xor .u32 (rotl (us.getD ((j - 2).toNat) 0) ((-17) + 32)) (rotl (us.getD ((j - 2).toNat) 0) ((-19) + 32))) ((us.getD ((j - 2).toNat) 0) / 2 ^ 10))))) (True) (by kernel_rfl) trivial (by kernel_rfl) (by kernel_rfl) (fun _ _ _ h => h) ?_
      refine RunU.sil hU false 14 (bm 16 32767) 66 (.pointer (some ⟨b4, 0 + (j).toNat * 1, none⟩)) (0 ≤ j ∧ j < ((64 : Nat) : Int)) (by kernel_rfl) (by omega) (by kernel_rfl) (by kernel_rfl) (fun _ _ _ h => h) ?_
      refine RunU.one (dst := none) (op := .store 53 (.tmp 66) (.tmp 65)) 15 (bm 16 65535) [] (by kernel_rfl) (by kernel_rfl) (Step.store_blknum hU 0 b4 (0 + (j).toNat * 1) 142 ((j).toNat) .u32 us (IntKind.wrap .u32 ((IntKind.wrap .u32 ((IntKind.wrap .u32 ((us.getD ((j - 16).toNat) 0) + (bits2 .xor .u32 (bits2 .xor .u32 (rotl (us.getD ((j - 15).toNat) 0) ((-7) + 32)) (rotl (us.getD ((j - 15).toNat) 0) ((-18) + 32))) ((us.getD ((j - 15).toNat) 0) / 2 ^ 3)))) + (us.getD ((j - 7).toNat) 0))) + (bits2 .xor .u32 (bits2 .xor .u32 (rotl (us.getD ((j - 2).toNat) 0) ((-17) + 32)) (rotl (us.getD ((j - 2).toNat) 0) ((-19) + 32))) ((us.getD ((j - 2).toNat) 0) / 2 ^ 10)))) (by kernel_rfl) (by kernel_rfl) (by kernel_rfl) rfl (by omega) (by first | omega | (simp only [List.length_cons, List.length_nil]; omega)) ?_)
      have hl16 : (us.set ((j).toNat) (IntKind.wrap .u32 ((IntKind.wrap .u32 ((IntKind.wrap .u32 ((us.getD ((j - 16).toNat) 0) + (bits2 .xor .u32 (bits2 .xor .u32 (rotl (us.getD ((j - 15).toNat) 0) ((-7) + 32)) (rotl (us.getD ((j - 15).toNat) 0) ((-18) + 32))) ((us.getD ((j - 15).toNat) 0) / 2 ^ 3)))) + (us.getD ((j - 7).toNat) 0))) + (bits2 .xor .u32 (bits2 .xor .u32 (rotl (us.getD ((j - 2).toNat) 0) ((-17) + 32)) (rotl (us.getD ((j - 2).toNat) 0) ((-19) + 32))) ((us.getD ((j - 2).toNat) 0) / 2 ^ 10))))).length = us.length := List.length_set
      refine ⟨.inr (by kernel_rfl), ?_⟩
      refine RunU.env [2, 3, 5] [(2, .pointer (some ⟨b2, 0, none⟩)), (3, .pointer (some ⟨b4, 0, none⟩)), (5, .int .i64 j)] (by kernel_rfl) ?_
      refine RunU.done (by kernel_rfl) ?_
      refine kblock_n ?_
      refine kseq_n ?_
      refine RunC.region ?_
      refine RunR.sil hU [1] 3 3 [2, 3, 5] [(2, .pointer (some ⟨b2, 0, none⟩)), (3, .pointer (some ⟨b4, 0, none⟩)), (5, .int .i64 (j + 1))] ((True) ∧ (-9223372036854775808 ≤ (j + 1) ∧ (j + 1) < 9223372036854775808) ∧ (True) ∧ True) rfl (by kernel_rfl) ⟨trivial, (by omega), trivial, trivial⟩ ?_
      refine RunR.done (by kernel_rfl) ?_
      refine kloop_n _ [2, 3, 5] [0, 0, 0] [(2, .pointer (some ⟨b2, 0, none⟩)), (3, .pointer (some ⟨b4, 0, none⟩)), (5, .int .i64 (j + 1))] [blk b4 142 (nums .u32 (us.set ((j).toNat) (IntKind.wrap .u32 ((IntKind.wrap .u32 ((IntKind.wrap .u32 ((us.getD ((j - 16).toNat) 0) + (bits2 .xor .u32 (bits2 .xor .u32 (rotl (us.getD ((j - 15).toNat) 0) ((-7) + 32)) (rotl (us.getD ((j - 15).toNat) 0) ((-18) + 32))) ((us.getD ((j - 15).toNat) 0) / 2 ^ 3)))) + (us.getD ((j - 7).toNat) 0))) + (bits2 .xor .u32 (bits2 .xor .u32 (rotl (us.getD ((j - 2).toNat) 0) ((-17) + 32)) (rotl (us.getD ((j - 2).toNat) 0) ((-19) + 32))) ((us.getD ((j - 2).toNat) 0) / 2 ^ 10)))))), blk b2 142 (nums .u32 (List.replicate 64 (0 : Int))), vw A (nums .u8 bs)] (by kernel_rfl) (by kernel_rfl) ?_ ⟨(j + 1), (us.set ((j).toNat) (IntKind.wrap .u32 ((IntKind.wrap .u32 ((IntKind.wrap .u32 ((us.getD ((j - 16).toNat) 0) + (bits2 .xor .u32 (bits2 .xor .u32 (rotl (us.getD ((j - 15).toNat) 0) ((-7) + 32)) (rotl (us.getD ((j - 15).toNat) 0) ((-18) + 32))) ((us.getD ((j - 15).toNat) 0) / 2 ^ 3)))) + (us.getD ((j - 7).toNat) 0))) + (bits2 .xor .u32 (bits2 .xor .u32 (rotl (us.getD ((j - 2).toNat) 0) ((-17) + 32)) (rotl (us.getD ((j - 2).toNat) 0) ((-19) + 32))) ((us.getD ((j - 2).toNat) 0) / 2 ^ 10))))), (by first | assumption | omega | (simp only [List.length_append, List.length_cons, List.length_nil, List.length_set, List.length_replicate, List.length_take, List.length_drop]; omega) | (simp only [fits] at *; omega) | (simp only [List.length_append, List.length_cons, List.length_nil, List.length_set, List.length_replicate, List.length_take, List.length_drop] at *; omega) | (simp; done) | decide), (by first | assumption | omega | (simp only [List.length_append, List.length_cons, List.length_nil, List.length_set, List.length_replicate, List.length_take, List.length_drop]; omega) | (simp only [fits] at *; omega) | (simp only [List.length_append, List.length_cons, List.length_nil, List.length_set, List.length_replicate, List.length_take, List.length_drop] at *; omega) | (simp; done) | decide), (by exact sch_step hu hj (by omega)), (by first | rfl | assumption | omega | (simp only [List.length_append, List.length_cons, List.length_nil, List.length_set, List.length_replicate, List.length_take, List.length_drop]; omega) | (simp; done)), rfl, (by first | rfl | simp only [List.length_set]), (by first | rfl | simp only [List.length_set])⟩
      show ((64 - (j + 1)).toNat : Nat) < ((64 - j).toNat : Nat)
      omega
    · skip
      refine RunC.exit ?_
      refine kseq_e ?_
      refine kloop_e ?_
      refine kblock_e ?_
      refine kseq_n ?_
      refine RunC.seq ?_
      refine RunC.region ?_
      refine RunR.step (dst := some 67) (op := .load 142 (.tmp 3)) (by kernel_rfl) (Step.load_arr hU 0 b4 142 64 .u32 us (by kernel_rfl) (by kernel_rfl) (by kernel_rfl) (by kernel_rfl) (by first | rfl | omega | (simp; done)) (by kernel_rfl) ?_)
      refine RunR.step (dst := none) (op := .store 142 (.tmp 2) (.tmp 67)) (by kernel_rfl) (Step.store_arr hU 1 b2 142 64 .u32 (List.replicate 64 (0 : Int)) us (by kernel_rfl) (by kernel_rfl) (by kernel_rfl) (by kernel_rfl) (by first | rfl | omega | (simp; done)) (by first | rfl | omega | (simp; done)) ?_)
      refine RunR.done (by kernel_rfl) ?_
      refine kseq_n ?_
      refine RunC.ret ?_
      refine kret_r [.agg (nums .u32 us).toArray] [] [] ⟨⟨0, b2, 0, 142, nums .u32 us, rfl, rfl, (loadv_arr (U := U) (n := 64) (by kernel_rfl) (by kernel_rfl) (by first | rfl | omega | assumption | (simp; done)))⟩, trivial⟩ (by kernel_rfl) rfl ⟨us, rfl, rfl, (by rw [hu, show j = 64 by omega]; simp), (by assumption)⟩
end Go.Proofs.Ytkehpipialmneaa.Y1
