import Derived.Test.YtlibhidhfbecbaaOnePure
import Derived.Test.YtlibhidhfbecbaaProg
import Derived.Test.YtlibhidhfbecbaaY6
namespace Go.Proofs.Ytlibhidhfbecbaa.LFileOne
open Go Go.Proofs.Ytlibhidhfbecbaa.SL Go.Proofs.Ytlibhidhfbecbaa.SL.W Go.Proofs.Ytlibhidhfbecbaa.SL.D Go.Proofs.Ytlibhidhfbecbaa.SL.I Go.Proofs.Ytlibhidhfbecbaa.XT
set_option linter.unusedVariables false
set_option linter.unusedSimpArgs false
set_option maxRecDepth 100000
set_option maxHeartbeats 40000000
theorem fl_dir_spec (ei : Nat) (fi : Nat) (me : Nat) (Fs : List Fe) (fc : Nat) (G : List Ro) (Na : Option Addr) (m : Nat) (nk : Nat) (sl : List Bool) (Sa : Option Addr) (sn : Nat) (sc : Nat) (hFe : FeOK Fs) (hFm : FMOK Fs fc) (hFi : FeIn Fs G) (hFd : FeD Fs) :
 CallsS Try.prog 61 [pt ei] [blk ei 87 (([pt fi] : List Value) ++ (([.map (some me)] : List Value) ++ (([ς Na nk m] : List Value) ++ (bls sl ++ ([ς Sa sn sc] : List Value))))), mpf me (Fs.map feM) fc, rws .i64 G] (fun r D => ∃ (A9 : Option Addr) (S : Nat) (c9 : Nat) (zs : List Ro) (es : List Fe), r = ς A9 S c9 ∧ D = [row 22 1 (ς A9 S c9) S (rowsV zs), rws .u8 zs, blk ei 87 (([pt fi] : List Value) ++ (([.map (some me)] : List Value) ++ (([ς Na nk m] : List Value) ++ (bls sl ++ ([ς Sa sn sc] : List Value))))), mpf me (Fs.map feM) fc, rws .i64 G] ∧ (es.Perm Fs) ∧ (rb zs = dirS es) ∧ (RowsOK .u8 zs) ∧ (zs.length = S) ∧ (S ≤ c9) ∧ (0 < S → Option.isSome A9 = true) ∧ (S = 16)) := by
 refine CallsS.enter hU Try.f61 _ [.tmp 2] 75 Try.func61 rfl (by decide) rfl rfl (by kernel_rfl) fun w0 W => ?_
 refine RunC.sr ?_
 refine RunR.sl hU [] 1 1 [0, 2] [(0, pt ei), (2, ς0)] 1 ?_
 refine RunR.nx ?_
 refine RunR.st (some 9) (.makeSlice 106 (.const (ι 16)) (.const (ι 16))) (Step.make_rows hU 22 24 .i64 .i64 (16) (by kernel_rfl) (by kernel_rfl) (by kernel_rfl) (by kernel_rfl) (by omega) (by omega) (by kernel_rfl) (fun l => ?_))
 have G0 : (List.replicate 16 (none, 0, []) : List Ro).length = 16 := List.length_replicate
 refine RunR.turn ([sepR .u8 5 ([] : List Ro), row 22 1 (ς (ad l) 16 16) 16 (rowsV (List.replicate 16 (none, 0, []) : List Ro)), blk ei 87 (([pt fi] : List Value) ++ (([.map (some me)] : List Value) ++ (([ς Na nk m] : List Value) ++ (bls sl ++ ([ς Sa sn sc] : List Value))))), mpf me (Fs.map feM) fc, rws .i64 G]) (fun _ _ w hs => SAT.sepNil .u8 5 hs) ?_
 refine RunR.sl hU [] 1 2 [0, 2, 3] [(0, pt ei), (2, ς0), (3, ς (ad l) 16 16)] 1 ?_
 refine RunR.nn ?_
 refine RunC.seq ?_
 refine RunC.sr ?_
 refine RunR.sl hU [] 3 3 [0, 2, 3, 11, 12] [(0, pt ei), (2, ς0), (3, ς (ad l) 16 16), (11, ι 16), (12, ι 0)] 3 ?_
 refine RunR.nn ?_
 refine RunC.block ?_
 refine RunC.env [0, 2, 3, 11, 12] [(0, pt ei), (2, ς0), (3, ς (ad l) 16 16), (11, ι 16), (12, ι 0)] (by kernel_rfl) ?_
 refine RunC.only [1, 0, 0, 0, 0] [row 22 1 (ς (ad l) 16 16) 16 (rowsV (List.replicate 16 (none, 0, []) : List Ro)), sepR .u8 5 ([] : List Ro), blk ei 87 (([pt fi] : List Value) ++ (([.map (some me)] : List Value) ++ (([ς Na nk m] : List Value) ++ (bls sl ++ ([ς Sa sn sc] : List Value))))), mpf me (Fs.map feM) fc, rws .i64 G] (by kernel_rfl) ?_
 refine RunC.loop (σ := Nat) (fun n_ t_ D_ => ∃ (i : Int) (os : List Ro), (0 ≤ i) ∧ (i ≤ 16) ∧ (os.length = 16) ∧ (RowsOK .u8 os) ∧ (rb (os.take i.toNat) = List.replicate i.toNat (List.replicate 256 0)) ∧ n_ = ((16 - i).toNat : Nat) ∧ t_ = [(0, pt ei), (2, ς0), (3, ς (ad l) 16 16), (11, ι 16), (12, ι i)] ∧ D_ = [row 22 1 (ς (ad l) 16 16) 16 (rowsV os), sepR .u8 5 (os.take i.toNat), blk ei 87 (([pt fi] : List Value) ++ (([.map (some me)] : List Value) ++ (([ς Na nk m] : List Value) ++ (bls sl ++ ([ς Sa sn sc] : List Value))))), mpf me (Fs.map feM) fc, rws .i64 G]) id _ ⟨0, (List.replicate 16 (none, 0, []) : List Ro), (by omega), (by omega), (by exact List.length_replicate), (by exact nilrows_ok _), (by rfl), rfl, rfl, rfl⟩ ?_
 rintro n_ _ _ ⟨i, os, hi, H0, hol, hK, hz, rfl, rfl, rfl⟩
 refine RunC.sr ?_
 refine RunR.sl hU [] 1 1 [0, 2, 3, 11, 12, 13] [(0, pt ei), (2, ς0), (3, ς (ad l) 16 16), (11, ι 16), (12, ι i), (13, η (decide (i < 16)))] 1 ?_
 refine RunR.nn ?_
 refine RunC.seq ?_
 refine RunC.condp (i < 16) (by kernel_rfl) (fun h3 => ?_) (fun h3 => ?_)
 ·refine RunC.ks ?_
  refine RunC.seq ?_
  refine RunC.block ?_
  refine RunC.sr ?_
  refine RunR.sl hU [] 2 2 [0, 2, 3, 4, 11, 12] [(0, pt ei), (2, ς0), (3, ς (ad l) 16 16), (4, ι i), (11, ι 16), (12, ι i)] 2 ?_
  refine RunR.nn ?_
  refine RunC.region ?_
  refine RunR.sl hU [] 2 2 [0, 2, 3, 11, 12, 15, 16] [(0, pt ei), (2, ς0), (3, ς (ad l) 16 16), (11, ι 16), (12, ι i), (15, ς (ad l) 16 16), (16, ι i)] 2 ?_
  refine RunR.st (some 17) (.makeSlice 22 (.const (ι 256)) (.const (ι 256))) (Step.make_nums hU 5 1 .u8 .i64 .i64 (256) rfl rfl (by kernel_rfl) (by kernel_rfl) (by omega) (by omega) (by kernel_rfl) (fun O => ?_))
  have E0 : (List.replicate 256 (0 : Int)).length = 256 := List.length_replicate
  refine RunR.sil hU [] 1 4 [0, 2, 3, 11, 12, 17, 18] [(0, pt ei), (2, ς0), (3, ς (ad l) 16 16), (11, ι 16), (12, ι i), (17, ς (ad O) 256 256), (18, .pointer (elemAt (ad l) i 1))] (((0 ≤ i ∧ i < (16 : Int)) ∧ Option.isSome (some ⟨l, 0, none⟩ : Option Addr) = true) ∧ True) rfl (by kernel_rfl) ⟨⟨by omega, rfl⟩, trivial⟩ ?_
  refine RunR.st none (.store 22 (.tmp 18) (.tmp 17)) (Step.store_ro hU 1 22 16 16 (ad l) os i (ad O) 256 (List.replicate 256 (0 : Int)) (by kernel_rfl) (by kernel_rfl) (by kernel_rfl) rfl (by omega) ?_)
  have F0 : (os.set (i).toNat (some ⟨O, 0, none⟩, 256, List.replicate 256 (0 : Int))).length = os.length := List.length_set
  refine RunR.turn ([sepR .u8 5 ((os.take i.toNat) ++ [(some ⟨O, 0, none⟩, 256, List.replicate 256 (0 : Int))]), row 22 1 (ς (ad l) 16 16) 16 (rowsV (os.set (i).toNat (some ⟨O, 0, none⟩, 256, List.replicate 256 (0 : Int)))), blk ei 87 (([pt fi] : List Value) ++ (([.map (some me)] : List Value) ++ (([ς Na nk m] : List Value) ++ (bls sl ++ ([ς Sa sn sc] : List Value))))), mpf me (Fs.map feM) fc, rws .i64 G]) (fun _ _ w hs => SAT.sepPush (by rfl) (hs.pulls2 [1, 1] ([κ 5 .u8 (ad O) 256 256 (List.replicate 256 (0 : Int)), sepR .u8 5 (os.take i.toNat), row 22 1 (ς (ad l) 16 16) 16 (rowsV (os.set (i).toNat (some ⟨O, 0, none⟩, 256, List.replicate 256 (0 : Int)))), blk ei 87 (([pt fi] : List Value) ++ (([.map (some me)] : List Value) ++ (([ς Na nk m] : List Value) ++ (bls sl ++ ([ς Sa sn sc] : List Value))))), mpf me (Fs.map feM) fc, rws .i64 G]) (by kernel_rfl))) ?_
  refine RunR.dn ?_
  refine kblock_n ?_
  refine kseq_n ?_
  refine RunC.region ?_
  refine RunR.sil hU [0] 2 2 [0, 2, 3, 11, 12] [(0, pt ei), (2, ς0), (3, ς (ad l) 16 16), (11, ι 16), (12, ι (i + 1))] ((-9223372036854775808 ≤ (i + 1) ∧ (i + 1) < 9223372036854775808) ∧ (True) ∧ True) rfl (by kernel_rfl) ⟨(by omega), trivial, trivial⟩ ?_
  refine RunR.dn ?_
  refine kloop_n _ [0, 2, 3, 11, 12] [1, 0, 0, 0, 0] [(0, pt ei), (2, ς0), (3, ς (ad l) 16 16), (11, ι 16), (12, ι (i + 1))] [row 22 1 (ς (ad l) 16 16) 16 (rowsV (os.set (i).toNat (some ⟨O, 0, none⟩, 256, List.replicate 256 (0 : Int)))), sepR .u8 5 ((os.take i.toNat) ++ [(some ⟨O, 0, none⟩, 256, List.replicate 256 (0 : Int))]), blk ei 87 (([pt fi] : List Value) ++ (([.map (some me)] : List Value) ++ (([ς Na nk m] : List Value) ++ (bls sl ++ ([ς Sa sn sc] : List Value))))), mpf me (Fs.map feM) fc, rws .i64 G] (by kernel_rfl) (by kernel_rfl) ?_ ⟨(i + 1), (os.set (i).toNat (some ⟨O, 0, none⟩, 256, List.replicate 256 (0 : Int))), (by omega), ‹_›, (by rw [List.length_set]; exact hol), (by exact hK.set (In.replicate _ _) (by simp) (by simp)), (by exact zero_rows hi (by omega) hz rfl), rfl, (by rfl), (by rw [ro_zeroI hi (by omega)])⟩
  show ((16 - (i + 1)).toNat : Nat) < ((16 - i).toNat : Nat)
  omega
 refine RunC.exit ?_
 refine kseq_e ?_
 refine kloop_e ?_
 refine kblock_e ?_
 refine kseq_n ?_
 refine RunC.seq ?_
 refine RunC.sr ?_
 refine RunR.sl hU [] 3 3 [2, 3, 22] [(2, ς0), (3, ς (ad l) 16 16), (22, .pointer (some ⟨ei, 1, none⟩))] 3 ?_
 refine RunR.st (some 23) (.load 48 (.tmp 22)) (Step.load_blk hU 2 ei (1) 87 (([pt fi] : List Value) ++ (([.map (some me)] : List Value) ++ (([ς Na nk m] : List Value) ++ (bls sl ++ ([ς Sa sn sc] : List Value))))) (.map (some me)) (by kernel_rfl) (by kernel_rfl) (loadv_one (by kernel_rfl) (show Seg _ 1 _ from Seg.skip (n := 1) (o := 0) rfl (Seg.here _ _))) (by kernel_rfl) ?_)
 refine RunR.st (some 24) (.range 48 (.tmp 23)) (Step.rangeFe hU 3 9 63 me fc Fs (by kernel_rfl) (by kernel_rfl) (by kernel_rfl) (by kernel_rfl) (fun j => ?_))
 refine RunR.nn ?_
 refine RunC.block ?_
 refine RunC.env [2, 3, 24] [(2, ς0), (3, ς (ad l) 16 16), (24, pt j)] (by kernel_rfl) ?_
 refine RunC.only [0, 0, 0, 0, 0, 0] [ite j me fc ([] : List Fe), row 22 1 (ς (ad l) 16 16) 16 (rowsV os), sepR .u8 5 (os.take i.toNat), blk ei 87 (([pt fi] : List Value) ++ (([.map (some me)] : List Value) ++ (([ς Na nk m] : List Value) ++ (bls sl ++ ([ς Sa sn sc] : List Value))))), mpf me (Fs.map feM) fc, rws .i64 G] (by kernel_rfl) ?_
 refine RunC.loop (σ := Nat) (fun n_ t_ D_ => ∃ (es : List Fe) (qs : List Ro), (MetF Fs es) ∧ (rb qs = dirS es) ∧ (qs.length = 16) ∧ (RowsOK .u8 qs) ∧ (W256 qs) ∧ n_ = (Fs.length - es.length : Nat) ∧ t_ = [(2, ς0), (3, ς (ad l) 16 16), (24, pt j)] ∧ D_ = [ite j me fc es, row 22 1 (ς (ad l) 16 16) 16 (rowsV qs), sepR .u8 5 qs, blk ei 87 (([pt fi] : List Value) ++ (([.map (some me)] : List Value) ++ (([ς Na nk m] : List Value) ++ (bls sl ++ ([ς Sa sn sc] : List Value))))), mpf me (Fs.map feM) fc, rws .i64 G]) id _ ⟨([] : List Fe), os, (by exact MetF.nil _), (by exact zero_end hz (by omega) hol), ‹_›, ‹_›, (by exact zero_w hz (by omega) hol), rfl, rfl, (by rw [List.take_of_length_le (by omega)])⟩ ?_
 rintro n_ _ _ ⟨es, qs, hes, hq, hql, hK, hW, rfl, rfl, rfl⟩
 refine RunC.sr ?_
 refine RunR.st (some 25) (.next (.tmp 24) false) (Step.nextFe 0 4 j me fc Fs es (by kernel_rfl) (by kernel_rfl) (by kernel_rfl) (by assumption : FMOK Fs fc) (by kernel_rfl) (fun a0 => ?_) (fun a E R => ?_))
 ·refine RunR.sl hU [] 1 2 [2, 3, 24, 26] [(2, ς0), (3, ς (ad l) 16 16), (24, pt j), (26, η false)] 1 ?_
  refine RunR.nn ?_
  refine RunC.seq ?_
  refine RunC.cond (b := false) (by kernel_rfl) (fun h => by cases h) (fun _ => ?_)
  refine RunC.exit ?_
  refine kseq_e ?_
  refine kloop_e ?_
  refine kblock_e ?_
  refine kseq_n ?_
  refine RunC.sr ?_
  refine RunR.sl hU [] 2 2 [2] [(2, ς (ad l) 16 16)] 2 ?_
  refine RunR.nn ?_
  refine RunC.ret ?_
  refine kret_rt ([rws .u8 qs, ite j me fc es, row 22 1 (ς (ad l) 16 16) 16 (rowsV qs), blk ei 87 (([pt fi] : List Value) ++ (([.map (some me)] : List Value) ++ (([ς Na nk m] : List Value) ++ (bls sl ++ ([ς Sa sn sc] : List Value))))), mpf me (Fs.map feM) fc, rws .i64 G]) (fun w0 W w hs => ((hs).pulls2 [2] ([sepR .u8 5 qs, ite j me fc es, row 22 1 (ς (ad l) 16 16) 16 (rowsV qs), blk ei 87 (([pt fi] : List Value) ++ (([.map (some me)] : List Value) ++ (([ς Na nk m] : List Value) ++ (bls sl ++ ([ς Sa sn sc] : List Value))))), mpf me (Fs.map feM) fc, rws .i64 G]) (by kernel_rfl)).sepPool) [ς (ad l) 16 16] [2, 0, 1, 1, 1] [row 22 1 (ς (ad l) 16 16) 16 (rowsV qs), rws .u8 qs, blk ei 87 (([pt fi] : List Value) ++ (([.map (some me)] : List Value) ++ (([ς Na nk m] : List Value) ++ (bls sl ++ ([ς Sa sn sc] : List Value))))), mpf me (Fs.map feM) fc, rws .i64 G] ⟨rfl, trivial⟩ (by kernel_rfl) rfl ⟨(ad l), 16, 16, qs, es, rfl, rfl, (by exact hes.all hFm a0), (by exact hq), ‹_›, (by omega), (by omega), (by intro _; rfl), (by rfl)⟩
 have hsx_ := (hFe a E).slot
 have hfd_ := hFd a E
 have hsz_ := (hFe a E).size
 refine RunR.sl hU [] 1 2 [2, 3, 24, 26] [(2, ς0), (3, ς (ad l) 16 16), (24, pt j), (26, η true)] 1 ?_
 refine RunR.nn ?_
 refine RunC.seq ?_
 refine RunC.cond (b := true) (by kernel_rfl) (fun _ => ?_) (fun h => by cases h)
 refine RunC.ks ?_
 refine RunC.block ?_
 refine RunC.sr ?_
 refine RunR.st (some 27) (.entry (.tmp 24)) (Step.entryFe 0 4 j me fc Fs es a (by kernel_rfl) (by kernel_rfl) (by kernel_rfl) (by assumption : FMOK Fs fc) E (by kernel_rfl) ?_)
 refine RunR.sl hU [] 2 3 [2, 3, 24, 28, 29] [(2, ς0), (3, ς (ad l) 16 16), (24, pt j), (28, .string a.nm), (29, .agg #[ι a.sl, ι a.sz, ς a.A a.bl.length a.c])] 2 ?_
 refine RunR.st (some 6) (.alloc 63) (Step.al hU 3 40 (.agg #[ι 0, ι 0, ς0]) (fun k => ?_))
 refine RunR.sl hU [] 1 5 [2, 3, 5, 6, 24, 29] [(2, ς0), (3, ς (ad l) 16 16), (5, .string a.nm), (6, pt k), (24, pt j), (29, .agg #[ι a.sl, ι a.sz, ς a.A a.bl.length a.c])] 1 ?_
 refine RunR.st none (.store 63 (.tmp 6) (.tmp 29)) (Step.store_blk hU 0 k 0 63 [ι 0, ι 0, ς0] (.agg #[ι a.sl, ι a.sz, ς a.A a.bl.length a.c]) (by kernel_rfl) (by kernel_rfl) (by kernel_rfl) 3 rfl [ι a.sl, ι a.sz, ς a.A a.bl.length a.c] (by kernel_rfl) rfl (by kernel_rfl) (by decide) ?_)
 refine RunR.nn ?_
 refine RunC.seq ?_
 refine RunC.regionU hU 13 [blk k 63 [ι a.sl, ι a.sz, ς a.A a.bl.length a.c], row 22 1 (ς (ad l) 16 16) 16 (rowsV qs)] [0, 2] [12] (bm 13 0) (by kernel_rfl) (by kernel_rfl) (by kernel_rfl) ?_
 refine RunU.sl hU 0 (bm 13 1) 30 (ς (ad l) 16 16) ?_
 refine RunU.sl hU 1 (bm 13 3) 31 (pt k) ?_
 refine RunU.rd 2 (bm 13 7) 32 (.load 3 (.tmp 31)) (ι a.sl) [0, 2] (Reads.load_blk hU 0 k (0) 63 [ι a.sl, ι a.sz, ς a.A a.bl.length a.c] (ι a.sl) (by kernel_rfl) (by kernel_rfl) (by kernel_rfl)) ?_
 refine RunU.sil hU true 3 (bm 13 15) 33 (ι (a.sl / (4 : Int))) (0 ≤ a.sl ∧ 0 < (4 : Int) ∧ -9223372036854775808 ≤ (a.sl / (4 : Int)) ∧ (a.sl / (4 : Int)) < 9223372036854775808) (by kernel_rfl) (by omega) (by kernel_rfl) (by kernel_rfl) (fun _ _ _ h => h) ?_
 refine RunU.sil hU false 4 (bm 13 31) 34 (.pointer (elemAt (ad l) (a.sl / (4 : Int)) 1)) ((0 ≤ (a.sl / (4 : Int)) ∧ (a.sl / (4 : Int)) < (16 : Int)) ∧ Option.isSome (some ⟨l, 0, none⟩ : Option Addr) = true) (by kernel_rfl) ⟨by omega, rfl⟩ (by kernel_rfl) (by kernel_rfl) (fun _ _ _ h => h) ?_
 obtain ⟨e, d, f, C, C0, v0, n0⟩ := row_at (by assumption : RowsOK .u8 qs) (i := (a.sl / (4 : Int)).toNat) (by omega)
 have q0 := W256.at ‹_› C
 refine RunU.know (p := 0 < f.length → Option.isSome e = true) (fun _ _ w hs => sep_some hs 3 rfl C) (fun L => ?_)
 refine RunU.rd 5 (bm 13 63) 35 (.load 22 (.tmp 34)) (ς e f.length d) [0, 2] (Reads.load hU 1 (row 22 1 (ς (ad l) 16 16) 16 (rowsV qs)) (ad l) (a.sl / (4 : Int)) 1 (rowsV qs) (ς e f.length d) (by kernel_rfl) (by kernel_rfl) (tells_row _ _ _ _ _ _) (by rw [rowsV_len]; omega) (loadv_row (by kernel_rfl) C (Nat.mul_one _))) ?_
 refine RunU.sl hU 6 (bm 13 127) 36 (pt k) ?_
 refine RunU.rd 7 (bm 13 255) 37 (.load 3 (.tmp 36)) (ι a.sl) [0, 2] (Reads.load_blk hU 0 k (0) 63 [ι a.sl, ι a.sz, ς a.A a.bl.length a.c] (ι a.sl) (by kernel_rfl) (by kernel_rfl) (by kernel_rfl)) ?_
 refine RunU.sil hU true 8 (bm 13 511) 38 (ι (a.sl % (4 : Int))) (0 ≤ a.sl ∧ 0 < (4 : Int)) (by kernel_rfl) (by omega) (by kernel_rfl) (by kernel_rfl) (fun _ _ _ h => h) ?_
 refine RunU.sil hU true 9 (bm 13 1023) 39 (ι (64 * (a.sl % (4 : Int)))) (-9223372036854775808 ≤ (64 * (a.sl % (4 : Int))) ∧ (64 * (a.sl % (4 : Int))) < 9223372036854775808) (by kernel_rfl) (by omega) (by kernel_rfl) (by kernel_rfl) (fun _ _ _ h => h) ?_
 refine RunU.sil hU false 10 (bm 13 2047) 40 (ς (subBase e ((64 * (a.sl % (4 : Int))).toNat) d 1) (f.length - ((64 * (a.sl % (4 : Int))).toNat)) (d - ((64 * (a.sl % (4 : Int))).toNat))) (0 ≤ (64 * (a.sl % (4 : Int))) ∧ (64 * (a.sl % (4 : Int))) ≤ (f.length : Int)) (by kernel_rfl) (by omega) (by kernel_rfl) (by kernel_rfl) (fun _ _ _ h => h) ?_
 refine RunU.ev [2, 3, 5, 6, 24, 29, 30, 31, 32, 33, 34, 35, 36, 37, 38, 39, 40] [(2, ς0), (3, ς (ad l) 16 16), (5, .string a.nm), (6, pt k), (24, pt j), (29, .agg #[ι a.sl, ι a.sz, ς a.A a.bl.length a.c]), (30, ς (ad l) 16 16), (31, pt k), (32, ι a.sl), (33, ι (a.sl / (4 : Int))), (34, .pointer (elemAt (ad l) (a.sl / (4 : Int)) 1)), (35, ς e f.length d), (36, pt k), (37, ι a.sl), (38, ι (a.sl % (4 : Int))), (39, ι (64 * (a.sl % (4 : Int)))), (40, ς (subBase e ((64 * (a.sl % (4 : Int))).toNat) d 1) (f.length - ((64 * (a.sl % (4 : Int))).toNat)) (d - ((64 * (a.sl % (4 : Int))).toNat)))] ?_
 refine RunU.enveq [(2, ς0), (3, ς (ad l) 16 16), (5, .string a.nm), (6, pt k), (24, pt j), (29, .agg #[ι a.sl, ι a.sz, ς a.A a.bl.length a.c]), (30, ς (ad l) 16 16), (31, pt k), (32, ι a.sl), (33, ι (a.sl / (4 : Int))), (34, .pointer (elemAt (ad l) (a.sl / (4 : Int)) 1)), (35, ς e f.length d), (36, pt k), (37, ι a.sl), (38, ι (a.sl % (4 : Int))), (39, ι (64 * (a.sl % (4 : Int)))), (40, ς (offB e ((64 * (a.sl % (4 : Int))).toNat)) (f.length - ((64 * (a.sl % (4 : Int))).toNat)) (d - ((64 * (a.sl % (4 : Int))).toNat)))] (by rw [sub_off (by omega)]) ?_
 have T : 0 < 1 → Option.isSome (offB e ((64 * (a.sl % (4 : Int))).toNat)) = true := fun _ => off_some (L (by omega))
 refine RunU.sil hU false 11 (bm 13 4095) 41 (ς (offB e ((64 * (a.sl % (4 : Int))).toNat)) 64 (d - ((64 * (a.sl % (4 : Int))).toNat))) (0 ≤ (64 : Int) ∧ (64 : Int) ≤ ((d - ((64 * (a.sl % (4 : Int))).toNat) : Nat) : Int)) (by kernel_rfl) (by omega) (by kernel_rfl) (by kernel_rfl) (fun _ _ _ h => h) ?_
 refine RunU.sl hU 12 (bm 13 8191) 7 (ς (offB e ((64 * (a.sl % (4 : Int))).toNat)) 64 (d - ((64 * (a.sl % (4 : Int))).toNat))) ?_
 refine RunU.ev [2, 3, 5, 6, 7, 24] [(2, ς0), (3, ς (ad l) 16 16), (5, .string a.nm), (6, pt k), (7, ς (offB e ((64 * (a.sl % (4 : Int))).toNat)) 64 (d - ((64 * (a.sl % (4 : Int))).toNat))), (24, pt j)] ?_
 refine RunU.dn ?_
 refine kseq_n ?_
 refine RunC.sr ?_
 refine RunR.turn ([κ 5 .u8 e f.length d f, sepR .u8 5 (qs.eraseIdx (a.sl / (4 : Int)).toNat), blk k 63 [ι a.sl, ι a.sz, ς a.A a.bl.length a.c], ite j me fc (es ++ [a]), row 22 1 (ς (ad l) 16 16) 16 (rowsV qs), blk ei 87 (([pt fi] : List Value) ++ (([.map (some me)] : List Value) ++ (([ς Na nk m] : List Value) ++ (bls sl ++ ([ς Sa sn sc] : List Value))))), mpf me (Fs.map feM) fc, rws .i64 G]) (fun _ _ w hs => SAT.sepTake C (hs.pulls2 [3] ([sepR .u8 5 qs, blk k 63 [ι a.sl, ι a.sz, ς a.A a.bl.length a.c], ite j me fc (es ++ [a]), row 22 1 (ς (ad l) 16 16) 16 (rowsV qs), blk ei 87 (([pt fi] : List Value) ++ (([.map (some me)] : List Value) ++ (([ς Na nk m] : List Value) ++ (bls sl ++ ([ς Sa sn sc] : List Value))))), mpf me (Fs.map feM) fc, rws .i64 G]) (by kernel_rfl))) ?_
 refine RunR.sil hU [3] 5 5 [2, 3, 5, 6, 7, 24, 45, 46] [(2, ς0), (3, ς (ad l) 16 16), (5, .string a.nm), (6, pt k), (7, ς (offB e ((64 * (a.sl % (4 : Int))).toNat)) 64 (d - ((64 * (a.sl % (4 : Int))).toNat))), (24, pt j), (45, .int .u8 ((a.nm : ByteArray).size : Int)), (46, .pointer (elemAt (offB e ((64 * (a.sl % (4 : Int))).toNat)) 0 1))] ((True) ∧ (True) ∧ (True) ∧ (0 ≤ ((a.nm : ByteArray).size : Int) ∧ ((a.nm : ByteArray).size : Int) < 256) ∧ ((0 ≤ (0 : Int) ∧ (0 : Int) < (64 : Int)) ∧ Option.isSome (offB e ((64 * (a.sl % (4 : Int))).toNat)) = true) ∧ True) rfl (by kernel_rfl) ⟨trivial, trivial, trivial, (by omega), ⟨by omega, T (by omega)⟩, trivial⟩ ?_
 refine RunR.ev [2, 3, 5, 6, 7, 24, 45, 46] [(2, ς0), (3, ς (ad l) 16 16), (5, .string a.nm), (6, pt k), (7, ς (offB e ((64 * (a.sl % (4 : Int))).toNat)) 64 (d - ((64 * (a.sl % (4 : Int))).toNat))), (24, pt j), (45, .int .u8 ((a.nm : ByteArray).size : Int)), (46, .pointer (elemAt (offB e ((64 * (a.sl % (4 : Int))).toNat)) 0 1))] ?_
 refine RunR.enveq [(2, ς0), (3, ς (ad l) 16 16), (5, .string a.nm), (6, pt k), (7, ς (offB e ((64 * (a.sl % (4 : Int))).toNat)) 64 (d - ((64 * (a.sl % (4 : Int))).toNat))), (24, pt j), (45, .int .u8 ((a.nm : ByteArray).size : Int)), (46, .pointer (elemAt e ((((64 * (a.sl % (4 : Int))).toNat : Nat) : Int) + 0) 1))] (by rw [off_elem (by omega)]) ?_
 refine RunR.st none (.store 5 (.tmp 46) (.tmp 45)) (Step.store_num hU 0 5 f.length d e .u8 f ((((64 * (a.sl % (4 : Int))).toNat : Nat) : Int) + 0) ((a.nm : ByteArray).size : Int) (by kernel_rfl) (by kernel_rfl) (by kernel_rfl) rfl (by omega) ?_)
 have D0 : (f.set ((((64 * (a.sl % (4 : Int))).toNat : Nat) : Int) + 0).toNat ((a.nm : ByteArray).size : Int)).length = f.length := List.length_set
 refine RunR.nx ?_
 refine RunR.sil hU [] 2 2 [2, 3, 5, 6, 7, 24, 48] [(2, ς0), (3, ς (ad l) 16 16), (5, .string a.nm), (6, pt k), (7, ς (offB e ((64 * (a.sl % (4 : Int))).toNat)) 64 (d - ((64 * (a.sl % (4 : Int))).toNat))), (24, pt j), (48, ς (subBase (offB e ((64 * (a.sl % (4 : Int))).toNat)) 1 (d - ((64 * (a.sl % (4 : Int))).toNat)) 1) (64 - 1) ((d - ((64 * (a.sl % (4 : Int))).toNat)) - 1))] ((True) ∧ (0 ≤ (1 : Int) ∧ (1 : Int) ≤ (64 : Int)) ∧ True) rfl (by kernel_rfl) ⟨trivial, (by omega), trivial⟩ ?_
 refine RunR.ev [2, 3, 5, 6, 7, 24, 48] [(2, ς0), (3, ς (ad l) 16 16), (5, .string a.nm), (6, pt k), (7, ς (offB e ((64 * (a.sl % (4 : Int))).toNat)) 64 (d - ((64 * (a.sl % (4 : Int))).toNat))), (24, pt j), (48, ς (subBase (offB e ((64 * (a.sl % (4 : Int))).toNat)) 1 (d - ((64 * (a.sl % (4 : Int))).toNat)) 1) (64 - 1) ((d - ((64 * (a.sl % (4 : Int))).toNat)) - 1))] ?_
 refine RunR.enveq [(2, ς0), (3, ς (ad l) 16 16), (5, .string a.nm), (6, pt k), (7, ς (offB e ((64 * (a.sl % (4 : Int))).toNat)) 64 (d - ((64 * (a.sl % (4 : Int))).toNat))), (24, pt j), (48, ς (offB e ((64 * (a.sl % (4 : Int))).toNat + 1)) (64 - 1) ((d - ((64 * (a.sl % (4 : Int))).toNat)) - 1))] (by rw [off_sub (by omega)]) ?_
 have B0 : 0 < 1 → Option.isSome (offB e ((64 * (a.sl % (4 : Int))).toNat + 1)) = true := fun _ => off_some (L (by omega))
 refine RunR.sl hU [] 1 3 [2, 3, 6, 7, 24, 48, 49] [(2, ς0), (3, ς (ad l) 16 16), (6, pt k), (7, ς (offB e ((64 * (a.sl % (4 : Int))).toNat)) 64 (d - ((64 * (a.sl % (4 : Int))).toNat))), (24, pt j), (48, ς (offB e ((64 * (a.sl % (4 : Int))).toNat + 1)) (64 - 1) ((d - ((64 * (a.sl % (4 : Int))).toNat)) - 1)), (49, .string a.nm)] 1 ?_
 refine RunR.st (some 50) (.call { callee := .builtin .copy, args := #[.tmp 48, .tmp 49], argTypes := #[22, 9] }) (Step.copy_row_str hU 5 0 ((64 * (a.sl % (4 : Int))).toNat + 1) f.length d (64 - 1) ((d - ((64 * (a.sl % (4 : Int))).toNat)) - 1) e (offB e ((64 * (a.sl % (4 : Int))).toNat + 1)) (f.set ((((64 * (a.sl % (4 : Int))).toNat : Nat) : Int) + 0).toNat ((a.nm : ByteArray).size : Int)) a.nm (by kernel_rfl) (by kernel_rfl) (by kernel_rfl) (fun _ b h => off_at h) (by kernel_rfl) (by kernel_rfl) (by omega) (by omega) (by kernel_rfl) ?_)
 have c0 : (putl (f.set ((((64 * (a.sl % (4 : Int))).toNat : Nat) : Int) + 0).toNat ((a.nm : ByteArray).size : Int)) ((64 * (a.sl % (4 : Int))).toNat + 1) (sb a.nm)).length = (f.set ((((64 * (a.sl % (4 : Int))).toNat : Nat) : Int) + 0).toNat ((a.nm : ByteArray).size : Int)).length := putl_len (by rw [Go.Proofs.Ytlibhidhfbecbaa.SL.sb_len]; omega)
 refine RunR.nn ?_
 refine RunC.seq ?_
 refine RunC.regionU hU 7 [blk k 63 [ι a.sl, ι a.sz, ς a.A a.bl.length a.c]] [2] [5, 6] (bm 7 0) (by kernel_rfl) (by kernel_rfl) (by kernel_rfl) ?_
 refine RunU.sl hU 0 (bm 7 1) 51 (ς (offB e ((64 * (a.sl % (4 : Int))).toNat)) 64 (d - ((64 * (a.sl % (4 : Int))).toNat))) ?_
 refine RunU.sil hU false 1 (bm 7 3) 52 (ς (subBase (offB e ((64 * (a.sl % (4 : Int))).toNat)) 44 (d - ((64 * (a.sl % (4 : Int))).toNat)) 1) (64 - 44) ((d - ((64 * (a.sl % (4 : Int))).toNat)) - 44)) (0 ≤ (44 : Int) ∧ (44 : Int) ≤ (64 : Int)) (by kernel_rfl) (by omega) (by kernel_rfl) (by kernel_rfl) (fun _ _ _ h => h) ?_
 refine RunU.ev [2, 3, 6, 7, 24, 48, 49, 50, 51, 52] [(2, ς0), (3, ς (ad l) 16 16), (6, pt k), (7, ς (offB e ((64 * (a.sl % (4 : Int))).toNat)) 64 (d - ((64 * (a.sl % (4 : Int))).toNat))), (24, pt j), (48, ς (offB e ((64 * (a.sl % (4 : Int))).toNat + 1)) (64 - 1) ((d - ((64 * (a.sl % (4 : Int))).toNat)) - 1)), (49, .string a.nm), (50, ι (a.nm.size : Int)), (51, ς (offB e ((64 * (a.sl % (4 : Int))).toNat)) 64 (d - ((64 * (a.sl % (4 : Int))).toNat))), (52, ς (subBase (offB e ((64 * (a.sl % (4 : Int))).toNat)) 44 (d - ((64 * (a.sl % (4 : Int))).toNat)) 1) (64 - 44) ((d - ((64 * (a.sl % (4 : Int))).toNat)) - 44))] ?_
 refine RunU.enveq [(2, ς0), (3, ς (ad l) 16 16), (6, pt k), (7, ς (offB e ((64 * (a.sl % (4 : Int))).toNat)) 64 (d - ((64 * (a.sl % (4 : Int))).toNat))), (24, pt j), (48, ς (offB e ((64 * (a.sl % (4 : Int))).toNat + 1)) (64 - 1) ((d - ((64 * (a.sl % (4 : Int))).toNat)) - 1)), (49, .string a.nm), (50, ι (a.nm.size : Int)), (51, ς (offB e ((64 * (a.sl % (4 : Int))).toNat)) 64 (d - ((64 * (a.sl % (4 : Int))).toNat))), (52, ς (offB e ((64 * (a.sl % (4 : Int))).toNat + 44)) (64 - 44) ((d - ((64 * (a.sl % (4 : Int))).toNat)) - 44))] (by rw [off_sub (by omega)]) ?_
 have i0 : 0 < 1 → Option.isSome (offB e ((64 * (a.sl % (4 : Int))).toNat + 44)) = true := fun _ => off_some (L (by omega))
 refine RunU.sl hU 2 (bm 7 7) 53 (.pointer (some ⟨k, 1, none⟩)) ?_
 refine RunU.rd 3 (bm 7 15) 54 (.load 3 (.tmp 53)) (ι a.sz) [2] (Reads.load_blk hU 0 k (1) 63 [ι a.sl, ι a.sz, ς a.A a.bl.length a.c] (ι a.sz) (by kernel_rfl) (by kernel_rfl) (by kernel_rfl)) ?_
 refine RunU.sil hU true 4 (bm 7 31) 55 (.int .u32 a.sz) (0 ≤ a.sz ∧ a.sz < 4294967296) (by kernel_rfl) (by omega) (by kernel_rfl) (by kernel_rfl) (fun _ _ _ h => h) ?_
 refine RunU.on (some 56) (.call { callee := .value (.func 76), args := #[.tmp 55], argTypes := #[94] }) 5 (bm 7 63) [] (Step.cn 76 [.int .u32 a.sz] [] [κ 5 .u8 e f.length d (putl (f.set ((((64 * (a.sl % (4 : Int))).toNat : Nat) : Int) + 0).toNat ((a.nm : ByteArray).size : Int)) ((64 * (a.sl % (4 : Int))).toNat + 1) (sb a.nm)), sepR .u8 5 (qs.eraseIdx (a.sl / (4 : Int)).toNat), blk k 63 [ι a.sl, ι a.sz, ς a.A a.bl.length a.c], ite j me fc (es ++ [a]), row 22 1 (ς (ad l) 16 16) 16 (rowsV qs), blk ei 87 (([pt fi] : List Value) ++ (([.map (some me)] : List Value) ++ (([ς Na nk m] : List Value) ++ (bls sl ++ ([ς Sa sn sc] : List Value))))), mpf me (Fs.map feM) fc, rws .i64 G] (w_Put32_spec a.sz (by (refine ⟨?_, ?_⟩ <;> omega))) [] ?_)
 rintro _ _ ⟨H, F, g, rfl, rfl, J, k0, r0, z0, m0⟩
 refine orR ?_
 refine RunU.on (some 57) (.call { callee := .builtin .copy, args := #[.tmp 52, .tmp 56], argTypes := #[22, 22] }) 6 (bm 7 127) [] (Step.copy_row hU 5 1 0 ((64 * (a.sl % (4 : Int))).toNat + 44) f.length d (64 - 44) ((d - ((64 * (a.sl % (4 : Int))).toNat)) - 44) g.length F e (offB e ((64 * (a.sl % (4 : Int))).toNat + 44)) H (putl (f.set ((((64 * (a.sl % (4 : Int))).toNat : Nat) : Int) + 0).toNat ((a.nm : ByteArray).size : Int)) ((64 * (a.sl % (4 : Int))).toNat + 1) (sb a.nm)) (κ 5 .u8 H g.length F g) .u8 g (by kernel_rfl) (by kernel_rfl) (by kernel_rfl) (fun _ b h => off_at h) (by kernel_rfl) (by kernel_rfl) (by kernel_rfl) (tells_row _ _ _ _ _ _) (by rfl) (by omega) (by kernel_rfl) ?_)
 have y0 : (putl (putl (f.set ((((64 * (a.sl % (4 : Int))).toNat : Nat) : Int) + 0).toNat ((a.nm : ByteArray).size : Int)) ((64 * (a.sl % (4 : Int))).toNat + 1) (sb a.nm)) ((64 * (a.sl % (4 : Int))).toNat + 44) (g.take (64 - 44))).length = (putl (f.set ((((64 * (a.sl % (4 : Int))).toNat : Nat) : Int) + 0).toNat ((a.nm : ByteArray).size : Int)) ((64 * (a.sl % (4 : Int))).toNat + 1) (sb a.nm)).length := putl_len (by simp only [List.length_take]; omega)
 refine orR ?_
 refine RunU.ev [2, 3, 6, 7, 24] [(2, ς0), (3, ς (ad l) 16 16), (6, pt k), (7, ς (offB e ((64 * (a.sl % (4 : Int))).toNat)) 64 (d - ((64 * (a.sl % (4 : Int))).toNat))), (24, pt j)] ?_
 refine RunU.dn ?_
 refine kseq_n ?_
 refine RunC.sr ?_
 refine RunR.sl hU [] 1 1 [2, 3, 6, 7, 8, 24] [(2, ς0), (3, ς (ad l) 16 16), (6, pt k), (7, ς (offB e ((64 * (a.sl % (4 : Int))).toNat)) 64 (d - ((64 * (a.sl % (4 : Int))).toNat))), (8, ι 65535), (24, pt j)] 1 ?_
 refine RunR.nn ?_
 refine RunC.seq ?_
 refine RunC.sr ?_
 refine RunR.sl hU [] 1 1 [2, 3, 6, 7, 8, 24, 58] [(2, ς0), (3, ς (ad l) 16 16), (6, pt k), (7, ς (offB e ((64 * (a.sl % (4 : Int))).toNat)) 64 (d - ((64 * (a.sl % (4 : Int))).toNat))), (8, ι 65535), (24, pt j), (58, .pointer (some ⟨k, 2, none⟩))] 1 ?_
 refine RunR.st (some 59) (.load 49 (.tmp 58)) (Step.load_blk hU 3 k (2) 63 [ι a.sl, ι a.sz, ς a.A a.bl.length a.c] (ς a.A a.bl.length a.c) (by kernel_rfl) (by kernel_rfl) (by kernel_rfl) (by kernel_rfl) ?_)
 refine RunR.sl hU [] 2 4 [2, 3, 6, 7, 8, 24, 61] [(2, ς0), (3, ς (ad l) 16 16), (6, pt k), (7, ς (offB e ((64 * (a.sl % (4 : Int))).toNat)) 64 (d - ((64 * (a.sl % (4 : Int))).toNat))), (8, ι 65535), (24, pt j), (61, η (decide ((a.bl.length : Int) > 0)))] 2 ?_
 refine RunR.nn ?_
 refine RunC.condp ((a.bl.length : Int) > 0) (by kernel_rfl) (fun b0 => ?_) (fun b0 => ?_)
 ·refine RunC.region ?_
  refine RunR.sl hU [] 1 1 [2, 3, 7, 8, 24, 62] [(2, ς0), (3, ς (ad l) 16 16), (7, ς (offB e ((64 * (a.sl % (4 : Int))).toNat)) 64 (d - ((64 * (a.sl % (4 : Int))).toNat))), (8, ι 65535), (24, pt j), (62, .pointer (some ⟨k, 2, none⟩))] 1 ?_
  refine RunR.st (some 63) (.load 49 (.tmp 62)) (Step.load_blk hU 3 k (2) 63 [ι a.sl, ι a.sz, ς a.A a.bl.length a.c] (ς a.A a.bl.length a.c) (by kernel_rfl) (by kernel_rfl) (by kernel_rfl) (by kernel_rfl) ?_)
  refine RunR.sil hU [] 1 3 [2, 3, 7, 8, 24, 64] [(2, ς0), (3, ς (ad l) 16 16), (7, ς (offB e ((64 * (a.sl % (4 : Int))).toNat)) 64 (d - ((64 * (a.sl % (4 : Int))).toNat))), (8, ι 65535), (24, pt j), (64, .pointer (elemAt a.A 0 1))] (((0 ≤ (0 : Int) ∧ (0 : Int) < (a.bl.length : Int)) ∧ Option.isSome a.A = true) ∧ True) rfl (by kernel_rfl) ⟨⟨by omega, ((by assumption : FeOK Fs) a E).some (by omega)⟩, trivial⟩ ?_
  refine RunR.st (some 65) (.load 3 (.tmp 64)) (Step.load_num hU 8 (rws .i64 G) a.A 0 .i64 a.bl rfl (by kernel_rfl) (by kernel_rfl) (tells_rws (((by assumption : FeIn Fs G) a E))) (by kernel_rfl) (by omega) ?_)
  have o0 := el_bd hfd_.2.2 (by omega : ((0 : Int).toNat) < _)
  have d0 : -9223372036854775808 ≤ a.bl.getD ((0 : Int).toNat) 0 ∧ a.bl.getD ((0 : Int).toNat) 0 < 9223372036854775808 := ((by assumption : FeOK Fs) a E).blk.at_ _
  refine RunR.sil hU [4] 2 6 [2, 3, 7, 8, 24] [(2, ς0), (3, ς (ad l) 16 16), (7, ς (offB e ((64 * (a.sl % (4 : Int))).toNat)) 64 (d - ((64 * (a.sl % (4 : Int))).toNat))), (8, ι ((a.bl.getD (0 : Int).toNat 0) + 1)), (24, pt j)] ((-9223372036854775808 ≤ ((a.bl.getD (0 : Int).toNat 0) + 1) ∧ ((a.bl.getD (0 : Int).toNat 0) + 1) < 9223372036854775808) ∧ (True) ∧ True) rfl (by kernel_rfl) ⟨(by omega), trivial, trivial⟩ ?_
  refine RunR.nn ?_
  refine RunC.regionU hU 7 [] [] [] (bm 7 0) (by kernel_rfl) (by kernel_rfl) (by kernel_rfl) ?_
  refine RunU.sl hU 0 (bm 7 1) 67 (ς (offB e ((64 * (a.sl % (4 : Int))).toNat)) 64 (d - ((64 * (a.sl % (4 : Int))).toNat))) ?_
  refine RunU.sil hU false 1 (bm 7 3) 68 (ς (subBase (offB e ((64 * (a.sl % (4 : Int))).toNat)) 48 (d - ((64 * (a.sl % (4 : Int))).toNat)) 1) (64 - 48) ((d - ((64 * (a.sl % (4 : Int))).toNat)) - 48)) (0 ≤ (48 : Int) ∧ (48 : Int) ≤ (64 : Int)) (by kernel_rfl) (by omega) (by kernel_rfl) (by kernel_rfl) (fun _ _ _ h => h) ?_
  refine RunU.ev [2, 3, 7, 8, 24, 67, 68] [(2, ς0), (3, ς (ad l) 16 16), (7, ς (offB e ((64 * (a.sl % (4 : Int))).toNat)) 64 (d - ((64 * (a.sl % (4 : Int))).toNat))), (8, ι ((a.bl.getD (0 : Int).toNat 0) + 1)), (24, pt j), (67, ς (offB e ((64 * (a.sl % (4 : Int))).toNat)) 64 (d - ((64 * (a.sl % (4 : Int))).toNat))), (68, ς (subBase (offB e ((64 * (a.sl % (4 : Int))).toNat)) 48 (d - ((64 * (a.sl % (4 : Int))).toNat)) 1) (64 - 48) ((d - ((64 * (a.sl % (4 : Int))).toNat)) - 48))] ?_
  refine RunU.enveq [(2, ς0), (3, ς (ad l) 16 16), (7, ς (offB e ((64 * (a.sl % (4 : Int))).toNat)) 64 (d - ((64 * (a.sl % (4 : Int))).toNat))), (8, ι ((a.bl.getD (0 : Int).toNat 0) + 1)), (24, pt j), (67, ς (offB e ((64 * (a.sl % (4 : Int))).toNat)) 64 (d - ((64 * (a.sl % (4 : Int))).toNat))), (68, ς (offB e ((64 * (a.sl % (4 : Int))).toNat + 48)) (64 - 48) ((d - ((64 * (a.sl % (4 : Int))).toNat)) - 48))] (by rw [off_sub (by omega)]) ?_
  have p0 : 0 < 1 → Option.isSome (offB e ((64 * (a.sl % (4 : Int))).toNat + 48)) = true := fun _ => off_some (L (by omega))
  refine RunU.sl hU 2 (bm 7 7) 69 (ι ((a.bl.getD (0 : Int).toNat 0) + 1)) ?_
  refine RunU.sil hU true 3 (bm 7 15) 70 (.int .u32 ((a.bl.getD (0 : Int).toNat 0) + 1)) (0 ≤ ((a.bl.getD (0 : Int).toNat 0) + 1) ∧ ((a.bl.getD (0 : Int).toNat 0) + 1) < 4294967296) (by kernel_rfl) (by omega) (by kernel_rfl) (by kernel_rfl) (fun _ _ _ h => h) ?_
  refine RunU.on (some 71) (.call { callee := .value (.func 76), args := #[.tmp 70], argTypes := #[94] }) 4 (bm 7 31) [] (Step.cn 76 [.int .u32 ((a.bl.getD (0 : Int).toNat 0) + 1)] [] [κ 5 .u8 e f.length d (putl (putl (f.set ((((64 * (a.sl % (4 : Int))).toNat : Nat) : Int) + 0).toNat ((a.nm : ByteArray).size : Int)) ((64 * (a.sl % (4 : Int))).toNat + 1) (sb a.nm)) ((64 * (a.sl % (4 : Int))).toNat + 44) (g.take (64 - 44))), κ 5 .u8 H g.length F g, sepR .u8 5 (qs.eraseIdx (a.sl / (4 : Int)).toNat), blk k 63 [ι a.sl, ι a.sz, ς a.A a.bl.length a.c], ite j me fc (es ++ [a]), row 22 1 (ς (ad l) 16 16) 16 (rowsV qs), blk ei 87 (([pt fi] : List Value) ++ (([.map (some me)] : List Value) ++ (([ς Na nk m] : List Value) ++ (bls sl ++ ([ς Sa sn sc] : List Value))))), mpf me (Fs.map feM) fc, rws .i64 G] (w_Put32_spec ((a.bl.getD (0 : Int).toNat 0) + 1) (by (refine ⟨?_, ?_⟩ <;> omega))) [] ?_)
  rintro _ _ ⟨x, u, t, rfl, rfl, N, f0, Z, e0, h0⟩
  refine orL ?_
  refine RunU.sil hU false 5 (bm 7 63) 72 (ς x 2 u) (0 ≤ (2 : Int) ∧ (2 : Int) ≤ (u : Int)) (by kernel_rfl) (by omega) (by kernel_rfl) (by kernel_rfl) (fun _ _ _ h => h) ?_
  obtain ⟨q, I⟩ : ∃ z : List Int, z = t.take 2 := ⟨_, rfl⟩
  have V : q.length = 2 := by rw [I, List.length_take]; omega
  have P : Tells (κ 5 .u8 x t.length u t) (x) (nums .u8 q) := by rw [I]; exact tells_take_nums (tells_row _ _ _ _ _ _) _
  refine RunU.ev [2, 3, 7, 8, 24, 67, 68, 69, 70, 71, 72] [(2, ς0), (3, ς (ad l) 16 16), (7, ς (offB e ((64 * (a.sl % (4 : Int))).toNat)) 64 (d - ((64 * (a.sl % (4 : Int))).toNat))), (8, ι ((a.bl.getD (0 : Int).toNat 0) + 1)), (24, pt j), (67, ς (offB e ((64 * (a.sl % (4 : Int))).toNat)) 64 (d - ((64 * (a.sl % (4 : Int))).toNat))), (68, ς (offB e ((64 * (a.sl % (4 : Int))).toNat + 48)) (64 - 48) ((d - ((64 * (a.sl % (4 : Int))).toNat)) - 48)), (69, ι ((a.bl.getD (0 : Int).toNat 0) + 1)), (70, .int .u32 ((a.bl.getD (0 : Int).toNat 0) + 1)), (71, ς x t.length u), (72, ς x 2 u)] ?_
  refine RunU.enveq [(2, ς0), (3, ς (ad l) 16 16), (7, ς (offB e ((64 * (a.sl % (4 : Int))).toNat)) 64 (d - ((64 * (a.sl % (4 : Int))).toNat))), (8, ι ((a.bl.getD (0 : Int).toNat 0) + 1)), (24, pt j), (67, ς (offB e ((64 * (a.sl % (4 : Int))).toNat)) 64 (d - ((64 * (a.sl % (4 : Int))).toNat))), (68, ς (offB e ((64 * (a.sl % (4 : Int))).toNat + 48)) (64 - 48) ((d - ((64 * (a.sl % (4 : Int))).toNat)) - 48)), (69, ι ((a.bl.getD (0 : Int).toNat 0) + 1)), (70, .int .u32 ((a.bl.getD (0 : Int).toNat 0) + 1)), (71, ς x t.length u), (72, ς x q.length u)] (by rw [V]) ?_
  have t0 : In .u8 q := by rw [I]; exact Z.take _
  refine RunU.on (some 73) (.call { callee := .builtin .copy, args := #[.tmp 68, .tmp 72], argTypes := #[22, 22] }) 6 (bm 7 127) [] (Step.copy_row hU 5 1 0 ((64 * (a.sl % (4 : Int))).toNat + 48) f.length d (64 - 48) ((d - ((64 * (a.sl % (4 : Int))).toNat)) - 48) q.length u e (offB e ((64 * (a.sl % (4 : Int))).toNat + 48)) x (putl (putl (f.set ((((64 * (a.sl % (4 : Int))).toNat : Nat) : Int) + 0).toNat ((a.nm : ByteArray).size : Int)) ((64 * (a.sl % (4 : Int))).toNat + 1) (sb a.nm)) ((64 * (a.sl % (4 : Int))).toNat + 44) (g.take (64 - 44))) (κ 5 .u8 x t.length u t) .u8 q (by kernel_rfl) (by kernel_rfl) (by kernel_rfl) (fun _ b h => off_at h) (by kernel_rfl) (by kernel_rfl) (by kernel_rfl) (P) (by rfl) (by omega) (by kernel_rfl) ?_)
  have u0 : (putl (putl (putl (f.set ((((64 * (a.sl % (4 : Int))).toNat : Nat) : Int) + 0).toNat ((a.nm : ByteArray).size : Int)) ((64 * (a.sl % (4 : Int))).toNat + 1) (sb a.nm)) ((64 * (a.sl % (4 : Int))).toNat + 44) (g.take (64 - 44))) ((64 * (a.sl % (4 : Int))).toNat + 48) (q.take (64 - 48))).length = (putl (putl (f.set ((((64 * (a.sl % (4 : Int))).toNat : Nat) : Int) + 0).toNat ((a.nm : ByteArray).size : Int)) ((64 * (a.sl % (4 : Int))).toNat + 1) (sb a.nm)) ((64 * (a.sl % (4 : Int))).toNat + 44) (g.take (64 - 44))).length := putl_len (by simp only [List.length_take]; omega)
  refine orL ?_
  refine RunU.ev [2, 3, 24] [(2, ς0), (3, ς (ad l) 16 16), (24, pt j)] ?_
  refine RunU.dn ?_
  refine kblock_n ?_
  refine kloop_nt ([sepR .u8 5 (qs.set (a.sl / (4 : Int)).toNat (e, d, putl (putl (putl (f.set ((((64 * (a.sl % (4 : Int))).toNat : Nat) : Int) + 0).toNat ((a.nm : ByteArray).size : Int)) ((64 * (a.sl % (4 : Int))).toNat + 1) (sb a.nm)) ((64 * (a.sl % (4 : Int))).toNat + 44) (g.take (64 - 44))) ((64 * (a.sl % (4 : Int))).toNat + 48) (q.take (64 - 48)))), κ 5 .u8 x t.length u t, κ 5 .u8 H g.length F g, blk k 63 [ι a.sl, ι a.sz, ς a.A a.bl.length a.c], ite j me fc (es ++ [a]), row 22 1 (ς (ad l) 16 16) 16 (rowsV (qs.set (a.sl / (4 : Int)).toNat (e, d, putl (putl (putl (f.set ((((64 * (a.sl % (4 : Int))).toNat : Nat) : Int) + 0).toNat ((a.nm : ByteArray).size : Int)) ((64 * (a.sl % (4 : Int))).toNat + 1) (sb a.nm)) ((64 * (a.sl % (4 : Int))).toNat + 44) (g.take (64 - 44))) ((64 * (a.sl % (4 : Int))).toNat + 48) (q.take (64 - 48))))), blk ei 87 (([pt fi] : List Value) ++ (([.map (some me)] : List Value) ++ (([ς Na nk m] : List Value) ++ (bls sl ++ ([ς Sa sn sc] : List Value))))), mpf me (Fs.map feM) fc, rws .i64 G]) (fun w0 W w hs => by rw [rowsV_same C (show (putl (putl (putl (f.set ((((64 * (a.sl % (4 : Int))).toNat : Nat) : Int) + 0).toNat ((a.nm : ByteArray).size : Int)) ((64 * (a.sl % (4 : Int))).toNat + 1) (sb a.nm)) ((64 * (a.sl % (4 : Int))).toNat + 44) (g.take (64 - 44))) ((64 * (a.sl % (4 : Int))).toNat + 48) (q.take (64 - 48))).length = f.length by omega)]; exact SAT.sepGive (by omega) (by omega) (hs.pulls2 [0, 2] ([κ 5 .u8 e f.length d (putl (putl (putl (f.set ((((64 * (a.sl % (4 : Int))).toNat : Nat) : Int) + 0).toNat ((a.nm : ByteArray).size : Int)) ((64 * (a.sl % (4 : Int))).toNat + 1) (sb a.nm)) ((64 * (a.sl % (4 : Int))).toNat + 44) (g.take (64 - 44))) ((64 * (a.sl % (4 : Int))).toNat + 48) (q.take (64 - 48))), sepR .u8 5 (qs.eraseIdx (a.sl / (4 : Int)).toNat), κ 5 .u8 x t.length u t, κ 5 .u8 H g.length F g, blk k 63 [ι a.sl, ι a.sz, ς a.A a.bl.length a.c], ite j me fc (es ++ [a]), row 22 1 (ς (ad l) 16 16) 16 (rowsV qs), blk ei 87 (([pt fi] : List Value) ++ (([.map (some me)] : List Value) ++ (([ς Na nk m] : List Value) ++ (bls sl ++ ([ς Sa sn sc] : List Value))))), mpf me (Fs.map feM) fc, rws .i64 G]) (by kernel_rfl))) _ [2, 3, 24] [4, 4, 0, 3, 3, 3] [(2, ς0), (3, ς (ad l) 16 16), (24, pt j)] [ite j me fc (es ++ [a]), row 22 1 (ς (ad l) 16 16) 16 (rowsV (qs.set (a.sl / (4 : Int)).toNat (e, d, putl (putl (putl (f.set ((((64 * (a.sl % (4 : Int))).toNat : Nat) : Int) + 0).toNat ((a.nm : ByteArray).size : Int)) ((64 * (a.sl % (4 : Int))).toNat + 1) (sb a.nm)) ((64 * (a.sl % (4 : Int))).toNat + 44) (g.take (64 - 44))) ((64 * (a.sl % (4 : Int))).toNat + 48) (q.take (64 - 48))))), sepR .u8 5 (qs.set (a.sl / (4 : Int)).toNat (e, d, putl (putl (putl (f.set ((((64 * (a.sl % (4 : Int))).toNat : Nat) : Int) + 0).toNat ((a.nm : ByteArray).size : Int)) ((64 * (a.sl % (4 : Int))).toNat + 1) (sb a.nm)) ((64 * (a.sl % (4 : Int))).toNat + 44) (g.take (64 - 44))) ((64 * (a.sl % (4 : Int))).toNat + 48) (q.take (64 - 48)))), blk ei 87 (([pt fi] : List Value) ++ (([.map (some me)] : List Value) ++ (([ς Na nk m] : List Value) ++ (bls sl ++ ([ς Sa sn sc] : List Value))))), mpf me (Fs.map feM) fc, rws .i64 G] (by kernel_rfl) (by kernel_rfl) ?_ ⟨(es ++ [a]), (qs.set (a.sl / (4 : Int)).toNat (e, d, putl (putl (putl (f.set ((((64 * (a.sl % (4 : Int))).toNat : Nat) : Int) + 0).toNat ((a.nm : ByteArray).size : Int)) ((64 * (a.sl % (4 : Int))).toNat + 1) (sb a.nm)) ((64 * (a.sl % (4 : Int))).toNat + 44) (g.take (64 - 44))) ((64 * (a.sl % (4 : Int))).toNat + 48) (q.take (64 - 48)))), (by exact hes.snoc E R), (by exact dir_step hq C rfl (dir_row J N I (by exact first_pos ‹_› rfl))), (by rw [List.length_set]; exact hql), (by rw [(dir_row J N I (by exact first_pos ‹_› rfl))]; exact hK.set (putE_in (by omega) (ro_in hK C)) (by rw [putE_len (by omega) ‹_› (by omega)]; omega) (by rw [putE_len (by omega) ‹_› (by omega)]; omega)), (by rw [(dir_row J N I (by exact first_pos ‹_› rfl))]; exact hW.set (putE_len (by omega) ‹_› (by omega))), rfl, (by rfl), (by rfl)⟩
  show (Fs.length - (es ++ [a]).length : Nat) < (Fs.length - es.length : Nat)
  have h_ := hes.lt ‹_› ‹_›; rw [List.length_append, List.length_singleton]; omega
 refine RunC.ks ?_
 refine RunC.regionU hU 7 [] [] [] (bm 7 0) (by kernel_rfl) (by kernel_rfl) (by kernel_rfl) ?_
 refine RunU.sl hU 0 (bm 7 1) 67 (ς (offB e ((64 * (a.sl % (4 : Int))).toNat)) 64 (d - ((64 * (a.sl % (4 : Int))).toNat))) ?_
 refine RunU.sil hU false 1 (bm 7 3) 68 (ς (subBase (offB e ((64 * (a.sl % (4 : Int))).toNat)) 48 (d - ((64 * (a.sl % (4 : Int))).toNat)) 1) (64 - 48) ((d - ((64 * (a.sl % (4 : Int))).toNat)) - 48)) (0 ≤ (48 : Int) ∧ (48 : Int) ≤ (64 : Int)) (by kernel_rfl) (by omega) (by kernel_rfl) (by kernel_rfl) (fun _ _ _ h => h) ?_
 refine RunU.ev [2, 3, 6, 7, 8, 24, 61, 67, 68] [(2, ς0), (3, ς (ad l) 16 16), (6, pt k), (7, ς (offB e ((64 * (a.sl % (4 : Int))).toNat)) 64 (d - ((64 * (a.sl % (4 : Int))).toNat))), (8, ι 65535), (24, pt j), (61, η (decide ((a.bl.length : Int) > 0))), (67, ς (offB e ((64 * (a.sl % (4 : Int))).toNat)) 64 (d - ((64 * (a.sl % (4 : Int))).toNat))), (68, ς (subBase (offB e ((64 * (a.sl % (4 : Int))).toNat)) 48 (d - ((64 * (a.sl % (4 : Int))).toNat)) 1) (64 - 48) ((d - ((64 * (a.sl % (4 : Int))).toNat)) - 48))] ?_
 refine RunU.enveq [(2, ς0), (3, ς (ad l) 16 16), (6, pt k), (7, ς (offB e ((64 * (a.sl % (4 : Int))).toNat)) 64 (d - ((64 * (a.sl % (4 : Int))).toNat))), (8, ι 65535), (24, pt j), (61, η (decide ((a.bl.length : Int) > 0))), (67, ς (offB e ((64 * (a.sl % (4 : Int))).toNat)) 64 (d - ((64 * (a.sl % (4 : Int))).toNat))), (68, ς (offB e ((64 * (a.sl % (4 : Int))).toNat + 48)) (64 - 48) ((d - ((64 * (a.sl % (4 : Int))).toNat)) - 48))] (by rw [off_sub (by omega)]) ?_
 have A0 : 0 < 1 → Option.isSome (offB e ((64 * (a.sl % (4 : Int))).toNat + 48)) = true := fun _ => off_some (L (by omega))
 refine RunU.sl hU 2 (bm 7 7) 69 (ι 65535) ?_
 refine RunU.sil hU true 3 (bm 7 15) 70 (.int .u32 65535) (0 ≤ (65535 : Int) ∧ (65535 : Int) < 4294967296) (by kernel_rfl) (by omega) (by kernel_rfl) (by kernel_rfl) (fun _ _ _ h => h) ?_
 refine RunU.on (some 71) (.call { callee := .value (.func 76), args := #[.tmp 70], argTypes := #[94] }) 4 (bm 7 31) [] (Step.cn 76 [.int .u32 65535] [] [κ 5 .u8 e f.length d (putl (putl (f.set ((((64 * (a.sl % (4 : Int))).toNat : Nat) : Int) + 0).toNat ((a.nm : ByteArray).size : Int)) ((64 * (a.sl % (4 : Int))).toNat + 1) (sb a.nm)) ((64 * (a.sl % (4 : Int))).toNat + 44) (g.take (64 - 44))), κ 5 .u8 H g.length F g, sepR .u8 5 (qs.eraseIdx (a.sl / (4 : Int)).toNat), blk k 63 [ι a.sl, ι a.sz, ς a.A a.bl.length a.c], ite j me fc (es ++ [a]), row 22 1 (ς (ad l) 16 16) 16 (rowsV qs), blk ei 87 (([pt fi] : List Value) ++ (([.map (some me)] : List Value) ++ (([ς Na nk m] : List Value) ++ (bls sl ++ ([ς Sa sn sc] : List Value))))), mpf me (Fs.map feM) fc, rws .i64 G] (w_Put32_spec 65535 (by (refine ⟨?_, ?_⟩ <;> omega))) [] ?_)
 rintro _ _ ⟨v, B, y, rfl, rfl, M, j0, Y, s0, x0⟩
 refine orL ?_
 refine RunU.sil hU false 5 (bm 7 63) 72 (ς v 2 B) (0 ≤ (2 : Int) ∧ (2 : Int) ≤ (B : Int)) (by kernel_rfl) (by omega) (by kernel_rfl) (by kernel_rfl) (fun _ _ _ h => h) ?_
 obtain ⟨s, K⟩ : ∃ z : List Int, z = y.take 2 := ⟨_, rfl⟩
 have X : s.length = 2 := by rw [K, List.length_take]; omega
 have Q : Tells (κ 5 .u8 v y.length B y) (v) (nums .u8 s) := by rw [K]; exact tells_take_nums (tells_row _ _ _ _ _ _) _
 refine RunU.ev [2, 3, 6, 7, 8, 24, 61, 67, 68, 69, 70, 71, 72] [(2, ς0), (3, ς (ad l) 16 16), (6, pt k), (7, ς (offB e ((64 * (a.sl % (4 : Int))).toNat)) 64 (d - ((64 * (a.sl % (4 : Int))).toNat))), (8, ι 65535), (24, pt j), (61, η (decide ((a.bl.length : Int) > 0))), (67, ς (offB e ((64 * (a.sl % (4 : Int))).toNat)) 64 (d - ((64 * (a.sl % (4 : Int))).toNat))), (68, ς (offB e ((64 * (a.sl % (4 : Int))).toNat + 48)) (64 - 48) ((d - ((64 * (a.sl % (4 : Int))).toNat)) - 48)), (69, ι 65535), (70, .int .u32 65535), (71, ς v y.length B), (72, ς v 2 B)] ?_
 refine RunU.enveq [(2, ς0), (3, ς (ad l) 16 16), (6, pt k), (7, ς (offB e ((64 * (a.sl % (4 : Int))).toNat)) 64 (d - ((64 * (a.sl % (4 : Int))).toNat))), (8, ι 65535), (24, pt j), (61, η (decide ((a.bl.length : Int) > 0))), (67, ς (offB e ((64 * (a.sl % (4 : Int))).toNat)) 64 (d - ((64 * (a.sl % (4 : Int))).toNat))), (68, ς (offB e ((64 * (a.sl % (4 : Int))).toNat + 48)) (64 - 48) ((d - ((64 * (a.sl % (4 : Int))).toNat)) - 48)), (69, ι 65535), (70, .int .u32 65535), (71, ς v y.length B), (72, ς v s.length B)] (by rw [X]) ?_
 have g0 : In .u8 s := by rw [K]; exact Y.take _
 refine RunU.on (some 73) (.call { callee := .builtin .copy, args := #[.tmp 68, .tmp 72], argTypes := #[22, 22] }) 6 (bm 7 127) [] (Step.copy_row hU 5 1 0 ((64 * (a.sl % (4 : Int))).toNat + 48) f.length d (64 - 48) ((d - ((64 * (a.sl % (4 : Int))).toNat)) - 48) s.length B e (offB e ((64 * (a.sl % (4 : Int))).toNat + 48)) v (putl (putl (f.set ((((64 * (a.sl % (4 : Int))).toNat : Nat) : Int) + 0).toNat ((a.nm : ByteArray).size : Int)) ((64 * (a.sl % (4 : Int))).toNat + 1) (sb a.nm)) ((64 * (a.sl % (4 : Int))).toNat + 44) (g.take (64 - 44))) (κ 5 .u8 v y.length B y) .u8 s (by kernel_rfl) (by kernel_rfl) (by kernel_rfl) (fun _ b h => off_at h) (by kernel_rfl) (by kernel_rfl) (by kernel_rfl) (Q) (by rfl) (by omega) (by kernel_rfl) ?_)
 have l0 : (putl (putl (putl (f.set ((((64 * (a.sl % (4 : Int))).toNat : Nat) : Int) + 0).toNat ((a.nm : ByteArray).size : Int)) ((64 * (a.sl % (4 : Int))).toNat + 1) (sb a.nm)) ((64 * (a.sl % (4 : Int))).toNat + 44) (g.take (64 - 44))) ((64 * (a.sl % (4 : Int))).toNat + 48) (s.take (64 - 48))).length = (putl (putl (f.set ((((64 * (a.sl % (4 : Int))).toNat : Nat) : Int) + 0).toNat ((a.nm : ByteArray).size : Int)) ((64 * (a.sl % (4 : Int))).toNat + 1) (sb a.nm)) ((64 * (a.sl % (4 : Int))).toNat + 44) (g.take (64 - 44))).length := putl_len (by simp only [List.length_take]; omega)
 refine orL ?_
 refine RunU.ev [2, 3, 24] [(2, ς0), (3, ς (ad l) 16 16), (24, pt j)] ?_
 refine RunU.dn ?_
 refine kblock_n ?_
 refine kloop_nt ([sepR .u8 5 (qs.set (a.sl / (4 : Int)).toNat (e, d, putl (putl (putl (f.set ((((64 * (a.sl % (4 : Int))).toNat : Nat) : Int) + 0).toNat ((a.nm : ByteArray).size : Int)) ((64 * (a.sl % (4 : Int))).toNat + 1) (sb a.nm)) ((64 * (a.sl % (4 : Int))).toNat + 44) (g.take (64 - 44))) ((64 * (a.sl % (4 : Int))).toNat + 48) (s.take (64 - 48)))), κ 5 .u8 v y.length B y, κ 5 .u8 H g.length F g, blk k 63 [ι a.sl, ι a.sz, ς a.A a.bl.length a.c], ite j me fc (es ++ [a]), row 22 1 (ς (ad l) 16 16) 16 (rowsV (qs.set (a.sl / (4 : Int)).toNat (e, d, putl (putl (putl (f.set ((((64 * (a.sl % (4 : Int))).toNat : Nat) : Int) + 0).toNat ((a.nm : ByteArray).size : Int)) ((64 * (a.sl % (4 : Int))).toNat + 1) (sb a.nm)) ((64 * (a.sl % (4 : Int))).toNat + 44) (g.take (64 - 44))) ((64 * (a.sl % (4 : Int))).toNat + 48) (s.take (64 - 48))))), blk ei 87 (([pt fi] : List Value) ++ (([.map (some me)] : List Value) ++ (([ς Na nk m] : List Value) ++ (bls sl ++ ([ς Sa sn sc] : List Value))))), mpf me (Fs.map feM) fc, rws .i64 G]) (fun w0 W w hs => by rw [rowsV_same C (show (putl (putl (putl (f.set ((((64 * (a.sl % (4 : Int))).toNat : Nat) : Int) + 0).toNat ((a.nm : ByteArray).size : Int)) ((64 * (a.sl % (4 : Int))).toNat + 1) (sb a.nm)) ((64 * (a.sl % (4 : Int))).toNat + 44) (g.take (64 - 44))) ((64 * (a.sl % (4 : Int))).toNat + 48) (s.take (64 - 48))).length = f.length by omega)]; exact SAT.sepGive (by omega) (by omega) (hs.pulls2 [0, 2] ([κ 5 .u8 e f.length d (putl (putl (putl (f.set ((((64 * (a.sl % (4 : Int))).toNat : Nat) : Int) + 0).toNat ((a.nm : ByteArray).size : Int)) ((64 * (a.sl % (4 : Int))).toNat + 1) (sb a.nm)) ((64 * (a.sl % (4 : Int))).toNat + 44) (g.take (64 - 44))) ((64 * (a.sl % (4 : Int))).toNat + 48) (s.take (64 - 48))), sepR .u8 5 (qs.eraseIdx (a.sl / (4 : Int)).toNat), κ 5 .u8 v y.length B y, κ 5 .u8 H g.length F g, blk k 63 [ι a.sl, ι a.sz, ς a.A a.bl.length a.c], ite j me fc (es ++ [a]), row 22 1 (ς (ad l) 16 16) 16 (rowsV qs), blk ei 87 (([pt fi] : List Value) ++ (([.map (some me)] : List Value) ++ (([ς Na nk m] : List Value) ++ (bls sl ++ ([ς Sa sn sc] : List Value))))), mpf me (Fs.map feM) fc, rws .i64 G]) (by kernel_rfl))) _ [2, 3, 24] [4, 4, 0, 3, 3, 3] [(2, ς0), (3, ς (ad l) 16 16), (24, pt j)] [ite j me fc (es ++ [a]), row 22 1 (ς (ad l) 16 16) 16 (rowsV (qs.set (a.sl / (4 : Int)).toNat (e, d, putl (putl (putl (f.set ((((64 * (a.sl % (4 : Int))).toNat : Nat) : Int) + 0).toNat ((a.nm : ByteArray).size : Int)) ((64 * (a.sl % (4 : Int))).toNat + 1) (sb a.nm)) ((64 * (a.sl % (4 : Int))).toNat + 44) (g.take (64 - 44))) ((64 * (a.sl % (4 : Int))).toNat + 48) (s.take (64 - 48))))), sepR .u8 5 (qs.set (a.sl / (4 : Int)).toNat (e, d, putl (putl (putl (f.set ((((64 * (a.sl % (4 : Int))).toNat : Nat) : Int) + 0).toNat ((a.nm : ByteArray).size : Int)) ((64 * (a.sl % (4 : Int))).toNat + 1) (sb a.nm)) ((64 * (a.sl % (4 : Int))).toNat + 44) (g.take (64 - 44))) ((64 * (a.sl % (4 : Int))).toNat + 48) (s.take (64 - 48)))), blk ei 87 (([pt fi] : List Value) ++ (([.map (some me)] : List Value) ++ (([ς Na nk m] : List Value) ++ (bls sl ++ ([ς Sa sn sc] : List Value))))), mpf me (Fs.map feM) fc, rws .i64 G] (by kernel_rfl) (by kernel_rfl) ?_ ⟨(es ++ [a]), (qs.set (a.sl / (4 : Int)).toNat (e, d, putl (putl (putl (f.set ((((64 * (a.sl % (4 : Int))).toNat : Nat) : Int) + 0).toNat ((a.nm : ByteArray).size : Int)) ((64 * (a.sl % (4 : Int))).toNat + 1) (sb a.nm)) ((64 * (a.sl % (4 : Int))).toNat + 44) (g.take (64 - 44))) ((64 * (a.sl % (4 : Int))).toNat + 48) (s.take (64 - 48)))), (by exact hes.snoc E R), (by exact dir_step hq C rfl (dir_row J M K (by exact first_nil ‹_›))), (by rw [List.length_set]; exact hql), (by rw [(dir_row J M K (by exact first_nil ‹_›))]; exact hK.set (putE_in (by omega) (ro_in hK C)) (by rw [putE_len (by omega) ‹_› (by omega)]; omega) (by rw [putE_len (by omega) ‹_› (by omega)]; omega)), (by rw [(dir_row J M K (by exact first_nil ‹_›))]; exact hW.set (putE_len (by omega) ‹_› (by omega))), rfl, (by rfl), (by rfl)⟩
 show (Fs.length - (es ++ [a]).length : Nat) < (Fs.length - es.length : Nat)
 have h_ := hes.lt ‹_› ‹_›; rw [List.length_append, List.length_singleton]; omega
theorem fl_ckit_it (A : Option Addr) (c : Nat) (xs : List Int) (bi : Nat) (bj : Nat) (hx : In .i64 xs) (hBn : Bnd 0 65536 xs) (hn : xs.length ≤ 100000) (hlc : xs.length ≤ c) :
 IterS Try.prog 92 [pt bi, pt bj] ((xs.length + 127) / 128) (fun i_ => [ς (subBase A (128 * i_) (128 * i_ + (chk 128 xs i_).length) 1) ((chk 128 xs i_).length) ((chk 128 xs i_).length)]) (fun i_ => [ν .i64 (subBase A (128 * i_) (128 * i_ + (chk 128 xs i_).length) 1) (chk 128 xs i_)]) [blk bi 49 [ς A xs.length c], blk bj 3 [ι 128]] [ν .i64 A xs] := by
 intro l B Sx S hB hSx hS hY
 refine CallsS.enter hU Try.f92 _ [] 31 Try.func92 rfl (by decide) rfl rfl (by kernel_rfl) fun E W => ?_
 refine RunC.only [0, 0, 0, 0, 0] [S 0, blk bi 49 [ς A xs.length c], blk bj 3 [ι 128], B, ν .i64 A xs] (by kernel_rfl) ?_
 refine RunC.know (p := 0 < xs.length → Option.isSome A = true) (fun _ _ w hs => vw_some hs 4 rfl (by first | (simp [nums_length]; done) | exact dosV_len _ | exact bls_len _ | exact chV_len _)) (fun o => ?_)
 refine RunC.sr ?_
 refine RunR.sl hU [] 1 1 [0, 1, 2, 4] [(0, .func (.yield l) #[] #[]), (1, pt bi), (2, pt bj), (4, ι 0)] 1 ?_
 refine RunR.nn ?_
 refine RunC.block ?_
 refine RunC.env [0, 1, 2, 4] [(0, .func (.yield l) #[] #[]), (1, pt bi), (2, pt bj), (4, ι 0)] (by kernel_rfl) ?_
 refine RunC.only [0, 0, 0, 0, 0] [S 0, blk bi 49 [ς A xs.length c], blk bj 3 [ι 128], B, ν .i64 A xs] (by kernel_rfl) ?_
 refine RunC.loop (σ := Nat) (fun n_ t_ D_ => ∃ (i : Int) (q : Nat), (i = 128 * (q : Int)) ∧ (q ≤ (xs.length + 127) / 128) ∧ n_ = ((xs.length + 128 - i).toNat : Nat) ∧ t_ = [(0, .func (.yield l) #[] #[]), (1, pt bi), (2, pt bj), (4, ι i)] ∧ D_ = [S q, blk bi 49 [ς A xs.length c], blk bj 3 [ι 128], B, ν .i64 A xs]) id _ ⟨0, 0, (by first | assumption | omega | (simp only [List.length_append, List.length_cons, List.length_nil, List.length_set, List.length_replicate, List.length_take, List.length_drop]; omega) | (simp only [fits] at *; omega) | (simp only [List.length_append, List.length_cons, List.length_nil, List.length_set, List.length_replicate, List.length_take, List.length_drop] at *; omega) | (simp; done) | decide), (by first | assumption | omega | (simp only [List.length_append, List.length_cons, List.length_nil, List.length_set, List.length_replicate, List.length_take, List.length_drop]; omega) | (simp only [fits] at *; omega) | (simp only [List.length_append, List.length_cons, List.length_nil, List.length_set, List.length_replicate, List.length_take, List.length_drop] at *; omega) | (simp; done) | decide), rfl, rfl, rfl⟩ ?_
 rintro n_ _ _ ⟨i, q, hi, hq, rfl, rfl, rfl⟩
 refine RunC.seq ?_
 refine RunC.sr ?_
 refine RunR.sl hU [] 1 1 [0, 1, 2, 4, 6] [(0, .func (.yield l) #[] #[]), (1, pt bi), (2, pt bj), (4, ι i), (6, ι i)] 1 ?_
 refine RunR.st (some 7) (.load 49 (.tmp 1)) (Step.load_blk hU 1 bi (0) 49 [ς A xs.length c] (ς A xs.length c) (by kernel_rfl) (by kernel_rfl) (by kernel_rfl) (by kernel_rfl) ?_)
 refine RunR.sl hU [] 2 4 [0, 1, 2, 4, 9] [(0, .func (.yield l) #[] #[]), (1, pt bi), (2, pt bj), (4, ι i), (9, η (decide (i < (xs.length : Int))))] 2 ?_
 refine RunR.nn ?_
 refine RunC.condp (i < (xs.length : Int)) (by kernel_rfl) (fun y => ?_) (fun y => ?_)
 ·refine RunC.ks ?_
  refine RunC.seq ?_
  refine RunC.block ?_
  refine RunC.seq ?_
  refine RunC.regionU hU 7 [blk bj 3 [ι 128], blk bi 49 [ς A xs.length c]] [2, 1] [5, 6] (bm 7 0) (by kernel_rfl) (by kernel_rfl) (by kernel_rfl) ?_
  refine RunU.rd 0 (bm 7 1) 13 (.load 3 (.tmp 2)) (ι 128) [2, 1] (Reads.load_blk hU 0 bj (0) 3 [ι 128] (ι 128) (by kernel_rfl) (by kernel_rfl) (by kernel_rfl)) ?_
  refine RunU.rd 1 (bm 7 3) 14 (.load 49 (.tmp 1)) (ς A xs.length c) [2, 1] (Reads.load_blk hU 1 bi (0) 49 [ς A xs.length c] (ς A xs.length c) (by kernel_rfl) (by kernel_rfl) (by kernel_rfl)) ?_
  refine RunU.sl hU 2 (bm 7 7) 15 (ι i) ?_
  refine RunU.sil hU false 3 (bm 7 15) 16 (ς (subBase A ((i).toNat) c 1) (xs.length - ((i).toNat)) (c - ((i).toNat))) (0 ≤ i ∧ i ≤ (xs.length : Int)) (by kernel_rfl) (by omega) (by kernel_rfl) (by kernel_rfl) (fun _ _ _ h => h) ?_
  obtain ⟨a, j⟩ : ∃ z : List Int, z = (xs.drop ((i).toNat)).take (xs.length - ((i).toNat)) := ⟨_, rfl⟩
  have t : a.length = xs.length - ((i).toNat) := by rw [j, List.length_take, List.length_drop]; omega
  have s : Tells (ν .i64 A xs) (subBase A ((i).toNat) c 1) (nums .i64 a) := by rw [j]; exact tells_sub_nums (tells_vw _ _) _ _ _ (by omega) (by omega)
  have D : 0 < a.length → Option.isSome (subBase A ((i).toNat) c 1) = true := fun h => part_some (o (by omega)) _ _ _
  refine RunU.ev [0, 1, 2, 4, 9, 13, 14, 15, 16] [(0, .func (.yield l) #[] #[]), (1, pt bi), (2, pt bj), (4, ι i), (9, η (decide (i < (xs.length : Int)))), (13, ι 128), (14, ς A xs.length c), (15, ι i), (16, ς (subBase A ((i).toNat) c 1) (xs.length - ((i).toNat)) (c - ((i).toNat)))] ?_
  refine RunU.enveq [(0, .func (.yield l) #[] #[]), (1, pt bi), (2, pt bj), (4, ι i), (9, η (decide (i < (xs.length : Int)))), (13, ι 128), (14, ς A xs.length c), (15, ι i), (16, ς (subBase A ((i).toNat) c 1) a.length (c - ((i).toNat)))] (by rw [t]) ?_
  have C : In .i64 a := by rw [j]; exact (hx.drop _).take _
  refine RunU.sl hU 4 (bm 7 31) 17 (ι (a.length : Int)) ?_
  have u : ((if (a.length : Int) < 128 then (a.length : Int) else 128) = (128 : Int) ∨ (if (a.length : Int) < 128 then (a.length : Int) else 128) = (a.length : Int)) ∧ (if (a.length : Int) < 128 then (a.length : Int) else 128) ≤ (128 : Int) ∧ (if (a.length : Int) < 128 then (a.length : Int) else 128) ≤ (a.length : Int) := by split <;> omega
  refine RunU.sl hU 5 (bm 7 63) 18 (ι (if (a.length : Int) < 128 then (a.length : Int) else 128)) ?_
  refine RunU.sl hU 6 (bm 7 127) 5 (ι (if (a.length : Int) < 128 then (a.length : Int) else 128)) ?_
  refine RunU.ev [0, 1, 2, 4, 5] [(0, .func (.yield l) #[] #[]), (1, pt bi), (2, pt bj), (4, ι i), (5, ι (if (a.length : Int) < 128 then (a.length : Int) else 128))] ?_
  refine RunU.dn ?_
  refine kseq_n ?_
  refine RunC.sr ?_
  refine RunR.sl hU [] 1 1 [0, 1, 2, 4, 5, 19] [(0, .func (.yield l) #[] #[]), (1, pt bi), (2, pt bj), (4, ι i), (5, ι (if (a.length : Int) < 128 then (a.length : Int) else 128)), (19, .func (.yield l) #[] #[])] 1 ?_
  refine RunR.st (some 20) (.load 49 (.tmp 1)) (Step.load_blk hU 1 bi (0) 49 [ς A xs.length c] (ς A xs.length c) (by kernel_rfl) (by kernel_rfl) (by kernel_rfl) (by kernel_rfl) ?_)
  refine RunR.sil hU [5, 8] 8 10 [0, 1, 2, 4, 19, 28] [(0, .func (.yield l) #[] #[]), (1, pt bi), (2, pt bj), (4, ι i), (19, .func (.yield l) #[] #[]), (28, ς (subBase A ((i).toNat) ((i + (if (a.length : Int) < 128 then (a.length : Int) else 128)).toNat) 1) (((i + (if (a.length : Int) < 128 then (a.length : Int) else 128)).toNat) - ((i).toNat)) (((i + (if (a.length : Int) < 128 then (a.length : Int) else 128)).toNat) - ((i).toNat)))] ((True) ∧ (True) ∧ (True) ∧ (-9223372036854775808 ≤ (i + (if (a.length : Int) < 128 then (a.length : Int) else 128)) ∧ (i + (if (a.length : Int) < 128 then (a.length : Int) else 128)) < 9223372036854775808) ∧ (True) ∧ (True) ∧ (-9223372036854775808 ≤ (i + (if (a.length : Int) < 128 then (a.length : Int) else 128)) ∧ (i + (if (a.length : Int) < 128 then (a.length : Int) else 128)) < 9223372036854775808) ∧ (0 ≤ i ∧ i ≤ (i + (if (a.length : Int) < 128 then (a.length : Int) else 128)) ∧ (i + (if (a.length : Int) < 128 then (a.length : Int) else 128)) ≤ (i + (if (a.length : Int) < 128 then (a.length : Int) else 128)) ∧ (i + (if (a.length : Int) < 128 then (a.length : Int) else 128)) ≤ (c : Int)) ∧ True) rfl (by kernel_rfl) ⟨trivial, trivial, trivial, (by omega), trivial, trivial, (by omega), (by omega), trivial⟩ ?_
  obtain ⟨e, f⟩ : ∃ z : List Int, z = (xs.drop ((i).toNat)).take (((i + (if (a.length : Int) < 128 then (a.length : Int) else 128)).toNat) - ((i).toNat)) := ⟨_, rfl⟩
  have r : e.length = ((i + (if (a.length : Int) < 128 then (a.length : Int) else 128)).toNat) - ((i).toNat) := by rw [f, List.length_take, List.length_drop]; omega
  have g : Tells (ν .i64 A xs) (subBase A ((i).toNat) ((i + (if (a.length : Int) < 128 then (a.length : Int) else 128)).toNat) 1) (nums .i64 e) := by rw [f]; exact tells_sub_nums (tells_vw _ _) _ _ _ (by omega) (by omega)
  have v : 0 < e.length → Option.isSome (subBase A ((i).toNat) ((i + (if (a.length : Int) < 128 then (a.length : Int) else 128)).toNat) 1) = true := fun h => part_some (o (by omega)) _ _ _
  refine RunR.ev [0, 1, 2, 4, 19, 28] [(0, .func (.yield l) #[] #[]), (1, pt bi), (2, pt bj), (4, ι i), (19, .func (.yield l) #[] #[]), (28, ς (subBase A ((i).toNat) ((i + (if (a.length : Int) < 128 then (a.length : Int) else 128)).toNat) 1) (((i + (if (a.length : Int) < 128 then (a.length : Int) else 128)).toNat) - ((i).toNat)) (((i + (if (a.length : Int) < 128 then (a.length : Int) else 128)).toNat) - ((i).toNat)))] ?_
  refine RunR.enveq [(0, .func (.yield l) #[] #[]), (1, pt bi), (2, pt bj), (4, ι i), (19, .func (.yield l) #[] #[]), (28, ς (subBase A ((i).toNat) ((i + (if (a.length : Int) < 128 then (a.length : Int) else 128)).toNat) 1) e.length (((i + (if (a.length : Int) < 128 then (a.length : Int) else 128)).toNat) - ((i).toNat)))] (by rw [r]) ?_
  have x : In .i64 e := by rw [f]; exact (hx.drop _).take _
  have k : (i).toNat = 128 * q := by omega
  have m : (i + (if (a.length : Int) < 128 then (a.length : Int) else 128)).toNat = 128 * q + (chk 128 xs q).length := by rw [chk_len]; omega
  have n : e = (chk 128 xs q) := by rw [f, k, m]; exact chk_is _ _ _
  refine RunR.ev [0, 1, 2, 4, 19, 28] [(0, .func (.yield l) #[] #[]), (1, pt bi), (2, pt bj), (4, ι i), (19, .func (.yield l) #[] #[]), (28, ς (subBase A ((i).toNat) ((i + (if (a.length : Int) < 128 then (a.length : Int) else 128)).toNat) 1) e.length (((i + (if (a.length : Int) < 128 then (a.length : Int) else 128)).toNat) - ((i).toNat)))] ?_
  refine RunR.enveq [(0, .func (.yield l) #[] #[]), (1, pt bi), (2, pt bj), (4, ι i), (19, .func (.yield l) #[] #[]), (28, ς (subBase A (128 * q) (128 * q + (chk 128 xs q).length) 1) ((chk 128 xs q).length) ((chk 128 xs q).length))] (by rw [n, k, m, Nat.add_sub_cancel_left]) ?_
  refine RunR.yield (d := some 29) (c := (.tmp 19)) (os_ := #[.tmp 28]) (ts := #[49]) l [ς (subBase A (128 * q) (128 * q + (chk 128 xs q).length) 1) ((chk 128 xs q).length) ((chk 128 xs q).length)] (by kernel_rfl) (by kernel_rfl) (by kernel_rfl) (by kernel_rfl) [S q] [B, ν .i64 (subBase A (128 * q) (128 * q + (chk 128 xs q).length) 1) (chk 128 xs q)] [blk bi 49 [ς A xs.length c], blk bj 3 [ι 128], B, ν .i64 A xs] (hY q (by omega)) [0] (by kernel_rfl) (((Lend.nil _).tells 3 (ν .i64 A xs) (subBase A (128 * q) (128 * q + (chk 128 xs q).length) 1) (nums .i64 (chk 128 xs q)) (by kernel_rfl) ((by have h_ := g; rw [n, k, m] at h_; exact h_))).same 2 B (by kernel_rfl) hB) ?_
  rintro _ _ (⟨rfl, rfl⟩ | ⟨rfl, rfl⟩)
  ·refine RunR.sl hU [] 1 12 [0, 1, 2, 4, 30] [(0, .func (.yield l) #[] #[]), (1, pt bi), (2, pt bj), (4, ι i), (30, η false)] 1 ?_
   refine RunR.nn ?_
   refine RunC.cond (b := false) (by kernel_rfl) (fun h => by cases h) (fun _ => ?_)
   refine RunC.skip ?_
   refine kblock_n ?_
   refine kseq_n ?_
   refine RunC.region ?_
   refine RunR.sl hU [] 1 1 [0, 1, 2, 4, 10] [(0, .func (.yield l) #[] #[]), (1, pt bi), (2, pt bj), (4, ι i), (10, ι i)] 1 ?_
   refine RunR.st (some 11) (.load 3 (.tmp 2)) (Step.load_blk hU 2 bj (0) 3 [ι 128] (ι 128) (by kernel_rfl) (by kernel_rfl) (by kernel_rfl) (by kernel_rfl) ?_)
   refine RunR.sil hU [2] 2 4 [0, 1, 2, 4] [(0, .func (.yield l) #[] #[]), (1, pt bi), (2, pt bj), (4, ι (i + 128))] ((-9223372036854775808 ≤ (i + 128) ∧ (i + 128) < 9223372036854775808) ∧ (True) ∧ True) rfl (by kernel_rfl) ⟨(by omega), trivial, trivial⟩ ?_
   refine RunR.dn ?_
   refine kloop_n _ [0, 1, 2, 4] [0, 0, 0, 0, 0] [(0, .func (.yield l) #[] #[]), (1, pt bi), (2, pt bj), (4, ι (i + 128))] [S (q + 1), blk bi 49 [ς A xs.length c], blk bj 3 [ι 128], B, ν .i64 A xs] (by kernel_rfl) (by kernel_rfl) ?_ ⟨(i + 128), (q + 1), (by first | assumption | omega | (simp only [List.length_append, List.length_cons, List.length_nil, List.length_set, List.length_replicate, List.length_take, List.length_drop]; omega) | (simp only [fits] at *; omega) | (simp only [List.length_append, List.length_cons, List.length_nil, List.length_set, List.length_replicate, List.length_take, List.length_drop] at *; omega) | (simp; done) | decide), (by first | assumption | omega | (simp only [List.length_append, List.length_cons, List.length_nil, List.length_set, List.length_replicate, List.length_take, List.length_drop]; omega) | (simp only [fits] at *; omega) | (simp only [List.length_append, List.length_cons, List.length_nil, List.length_set, List.length_replicate, List.length_take, List.length_drop] at *; omega) | (simp; done) | decide), rfl, (by first | rfl | simp only [List.length_set]), (by first | rfl | simp only [List.length_set])⟩
   show ((xs.length + 128 - (i + 128)).toNat : Nat) < ((xs.length + 128 - i).toNat : Nat)
   omega
  refine RunR.sl hU [] 1 12 [0, 1, 2, 4, 30] [(0, .func (.yield l) #[] #[]), (1, pt bi), (2, pt bj), (4, ι i), (30, η true)] 1 ?_
  refine RunR.nn ?_
  refine RunC.cond (b := true) (by kernel_rfl) (fun _ => ?_) (fun h => by cases h)
  refine RunC.ret ?_
  refine kblock_r ?_
  refine kseq_r ?_
  refine kloop_r ?_
  refine kblock_r ?_
  refine kret_r [] [0] [Sx] trivial (by kernel_rfl) (by simp [hSx]) (.inr rfl)
 refine RunC.exit ?_
 refine kseq_e ?_
 refine kloop_e ?_
 refine kblock_e ?_
 refine kret_n [] [0] [S q] trivial (by kernel_rfl) (by simp [hS]) (.inl (by rw [show (q : Nat) = (xs.length + 127) / 128 by omega]))
theorem fl_ck_spec (A : Option Addr) (c : Nat) (n : Nat) :
 CallsS Try.prog 77 [ς A n c, ι 128] [] (fun r D => ∃ (bi : Nat) (bj : Nat), r = .func (.func 92) #[] #[pt bi, pt bj] ∧ D = [blk bi 49 [ς A n c], blk bj 3 [ι 128]]) := by
 refine CallsS.enter hU Try.f77 _ [.tmp 4] 9 Try.func77 rfl (by decide) rfl rfl (by kernel_rfl) fun e W => ?_
 refine RunC.sr ?_
 refine RunR.st (some 2) (.box 49 (.tmp 0)) (Step.box (ς A n c) (by kernel_rfl) (by kernel_rfl) (fun d => ?_))
 refine RunR.st (some 3) (.box 3 (.tmp 1)) (Step.box (ι 128) (by kernel_rfl) (by kernel_rfl) (fun a => ?_))
 refine RunR.sl hU [] 1 3 [2, 3, 4] [(2, pt d), (3, pt a), (4, .nilFunc)] 1 ?_
 refine RunR.nn ?_
 refine RunC.seq ?_
 refine RunC.sr ?_
 refine RunR.st (some 5) (.load 3 (.tmp 3)) (Step.load_blk hU 0 a (0) 3 [ι 128] (ι 128) (by kernel_rfl) (by kernel_rfl) (by kernel_rfl) (by kernel_rfl) ?_)
 refine RunR.sl hU [] 1 2 [2, 3, 4, 6] [(2, pt d), (3, pt a), (4, .nilFunc), (6, η false)] 1 ?_
 refine RunR.nn ?_
 refine RunC.cond (b := false) (by kernel_rfl) (fun h => by cases h) (fun _ => ?_)
 refine RunC.ksr ?_
 refine RunR.sl hU [] 2 2 [4] [(4, .func (.func 92) #[] #[pt d, pt a])] 2 ?_
 refine RunR.nn ?_
 refine RunC.ret ?_
 refine kret_r [.func (.func 92) #[] #[pt d, pt a]] [1, 0] [blk d 49 [ς A n c], blk a 3 [ι 128]] ⟨rfl, trivial⟩ (by kernel_rfl) rfl ⟨d, a, rfl, rfl⟩
theorem fl_table_spec (ei : Nat) (fi : Nat) (me : Nat) (Na : Option Addr) (g : Nat) (a : List Int) (sl : List Bool) (Sa : Option Addr) (sn : Nat) (sc : Nat) (J : Nat) (e0 : In .i64 a) (B0 : Bnd 0 65536 a) (s0 : a.length ≤ 100000) (i0 : a.length ≤ g) (Q : a.length = J) :
 CallsS Try.prog 62 [pt ei] [blk ei 87 (([pt fi] : List Value) ++ (([.map (some me)] : List Value) ++ (([ς Na J g] : List Value) ++ (bls sl ++ ([ς Sa sn sc] : List Value))))), ν .i64 Na a] (fun r D => ∃ (A9 : Option Addr) (P : Nat) (c9 : Nat) (zs : List Ro), r = ς A9 P c9 ∧ D = [row 22 1 (ς A9 P c9) P (rowsV zs), rws .u8 zs, blk ei 87 (([pt fi] : List Value) ++ (([.map (some me)] : List Value) ++ (([ς Na J g] : List Value) ++ (bls sl ++ ([ς Sa sn sc] : List Value)))))] ∧ (rb zs = tabB a) ∧ (RowsOK .u8 zs) ∧ (zs.length = P) ∧ (P ≤ c9) ∧ (0 < P → Option.isSome A9 = true) ∧ (P = (a.length + 127) / 128)) := by
 subst Q
 refine CallsS.enter hU Try.f62 _ [.tmp 2] 36 Try.func62 rfl (by decide) rfl rfl (by kernel_rfl) fun w0 W => ?_
 refine RunC.know (p := 0 < a.length → Option.isSome Na = true) (fun _ _ w hs => vw_some hs 1 rfl (by (simp [nums_length]; done))) (fun C0 => ?_)
 refine RunC.sr ?_
 refine RunR.sl hU [] 1 1 [0, 2] [(0, pt ei), (2, ς0)] 1 ?_
 refine RunR.nx ?_
 refine RunR.st (some 3) (.alloc 106) (Step.al hU 1 24 (ς0) (fun j => ?_))
 refine RunR.nn ?_
 refine RunC.seq ?_
 refine RunC.sr ?_
 refine RunR.sl hU [] 3 3 [2, 3, 10] [(2, ς0), (3, pt j), (10, .pointer (some ⟨ei, 2, none⟩))] 3 ?_
 refine RunR.st (some 11) (.load 49 (.tmp 10)) (Step.load_blk hU 1 ei (2) 87 (([pt fi] : List Value) ++ (([.map (some me)] : List Value) ++ (([ς Na a.length g] : List Value) ++ (bls sl ++ ([ς Sa sn sc] : List Value))))) (ς Na a.length g) (by kernel_rfl) (by kernel_rfl) (loadv_one (by kernel_rfl) (show Seg _ 2 _ from Seg.skip (n := 1) (o := 1) rfl (Seg.skip (n := 1) (o := 0) rfl (Seg.here _ _)))) (by kernel_rfl) ?_)
 refine RunR.st (some 12) (.call { callee := .value (.func 77), args := #[.tmp 11, .const (ι 128)], argTypes := #[49, 3] }) (Step.cn 77 [ς Na a.length g, ι 128] [] [blk j 106 [ς0], blk ei 87 (([pt fi] : List Value) ++ (([.map (some me)] : List Value) ++ (([ς Na a.length g] : List Value) ++ (bls sl ++ ([ς Sa sn sc] : List Value))))), ν .i64 Na a] (fl_ck_spec Na g a.length) [] ?_)
 rintro _ _ ⟨H, E, rfl, rfl⟩
 refine RunR.nn ?_
 refine RunC.block ?_
 refine RunC.turn ([row 22 1 (ς0) 0 (rowsV ([] : List Ro)), blk H 49 [ς Na a.length g], blk E 3 [ι 128], blk j 106 [ς0], blk ei 87 (([pt fi] : List Value) ++ (([.map (some me)] : List Value) ++ (([ς Na a.length g] : List Value) ++ (bls sl ++ ([ς Sa sn sc] : List Value))))), ν .i64 Na a]) (fun _ _ w hs => hs.nil_row 22 1) ?_
 refine RunC.turn ([rws .u8 ([] : List Ro), row 22 1 (ς0) 0 (rowsV ([] : List Ro)), blk H 49 [ς Na a.length g], blk E 3 [ι 128], blk j 106 [ς0], blk ei 87 (([pt fi] : List Value) ++ (([.map (some me)] : List Value) ++ (([ς Na a.length g] : List Value) ++ (bls sl ++ ([ς Sa sn sc] : List Value))))), ν .i64 Na a]) (fun _ _ w hs => hs.rws0 .u8) ?_
 refine RunC.env [2, 3, 12] [(2, ς0), (3, pt j), (12, .func (.func 92) #[] #[pt H, pt E])] (by kernel_rfl) ?_
 refine RunC.rangeFunc (α := List Fact) (β := List Fact) 92 [pt H, pt E] (by kernel_rfl) ((a.length + 127) / 128) (fun i_ => [ς (subBase Na (128 * i_) (128 * i_ + (chk 128 a i_).length) 1) ((chk 128 a i_).length) ((chk 128 a i_).length)]) (fun i_ => [ν .i64 (subBase Na (128 * i_) (128 * i_ + (chk 128 a i_).length) 1) (chk 128 a i_)]) [blk H 49 [ς Na a.length g], blk E 3 [ι 128]] [ν .i64 Na a] (fl_ckit_it Na g a H E e0 ‹_› ‹_› ‹_›) (fun i_ D_ => ∃ (rs : List Ro) (B : Option Addr) (d : Nat), (rb rs = tabN a i_) ∧ (RowsOK .u8 rs) ∧ (rs.length ≤ d) ∧ (0 < rs.length → Option.isSome B = true) ∧ (rs.length = i_) ∧ D_ = [blk j 106 [ς B rs.length d], row 22 1 (ς B rs.length d) rs.length (rowsV rs), rws .u8 rs, blk ei 87 (([pt fi] : List Value) ++ (([.map (some me)] : List Value) ++ (([ς Na a.length g] : List Value) ++ (bls sl ++ ([ς Sa sn sc] : List Value)))))]) (fun D_ => D_) .ret (fun (_ : List Fact) => False) (fun D_ => D_) [ν .i64 Na a] [ν .i64 Na a] [blk j 106 [ς0], row 22 1 (ς0) 0 (rowsV ([] : List Ro)), rws .u8 ([] : List Ro), blk ei 87 (([pt fi] : List Value) ++ (([.map (some me)] : List Value) ++ (([ς Na a.length g] : List Value) ++ (bls sl ++ ([ς Sa sn sc] : List Value)))))] ⟨([] : List Ro), none, 0, (by rfl), (by exact RowsOK.nil _), (by exact Nat.zero_le _), (by intro h; simp at h), (by rfl), rfl⟩ [4, 1, 0, 2, 0, 0] (by kernel_rfl) ((Lend.nil _).same 0 (ν .i64 Na a) (by kernel_rfl) rfl) (fun f_ hf_ => by have := List.all_eq_true.1 (by rfl : List.all [ν .i64 Na a] (fun g_ => !g_.own) = true) f_ hf_; simpa using this) ((Lend.nil _).tells 0 (ν .i64 Na a) Na (nums .i64 a) (by kernel_rfl) (tells_vw _ _)) (fun i_ D_ hp_ f_ hf_ => by obtain ⟨_, _, _, _, _, _, _, _, rfl⟩ := hp_; exact List.all_eq_true.1 (by rfl : List.all _ (·.own) = true) f_ hf_) (fun _ h => h.elim) (fun _ => rfl) (by rfl) ?_ ?_ (fun _ h => h.elim)
 ·intro l_ R_ i_ _ hlt_ hp_
  obtain ⟨rs, B, d, hr, hK, hd, hB, hrl, rfl⟩ := hp_
  refine RunC.env [2, 3, 12, 13] [(2, ς0), (3, pt j), (12, .func (.func 92) #[] #[pt H, pt E]), (13, ς (subBase Na (128 * i_) (128 * i_ + (chk 128 a i_).length) 1) ((chk 128 a i_).length) ((chk 128 a i_).length))] (by kernel_rfl) ?_
  refine RunC.only [0, 0, 0, 0, 0, 0, 0] [objF l_ (.loop (R_ .ready none)), blk j 106 [ς B rs.length d], row 22 1 (ς B rs.length d) rs.length (rowsV rs), rws .u8 rs, blk ei 87 (([pt fi] : List Value) ++ (([.map (some me)] : List Value) ++ (([ς Na a.length g] : List Value) ++ (bls sl ++ ([ς Sa sn sc] : List Value))))), ν .i64 Na a, ν .i64 (subBase Na (128 * i_) (128 * i_ + (chk 128 a i_).length) 1) (chk 128 a i_)] (by kernel_rfl) ?_
  refine RunC.know (p := 0 < (chk 128 a i_).length → Option.isSome (subBase Na (128 * i_) (128 * i_ + (chk 128 a i_).length) 1) = true) (fun _ _ w hs => vw_some hs 6 rfl (by simp [nums_length])) (fun d0 => ?_)
  have hcl_ : (chk 128 a i_).length ≤ 128 := by rw [chk_len]; omega
  have hev_ : In .i64 (chk 128 a i_) := chk_in ‹_› _
  have O : Bnd 0 65536 (chk 128 a i_) := chk_bnd ‹_› _
  refine RunC.region ?_
  refine RunR.sl hU [] 1 1 [3, 4] [(3, pt j), (4, ς (subBase Na (128 * i_) (128 * i_ + (chk 128 a i_).length) 1) ((chk 128 a i_).length) ((chk 128 a i_).length))] 1 ?_
  refine RunR.dn ?_
  refine kassign_n 0 (by kernel_rfl) ?_
  refine RunC.block ?_
  refine RunC.sr ?_
  refine RunR.sl hU [] 1 1 [3, 4, 5] [(3, pt j), (4, ς (subBase Na (128 * i_) (128 * i_ + (chk 128 a i_).length) 1) ((chk 128 a i_).length) ((chk 128 a i_).length)), (5, ς0)] 1 ?_
  refine RunR.nn ?_
  refine RunC.seq ?_
  refine RunC.sr ?_
  refine RunR.sl hU [] 3 3 [3, 5, 14, 15, 16] [(3, pt j), (5, ς0), (14, ς (subBase Na (128 * i_) (128 * i_ + (chk 128 a i_).length) 1) ((chk 128 a i_).length) ((chk 128 a i_).length)), (15, ι (((chk 128 a i_).length : Nat) : Int)), (16, ι 0)] 3 ?_
  refine RunR.nn ?_
  refine RunC.block ?_
  refine RunC.turn ([κ 5 .u8 none 0 0 ([] : List Int), objF l_ (.loop (R_ .busy none)), blk j 106 [ς B rs.length d], row 22 1 (ς B rs.length d) rs.length (rowsV rs), rws .u8 rs, blk ei 87 (([pt fi] : List Value) ++ (([.map (some me)] : List Value) ++ (([ς Na a.length g] : List Value) ++ (bls sl ++ ([ς Sa sn sc] : List Value))))), ν .i64 Na a, ν .i64 (subBase Na (128 * i_) (128 * i_ + (chk 128 a i_).length) 1) (chk 128 a i_)]) (fun _ _ w hs => hs.nil_row 5 1) ?_
  refine RunC.env [3, 5, 14, 15, 16] [(3, pt j), (5, ς0), (14, ς (subBase Na (128 * i_) (128 * i_ + (chk 128 a i_).length) 1) ((chk 128 a i_).length) ((chk 128 a i_).length)), (15, ι (((chk 128 a i_).length : Nat) : Int)), (16, ι 0)] (by kernel_rfl) ?_
  refine RunC.only [0, 0, 0, 0, 0, 0, 0, 0] [κ 5 .u8 none 0 0 ([] : List Int), objF l_ (.loop (R_ .busy none)), blk j 106 [ς B rs.length d], row 22 1 (ς B rs.length d) rs.length (rowsV rs), rws .u8 rs, blk ei 87 (([pt fi] : List Value) ++ (([.map (some me)] : List Value) ++ (([ς Na a.length g] : List Value) ++ (bls sl ++ ([ς Sa sn sc] : List Value))))), ν .i64 Na a, ν .i64 (subBase Na (128 * i_) (128 * i_ + (chk 128 a i_).length) 1) (chk 128 a i_)] (by kernel_rfl) ?_
  refine RunC.loop (σ := Nat) (fun n_ t_ D_ => ∃ (i : Int) (os : List Int) (v : Option Addr) (x : Nat), (0 ≤ i) ∧ (i ≤ ((chk 128 a i_).length : Int)) ∧ (os = n2L ((chk 128 a i_).take i.toNat)) ∧ ((os.length : Int) = 2 * i) ∧ (In .u8 os) ∧ (os.length ≤ x) ∧ (0 < os.length → Option.isSome v = true) ∧ n_ = (((chk 128 a i_).length - i).toNat : Nat) ∧ t_ = [(3, pt j), (5, ς v os.length x), (14, ς (subBase Na (128 * i_) (128 * i_ + (chk 128 a i_).length) 1) ((chk 128 a i_).length) ((chk 128 a i_).length)), (15, ι (((chk 128 a i_).length : Nat) : Int)), (16, ι i)] ∧ D_ = [κ 5 .u8 v os.length x os, objF l_ (.loop (R_ .busy none)), blk j 106 [ς B rs.length d], row 22 1 (ς B rs.length d) rs.length (rowsV rs), rws .u8 rs, blk ei 87 (([pt fi] : List Value) ++ (([.map (some me)] : List Value) ++ (([ς Na a.length g] : List Value) ++ (bls sl ++ ([ς Sa sn sc] : List Value))))), ν .i64 Na a, ν .i64 (subBase Na (128 * i_) (128 * i_ + (chk 128 a i_).length) 1) (chk 128 a i_)]) id _ ⟨0, ([] : List Int), none, 0, (by omega), (by omega), (by rfl), (by rfl), (by exact In.nil _), (by exact Nat.zero_le _), (by intro h; simp at h), rfl, rfl, rfl⟩ ?_
  rintro n_ _ _ ⟨i, os, v, x, hi, D0, ho, hol, hios, hcos, hAos, rfl, rfl, rfl⟩
  refine RunC.sr ?_
  refine RunR.sl hU [] 1 1 [3, 5, 14, 15, 16, 17] [(3, pt j), (5, ς v os.length x), (14, ς (subBase Na (128 * i_) (128 * i_ + (chk 128 a i_).length) 1) ((chk 128 a i_).length) ((chk 128 a i_).length)), (15, ι (((chk 128 a i_).length : Nat) : Int)), (16, ι i), (17, η (decide (i < (((chk 128 a i_).length : Nat) : Int))))] 1 ?_
  refine RunR.nn ?_
  refine RunC.seq ?_
  refine RunC.condp (i < (((chk 128 a i_).length : Nat) : Int)) (by kernel_rfl) (fun h6 => ?_) (fun h6 => ?_)
  ·refine RunC.ks ?_
   refine RunC.seq ?_
   refine RunC.block ?_
   refine RunC.sr ?_
   refine RunR.sil hU [] 1 1 [3, 5, 14, 15, 16, 18] [(3, pt j), (5, ς v os.length x), (14, ς (subBase Na (128 * i_) (128 * i_ + (chk 128 a i_).length) 1) ((chk 128 a i_).length) ((chk 128 a i_).length)), (15, ι (((chk 128 a i_).length : Nat) : Int)), (16, ι i), (18, .pointer (elemAt (subBase Na (128 * i_) (128 * i_ + (chk 128 a i_).length) 1) i 1))] (((0 ≤ i ∧ i < (((chk 128 a i_).length : Nat) : Int)) ∧ Option.isSome (subBase Na (128 * i_) (128 * i_ + (chk 128 a i_).length) 1) = true) ∧ True) rfl (by kernel_rfl) ⟨⟨by omega, d0 (by omega)⟩, trivial⟩ ?_
   refine RunR.st (some 19) (.load 3 (.tmp 18)) (Step.load_num hU 7 (ν .i64 (subBase Na (128 * i_) (128 * i_ + (chk 128 a i_).length) 1) (chk 128 a i_)) (subBase Na (128 * i_) (128 * i_ + (chk 128 a i_).length) 1) i .i64 (chk 128 a i_) rfl (by kernel_rfl) (by kernel_rfl) (tells_vw _ _) (by kernel_rfl) (by omega) ?_)
   have A0 : 0 ≤ (chk 128 a i_).getD ((i).toNat) 0 ∧ (chk 128 a i_).getD ((i).toNat) 0 < 65536 := O.at_ _
   refine RunR.sl hU [] 1 3 [3, 5, 7, 14, 15, 16] [(3, pt j), (5, ς v os.length x), (7, ι ((chk 128 a i_).getD (i).toNat 0)), (14, ς (subBase Na (128 * i_) (128 * i_ + (chk 128 a i_).length) 1) ((chk 128 a i_).length) ((chk 128 a i_).length)), (15, ι (((chk 128 a i_).length : Nat) : Int)), (16, ι i)] 1 ?_
   refine RunR.nn ?_
   refine RunC.region ?_
   refine RunR.sil hU [2] 3 3 [3, 5, 14, 15, 16, 20, 22] [(3, pt j), (5, ς v os.length x), (14, ς (subBase Na (128 * i_) (128 * i_ + (chk 128 a i_).length) 1) ((chk 128 a i_).length) ((chk 128 a i_).length)), (15, ι (((chk 128 a i_).length : Nat) : Int)), (16, ι i), (20, ς v os.length x), (22, .int .u32 ((chk 128 a i_).getD (i).toNat 0))] ((True) ∧ (True) ∧ (0 ≤ ((chk 128 a i_).getD (i).toNat 0) ∧ ((chk 128 a i_).getD (i).toNat 0) < 4294967296) ∧ True) rfl (by kernel_rfl) ⟨trivial, trivial, (by omega), trivial⟩ ?_
   refine RunR.st (some 23) (.call { callee := .value (.func 76), args := #[.tmp 22], argTypes := #[94] }) (Step.cn 76 [.int .u32 ((chk 128 a i_).getD (i).toNat 0)] [] [κ 5 .u8 v os.length x os, objF l_ (.loop (R_ .busy none)), blk j 106 [ς B rs.length d], row 22 1 (ς B rs.length d) rs.length (rowsV rs), rws .u8 rs, blk ei 87 (([pt fi] : List Value) ++ (([.map (some me)] : List Value) ++ (([ς Na a.length g] : List Value) ++ (bls sl ++ ([ς Sa sn sc] : List Value))))), ν .i64 Na a, ν .i64 (subBase Na (128 * i_) (128 * i_ + (chk 128 a i_).length) 1) (chk 128 a i_)] (w_Put32_spec ((chk 128 a i_).getD (i).toNat 0) (by (refine ⟨?_, ?_⟩ <;> omega))) [] ?_)
   rintro _ _ ⟨G, F, y, rfl, rfl, R, g0, T, v0, u0⟩
   refine RunR.sil hU [] 1 5 [3, 5, 14, 15, 16, 20, 24] [(3, pt j), (5, ς v os.length x), (14, ς (subBase Na (128 * i_) (128 * i_ + (chk 128 a i_).length) 1) ((chk 128 a i_).length) ((chk 128 a i_).length)), (15, ι (((chk 128 a i_).length : Nat) : Int)), (16, ι i), (20, ς v os.length x), (24, ς G 2 F)] ((0 ≤ (2 : Int) ∧ (2 : Int) ≤ (F : Int)) ∧ True) rfl (by kernel_rfl) ⟨(by omega), trivial⟩ ?_
   obtain ⟨k, I⟩ : ∃ z : List Int, z = y.take 2 := ⟨_, rfl⟩
   have a0 : k.length = 2 := by rw [I, List.length_take]; omega
   have M : Tells (κ 5 .u8 G y.length F y) (G) (nums .u8 k) := by rw [I]; exact tells_take_nums (tells_row _ _ _ _ _ _) _
   refine RunR.ev [3, 5, 14, 15, 16, 20, 24] [(3, pt j), (5, ς v os.length x), (14, ς (subBase Na (128 * i_) (128 * i_ + (chk 128 a i_).length) 1) ((chk 128 a i_).length) ((chk 128 a i_).length)), (15, ι (((chk 128 a i_).length : Nat) : Int)), (16, ι i), (20, ς v os.length x), (24, ς G 2 F)] ?_
   refine RunR.enveq [(3, pt j), (5, ς v os.length x), (14, ς (subBase Na (128 * i_) (128 * i_ + (chk 128 a i_).length) 1) ((chk 128 a i_).length) ((chk 128 a i_).length)), (15, ι (((chk 128 a i_).length : Nat) : Int)), (16, ι i), (20, ς v os.length x), (24, ς G k.length F)] (by rw [a0]) ?_
   have j0 : In .u8 k := by rw [I]; exact T.take _
   refine RunR.st (some 25) (.call { callee := .builtin .append, args := #[.tmp 20, .tmp 24], argTypes := #[22, 22] }) (Step.append_nums hU 5 1 (.int .u8 0) .u8 1 0 v os.length x os G k.length F (κ 5 .u8 G y.length F y) k rfl rfl rfl (by kernel_rfl) (by kernel_rfl) (by kernel_rfl) (by kernel_rfl) (M) (by rfl) (by rfl) (by omega) (by omega) (by kernel_rfl) (fun A C x0 c0 => ?_))
   have f0 : (os ++ k).length = os.length + k.length := List.length_append
   refine RunR.sl hU [] 1 7 [3, 5, 14, 15, 16] [(3, pt j), (5, ς A ((os ++ k).length) C), (14, ς (subBase Na (128 * i_) (128 * i_ + (chk 128 a i_).length) 1) ((chk 128 a i_).length) ((chk 128 a i_).length)), (15, ι (((chk 128 a i_).length : Nat) : Int)), (16, ι i)] 1 ?_
   refine RunR.dn ?_
   refine kblock_n ?_
   refine kseq_n ?_
   refine RunC.region ?_
   refine RunR.sil hU [0] 2 2 [3, 5, 14, 15, 16] [(3, pt j), (5, ς A ((os ++ k).length) C), (14, ς (subBase Na (128 * i_) (128 * i_ + (chk 128 a i_).length) 1) ((chk 128 a i_).length) ((chk 128 a i_).length)), (15, ι (((chk 128 a i_).length : Nat) : Int)), (16, ι (i + 1))] ((-9223372036854775808 ≤ (i + 1) ∧ (i + 1) < 9223372036854775808) ∧ (True) ∧ True) rfl (by kernel_rfl) ⟨(by omega), trivial, trivial⟩ ?_
   refine RunR.dn ?_
   refine kloop_n _ [3, 5, 14, 15, 16] [0, 1, 1, 1, 1, 1, 1, 1] [(3, pt j), (5, ς A ((os ++ k).length) C), (14, ς (subBase Na (128 * i_) (128 * i_ + (chk 128 a i_).length) 1) ((chk 128 a i_).length) ((chk 128 a i_).length)), (15, ι (((chk 128 a i_).length : Nat) : Int)), (16, ι (i + 1))] [κ 5 .u8 A ((os ++ k).length) C (os ++ k), objF l_ (.loop (R_ .busy none)), blk j 106 [ς B rs.length d], row 22 1 (ς B rs.length d) rs.length (rowsV rs), rws .u8 rs, blk ei 87 (([pt fi] : List Value) ++ (([.map (some me)] : List Value) ++ (([ς Na a.length g] : List Value) ++ (bls sl ++ ([ς Sa sn sc] : List Value))))), ν .i64 Na a, ν .i64 (subBase Na (128 * i_) (128 * i_ + (chk 128 a i_).length) 1) (chk 128 a i_)] (by kernel_rfl) (by kernel_rfl) ?_ ⟨(i + 1), (os ++ k), A, C, (by omega), ‹_›, (by exact n2_step hi (by omega) ho rfl R I), (by rw [List.length_append]; omega), (by (repeat first | assumption | with_reducible apply In.append)), ‹_›, (fun h => c0 (by exact h)), rfl, (by rfl), (by rfl)⟩
   show (((chk 128 a i_).length - (i + 1)).toNat : Nat) < (((chk 128 a i_).length - i).toNat : Nat)
   omega
  refine RunC.exit ?_
  refine kseq_e ?_
  refine kloop_e ?_
  refine kblock_e ?_
  refine kseq_n ?_
  refine RunC.regionV hU 9 [] [] [7, 8] (bm 9 0) (by kernel_rfl) (by kernel_rfl) (by kernel_rfl) ?_
  refine RunV.sil hU false 1 (bm 9 2) 28 (ς v os.length x) (True) (by kernel_rfl) trivial (by kernel_rfl) (by kernel_rfl) (fun _ _ _ h => h) ?_
  refine RunV.sil hU false 2 (bm 9 6) 29 (ς v os.length x) (True) (by kernel_rfl) trivial (by kernel_rfl) (by kernel_rfl) (fun _ _ _ h => h) ?_
  refine RunV.sil hU false 3 (bm 9 14) 30 (ι (os.length : Int)) (True) (by kernel_rfl) trivial (by kernel_rfl) (by kernel_rfl) (fun _ _ _ h => h) ?_
  refine RunV.sil hU true 4 (bm 9 30) 31 (ι (256 - (os.length : Int))) (-9223372036854775808 ≤ (256 - (os.length : Int)) ∧ (256 - (os.length : Int)) < 9223372036854775808) (by kernel_rfl) (by omega) (by kernel_rfl) (by kernel_rfl) (fun _ _ _ h => h) ?_
  refine RunV.two (d1 := some 27) (o1 := .load 106 (.tmp 3)) (d2 := some 32) (o2 := .call { callee := .builtin .append, args := #[.tmp 28, .tmp 31], argTypes := #[22, 3] }) 0 5 (bm 9 31) (bm 9 62) [] [] (by kernel_rfl) (by kernel_rfl) (by kernel_rfl) (by kernel_rfl) (by kernel_rfl) ?_ ?_
  ·refine (Step.load_blk hU 2 j (0) 106 [ς B rs.length d] (ς B rs.length d) (by kernel_rfl) (by kernel_rfl) (by kernel_rfl) (by kernel_rfl) ?_)
   refine orL ?_
   refine RunV.one (dst := some 32) (op := .call { callee := .builtin .append, args := #[.tmp 28, .tmp 31], argTypes := #[22, 3] }) 5 (bm 9 63) [] (by kernel_rfl) (by kernel_rfl) (Step.append_zeros hU 5 1 .u8 .i64 .i64 0 v os.length x os (256 - (os.length : Int)) rfl rfl rfl (by kernel_rfl) (by kernel_rfl) (by kernel_rfl) (by rfl) (by omega) (by omega) (by omega) (by kernel_rfl) (fun f e z0 q0 => ?_))
   have r0 : (os ++ List.replicate ((256 - (os.length : Int)).toNat) (0 : Int)).length = os.length + (256 - (os.length : Int)).toNat := by rw [List.length_append, List.length_replicate]
   refine orL ?_
   refine RunV.one (dst := some 33) (op := .buildSlice 106 1 #[(0, .tmp 32)]) 6 (bm 9 127) [] (by kernel_rfl) (by kernel_rfl) (Step.lit_rows hU 22 24 (ς0) [ς f ((os ++ List.replicate ((256 - (os.length : Int)).toNat) (0 : Int)).length) e] rfl rfl (by kernel_rfl) rfl rfl (by kernel_rfl) (fun K => ?_))
   refine orL ?_
   refine RunV.one (dst := some 34) (op := .call { callee := .builtin .append, args := #[.tmp 27, .tmp 33], argTypes := #[106, 106] }) 7 (bm 9 255) [] (by kernel_rfl) (by kernel_rfl) (Step.append_rows hU 22 24 (ς0) 4 0 B rs.length d rs (ad K) 1 1 (row 22 1 (ς (ad K) 1 1) 1 (rowsV ((f, e, os ++ List.replicate ((256 - (os.length : Int)).toNat) (0 : Int)) :: []))) ((f, e, os ++ List.replicate ((256 - (os.length : Int)).toNat) (0 : Int)) :: []) (by kernel_rfl) (by kernel_rfl) (by kernel_rfl) (by kernel_rfl) (by kernel_rfl) (by kernel_rfl) (by kernel_rfl) (tells_row _ _ _ _ _ _) (by rfl) (by rfl) (by (simp only [List.length_cons, List.length_nil]; omega)) (by (simp only [List.length_cons, List.length_nil]; omega)) (by kernel_rfl) (fun s l Z S => ?_))
   have n0 : (rs ++ (f, e, os ++ List.replicate ((256 - (os.length : Int)).toNat) (0 : Int)) :: [] : List Ro).length ≤ l := Z
   have y0 : (rs ++ (f, e, os ++ List.replicate ((256 - (os.length : Int)).toNat) (0 : Int)) :: [] : List Ro).length = rs.length + 1 := by rw [List.length_append]; rfl
   refine orR ?_
   refine RunV.turn ([rws .u8 (rs ++ (f, e, os ++ List.replicate ((256 - (os.length : Int)).toNat) (0 : Int)) :: []), row 22 1 (ς s ((rs ++ (f, e, os ++ List.replicate ((256 - (os.length : Int)).toNat) (0 : Int)) :: [] : List Ro).length) l) ((rs ++ (f, e, os ++ List.replicate ((256 - (os.length : Int)).toNat) (0 : Int)) :: [] : List Ro).length) (rowsV (rs ++ (f, e, os ++ List.replicate ((256 - (os.length : Int)).toNat) (0 : Int)) :: [])), row 22 1 (ς (ad K) 1 1) 1 (rowsV ((f, e, os ++ List.replicate ((256 - (os.length : Int)).toNat) (0 : Int)) :: [])), objF l_ (.loop (R_ .busy none)), blk j 106 [ς B rs.length d], blk ei 87 (([pt fi] : List Value) ++ (([.map (some me)] : List Value) ++ (([ς Na a.length g] : List Value) ++ (bls sl ++ ([ς Sa sn sc] : List Value))))), ν .i64 Na a, ν .i64 (subBase Na (128 * i_) (128 * i_ + (chk 128 a i_).length) 1) (chk 128 a i_)]) (fun _ _ w hs => SAT.rwdPush f e (os ++ List.replicate ((256 - (os.length : Int)).toNat) (0 : Int)) rfl (tells_row _ _ _ _ _ _) (hs.pulls2 [2, 4] ([κ 5 .u8 f ((os ++ List.replicate ((256 - (os.length : Int)).toNat) (0 : Int)).length) e (os ++ List.replicate ((256 - (os.length : Int)).toNat) (0 : Int)), rws .u8 rs, row 22 1 (ς s ((rs ++ (f, e, os ++ List.replicate ((256 - (os.length : Int)).toNat) (0 : Int)) :: [] : List Ro).length) l) ((rs ++ (f, e, os ++ List.replicate ((256 - (os.length : Int)).toNat) (0 : Int)) :: [] : List Ro).length) (rowsV (rs ++ (f, e, os ++ List.replicate ((256 - (os.length : Int)).toNat) (0 : Int)) :: [])), row 22 1 (ς (ad K) 1 1) 1 (rowsV ((f, e, os ++ List.replicate ((256 - (os.length : Int)).toNat) (0 : Int)) :: [])), objF l_ (.loop (R_ .busy none)), blk j 106 [ς B rs.length d], blk ei 87 (([pt fi] : List Value) ++ (([.map (some me)] : List Value) ++ (([ς Na a.length g] : List Value) ++ (bls sl ++ ([ς Sa sn sc] : List Value))))), ν .i64 Na a, ν .i64 (subBase Na (128 * i_) (128 * i_ + (chk 128 a i_).length) 1) (chk 128 a i_)]) (by kernel_rfl))) ?_
   refine RunV.one (dst := none) (op := .store 106 (.tmp 3) (.tmp 34)) 8 (bm 9 511) [] (by kernel_rfl) (by kernel_rfl) (Step.store_blk hU 4 j 0 106 [ς B rs.length d] (ς s ((rs ++ (f, e, os ++ List.replicate ((256 - (os.length : Int)).toNat) (0 : Int)) :: [] : List Ro).length) l) (by kernel_rfl) (by kernel_rfl) (by kernel_rfl) 1 rfl [ς s ((rs ++ (f, e, os ++ List.replicate ((256 - (os.length : Int)).toNat) (0 : Int)) :: [] : List Ro).length) l] (by kernel_rfl) rfl (by kernel_rfl) (by simp) ?_)
   refine orR ?_
   refine RunV.env [] [] (by kernel_rfl) ?_
   refine RunV.done (by kernel_rfl) ?_
   refine kblock_n ?_
   refine kyield_n _ [4, 0, 1, 0, 1] [objF l_ (.loop (R_ .busy none)), blk j 106 [ς s ((rs ++ (f, e, os ++ List.replicate ((256 - (os.length : Int)).toNat) (0 : Int)) :: [] : List Ro).length) l], row 22 1 (ς s ((rs ++ (f, e, os ++ List.replicate ((256 - (os.length : Int)).toNat) (0 : Int)) :: [] : List Ro).length) l) ((rs ++ (f, e, os ++ List.replicate ((256 - (os.length : Int)).toNat) (0 : Int)) :: [] : List Ro).length) (rowsV (rs ++ (f, e, os ++ List.replicate ((256 - (os.length : Int)).toNat) (0 : Int)) :: [])), rws .u8 (rs ++ (f, e, os ++ List.replicate ((256 - (os.length : Int)).toNat) (0 : Int)) :: []), blk ei 87 (([pt fi] : List Value) ++ (([.map (some me)] : List Value) ++ (([ς Na a.length g] : List Value) ++ (bls sl ++ ([ς Sa sn sc] : List Value)))))] (by kernel_rfl) ⟨(rs ++ (f, e, os ++ List.replicate ((256 - (os.length : Int)).toNat) (0 : Int)) :: []), s, l, (by exact tab_next hr (n2_end ho (by omega) (by omega))), (by exact hK.app (by exact In.append ‹_› (In.replicate _ _)) (by omega) (by omega)), ‹_›, (fun h => S (by exact h)), (by rw [List.length_append, hrl]; rfl), (by rfl)⟩ rfl
  refine (Step.append_zeros hU 5 1 .u8 .i64 .i64 0 v os.length x os (256 - (os.length : Int)) rfl rfl rfl (by kernel_rfl) (by kernel_rfl) (by kernel_rfl) (by rfl) (by omega) (by omega) (by omega) (by kernel_rfl) (fun b c o0 k0 => ?_))
  have m0 : (os ++ List.replicate ((256 - (os.length : Int)).toNat) (0 : Int)).length = os.length + (256 - (os.length : Int)).toNat := by rw [List.length_append, List.length_replicate]
  refine orL ?_
  refine RunV.two (d1 := some 27) (o1 := .load 106 (.tmp 3)) (d2 := some 33) (o2 := .buildSlice 106 1 #[(0, .tmp 32)]) 0 6 (bm 9 63) (bm 9 126) [] [] (by kernel_rfl) (by kernel_rfl) (by kernel_rfl) (by kernel_rfl) (by kernel_rfl) ?_ ?_
  ·refine (Step.load_blk hU 2 j (0) 106 [ς B rs.length d] (ς B rs.length d) (by kernel_rfl) (by kernel_rfl) (by kernel_rfl) (by kernel_rfl) ?_)
   refine orL ?_
   refine RunV.one (dst := some 33) (op := .buildSlice 106 1 #[(0, .tmp 32)]) 6 (bm 9 127) [] (by kernel_rfl) (by kernel_rfl) (Step.lit_rows hU 22 24 (ς0) [ς b ((os ++ List.replicate ((256 - (os.length : Int)).toNat) (0 : Int)).length) c] rfl rfl (by kernel_rfl) rfl rfl (by kernel_rfl) (fun N => ?_))
   refine orL ?_
   refine RunV.one (dst := some 34) (op := .call { callee := .builtin .append, args := #[.tmp 27, .tmp 33], argTypes := #[106, 106] }) 7 (bm 9 255) [] (by kernel_rfl) (by kernel_rfl) (Step.append_rows hU 22 24 (ς0) 4 0 B rs.length d rs (ad N) 1 1 (row 22 1 (ς (ad N) 1 1) 1 (rowsV ((b, c, os ++ List.replicate ((256 - (os.length : Int)).toNat) (0 : Int)) :: []))) ((b, c, os ++ List.replicate ((256 - (os.length : Int)).toNat) (0 : Int)) :: []) (by kernel_rfl) (by kernel_rfl) (by kernel_rfl) (by kernel_rfl) (by kernel_rfl) (by kernel_rfl) (by kernel_rfl) (tells_row _ _ _ _ _ _) (by rfl) (by rfl) (by (simp only [List.length_cons, List.length_nil]; omega)) (by (simp only [List.length_cons, List.length_nil]; omega)) (by kernel_rfl) (fun u m V X => ?_))
   have p0 : (rs ++ (b, c, os ++ List.replicate ((256 - (os.length : Int)).toNat) (0 : Int)) :: [] : List Ro).length ≤ m := V
   have t0 : (rs ++ (b, c, os ++ List.replicate ((256 - (os.length : Int)).toNat) (0 : Int)) :: [] : List Ro).length = rs.length + 1 := by rw [List.length_append]; rfl
   refine orR ?_
   refine RunV.turn ([rws .u8 (rs ++ (b, c, os ++ List.replicate ((256 - (os.length : Int)).toNat) (0 : Int)) :: []), row 22 1 (ς u ((rs ++ (b, c, os ++ List.replicate ((256 - (os.length : Int)).toNat) (0 : Int)) :: [] : List Ro).length) m) ((rs ++ (b, c, os ++ List.replicate ((256 - (os.length : Int)).toNat) (0 : Int)) :: [] : List Ro).length) (rowsV (rs ++ (b, c, os ++ List.replicate ((256 - (os.length : Int)).toNat) (0 : Int)) :: [])), row 22 1 (ς (ad N) 1 1) 1 (rowsV ((b, c, os ++ List.replicate ((256 - (os.length : Int)).toNat) (0 : Int)) :: [])), objF l_ (.loop (R_ .busy none)), blk j 106 [ς B rs.length d], blk ei 87 (([pt fi] : List Value) ++ (([.map (some me)] : List Value) ++ (([ς Na a.length g] : List Value) ++ (bls sl ++ ([ς Sa sn sc] : List Value))))), ν .i64 Na a, ν .i64 (subBase Na (128 * i_) (128 * i_ + (chk 128 a i_).length) 1) (chk 128 a i_)]) (fun _ _ w hs => SAT.rwdPush b c (os ++ List.replicate ((256 - (os.length : Int)).toNat) (0 : Int)) rfl (tells_row _ _ _ _ _ _) (hs.pulls2 [2, 4] ([κ 5 .u8 b ((os ++ List.replicate ((256 - (os.length : Int)).toNat) (0 : Int)).length) c (os ++ List.replicate ((256 - (os.length : Int)).toNat) (0 : Int)), rws .u8 rs, row 22 1 (ς u ((rs ++ (b, c, os ++ List.replicate ((256 - (os.length : Int)).toNat) (0 : Int)) :: [] : List Ro).length) m) ((rs ++ (b, c, os ++ List.replicate ((256 - (os.length : Int)).toNat) (0 : Int)) :: [] : List Ro).length) (rowsV (rs ++ (b, c, os ++ List.replicate ((256 - (os.length : Int)).toNat) (0 : Int)) :: [])), row 22 1 (ς (ad N) 1 1) 1 (rowsV ((b, c, os ++ List.replicate ((256 - (os.length : Int)).toNat) (0 : Int)) :: [])), objF l_ (.loop (R_ .busy none)), blk j 106 [ς B rs.length d], blk ei 87 (([pt fi] : List Value) ++ (([.map (some me)] : List Value) ++ (([ς Na a.length g] : List Value) ++ (bls sl ++ ([ς Sa sn sc] : List Value))))), ν .i64 Na a, ν .i64 (subBase Na (128 * i_) (128 * i_ + (chk 128 a i_).length) 1) (chk 128 a i_)]) (by kernel_rfl))) ?_
   refine RunV.one (dst := none) (op := .store 106 (.tmp 3) (.tmp 34)) 8 (bm 9 511) [] (by kernel_rfl) (by kernel_rfl) (Step.store_blk hU 4 j 0 106 [ς B rs.length d] (ς u ((rs ++ (b, c, os ++ List.replicate ((256 - (os.length : Int)).toNat) (0 : Int)) :: [] : List Ro).length) m) (by kernel_rfl) (by kernel_rfl) (by kernel_rfl) 1 rfl [ς u ((rs ++ (b, c, os ++ List.replicate ((256 - (os.length : Int)).toNat) (0 : Int)) :: [] : List Ro).length) m] (by kernel_rfl) rfl (by kernel_rfl) (by simp) ?_)
   refine orR ?_
   refine RunV.env [] [] (by kernel_rfl) ?_
   refine RunV.done (by kernel_rfl) ?_
   refine kblock_n ?_
   refine kyield_n _ [4, 0, 1, 0, 1] [objF l_ (.loop (R_ .busy none)), blk j 106 [ς u ((rs ++ (b, c, os ++ List.replicate ((256 - (os.length : Int)).toNat) (0 : Int)) :: [] : List Ro).length) m], row 22 1 (ς u ((rs ++ (b, c, os ++ List.replicate ((256 - (os.length : Int)).toNat) (0 : Int)) :: [] : List Ro).length) m) ((rs ++ (b, c, os ++ List.replicate ((256 - (os.length : Int)).toNat) (0 : Int)) :: [] : List Ro).length) (rowsV (rs ++ (b, c, os ++ List.replicate ((256 - (os.length : Int)).toNat) (0 : Int)) :: [])), rws .u8 (rs ++ (b, c, os ++ List.replicate ((256 - (os.length : Int)).toNat) (0 : Int)) :: []), blk ei 87 (([pt fi] : List Value) ++ (([.map (some me)] : List Value) ++ (([ς Na a.length g] : List Value) ++ (bls sl ++ ([ς Sa sn sc] : List Value)))))] (by kernel_rfl) ⟨(rs ++ (b, c, os ++ List.replicate ((256 - (os.length : Int)).toNat) (0 : Int)) :: []), u, m, (by exact tab_next hr (n2_end ho (by omega) (by omega))), (by exact hK.app (by exact In.append ‹_› (In.replicate _ _)) (by omega) (by omega)), ‹_›, (fun h => X (by exact h)), (by rw [List.length_append, hrl]; rfl), (by rfl)⟩ rfl
  refine (Step.lit_rows hU 22 24 (ς0) [ς b ((os ++ List.replicate ((256 - (os.length : Int)).toNat) (0 : Int)).length) c] rfl rfl (by kernel_rfl) rfl rfl (by kernel_rfl) (fun L => ?_))
  refine orL ?_
  refine RunV.one (dst := some 27) (op := .load 106 (.tmp 3)) 0 (bm 9 127) [] (by kernel_rfl) (by kernel_rfl) (Step.load_blk hU 3 j (0) 106 [ς B rs.length d] (ς B rs.length d) (by kernel_rfl) (by kernel_rfl) (by kernel_rfl) (by kernel_rfl) ?_)
  refine orL ?_
  refine RunV.one (dst := some 34) (op := .call { callee := .builtin .append, args := #[.tmp 27, .tmp 33], argTypes := #[106, 106] }) 7 (bm 9 255) [] (by kernel_rfl) (by kernel_rfl) (Step.append_rows hU 22 24 (ς0) 4 0 B rs.length d rs (ad L) 1 1 (row 22 1 (ς (ad L) 1 1) 1 (rowsV ((b, c, os ++ List.replicate ((256 - (os.length : Int)).toNat) (0 : Int)) :: []))) ((b, c, os ++ List.replicate ((256 - (os.length : Int)).toNat) (0 : Int)) :: []) (by kernel_rfl) (by kernel_rfl) (by kernel_rfl) (by kernel_rfl) (by kernel_rfl) (by kernel_rfl) (by kernel_rfl) (tells_row _ _ _ _ _ _) (by rfl) (by rfl) (by (simp only [List.length_cons, List.length_nil]; omega)) (by (simp only [List.length_cons, List.length_nil]; omega)) (by kernel_rfl) (fun t q Y b0 => ?_))
  have h0 : (rs ++ (b, c, os ++ List.replicate ((256 - (os.length : Int)).toNat) (0 : Int)) :: [] : List Ro).length ≤ q := Y
  have l0 : (rs ++ (b, c, os ++ List.replicate ((256 - (os.length : Int)).toNat) (0 : Int)) :: [] : List Ro).length = rs.length + 1 := by rw [List.length_append]; rfl
  refine orR ?_
  refine RunV.turn ([rws .u8 (rs ++ (b, c, os ++ List.replicate ((256 - (os.length : Int)).toNat) (0 : Int)) :: []), row 22 1 (ς t ((rs ++ (b, c, os ++ List.replicate ((256 - (os.length : Int)).toNat) (0 : Int)) :: [] : List Ro).length) q) ((rs ++ (b, c, os ++ List.replicate ((256 - (os.length : Int)).toNat) (0 : Int)) :: [] : List Ro).length) (rowsV (rs ++ (b, c, os ++ List.replicate ((256 - (os.length : Int)).toNat) (0 : Int)) :: [])), row 22 1 (ς (ad L) 1 1) 1 (rowsV ((b, c, os ++ List.replicate ((256 - (os.length : Int)).toNat) (0 : Int)) :: [])), objF l_ (.loop (R_ .busy none)), blk j 106 [ς B rs.length d], blk ei 87 (([pt fi] : List Value) ++ (([.map (some me)] : List Value) ++ (([ς Na a.length g] : List Value) ++ (bls sl ++ ([ς Sa sn sc] : List Value))))), ν .i64 Na a, ν .i64 (subBase Na (128 * i_) (128 * i_ + (chk 128 a i_).length) 1) (chk 128 a i_)]) (fun _ _ w hs => SAT.rwdPush b c (os ++ List.replicate ((256 - (os.length : Int)).toNat) (0 : Int)) rfl (tells_row _ _ _ _ _ _) (hs.pulls2 [2, 4] ([κ 5 .u8 b ((os ++ List.replicate ((256 - (os.length : Int)).toNat) (0 : Int)).length) c (os ++ List.replicate ((256 - (os.length : Int)).toNat) (0 : Int)), rws .u8 rs, row 22 1 (ς t ((rs ++ (b, c, os ++ List.replicate ((256 - (os.length : Int)).toNat) (0 : Int)) :: [] : List Ro).length) q) ((rs ++ (b, c, os ++ List.replicate ((256 - (os.length : Int)).toNat) (0 : Int)) :: [] : List Ro).length) (rowsV (rs ++ (b, c, os ++ List.replicate ((256 - (os.length : Int)).toNat) (0 : Int)) :: [])), row 22 1 (ς (ad L) 1 1) 1 (rowsV ((b, c, os ++ List.replicate ((256 - (os.length : Int)).toNat) (0 : Int)) :: [])), objF l_ (.loop (R_ .busy none)), blk j 106 [ς B rs.length d], blk ei 87 (([pt fi] : List Value) ++ (([.map (some me)] : List Value) ++ (([ς Na a.length g] : List Value) ++ (bls sl ++ ([ς Sa sn sc] : List Value))))), ν .i64 Na a, ν .i64 (subBase Na (128 * i_) (128 * i_ + (chk 128 a i_).length) 1) (chk 128 a i_)]) (by kernel_rfl))) ?_
  refine RunV.one (dst := none) (op := .store 106 (.tmp 3) (.tmp 34)) 8 (bm 9 511) [] (by kernel_rfl) (by kernel_rfl) (Step.store_blk hU 4 j 0 106 [ς B rs.length d] (ς t ((rs ++ (b, c, os ++ List.replicate ((256 - (os.length : Int)).toNat) (0 : Int)) :: [] : List Ro).length) q) (by kernel_rfl) (by kernel_rfl) (by kernel_rfl) 1 rfl [ς t ((rs ++ (b, c, os ++ List.replicate ((256 - (os.length : Int)).toNat) (0 : Int)) :: [] : List Ro).length) q] (by kernel_rfl) rfl (by kernel_rfl) (by simp) ?_)
  refine orR ?_
  refine RunV.env [] [] (by kernel_rfl) ?_
  refine RunV.done (by kernel_rfl) ?_
  refine kblock_n ?_
  refine kyield_n _ [4, 0, 1, 0, 1] [objF l_ (.loop (R_ .busy none)), blk j 106 [ς t ((rs ++ (b, c, os ++ List.replicate ((256 - (os.length : Int)).toNat) (0 : Int)) :: [] : List Ro).length) q], row 22 1 (ς t ((rs ++ (b, c, os ++ List.replicate ((256 - (os.length : Int)).toNat) (0 : Int)) :: [] : List Ro).length) q) ((rs ++ (b, c, os ++ List.replicate ((256 - (os.length : Int)).toNat) (0 : Int)) :: [] : List Ro).length) (rowsV (rs ++ (b, c, os ++ List.replicate ((256 - (os.length : Int)).toNat) (0 : Int)) :: [])), rws .u8 (rs ++ (b, c, os ++ List.replicate ((256 - (os.length : Int)).toNat) (0 : Int)) :: []), blk ei 87 (([pt fi] : List Value) ++ (([.map (some me)] : List Value) ++ (([ς Na a.length g] : List Value) ++ (bls sl ++ ([ς Sa sn sc] : List Value)))))] (by kernel_rfl) ⟨(rs ++ (b, c, os ++ List.replicate ((256 - (os.length : Int)).toNat) (0 : Int)) :: []), t, q, (by exact tab_next hr (n2_end ho (by omega) (by omega))), (by exact hK.app (by exact In.append ‹_› (In.replicate _ _)) (by omega) (by omega)), ‹_›, (fun h => b0 (by exact h)), (by rw [List.length_append, hrl]; rfl), (by rfl)⟩ rfl
 intro _ hp_
 obtain ⟨rs, B, d, hr, hK, hd, hB, hrl, rfl⟩ := hp_
 refine kblock_n ?_
 refine kseq_n ?_
 refine RunC.sr ?_
 refine RunR.st (some 35) (.load 106 (.tmp 3)) (Step.load_blk hU 0 j (0) 106 [ς B rs.length d] (ς B rs.length d) (by kernel_rfl) (by kernel_rfl) (by kernel_rfl) (by kernel_rfl) ?_)
 refine RunR.sl hU [] 1 2 [2] [(2, ς B rs.length d)] 1 ?_
 refine RunR.nn ?_
 refine RunC.ret ?_
 refine kret_r [ς B rs.length d] [1, 1, 1] [row 22 1 (ς B rs.length d) rs.length (rowsV rs), rws .u8 rs, blk ei 87 (([pt fi] : List Value) ++ (([.map (some me)] : List Value) ++ (([ς Na a.length g] : List Value) ++ (bls sl ++ ([ς Sa sn sc] : List Value)))))] ⟨rfl, trivial⟩ (by kernel_rfl) rfl ⟨B, rs.length, d, rs, rfl, rfl, (by rw [hr, tabB]), ‹_›, (by rfl), ‹_›, ‹_›, ‹_›⟩
end Go.Proofs.Ytlibhidhfbecbaa.LFileOne
