import Derived.Test.YtlibhidhfbecbaaOnePure
import Derived.Test.YtlibhidhfbecbaaProg
import Derived.Test.YtlibhidhfbecbaaY3
namespace Go.Proofs.Ytlibhidhfbecbaa.LFileOne
open Go Go.Proofs.Ytlibhidhfbecbaa.SL Go.Proofs.Ytlibhidhfbecbaa.SL.W Go.Proofs.Ytlibhidhfbecbaa.SL.D Go.Proofs.Ytlibhidhfbecbaa.SL.I Go.Proofs.Ytlibhidhfbecbaa.XT
set_option linter.unusedVariables false
set_option linter.unusedSimpArgs false
set_option maxRecDepth 100000
set_option maxHeartbeats 40000000
theorem fl_kit_it (mp : Nat) (Fs : List Fe) (fc : Nat) (bi : Nat) (hFe : FeOK Fs) (hFm : FMOK Fs fc) :
 IterL Try.prog 43 [pt bi] (ε := Fe) (fun es x => x ∈ Fs ∧ x.born ∉ es.map (·.born)) (fun i_ e_ => [.string e_.nm]) (fun es => es.Perm Fs) [blk bi 48 [.map (some mp)], mpf mp (Fs.map feM) fc] [] [mpf mp (Fs.map feM) fc] := by
 intro l B Sx S hB hSx hS hY
 refine CallsS.enter hU Try.f43 _ [] 14 Try.func43 rfl (by decide) rfl rfl (by kernel_rfl) fun j W => ?_
 refine RunC.only [0, 0, 0, 0] [S [], blk bi 48 [.map (some mp)], mpf mp (Fs.map feM) fc, B] (by kernel_rfl) ?_
 refine RunC.sr ?_
 refine RunR.st (some 4) (.load 48 (.tmp 1)) (Step.load_blk hU 1 bi (0) 48 [.map (some mp)] (.map (some mp)) (by kernel_rfl) (by kernel_rfl) (by kernel_rfl) (by kernel_rfl) ?_)
 refine RunR.st (some 5) (.range 48 (.tmp 4)) (Step.rangeFe hU 2 9 63 mp fc Fs (by kernel_rfl) (by kernel_rfl) (by kernel_rfl) (by kernel_rfl) (fun a => ?_))
 refine RunR.nn ?_
 refine RunC.block ?_
 refine RunC.env [0, 5] [(0, .func (.yield l) #[] #[]), (5, pt a)] (by kernel_rfl) ?_
 refine RunC.only [1, 0, 0, 0, 0] [S [], ite a mp fc ([] : List Fe), blk bi 48 [.map (some mp)], mpf mp (Fs.map feM) fc, B] (by kernel_rfl) ?_
 refine RunC.loop (σ := Nat) (fun n_ t_ D_ => ∃ (es : List Fe), (MetF Fs es) ∧ n_ = (Fs.length - es.length : Nat) ∧ t_ = [(0, .func (.yield l) #[] #[]), (5, pt a)] ∧ D_ = [S es, ite a mp fc es, blk bi 48 [.map (some mp)], mpf mp (Fs.map feM) fc, B]) id _ ⟨([] : List Fe), (by exact MetF.nil _), rfl, rfl, rfl⟩ ?_
 rintro n_ _ _ ⟨es, hes, rfl, rfl, rfl⟩
 refine RunC.sr ?_
 refine RunR.st (some 6) (.next (.tmp 5) false) (Step.nextFe 1 3 a mp fc Fs es (by kernel_rfl) (by kernel_rfl) (by kernel_rfl) (by assumption : FMOK Fs fc) (by kernel_rfl) (fun i => ?_) (fun e f g => ?_))
 ·refine RunR.sl hU [] 1 2 [0, 5, 7] [(0, .func (.yield l) #[] #[]), (5, pt a), (7, η false)] 1 ?_
  refine RunR.nn ?_
  refine RunC.seq ?_
  refine RunC.cond (b := false) (by kernel_rfl) (fun h => by cases h) (fun _ => ?_)
  refine RunC.exit ?_
  refine kseq_e ?_
  refine kloop_e ?_
  refine kblock_e ?_
  refine kret_n [] [0, 2] [S es, mpf mp (Fs.map feM) fc] trivial (by kernel_rfl) (by rw [List.all_cons, hS, Bool.true_and]; rfl) (.inl ⟨es, by exact hes.all hFm i, rfl⟩)
 refine RunR.sl hU [] 1 2 [0, 5, 7] [(0, .func (.yield l) #[] #[]), (5, pt a), (7, η true)] 1 ?_
 refine RunR.nn ?_
 refine RunC.seq ?_
 refine RunC.cond (b := true) (by kernel_rfl) (fun _ => ?_) (fun h => by cases h)
 refine RunC.ks ?_
 refine RunC.block ?_
 refine RunC.sr ?_
 refine RunR.st (some 8) (.entry (.tmp 5)) (Step.entryFe 0 3 a mp fc Fs es e (by kernel_rfl) (by kernel_rfl) (by kernel_rfl) (by assumption : FMOK Fs fc) f (by kernel_rfl) ?_)
 refine RunR.sl hU [] 2 3 [0, 3, 5] [(0, .func (.yield l) #[] #[]), (3, .string e.nm), (5, pt a)] 2 ?_
 refine RunR.nx ?_
 refine RunR.sl hU [] 2 2 [0, 5, 10, 11] [(0, .func (.yield l) #[] #[]), (5, pt a), (10, .func (.yield l) #[] #[]), (11, .string e.nm)] 2 ?_
 refine RunR.yield (d := some 12) (c := (.tmp 10)) (os_ := #[.tmp 11]) (ts := #[9]) l [.string e.nm] (by kernel_rfl) (by kernel_rfl) (by kernel_rfl) (by kernel_rfl) [S es] [B] [ite a mp fc (es ++ [e]), blk bi 48 [.map (some mp)], mpf mp (Fs.map feM) fc, B] (hY es e (⟨by assumption, by assumption⟩)) [1] (by kernel_rfl) ((Lend.nil _).same 3 B (by kernel_rfl) hB) ?_
 rintro _ _ (⟨rfl, rfl⟩ | ⟨rfl, rfl⟩)
 ·refine RunR.sl hU [] 1 4 [0, 5, 13] [(0, .func (.yield l) #[] #[]), (5, pt a), (13, η false)] 1 ?_
  refine RunR.nn ?_
  refine RunC.cond (b := false) (by kernel_rfl) (fun h => by cases h) (fun _ => ?_)
  refine RunC.skip ?_
  refine kblock_n ?_
  refine kloop_n _ [0, 5] [0, 0, 0, 0, 0] [(0, .func (.yield l) #[] #[]), (5, pt a)] [S (es ++ [e]), ite a mp fc (es ++ [e]), blk bi 48 [.map (some mp)], mpf mp (Fs.map feM) fc, B] (by kernel_rfl) (by kernel_rfl) ?_ ⟨(es ++ [e]), (by exact hes.snoc f g), rfl, (by first | rfl | simp only [List.length_set]), (by first | rfl | simp only [List.length_set])⟩
  show (Fs.length - (es ++ [e]).length : Nat) < (Fs.length - es.length : Nat)
  have h_ := hes.lt ‹_› ‹_›; rw [List.length_append, List.length_singleton]; omega
 refine RunR.sl hU [] 1 4 [0, 5, 13] [(0, .func (.yield l) #[] #[]), (5, pt a), (13, η true)] 1 ?_
 refine RunR.nn ?_
 refine RunC.cond (b := true) (by kernel_rfl) (fun _ => ?_) (fun h => by cases h)
 refine RunC.ret ?_
 refine kblock_r ?_
 refine kloop_r ?_
 refine kblock_r ?_
 refine kret_r [] [0, 2] [Sx, mpf mp (Fs.map feM) fc] trivial (by kernel_rfl) (by rw [List.all_cons, hSx, Bool.true_and]; rfl) (.inr rfl)
theorem fl_Keys_spec (mp : Nat) :
 CallsS Try.prog 21 [.map (some mp)] [] (fun r D => ∃ (bi : Nat), r = .func (.func 43) #[] #[pt bi] ∧ D = [blk bi 48 [.map (some mp)]]) := by
 refine CallsS.enter hU Try.f21 _ [.tmp 2] 4 Try.func21 rfl (by decide) rfl rfl (by kernel_rfl) fun b W => ?_
 refine RunC.sr ?_
 refine RunR.st (some 1) (.box 48 (.tmp 0)) (Step.box (.map (some mp)) (by kernel_rfl) (by kernel_rfl) (fun a => ?_))
 refine RunR.sl hU [] 1 2 [1, 2] [(1, pt a), (2, .nilFunc)] 1 ?_
 refine RunR.nx ?_
 refine RunR.sl hU [] 2 2 [2] [(2, .func (.func 43) #[] #[pt a])] 2 ?_
 refine RunR.nn ?_
 refine RunC.ret ?_
 refine kret_r [.func (.func 43) #[] #[pt a]] [0] [blk a 48 [.map (some mp)]] ⟨rfl, trivial⟩ (by kernel_rfl) rfl ⟨a, rfl, rfl⟩
theorem fl_ASq_spec (mp : Nat) (Fs : List Fe) (fc : Nat) (bi : Nat) (hFe : FeOK Fs) (hFm : FMOK Fs fc) (hFn : Fs.length ≤ 100000) :
 CallsS Try.prog 64 [ς0, .func (.func 43) #[] #[pt bi]] [blk bi 48 [.map (some mp)], mpf mp (Fs.map feM) fc] (fun r D => ∃ (j : Option Addr) (l : Nat) (zs : List ByteArray), r = ς j zs.length l ∧ D = [row 9 1 (ς j zs.length l) zs.length (strV zs), mpf mp (Fs.map feM) fc] ∧ (zs.Perm (Fs.map (·.nm))) ∧ (zs.length ≤ l) ∧ (0 < zs.length → Option.isSome j = true)) := by
 refine CallsS.enter hU Try.f64 _ [.tmp 4] 13 Try.func64 rfl (by decide) rfl rfl (by kernel_rfl) fun p W => ?_
 refine RunC.sr ?_
 refine RunR.st (some 2) (.box 33 (.tmp 0)) (Step.box (ς0) (by kernel_rfl) (by kernel_rfl) (fun c => ?_))
 refine RunR.sl hU [] 1 2 [1, 2, 4] [(1, .func (.func 43) #[] #[pt bi]), (2, pt c), (4, ς0)] 1 ?_
 refine RunR.nn ?_
 refine RunC.seq ?_
 refine RunC.sr ?_
 refine RunR.sl hU [] 1 1 [2, 4, 6] [(2, pt c), (4, ς0), (6, .func (.func 43) #[] #[pt bi])] 1 ?_
 refine RunR.nn ?_
 refine RunC.block ?_
 refine RunC.turn ([row 9 1 (ς0) 0 (strV ([] : List ByteArray)), blk c 33 [ς0], blk bi 48 [.map (some mp)], mpf mp (Fs.map feM) fc]) (fun _ _ w hs => hs.nil_row 9 1) ?_
 refine RunC.env [2, 4, 6] [(2, pt c), (4, ς0), (6, .func (.func 43) #[] #[pt bi])] (by kernel_rfl) ?_
 refine RunC.rangeFuncL (α := List Fact) (β := List Fact) 43 [pt bi] (by kernel_rfl) (ε := Fe) (fun es x => x ∈ Fs ∧ x.born ∉ es.map (·.born)) (fun i_ e_ => [.string e_.nm]) (fun es => es.Perm Fs) [blk bi 48 [.map (some mp)], mpf mp (Fs.map feM) fc] [] [mpf mp (Fs.map feM) fc] (fl_kit_it mp Fs fc bi ‹_› ‹_›) (fun i_ D_ => ∃ (os : List ByteArray) (a : Option Addr) (b : Nat), (os = i_.map (·.nm)) ∧ (MetF Fs i_) ∧ (os.length ≤ b) ∧ (0 < os.length → Option.isSome a = true) ∧ D_ = [blk c 33 [ς a os.length b], row 9 1 (ς a os.length b) os.length (strV os)]) (fun D_ => D_) .ret (fun (_ : List Fact) => False) (fun D_ => D_) [] [] [blk c 33 [ς0], row 9 1 (ς0) 0 (strV ([] : List ByteArray))] ⟨([] : List ByteArray), none, 0, (by rfl), (by exact MetF.nil _), (by exact Nat.zero_le _), (by intro h; simp at h), rfl⟩ [1, 0, 0, 0] (by kernel_rfl) (Lend.nil _) (by simp) (Lend.nil _) (fun i_ D_ hp_ f_ hf_ => by obtain ⟨_, _, _, _, _, _, _, rfl⟩ := hp_; exact List.all_eq_true.1 (by rfl : List.all _ (·.own) = true) f_ hf_) (fun _ h => h.elim) (fun _ _ => rfl) (by rfl) ?_ ?_ (fun _ h => h.elim)
 ·intro l_ R_ i_ e_ _ hlt_ hp_
  obtain ⟨os, a, b, ho, hol, k, i, rfl⟩ := hp_
  refine RunC.env [2, 4, 6, 7] [(2, pt c), (4, ς0), (6, .func (.func 43) #[] #[pt bi]), (7, .string e_.nm)] (by kernel_rfl) ?_
  refine RunC.only [0, 0, 0] [objF l_ (.loop (R_ .ready none)), blk c 33 [ς a os.length b], row 9 1 (ς a os.length b) os.length (strV os)] (by kernel_rfl) ?_
  have hln_ := hol.le
  have m : os.length = i_.length := by rw [ho, List.length_map]
  refine RunC.region ?_
  refine RunR.sl hU [] 1 1 [2, 5] [(2, pt c), (5, .string e_.nm)] 1 ?_
  refine RunR.dn ?_
  refine kassign_n 0 (by kernel_rfl) ?_
  refine RunC.block ?_
  refine RunC.region ?_
  refine RunR.st (some 8) (.load 33 (.tmp 2)) (Step.load_blk hU 1 c (0) 33 [ς a os.length b] (ς a os.length b) (by kernel_rfl) (by kernel_rfl) (by kernel_rfl) (by kernel_rfl) ?_)
  refine RunR.sl hU [] 1 2 [2, 8, 9] [(2, pt c), (8, ς a os.length b), (9, .string e_.nm)] 1 ?_
  refine RunR.st (some 10) (.buildSlice 33 1 #[(0, .tmp 9)]) (Step.lit_vals hU 9 16 (.string ⟨#[]⟩) (strV ([e_.nm] : List ByteArray)) (by kernel_rfl) (by kernel_rfl) (by kernel_rfl) (by simp [strV, Value.cells]) rfl rfl (by kernel_rfl) (fun n => ?_))
  refine RunR.st (some 11) (.call { callee := .builtin .append, args := #[.tmp 8, .tmp 10], argTypes := #[33, 33] }) (Step.append_strs hU 9 16 (.string ⟨#[]⟩) 3 0 a os.length b os (ad n) 1 1 (row 9 1 (ς (ad n) 1 1) 1 (strV ([e_.nm] : List ByteArray))) ([e_.nm] : List ByteArray) (by kernel_rfl) (by kernel_rfl) (by kernel_rfl) (by kernel_rfl) (by kernel_rfl) (by kernel_rfl) (by kernel_rfl) (tells_row _ _ _ _ _ _) (by rfl) (by rfl) (by (simp only [List.length_cons, List.length_nil] at *; omega)) (by (simp only [List.length_cons, List.length_nil] at *; omega)) (by kernel_rfl) (fun d e o f => ?_))
  have g : (os ++ ([e_.nm] : List ByteArray)).length = os.length + ([e_.nm] : List ByteArray).length := List.length_append
  simp only [List.length_cons, List.length_nil] at g
  refine RunR.st none (.store 33 (.tmp 2) (.tmp 11)) (Step.store_blk hU 3 c 0 33 [ς a os.length b] (ς d ((os ++ ([e_.nm] : List ByteArray)).length) e) (by kernel_rfl) (by kernel_rfl) (by kernel_rfl) 1 rfl [ς d ((os ++ ([e_.nm] : List ByteArray)).length) e] (by kernel_rfl) rfl (by kernel_rfl) (by simp) ?_)
  refine RunR.dn ?_
  refine kblock_n ?_
  refine kyield_n _ [3, 0, 0] [objF l_ (.loop (R_ .busy none)), blk c 33 [ς d ((os ++ ([e_.nm] : List ByteArray)).length) e], row 9 1 (ς d ((os ++ ([e_.nm] : List ByteArray)).length) e) ((os ++ ([e_.nm] : List ByteArray)).length) (strV (os ++ ([e_.nm] : List ByteArray)))] (by kernel_rfl) ⟨(os ++ ([e_.nm] : List ByteArray)), d, e, (by rw [ho, List.map_append]; rfl), (by exact hol.snoc hlt_.1 hlt_.2), ‹_›, (fun h => f (by exact h)), (by rfl)⟩ rfl
 intro i_ _ hfin_ hp_
 obtain ⟨os, a, b, ho, hol, k, i, rfl⟩ := hp_
 refine kblock_n ?_
 refine kseq_n ?_
 refine RunC.sr ?_
 refine RunR.st (some 12) (.load 33 (.tmp 2)) (Step.load_blk hU 0 c (0) 33 [ς a os.length b] (ς a os.length b) (by kernel_rfl) (by kernel_rfl) (by kernel_rfl) (by kernel_rfl) ?_)
 refine RunR.sl hU [] 1 2 [4] [(4, ς a os.length b)] 1 ?_
 refine RunR.nn ?_
 refine RunC.ret ?_
 refine kret_r [ς a os.length b] [1, 1] [row 9 1 (ς a os.length b) os.length (strV os), mpf mp (Fs.map feM) fc] ⟨rfl, trivial⟩ (by kernel_rfl) rfl ⟨a, b, os, rfl, rfl, (by rw [ho]; exact hfin_.map _), ‹_›, ‹_›⟩
theorem fl_Col_spec (mp : Nat) (Fs : List Fe) (fc : Nat) (bi : Nat) (hFe : FeOK Fs) (hFm : FMOK Fs fc) (hFn : Fs.length ≤ 100000) :
 CallsS Try.prog 41 [.func (.func 43) #[] #[pt bi]] [blk bi 48 [.map (some mp)], mpf mp (Fs.map feM) fc] (fun r D => ∃ (d : Option Addr) (e : Nat) (zs : List ByteArray), r = ς d zs.length e ∧ D = [row 9 1 (ς d zs.length e) zs.length (strV zs), mpf mp (Fs.map feM) fc] ∧ (zs.Perm (Fs.map (·.nm))) ∧ (zs.length ≤ e) ∧ (0 < zs.length → Option.isSome d = true) ∧ (zs.length ≤ 100000)) := by
 refine CallsS.enter hU Try.f41 _ [.tmp 2] 5 Try.func41 rfl (by decide) rfl rfl (by kernel_rfl) fun i W => ?_
 refine RunC.sr ?_
 refine RunR.sl hU [] 1 1 [0, 2] [(0, .func (.func 43) #[] #[pt bi]), (2, ς0)] 1 ?_
 refine RunR.nx ?_
 refine RunR.sl hU [] 1 1 [2, 3] [(2, ς0), (3, .func (.func 43) #[] #[pt bi])] 1 ?_
 refine RunR.st (some 4) (.call { callee := .value (.func 64), args := #[.const (ς0), .tmp 3], argTypes := #[33, 60] }) (Step.cn 64 [ς0, .func (.func 43) #[] #[pt bi]] [blk bi 48 [.map (some mp)], mpf mp (Fs.map feM) fc] [] (fl_ASq_spec mp Fs fc bi ‹_› ‹_› ‹_›) [0, 0] ?_)
 rintro _ _ ⟨b, c, a, rfl, rfl, f, h, g⟩
 refine RunR.sl hU [] 1 3 [2] [(2, ς b a.length c)] 1 ?_
 refine RunR.nn ?_
 refine RunC.ret ?_
 refine kret_r [ς b a.length c] [0, 0] [row 9 1 (ς b a.length c) a.length (strV a), mpf mp (Fs.map feM) fc] ⟨rfl, trivial⟩ (by kernel_rfl) rfl ⟨b, c, a, rfl, rfl, ‹_›, ‹_›, ‹_›, (by have h_ := (f).length_eq; rw [List.length_map] at h_; omega)⟩
def laysSort_ren : Go.Shelf.Ren := ⟨fun | 190 => 42 | 125 => 66 | 258 => 65 | 128 => 87 | 129 => 88 | 302 => 78 | 303 => 79 | 304 => 80 | 305 => 81 | 306 => 82 | 307 => 83 | 308 => 84 | 309 => 85 | 310 => 86 | 333 => 93 | 329 => 94 | 330 => 95 | 334 => 96 | 335 => 97 | 336 => 98 | 344 => 99 | n => n, fun | 31 => 33 | 9 => 9 | 3 => 3 | 46 => 99 | 0 => 0 | 51 => 94 | 53 => 116 | 4 => 4 | 183 => 129 | 182 => 128 | 131 => 134 | 5 => 5 | 218 => 141 | 222 => 145 | 228 => 147 | 229 => 148 | n => n, fun | n => n⟩
theorem laysSort : Go.Proofs.Lays.n190 Try.prog laysSort_ren := {
  mixed := by kernel_rfl
  f125 := Try.func66.trans (congrArg some (by kernel_rfl))
  f128 := Try.func87.trans (congrArg some (by kernel_rfl))
  f129 := Try.func88.trans (congrArg some (by kernel_rfl))
  f190 := Try.func42.trans (congrArg some (by kernel_rfl))
  f258 := Try.func65.trans (congrArg some (by kernel_rfl))
  f302 := Try.func78.trans (congrArg some (by kernel_rfl))
  f303 := Try.func79.trans (congrArg some (by kernel_rfl))
  f304 := Try.func80.trans (congrArg some (by kernel_rfl))
  f305 := Try.func81.trans (congrArg some (by kernel_rfl))
  f306 := Try.func82.trans (congrArg some (by kernel_rfl))
  f307 := Try.func83.trans (congrArg some (by kernel_rfl))
  f308 := Try.func84.trans (congrArg some (by kernel_rfl))
  f309 := Try.func85.trans (congrArg some (by kernel_rfl))
  f310 := Try.func86.trans (congrArg some (by kernel_rfl))
  f329 := Try.func94.trans (congrArg some (by kernel_rfl))
  f330 := Try.func95.trans (congrArg some (by kernel_rfl))
  f333 := Try.func93.trans (congrArg some (by kernel_rfl))
  f334 := Try.func96.trans (congrArg some (by kernel_rfl))
  f335 := Try.func97.trans (congrArg some (by kernel_rfl))
  f336 := Try.func98.trans (congrArg some (by kernel_rfl))
  f344 := Try.func99.trans (congrArg some (by kernel_rfl))
  t0 := Try.underlying0
  a0 := Try.isAgg0
  z0 := Try.sizeOf0
  v0 := Try.zeroValue0
  t3 := Try.underlying3
  a3 := Try.isAgg3
  z3 := Try.sizeOf3
  v3 := Try.zeroValue3
  t4 := Try.underlying4
  a4 := Try.isAgg4
  z4 := Try.sizeOf4
  v4 := Try.zeroValue4
  t5 := Try.underlying5
  a5 := Try.isAgg5
  z5 := Try.sizeOf5
  v5 := Try.zeroValue5
  t9 := Try.underlying9
  a9 := Try.isAgg9
  z9 := Try.sizeOf9
  v9 := Try.zeroValue9
  t31 := Try.underlying33
  a31 := Try.isAgg33
  z31 := Try.sizeOf33
  v31 := Try.zeroValue33
  t46 := Try.underlying99
  a46 := Try.isAgg99
  z46 := Try.sizeOf99
  v46 := Try.zeroValue99
  t51 := Try.underlying94
  a51 := Try.isAgg94
  z51 := Try.sizeOf94
  v51 := Try.zeroValue94
  t53 := Try.underlying116
  a53 := Try.isAgg116
  z53 := Try.sizeOf116
  v53 := Try.zeroValue116
  t131 := Try.underlying134
  a131 := Try.isAgg134
  z131 := Try.sizeOf134
  v131 := Try.zeroValue134
  t182 := Try.underlying128
  a182 := Try.isAgg128
  z182 := Try.sizeOf128
  v182 := Try.zeroValue128
  t183 := Try.underlying129
  a183 := Try.isAgg129
  z183 := Try.sizeOf129
  v183 := Try.zeroValue129
  t218 := Try.underlying141
  a218 := Try.isAgg141
  z218 := Try.sizeOf141
  v218 := Try.zeroValue141
  t222 := Try.underlying145
  a222 := Try.isAgg145
  z222 := Try.sizeOf145
  v222 := Try.zeroValue145
  t228 := Try.underlying147
  a228 := Try.isAgg147
  z228 := Try.sizeOf147
  v228 := Try.zeroValue147
  t229 := Try.underlying148
  a229 := Try.isAgg148
  z229 := Try.sizeOf148
  v229 := Try.zeroValue148 }

theorem fl_Sort_spec (A : Option Addr) (n : Nat) (c : Nat) (xs : List ByteArray) (hn : xs.length = n) (hb : n ≤ 4000000000) :
 CallsS Try.prog 42 [ς A n c] [row 9 1 (ς A n c) n (strV xs)] (fun r D => ∃ (zs : List ByteArray), r = .tuple #[] ∧ D = [row 9 1 (ς A n c) n (strV zs)] ∧ (zs = srtB xs)) := by
 exact (sort_texts laysSort 9 A n c xs hn hb ⟨_, _, Try.func42, rfl, by decide⟩).mono fun r D h => ⟨_, h.1, h.2, rfl⟩
theorem fl_Sd_spec (mp : Nat) (Fs : List Fe) (fc : Nat) (bi : Nat) (hFe : FeOK Fs) (hFm : FMOK Fs fc) (hFn : Fs.length ≤ 100000) :
 CallsS Try.prog 20 [.func (.func 43) #[] #[pt bi]] [blk bi 48 [.map (some mp)], mpf mp (Fs.map feM) fc] (fun r D => ∃ (h : Option Addr) (d : Nat) (i : Nat) (zs : List ByteArray), r = ς h d i ∧ D = [row 9 1 (ς h d i) d (strV zs), mpf mp (Fs.map feM) fc] ∧ (zs = namesL Fs) ∧ (zs.length = d) ∧ (d ≤ i) ∧ (0 < d → Option.isSome h = true) ∧ (d = Fs.length)) := by
 refine CallsS.enter hU Try.f20 _ [.tmp 2] 9 Try.func20 rfl (by decide) rfl rfl (by kernel_rfl) fun m W => ?_
 refine RunC.sr ?_
 refine RunR.sl hU [] 1 1 [0, 2] [(0, .func (.func 43) #[] #[pt bi]), (2, ς0)] 1 ?_
 refine RunR.nx ?_
 refine RunR.sl hU [] 1 1 [2, 4] [(2, ς0), (4, .func (.func 43) #[] #[pt bi])] 1 ?_
 refine RunR.st (some 5) (.call { callee := .value (.func 41), args := #[.tmp 4], argTypes := #[60] }) (Step.cn 41 [.func (.func 43) #[] #[pt bi]] [blk bi 48 [.map (some mp)], mpf mp (Fs.map feM) fc] [] (fl_Col_spec mp Fs fc bi ‹_› ‹_› ‹_›) [0, 0] ?_)
 rintro _ _ ⟨b, c, a, rfl, rfl, f, l, k, j⟩
 refine RunR.sl hU [] 1 3 [2, 3] [(2, ς0), (3, ς b a.length c)] 1 ?_
 refine RunR.nx ?_
 refine RunR.sl hU [] 1 1 [2, 3, 6] [(2, ς0), (3, ς b a.length c), (6, ς b a.length c)] 1 ?_
 refine RunR.st (some 7) (.call { callee := .value (.func 42), args := #[.tmp 6], argTypes := #[33] }) (Step.cn 42 [ς b a.length c] [row 9 1 (ς b a.length c) a.length (strV a)] [mpf mp (Fs.map feM) fc] (fl_Sort_spec b a.length c a (by rfl) (by omega)) [0] ?_)
 rintro _ _ ⟨e, rfl, rfl, g⟩
 refine RunR.nx ?_
 refine RunR.sl hU [] 2 2 [2] [(2, ς b a.length c)] 2 ?_
 refine RunR.nn ?_
 refine RunC.ret ?_
 refine kret_r [ς b a.length c] [0, 0] [row 9 1 (ς b a.length c) a.length (strV e), mpf mp (Fs.map feM) fc] ⟨rfl, trivial⟩ (by kernel_rfl) rfl ⟨b, a.length, c, e, rfl, rfl, (by exact sorted_names f g), (by rw [g, srtB_len]), ‹_›, ‹_›, (by rw [(f).length_eq, List.length_map])⟩
theorem fl_Names_spec (fi : Nat) (wj : Nat) (dd : Bool) (mp : Nat) (Fs : List Fe) (fc : Nat) (NA : Option Addr) (nk : Nat) (nc : Nat) (ns : List Int) (hFe : FeOK Fs) (hFm : FMOK Fs fc) (hFn : Fs.length ≤ 100000) :
 CallsS Try.prog 8 [pt fi] [blk fi 51 [pt wj, .map (some mp), ς NA nk nc, η dd], mpf mp (Fs.map feM) fc] (fun r D => ∃ (g : Option Addr) (e : Nat) (i : Nat) (zs : List ByteArray), r = ς g e i ∧ D = [row 9 1 (ς g e i) e (strV zs), blk fi 51 [pt wj, .map (some mp), ς NA nk nc, η dd], mpf mp (Fs.map feM) fc] ∧ (zs = namesL Fs) ∧ (zs.length = e) ∧ (e ≤ i) ∧ (0 < e → Option.isSome g = true) ∧ (e = Fs.length)) := by
 refine CallsS.enter hU Try.f8 _ [.tmp 2] 9 Try.func8 rfl (by decide) rfl rfl (by kernel_rfl) fun o W => ?_
 refine RunC.sr ?_
 refine RunR.sl hU [] 1 1 [0, 2] [(0, pt fi), (2, ς0)] 1 ?_
 refine RunR.nx ?_
 refine RunR.sl hU [] 3 3 [2, 5] [(2, ς0), (5, .pointer (some ⟨fi, 1, none⟩))] 3 ?_
 refine RunR.st (some 6) (.load 48 (.tmp 5)) (Step.load_blk hU 0 fi (1) 51 [pt wj, .map (some mp), ς NA nk nc, η dd] (.map (some mp)) (by kernel_rfl) (by kernel_rfl) (by kernel_rfl) (by kernel_rfl) ?_)
 refine RunR.st (some 7) (.call { callee := .value (.func 21), args := #[.tmp 6], argTypes := #[48] }) (Step.cn 21 [.map (some mp)] [] [blk fi 51 [pt wj, .map (some mp), ς NA nk nc, η dd], mpf mp (Fs.map feM) fc] (fl_Keys_spec mp) [] ?_)
 rintro _ _ ⟨d, rfl, rfl⟩
 refine RunR.st (some 8) (.call { callee := .value (.func 20), args := #[.tmp 7], argTypes := #[60] }) (Step.cn 20 [.func (.func 43) #[] #[pt d]] [blk d 48 [.map (some mp)], mpf mp (Fs.map feM) fc] [blk fi 51 [pt wj, .map (some mp), ς NA nk nc, η dd]] (fl_Sd_spec mp Fs fc d ‹_› ‹_› ‹_›) [0, 1] ?_)
 rintro _ _ ⟨b, a, c, f, rfl, rfl, m, n, l, j, k⟩
 refine RunR.sl hU [] 1 7 [2] [(2, ς b a c)] 1 ?_
 refine RunR.nn ?_
 refine RunC.ret ?_
 refine kret_r [ς b a c] [0, 1, 0] [row 9 1 (ς b a c) a (strV f), blk fi 51 [pt wj, .map (some mp), ς NA nk nc, η dd], mpf mp (Fs.map feM) fc] ⟨rfl, trivial⟩ (by kernel_rfl) rfl ⟨b, a, c, f, rfl, rfl, ‹_›, ‹_›, ‹_›, (fun h => j (by exact h)), ‹_›⟩
end Go.Proofs.Ytlibhidhfbecbaa.LFileOne
