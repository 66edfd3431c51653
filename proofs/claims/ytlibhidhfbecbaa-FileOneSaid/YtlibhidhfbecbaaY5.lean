import Derived.Test.YtlibhidhfbecbaaOnePure
import Derived.Test.YtlibhidhfbecbaaProg
import Derived.Test.YtlibhidhfbecbaaY4
namespace Go.Proofs.Ytlibhidhfbecbaa.LFileOne
open Go Go.Proofs.Ytlibhidhfbecbaa.SL Go.Proofs.Ytlibhidhfbecbaa.SL.W Go.Proofs.Ytlibhidhfbecbaa.SL.D Go.Proofs.Ytlibhidhfbecbaa.SL.I Go.Proofs.Ytlibhidhfbecbaa.XT
set_option linter.unusedVariables false
set_option linter.unusedSimpArgs false
set_option maxRecDepth 100000
set_option maxHeartbeats 40000000
def laysMc_ren : Go.Shelf.Ren := ⟨fun | 5 => 34 | 7 => 54 | n => n, fun | 23 => 48 | 25 => 9 | 3 => 63 | 4 => 4 | 20 => 20 | n => n, fun | n => n⟩
theorem laysMc : Go.Proofs.SlLaysW.n5 Try.prog laysMc_ren := {
  mixed := by kernel_rfl
  f5 := ⟨Try.f34.name, by decide, Try.func34.trans (congrArg some (by kernel_rfl))⟩
  f7 := Try.func54.trans (congrArg some (by kernel_rfl))
  t4 := Try.underlying4
  a4 := Try.isAgg4
  z4 := Try.sizeOf4
  v4 := Try.zeroValue4
  t20 := Try.underlying20
  a20 := Try.isAgg20
  z20 := Try.sizeOf20
  v20 := Try.zeroValue20
  t23 := Try.underlying48
  a23 := Try.isAgg48
  z23 := Try.sizeOf48
  v23 := Try.zeroValue48 }

theorem fl_MCl_spec (mp : Nat) (Fs : List Fe) (fc : Nat) :
 CallsS Try.prog 34 [.map (some mp)] [mpf mp (Fs.map feM) fc] (fun r D => ∃ (me : Nat), r = .map (some me) ∧ D = [mpf me (Fs.map feM) fc, mpf mp (Fs.map feM) fc]) := by
 exact (clone_map laysMc mp fc (Fs.map feM) ⟨_, _, Try.func34, rfl, by decide⟩).mono fun r D h => h
theorem fl_SCl_spec (a : Option Addr) (e : Nat) (xs : List Int) (l_xs : Nat) (hIxs : In .i64 xs) (hCxs : xs.length ≤ e) (hBxs : xs.length ≤ 100000) (hl_xs : xs.length = l_xs) :
 CallsS Try.prog 35 [ς a l_xs e] [ν .i64 a xs] (fun r D => ∃ (f : Option Addr) (g : Nat) (zs : List Int), r = ς f zs.length g ∧ D = [κ 3 .i64 f zs.length g zs] ∧ (zs = xs) ∧ (In .i64 zs) ∧ (zs.length ≤ g) ∧ (0 < zs.length → Option.isSome f = true)) := by
 subst hl_xs
 refine CallsS.enter hU Try.f35 _ [.tmp 2] 8 Try.func35 rfl (by decide) rfl rfl (by kernel_rfl) fun q W => ?_
 refine RunC.know (p := 0 < xs.length → Option.isSome a = true) (fun _ _ w hs => vw_some hs 0 rfl (by (simp [nums_length]; done))) (fun l => ?_)
 refine RunC.sr ?_
 refine RunR.sl hU [] 1 1 [0, 2] [(0, ς a xs.length e), (2, ς0)] 1 ?_
 refine RunR.nn ?_
 refine RunC.seq ?_
 refine RunC.sr ?_
 refine RunR.sl hU [] 2 2 [0, 2, 4] [(0, ς a xs.length e), (2, ς0), (4, η (Option.isNone a))] 2 ?_
 refine RunR.nn ?_
 refine RunC.cond (b := Option.isNone a) (by kernel_rfl) (fun n => ?_) (fun n => ?_)
 ·refine RunC.sr ?_
  refine RunR.sl hU [] 1 1 [0, 2] [(0, ς a xs.length e), (2, ς0)] 1 ?_
  refine RunR.nn ?_
  refine RunC.ret ?_
  refine kseq_r ?_
  refine kret_rt ([κ 3 .i64 none 0 0 ([] : List Int), ν .i64 a xs]) (fun q W w hs => (hs).nil_row 3 1) [ς0] [0] [κ 3 .i64 none 0 0 ([] : List Int)] ⟨rfl, trivial⟩ (by kernel_rfl) rfl ⟨none, 0, ([] : List Int), rfl, rfl, (by exact (nil_of_none ‹_› ‹_›).symm), (by exact In.nil _), (by exact Nat.le_refl _), (by intro h; simp at h)⟩
 refine RunC.ksr ?_
 refine RunR.st (some 5) (.buildSlice 49 0 #[]) (Step.lit_nums hU 3 8 .i64 (ι 0) ([] : List Int) rfl rfl (by kernel_rfl) rfl rfl (by kernel_rfl) (fun k => ?_))
 have m : (([] : List Int)).length = 0 := rfl
 refine RunR.sl hU [] 1 2 [2, 5, 6] [(2, ς0), (5, ς (ad k) 0 0), (6, ς a xs.length e)] 1 ?_
 have o : (([] : List Int)).length = 0 := rfl
 refine RunR.st (some 7) (.call { callee := .builtin .append, args := #[.tmp 5, .tmp 6], argTypes := #[49, 49] }) (Step.append_nums hU 3 8 (ι 0) .i64 0 1 (ad k) 0 0 ([] : List Int) a xs.length e (ν .i64 a xs) xs rfl rfl rfl (by kernel_rfl) (by kernel_rfl) (by kernel_rfl) (by kernel_rfl) (tells_vw _ _) (by rfl) (by rfl) (by omega) (by omega) (by kernel_rfl) (fun c d i j => ?_))
 simp only [List.nil_append] at i j
 refine RunR.sl hU [] 1 4 [2] [(2, ς c xs.length d)] 1 ?_
 refine RunR.nn ?_
 refine RunC.ret ?_
 refine kret_r [ς c xs.length d] [0] [κ 3 .i64 c xs.length d xs] ⟨rfl, trivial⟩ (by kernel_rfl) rfl ⟨c, d, xs, rfl, rfl, (by rfl), (by exact hIxs), ‹_›, ‹_›⟩
theorem fl_ASi_spec (fi : Nat) (wj : Nat) (mv : Value) (dd : Bool) (NA : Option Addr) (nk : Nat) (nc : Nat) (ns : List Int) (bi : Nat) (hnk : ns.length = nk) (hNA : 0 < nk → Option.isSome NA = true) (hnkc : nk ≤ nc) (hkb : nk ≤ 2048) :
 CallsS Try.prog 55 [ς0, .func (.func 47) #[] #[pt bi]] [blk bi 24 [pt fi], blk fi 51 [pt wj, mv, ς NA nk nc, η dd], κ 3 .i64 NA nk nc ns] (fun r D => ∃ (i : Option Addr) (k : Nat) (zs : List Int), r = ς i zs.length k ∧ D = [κ 3 .i64 i zs.length k zs, blk fi 51 [pt wj, mv, ς NA nk nc, η dd], κ 3 .i64 NA nk nc ns] ∧ (zs = frL ns) ∧ (In .i64 zs) ∧ (zs.length ≤ k) ∧ (0 < zs.length → Option.isSome i = true)) := by
 refine CallsS.enter hU Try.f55 _ [.tmp 4] 13 Try.func55 rfl (by decide) rfl rfl (by kernel_rfl) fun q W => ?_
 have hfr := frP_le ns ns.length; rw [show frP ns ns.length = frL ns from rfl] at hfr
 refine RunC.sr ?_
 refine RunR.st (some 2) (.box 49 (.tmp 0)) (Step.box (ς0) (by kernel_rfl) (by kernel_rfl) (fun c => ?_))
 refine RunR.sl hU [] 1 2 [1, 2, 4] [(1, .func (.func 47) #[] #[pt bi]), (2, pt c), (4, ς0)] 1 ?_
 refine RunR.nn ?_
 refine RunC.seq ?_
 refine RunC.sr ?_
 refine RunR.sl hU [] 1 1 [2, 4, 6] [(2, pt c), (4, ς0), (6, .func (.func 47) #[] #[pt bi])] 1 ?_
 refine RunR.nn ?_
 refine RunC.block ?_
 refine RunC.turn ([κ 3 .i64 none 0 0 ([] : List Int), blk c 49 [ς0], blk bi 24 [pt fi], blk fi 51 [pt wj, mv, ς NA nk nc, η dd], κ 3 .i64 NA nk nc ns]) (fun _ _ w hs => hs.nil_row 3 1) ?_
 refine RunC.env [2, 4, 6] [(2, pt c), (4, ς0), (6, .func (.func 47) #[] #[pt bi])] (by kernel_rfl) ?_
 refine RunC.rangeFuncR (α := List Fact) (β := List Fact) 47 [pt bi] (by kernel_rfl) ((frL ns).length) (fun i_ => [ι ((frL ns).getD i_ 0)]) (fun i_ => []) [blk bi 24 [pt fi], blk fi 51 [pt wj, mv, ς NA nk nc, η dd], κ 3 .i64 NA nk nc ns] [] [blk fi 51 [pt wj, mv, ς NA nk nc, η dd], κ 3 .i64 NA nk nc ns] (fl_fit_it fi wj mv dd NA nk nc ns bi ‹_› (fun h => hNA (by exact h)) ‹_› ‹_›) (fun i_ D_ => ∃ (os : List Int) (a : Option Addr) (b : Nat), (os = (frL ns).take i_) ∧ (i_ ≤ (frL ns).length) ∧ (In .i64 os) ∧ (os.length ≤ b) ∧ (0 < os.length → Option.isSome a = true) ∧ D_ = [blk c 49 [ς a os.length b], κ 3 .i64 a os.length b os]) (fun D_ => D_) .ret (fun (_ : List Fact) => False) (fun D_ => D_) [] [] [blk c 49 [ς0], κ 3 .i64 none 0 0 ([] : List Int)] ⟨([] : List Int), none, 0, (by rfl), (by exact Nat.zero_le _), (by exact In.nil _), (by exact Nat.zero_le _), (by intro h; simp at h), rfl⟩ [1, 0, 0, 0, 0] (by kernel_rfl) (Lend.nil _) (by simp) (Lend.nil _) (fun i_ D_ hp_ f_ hf_ => by obtain ⟨_, _, _, _, _, _, _, _, rfl⟩ := hp_; exact List.all_eq_true.1 (by rfl : List.all _ (·.own) = true) f_ hf_) (fun _ h => h.elim) (fun _ => rfl) (by rfl) ?_ ?_ (fun _ h => h.elim)
 ·intro l_ R_ i_ _ hlt_ hp_
  obtain ⟨os, a, b, ho, hio, hos, j, g, rfl⟩ := hp_
  refine RunC.env [2, 4, 6, 7] [(2, pt c), (4, ς0), (6, .func (.func 47) #[] #[pt bi]), (7, ι ((frL ns).getD i_ 0))] (by kernel_rfl) ?_
  refine RunC.only [0, 0, 0] [objF l_ (.loop (R_ .ready none)), blk c 49 [ς a os.length b], κ 3 .i64 a os.length b os] (by kernel_rfl) ?_
  have hln_ : os.length = i_ := by rw [ho, List.length_take]; omega
  refine RunC.region ?_
  refine RunR.sl hU [] 1 1 [2, 5] [(2, pt c), (5, ι ((frL ns).getD i_ 0))] 1 ?_
  refine RunR.dn ?_
  refine kassign_n 0 (by kernel_rfl) ?_
  refine RunC.block ?_
  refine RunC.region ?_
  refine RunR.st (some 8) (.load 49 (.tmp 2)) (Step.load_blk hU 1 c (0) 49 [ς a os.length b] (ς a os.length b) (by kernel_rfl) (by kernel_rfl) (by kernel_rfl) (by kernel_rfl) ?_)
  refine RunR.sl hU [] 1 2 [2, 8, 9] [(2, pt c), (8, ς a os.length b), (9, ι ((frL ns).getD i_ 0))] 1 ?_
  refine RunR.st (some 10) (.buildSlice 49 1 #[(0, .tmp 9)]) (Step.lit_nums hU 3 8 .i64 (ι 0) ([(frL ns).getD i_ 0] : List Int) rfl rfl (by kernel_rfl) rfl rfl (by kernel_rfl) (fun m => ?_))
  have p : (([(frL ns).getD i_ 0] : List Int)).length = 1 := rfl
  have n : (([(frL ns).getD i_ 0] : List Int)).length = 1 := rfl
  refine RunR.st (some 11) (.call { callee := .builtin .append, args := #[.tmp 8, .tmp 10], argTypes := #[49, 49] }) (Step.append_nums hU 3 8 (ι 0) .i64 3 0 a os.length b os (ad m) 1 1 (κ 3 .i64 (ad m) 1 1 ([(frL ns).getD i_ 0] : List Int)) ([(frL ns).getD i_ 0] : List Int) rfl rfl rfl (by kernel_rfl) (by kernel_rfl) (by kernel_rfl) (by kernel_rfl) (tells_row _ _ _ _ _ _) (by rfl) (by rfl) (by omega) (by omega) (by kernel_rfl) (fun d e o f => ?_))
  have l : (os ++ ([(frL ns).getD i_ 0] : List Int)).length = os.length + ([(frL ns).getD i_ 0] : List Int).length := List.length_append
  simp only [List.length_cons, List.length_nil] at l
  refine RunR.st none (.store 49 (.tmp 2) (.tmp 11)) (Step.store_blk hU 3 c 0 49 [ς a os.length b] (ς d ((os ++ ([(frL ns).getD i_ 0] : List Int)).length) e) (by kernel_rfl) (by kernel_rfl) (by kernel_rfl) 1 rfl [ς d ((os ++ ([(frL ns).getD i_ 0] : List Int)).length) e] (by kernel_rfl) rfl (by kernel_rfl) (by simp) ?_)
  refine RunR.dn ?_
  refine kblock_n ?_
  refine kyield_n _ [3, 0, 0] [objF l_ (.loop (R_ .busy none)), blk c 49 [ς d ((os ++ ([(frL ns).getD i_ 0] : List Int)).length) e], κ 3 .i64 d ((os ++ ([(frL ns).getD i_ 0] : List Int)).length) e (os ++ ([(frL ns).getD i_ 0] : List Int))] (by kernel_rfl) ⟨(os ++ ([(frL ns).getD i_ 0] : List Int)), d, e, (by exact fr_take ho hlt_), (by exact hlt_), (by rw [fr_take ho hlt_]; exact fr_in (by omega) _), ‹_›, (fun h => f (by exact h)), (by rfl)⟩ rfl
 intro _ hp_
 obtain ⟨os, a, b, ho, hio, hos, j, g, rfl⟩ := hp_
 refine kblock_n ?_
 refine kseq_n ?_
 refine RunC.sr ?_
 refine RunR.st (some 12) (.load 49 (.tmp 2)) (Step.load_blk hU 0 c (0) 49 [ς a os.length b] (ς a os.length b) (by kernel_rfl) (by kernel_rfl) (by kernel_rfl) (by kernel_rfl) ?_)
 refine RunR.sl hU [] 1 2 [4] [(4, ς a os.length b)] 1 ?_
 refine RunR.nn ?_
 refine RunC.ret ?_
 refine kret_r [ς a os.length b] [1, 1, 1] [κ 3 .i64 a os.length b os, blk fi 51 [pt wj, mv, ς NA nk nc, η dd], κ 3 .i64 NA nk nc ns] ⟨rfl, trivial⟩ (by kernel_rfl) rfl ⟨a, b, os, rfl, rfl, (by rw [ho, List.take_length]), ‹_›, ‹_›, ‹_›⟩
theorem fl_Ci_spec (fi : Nat) (wj : Nat) (mv : Value) (dd : Bool) (NA : Option Addr) (nk : Nat) (nc : Nat) (ns : List Int) (bi : Nat) (hnk : ns.length = nk) (hNA : 0 < nk → Option.isSome NA = true) (hnkc : nk ≤ nc) (hkb : nk ≤ 2048) :
 CallsS Try.prog 36 [.func (.func 47) #[] #[pt bi]] [blk bi 24 [pt fi], blk fi 51 [pt wj, mv, ς NA nk nc, η dd], κ 3 .i64 NA nk nc ns] (fun r D => ∃ (d : Option Addr) (e : Nat) (zs : List Int), r = ς d zs.length e ∧ D = [κ 3 .i64 d zs.length e zs, blk fi 51 [pt wj, mv, ς NA nk nc, η dd], κ 3 .i64 NA nk nc ns] ∧ (zs = frL ns) ∧ (In .i64 zs) ∧ (zs.length ≤ e) ∧ (0 < zs.length → Option.isSome d = true)) := by
 refine CallsS.enter hU Try.f36 _ [.tmp 2] 5 Try.func36 rfl (by decide) rfl rfl (by kernel_rfl) fun k W => ?_
 refine RunC.sr ?_
 refine RunR.sl hU [] 1 1 [0, 2] [(0, .func (.func 47) #[] #[pt bi]), (2, ς0)] 1 ?_
 refine RunR.nx ?_
 refine RunR.sl hU [] 1 1 [2, 3] [(2, ς0), (3, .func (.func 47) #[] #[pt bi])] 1 ?_
 refine RunR.st (some 4) (.call { callee := .value (.func 55), args := #[.const (ς0), .tmp 3], argTypes := #[49, 68] }) (Step.cn 55 [ς0, .func (.func 47) #[] #[pt bi]] [blk bi 24 [pt fi], blk fi 51 [pt wj, mv, ς NA nk nc, η dd], κ 3 .i64 NA nk nc ns] [] (fl_ASi_spec fi wj mv dd NA nk nc ns bi ‹_› (fun h => hNA (by exact h)) ‹_› ‹_›) [0, 0, 0] ?_)
 rintro _ _ ⟨b, c, a, rfl, rfl, i, g, j, f⟩
 refine RunR.sl hU [] 1 3 [2] [(2, ς b a.length c)] 1 ?_
 refine RunR.nn ?_
 refine RunC.ret ?_
 refine kret_r [ς b a.length c] [0, 0, 0] [κ 3 .i64 b a.length c a, blk fi 51 [pt wj, mv, ς NA nk nc, η dd], κ 3 .i64 NA nk nc ns] ⟨rfl, trivial⟩ (by kernel_rfl) rfl ⟨b, c, a, rfl, rfl, ‹_›, g, ‹_›, (fun h => f (by exact h))⟩
theorem fl_begin_spec (fi : Nat) (wj : Nat) (dd : Bool) (mp : Nat) (Fs : List Fe) (fc : Nat) (NA : Option Addr) (nk : Nat) (nc : Nat) (ns : List Int) (hFe : FeOK Fs) (hFm : FMOK Fs fc) (hnk : ns.length = nk) (hNA : 0 < nk → Option.isSome NA = true) (hnkc : nk ≤ nc) (hkb : nk ≤ 2048) (hins : Bnd 0 65536 ns) :
 CallsS Try.prog 15 [pt fi] (ζ fi wj mp Fs fc NA nk nc ns dd []) (fun r D => ∃ (ei : Nat) (me : Nat) (Na : Option Addr) (u : Nat) (w : List Int) (sl : List Bool) (Sa : Option Addr) (sc : Nat) (sp : List Int), r = pt ei ∧ D = (blk ei 87 (([pt fi] : List Value) ++ (([.map (some me)] : List Value) ++ (([ς Na w.length u] : List Value) ++ (bls sl ++ ([ς Sa sp.length sc] : List Value))))) :: mpf me (Fs.map feM) fc :: κ 3 .i64 Na w.length u w :: κ 3 .i64 Sa sp.length sc sp :: ζ fi wj mp Fs fc NA nk nc ns dd []) ∧ (w = ns) ∧ (0 < w.length → Option.isSome Na = true) ∧ (w.length ≤ u) ∧ (SlOK sl Fs) ∧ (sl.length = 64) ∧ (sp = frL ns) ∧ (In .i64 sp) ∧ (sp.length ≤ sc) ∧ (0 < sp.length → Option.isSome Sa = true)) := by
 refine CallsS.enter hU Try.f15 _ [.tmp 2] 38 Try.func15 rfl (by decide) rfl rfl (by kernel_rfl) fun K W => ?_
 refine RunC.sr ?_
 refine RunR.sl hU [] 1 1 [0, 2] [(0, pt fi), (2, .pointer none)] 1 ?_
 refine RunR.nn ?_
 refine RunC.seq ?_
 refine RunC.regionU hU 17 [blk fi 51 [pt wj, .map (some mp), ς NA nk nc, η dd]] [0] [10, 12, 13, 16] (bm 17 0) (by kernel_rfl) (by kernel_rfl) (by kernel_rfl) ?_
 refine RunU.sl hU 0 (bm 17 1) 6 (pt fi) ?_
 refine RunU.sl hU 1 (bm 17 3) 7 (pt fi) ?_
 refine RunU.sl hU 2 (bm 17 7) 8 (pt fi) ?_
 refine RunU.sl hU 3 (bm 17 15) 9 (.pointer (some ⟨fi, 1, none⟩)) ?_
 refine RunU.rd 4 (bm 17 31) 10 (.load 48 (.tmp 9)) (.map (some mp)) [0] (Reads.load_blk hU 0 fi (1) 51 [pt wj, .map (some mp), ς NA nk nc, η dd] (.map (some mp)) (by kernel_rfl) (by kernel_rfl) (by kernel_rfl)) ?_
 refine RunU.sl hU 6 (bm 17 95) 12 (pt fi) ?_
 refine RunU.sl hU 7 (bm 17 223) 13 (pt fi) ?_
 refine RunU.sl hU 8 (bm 17 479) 14 (.pointer (some ⟨fi, 2, none⟩)) ?_
 refine RunU.rd 9 (bm 17 991) 15 (.load 49 (.tmp 14)) (ς NA nk nc) [0] (Reads.load_blk hU 0 fi (2) 51 [pt wj, .map (some mp), ς NA nk nc, η dd] (ς NA nk nc) (by kernel_rfl) (by kernel_rfl) (by kernel_rfl)) ?_
 refine RunU.sl hU 11 (bm 17 3039) 17 (pt fi) ?_
 refine RunU.on (some 11) (.call { callee := .value (.func 34), args := #[.tmp 10], argTypes := #[48] }) 5 (bm 17 3071) [2] (Step.cn 34 [.map (some mp)] [mpf mp (Fs.map feM) fc] [blk fi 51 [pt wj, .map (some mp), ς NA nk nc, η dd], κ 3 .i64 NA nk nc ns] (fl_MCl_spec mp Fs fc) [1] ?_)
 rintro _ _ ⟨l, rfl, rfl⟩
 refine orL ?_
 refine RunU.on (some 16) (.call { callee := .value (.func 35), args := #[.tmp 15], argTypes := #[49] }) 10 (bm 17 4095) [] (Step.cl 35 [ς NA nk nc] [] [ν .i64 NA ns] [mpf l (Fs.map feM) fc, mpf mp (Fs.map feM) fc, blk fi 51 [pt wj, .map (some mp), ς NA nk nc, η dd], κ 3 .i64 NA nk nc ns] (fl_SCl_spec NA nc ns nk (by exact bnd_in hins) (by omega) (by omega) ‹_›) [] ((Lend.nil _).tells 3 (κ 3 .i64 NA nk nc ns) NA (nums .i64 ns) (by kernel_rfl) (tells_row _ _ _ _ _ _)) ?_)
 rintro _ _ ⟨m, p, f, rfl, rfl, H, J, I, G⟩
 refine orR ?_
 refine RunU.on (some 18) (.call { callee := .value (.func 24), args := #[.tmp 17], argTypes := #[24] }) 12 (bm 17 8191) [] (Step.cn 24 [pt fi] [] [κ 3 .i64 m f.length p f, mpf l (Fs.map feM) fc, mpf mp (Fs.map feM) fc, blk fi 51 [pt wj, .map (some mp), ς NA nk nc, η dd], κ 3 .i64 NA nk nc ns] (fl_frees_spec fi) [] ?_)
 rintro _ _ ⟨v, rfl, rfl⟩
 refine orR ?_
 refine RunU.on (some 19) (.call { callee := .value (.func 36), args := #[.tmp 18], argTypes := #[68] }) 13 (bm 17 16383) [] (Step.cn 36 [.func (.func 47) #[] #[pt v]] [blk v 24 [pt fi], blk fi 51 [pt wj, .map (some mp), ς NA nk nc, η dd], κ 3 .i64 NA nk nc ns] [κ 3 .i64 m f.length p f, mpf l (Fs.map feM) fc, mpf mp (Fs.map feM) fc] (fl_Ci_spec fi wj (.map (some mp)) dd NA nk nc ns v ‹_› (fun h => hNA (by exact h)) ‹_› ‹_›) [0, 3, 3] ?_)
 rintro _ _ ⟨g, j, d, rfl, rfl, z, F, E, C⟩
 refine orR ?_
 refine RunU.sl hU 14 (bm 17 32767) 20 (.agg (([pt fi] : List Value) ++ (([.map (some l)] : List Value) ++ (([ς m f.length p] : List Value) ++ (bls (List.replicate 64 false) ++ ([ς g d.length j] : List Value))))).toArray) ?_
 refine RunU.on (some 21) (.box 87 (.tmp 20)) 15 (bm 17 65535) [2] (Step.box (.agg (([pt fi] : List Value) ++ (([.map (some l)] : List Value) ++ (([ς m f.length p] : List Value) ++ (bls (List.replicate 64 false) ++ ([ς g d.length j] : List Value))))).toArray) (by kernel_rfl) (by kernel_rfl) (fun e => ?_))
 refine orL ?_
 refine RunU.sl hU 16 (bm 17 131071) 3 (pt e) ?_
 refine RunU.ev [0, 2, 3] [(0, pt fi), (2, .pointer none), (3, pt e)] ?_
 refine RunU.dn ?_
 refine kseq_n ?_
 refine RunC.seq ?_
 refine RunC.sr ?_
 refine RunR.sl hU [] 3 3 [2, 3, 24] [(2, .pointer none), (3, pt e), (24, .pointer (some ⟨fi, 1, none⟩))] 3 ?_
 refine RunR.st (some 25) (.load 48 (.tmp 24)) (Step.load_blk hU 2 fi (1) 51 [pt wj, .map (some mp), ς NA nk nc, η dd] (.map (some mp)) (by kernel_rfl) (by kernel_rfl) (by kernel_rfl) (by kernel_rfl) ?_)
 refine RunR.st (some 26) (.range 48 (.tmp 25)) (Step.rangeFe hU 6 9 63 mp fc Fs (by kernel_rfl) (by kernel_rfl) (by kernel_rfl) (by kernel_rfl) (fun k => ?_))
 refine RunR.nn ?_
 refine RunC.block ?_
 refine RunC.env [2, 3, 26] [(2, .pointer none), (3, pt e), (26, pt k)] (by kernel_rfl) ?_
 refine RunC.only [0, 0, 0, 0, 0, 0, 0, 0] [ite k mp fc ([] : List Fe), blk e 87 (([pt fi] : List Value) ++ (([.map (some l)] : List Value) ++ (([ς m f.length p] : List Value) ++ (bls (List.replicate 64 false) ++ ([ς g d.length j] : List Value))))), κ 3 .i64 g d.length j d, blk fi 51 [pt wj, .map (some mp), ς NA nk nc, η dd], κ 3 .i64 NA nk nc ns, κ 3 .i64 m f.length p f, mpf l (Fs.map feM) fc, mpf mp (Fs.map feM) fc] (by kernel_rfl) ?_
 refine RunC.loop (σ := Nat) (fun n_ t_ D_ => ∃ (es : List Fe) (q : List Bool), (MetF Fs es) ∧ (q = slotsOf es) ∧ (q.length = 64) ∧ n_ = (Fs.length - es.length : Nat) ∧ t_ = [(2, .pointer none), (3, pt e), (26, pt k)] ∧ D_ = [ite k mp fc es, blk e 87 (([pt fi] : List Value) ++ (([.map (some l)] : List Value) ++ (([ς m f.length p] : List Value) ++ (bls q ++ ([ς g d.length j] : List Value))))), κ 3 .i64 g d.length j d, blk fi 51 [pt wj, .map (some mp), ς NA nk nc, η dd], κ 3 .i64 NA nk nc ns, κ 3 .i64 m f.length p f, mpf l (Fs.map feM) fc, mpf mp (Fs.map feM) fc]) id _ ⟨([] : List Fe), (List.replicate 64 false), (by exact MetF.nil _), (by rfl), (by rfl), rfl, rfl, rfl⟩ ?_
 rintro n_ _ _ ⟨es, q, hes, hsl, hsll, rfl, rfl, rfl⟩
 refine RunC.sr ?_
 refine RunR.st (some 27) (.next (.tmp 26) false) (Step.nextFe 0 7 k mp fc Fs es (by kernel_rfl) (by kernel_rfl) (by kernel_rfl) (by assumption : FMOK Fs fc) (by kernel_rfl) (fun x => ?_) (fun a s y => ?_))
 ·refine RunR.sl hU [] 1 2 [2, 3, 26, 28] [(2, .pointer none), (3, pt e), (26, pt k), (28, η false)] 1 ?_
  refine RunR.nn ?_
  refine RunC.seq ?_
  refine RunC.cond (b := false) (by kernel_rfl) (fun h => by cases h) (fun _ => ?_)
  refine RunC.exit ?_
  refine kseq_e ?_
  refine kloop_e ?_
  refine kblock_e ?_
  refine kseq_n ?_
  refine RunC.sr ?_
  refine RunR.sl hU [] 2 2 [2] [(2, pt e)] 2 ?_
  refine RunR.nn ?_
  refine RunC.ret ?_
  refine kret_r [pt e] [1, 5, 4, 1, 1, 2, 1] (blk e 87 (([pt fi] : List Value) ++ (([.map (some l)] : List Value) ++ (([ς m f.length p] : List Value) ++ (bls q ++ ([ς g d.length j] : List Value))))) :: mpf l (Fs.map feM) fc :: κ 3 .i64 m f.length p f :: κ 3 .i64 g d.length j d :: ζ fi wj mp Fs fc NA nk nc ns dd []) ⟨rfl, trivial⟩ (by kernel_rfl) rfl ⟨e, l, m, p, f, q, g, j, d, rfl, rfl, ‹_›, ‹_›, ‹_›, (by rw [hsl]; exact slots_all hFe (hes.all hFm x)), ‹_›, ‹_›, ‹_›, ‹_›, ‹_›⟩
 have hsx_ := (hFe a s).slot
 refine RunR.sl hU [] 1 2 [2, 3, 26, 28] [(2, .pointer none), (3, pt e), (26, pt k), (28, η true)] 1 ?_
 refine RunR.nn ?_
 refine RunC.seq ?_
 refine RunC.cond (b := true) (by kernel_rfl) (fun _ => ?_) (fun h => by cases h)
 refine RunC.ks ?_
 refine RunC.block ?_
 refine RunC.sr ?_
 refine RunR.st (some 29) (.entry (.tmp 26)) (Step.entryFe 0 7 k mp fc Fs es a (by kernel_rfl) (by kernel_rfl) (by kernel_rfl) (by assumption : FMOK Fs fc) s (by kernel_rfl) ?_)
 refine RunR.sl hU [] 1 2 [2, 3, 26, 30] [(2, .pointer none), (3, pt e), (26, pt k), (30, .agg #[ι a.sl, ι a.sz, ς a.A a.bl.length a.c])] 1 ?_
 refine RunR.st (some 5) (.alloc 63) (Step.al hU 3 40 (.agg #[ι 0, ι 0, ς0]) (fun t => ?_))
 refine RunR.st none (.store 63 (.tmp 5) (.tmp 30)) (Step.store_blk hU 0 t 0 63 [ι 0, ι 0, ς0] (.agg #[ι a.sl, ι a.sz, ς a.A a.bl.length a.c]) (by kernel_rfl) (by kernel_rfl) (by kernel_rfl) 3 rfl [ι a.sl, ι a.sz, ς a.A a.bl.length a.c] (by kernel_rfl) rfl (by kernel_rfl) (by decide) ?_)
 refine RunR.nn ?_
 refine RunC.regionU hU 7 [blk t 63 [ι a.sl, ι a.sz, ς a.A a.bl.length a.c]] [0] [6] (bm 7 0) (by kernel_rfl) (by kernel_rfl) (by kernel_rfl) ?_
 refine RunU.sl hU 0 (bm 7 1) 31 (pt e) ?_
 refine RunU.sl hU 1 (bm 7 3) 32 (pt t) ?_
 refine RunU.rd 2 (bm 7 7) 33 (.load 3 (.tmp 32)) (ι a.sl) [0] (Reads.load_blk hU 0 t (0) 63 [ι a.sl, ι a.sz, ς a.A a.bl.length a.c] (ι a.sl) (by kernel_rfl) (by kernel_rfl) (by kernel_rfl)) ?_
 refine RunU.sl hU 3 (bm 7 15) 34 (pt e) ?_
 refine RunU.sl hU 4 (bm 7 31) 35 (.pointer (some ⟨e, 3, none⟩)) ?_
 refine RunU.sil hU false 5 (bm 7 63) 36 (.pointer (some ⟨e, 3 + (a.sl).toNat * 1, none⟩)) (0 ≤ a.sl ∧ a.sl < (64 : Int)) (by kernel_rfl) (by omega) (by kernel_rfl) (by kernel_rfl) (fun _ _ _ h => h) ?_
 have B : (q.set ((a.sl).toNat) true).length = q.length := List.length_set
 refine RunU.on none (.store 4 (.tmp 36) (.const (η true))) 6 (bm 7 127) [] (Step.store_seg hU 2 e (3 + (a.sl).toNat * 1) 87 (([pt fi] : List Value) ++ (([.map (some l)] : List Value) ++ (([ς m f.length p] : List Value) ++ (bls q ++ ([ς g d.length j] : List Value))))) (([pt fi] : List Value) ++ (([.map (some l)] : List Value) ++ (([ς m f.length p] : List Value) ++ (bls (q.set ((a.sl).toNat) true) ++ ([ς g d.length j] : List Value))))) ([η true]) (η true) (by kernel_rfl) (by kernel_rfl) (by kernel_rfl) 1 (by kernel_rfl) (by kernel_rfl) (by rfl) (by kernel_rfl) ((Put.skip (n := 1) (o := (1 + (1 + ((a.sl).toNat)))) rfl (Put.skip (n := 1) (o := (1 + ((a.sl).toNat))) rfl (Put.skip (n := 1) (o := ((a.sl).toNat)) rfl (Put.front _ (Put.nthb (i := (a.sl).toNat) (by omega) rfl))))).at (by omega)) ?_)
 refine orR ?_
 refine RunU.ev [2, 3, 26] [(2, .pointer none), (3, pt e), (26, pt k)] ?_
 refine RunU.dn ?_
 refine kblock_n ?_
 refine kloop_n _ [2, 3, 26] [2, 0, 1, 1, 1, 1, 1, 1] [(2, .pointer none), (3, pt e), (26, pt k)] [ite k mp fc (es ++ [a]), blk e 87 (([pt fi] : List Value) ++ (([.map (some l)] : List Value) ++ (([ς m f.length p] : List Value) ++ (bls (q.set ((a.sl).toNat) true) ++ ([ς g d.length j] : List Value))))), κ 3 .i64 g d.length j d, blk fi 51 [pt wj, .map (some mp), ς NA nk nc, η dd], κ 3 .i64 NA nk nc ns, κ 3 .i64 m f.length p f, mpf l (Fs.map feM) fc, mpf mp (Fs.map feM) fc] (by kernel_rfl) (by kernel_rfl) ?_ ⟨(es ++ [a]), (q.set ((a.sl).toNat) true), (by exact hes.snoc s y), (by rw [slotsOf_snoc, ← hsl]), (by omega), rfl, (by rfl), (by rfl)⟩
 show (Fs.length - (es ++ [a]).length : Nat) < (Fs.length - es.length : Nat)
 have h_ := hes.lt ‹_› ‹_›; rw [List.length_append, List.length_singleton]; omega
theorem fl_drop_spec (ei : Nat) (fi : Nat) (me : Nat) (Fs : List Fe) (fc : Nat) (G : List Ro) (Na : Option Addr) (e : Nat) (nk : Nat) (p : List Int) (sl : List Bool) (Sa : Option Addr) (sn : Nat) (sc : Nat) (nm : ByteArray) (hFe : FeOK Fs) (hFm : FMOK Fs fc) (hFi : FeIn Fs G) (hFb : FeBl Fs (nk : Int)) (L : p.length = nk) (hNa : 0 < nk → Option.isSome Na = true) (C : nk ≤ e) (B : nk ≤ 2048) (hsll : sl.length = 64) :
 CallsS Try.prog 16 [pt ei, .string nm] [blk ei 87 (([pt fi] : List Value) ++ (([.map (some me)] : List Value) ++ (([ς Na nk e] : List Value) ++ (bls sl ++ ([ς Sa sn sc] : List Value))))), mpf me (Fs.map feM) fc, κ 3 .i64 Na nk e p, rws .i64 G] (fun r D => ∃ (K : List Fe) (x : List Int) (s : List Bool), r = .tuple #[] ∧ D = [blk ei 87 (([pt fi] : List Value) ++ (([.map (some me)] : List Value) ++ (([ς Na nk e] : List Value) ++ (bls s ++ ([ς Sa sn sc] : List Value))))), mpf me (K.map feM) fc, κ 3 .i64 Na nk e x, rws .i64 G] ∧ (K = fdel Fs nm) ∧ (x = dropN Fs p nm) ∧ (x.length = nk) ∧ (s = dropS Fs sl nm) ∧ (s.length = 64)) := by
 refine CallsS.enter hU Try.f16 _ [] 44 Try.func16 rfl (by decide) rfl rfl (by kernel_rfl) fun P W => ?_
 refine RunC.sr ?_
 refine RunR.sl hU [] 3 3 [0, 1, 11] [(0, pt ei), (1, .string nm), (11, .pointer (some ⟨ei, 1, none⟩))] 3 ?_
 refine RunR.st (some 12) (.load 48 (.tmp 11)) (Step.load_blk hU 0 ei (1) 87 (([pt fi] : List Value) ++ (([.map (some me)] : List Value) ++ (([ς Na nk e] : List Value) ++ (bls sl ++ ([ς Sa sn sc] : List Value))))) (.map (some me)) (by kernel_rfl) (by kernel_rfl) (loadv_one (by kernel_rfl) (show Seg _ 1 _ from Seg.skip (n := 1) (o := 0) rfl (Seg.here _ _))) (by kernel_rfl) ?_)
 refine RunR.sl hU [] 1 5 [0, 1, 12, 13] [(0, pt ei), (1, .string nm), (12, .map (some me)), (13, .string nm)] 1 ?_
 refine RunR.st (some 14) (.lookup 48 (.tmp 12) (.tmp 13) true) (Step.lookupFe hU 1 9 63 me fc 3 40 Fs nm (by kernel_rfl) (by kernel_rfl) (by kernel_rfl) (by kernel_rfl) (by kernel_rfl) (by kernel_rfl) (by assumption : FeOK Fs) (by kernel_rfl) (fun c j d g a m M N z A u J => ?_))
 refine RunR.sl hU [] 3 9 [0, 1, 15, 16] [(0, pt ei), (1, .string nm), (15, .agg #[ι c, ι j, ς d a.length g]), (16, η (fhas Fs nm))] 3 ?_
 refine RunR.st (some 4) (.alloc 63) (Step.al hU 3 40 (.agg #[ι 0, ι 0, ς0]) (fun f => ?_))
 refine RunR.st none (.store 63 (.tmp 4) (.tmp 15)) (Step.store_blk hU 0 f 0 63 [ι 0, ι 0, ς0] (.agg #[ι c, ι j, ς d a.length g]) (by kernel_rfl) (by kernel_rfl) (by kernel_rfl) 3 rfl [ι c, ι j, ς d a.length g] (by kernel_rfl) rfl (by kernel_rfl) (by decide) ?_)
 refine RunR.sl hU [] 1 12 [0, 1, 4, 5] [(0, pt ei), (1, .string nm), (4, pt f), (5, η (fhas Fs nm))] 1 ?_
 refine RunR.nn ?_
 refine RunC.seq ?_
 refine RunC.sr ?_
 refine RunR.sl hU [] 2 2 [0, 1, 4, 18] [(0, pt ei), (1, .string nm), (4, pt f), (18, η (!fhas Fs nm))] 2 ?_
 refine RunR.nn ?_
 refine RunC.cond (b := !fhas Fs nm) (by kernel_rfl) (fun q => ?_) (fun q => ?_)
 ·have k : fhas Fs nm = false := by simpa using q
  refine RunC.ret ?_
  refine kseq_r ?_
  refine kret_r [] [1, 1, 1, 1] [blk ei 87 (([pt fi] : List Value) ++ (([.map (some me)] : List Value) ++ (([ς Na nk e] : List Value) ++ (bls sl ++ ([ς Sa sn sc] : List Value))))), mpf me (Fs.map feM) fc, κ 3 .i64 Na nk e p, rws .i64 G] trivial (by kernel_rfl) rfl ⟨Fs, p, sl, rfl, rfl, (by exact fdel_no k), (by exact drop_no k), ‹_›, (by exact drop_noS k), ‹_›⟩
 have w : fhas Fs nm = true := by simpa using q
 refine RunC.ks ?_
 refine RunC.seq ?_
 refine RunC.sr ?_
 refine RunR.sl hU [] 1 1 [0, 1, 4, 19] [(0, pt ei), (1, .string nm), (4, pt f), (19, .pointer (some ⟨f, 2, none⟩))] 1 ?_
 refine RunR.st (some 20) (.load 49 (.tmp 19)) (Step.load_blk hU 0 f (2) 63 [ι c, ι j, ς d a.length g] (ς d a.length g) (by kernel_rfl) (by kernel_rfl) (by kernel_rfl) (by kernel_rfl) ?_)
 refine RunR.sl hU [] 2 4 [0, 1, 4, 20, 21, 22] [(0, pt ei), (1, .string nm), (4, pt f), (20, ς d a.length g), (21, ι (a.length : Int)), (22, ι 0)] 2 ?_
 refine RunR.nn ?_
 refine RunC.block ?_
 refine RunC.env [0, 1, 4, 20, 21, 22] [(0, pt ei), (1, .string nm), (4, pt f), (20, ς d a.length g), (21, ι (a.length : Int)), (22, ι 0)] (by kernel_rfl) ?_
 refine RunC.only [3, 0, 0, 0, 0] [κ 3 .i64 Na nk e p, blk f 63 [ι c, ι j, ς d a.length g], blk ei 87 (([pt fi] : List Value) ++ (([.map (some me)] : List Value) ++ (([ς Na nk e] : List Value) ++ (bls sl ++ ([ς Sa sn sc] : List Value))))), mpf me (Fs.map feM) fc, rws .i64 G] (by kernel_rfl) ?_
 refine RunC.loop (σ := Nat) (fun n_ t_ D_ => ∃ (i : Int) (l : List Int), (0 ≤ i) ∧ (i ≤ (a.length : Int)) ∧ (l = zeroL p ((a).take i.toNat)) ∧ (l.length = nk) ∧ n_ = ((a.length - i).toNat : Nat) ∧ t_ = [(0, pt ei), (1, .string nm), (4, pt f), (20, ς d a.length g), (21, ι (a.length : Int)), (22, ι i)] ∧ D_ = [κ 3 .i64 Na nk e l, blk f 63 [ι c, ι j, ς d a.length g], blk ei 87 (([pt fi] : List Value) ++ (([.map (some me)] : List Value) ++ (([ς Na nk e] : List Value) ++ (bls sl ++ ([ς Sa sn sc] : List Value))))), mpf me (Fs.map feM) fc, rws .i64 G]) id _ ⟨0, p, (by omega), (by omega), (by rfl), ‹_›, rfl, rfl, rfl⟩ ?_
 rintro n_ _ _ ⟨i, l, hi, O, v, t, rfl, rfl, rfl⟩
 refine RunC.sr ?_
 refine RunR.sl hU [] 1 1 [0, 1, 4, 20, 21, 22, 23] [(0, pt ei), (1, .string nm), (4, pt f), (20, ς d a.length g), (21, ι (a.length : Int)), (22, ι i), (23, η (decide (i < (a.length : Int))))] 1 ?_
 refine RunR.nn ?_
 refine RunC.seq ?_
 refine RunC.condp (i < (a.length : Int)) (by kernel_rfl) (fun y => ?_) (fun y => ?_)
 ·refine RunC.ks ?_
  refine RunC.seq ?_
  refine RunC.block ?_
  refine RunC.sr ?_
  refine RunR.sil hU [] 1 1 [0, 1, 4, 20, 21, 22, 24] [(0, pt ei), (1, .string nm), (4, pt f), (20, ς d a.length g), (21, ι (a.length : Int)), (22, ι i), (24, .pointer (elemAt d i 1))] (((0 ≤ i ∧ i < (a.length : Int)) ∧ Option.isSome d = true) ∧ True) rfl (by kernel_rfl) ⟨⟨by omega, u (by omega)⟩, trivial⟩ ?_
  refine RunR.st (some 25) (.load 3 (.tmp 24)) (Step.load_num hU 4 (rws .i64 G) d i .i64 a rfl (by kernel_rfl) (by kernel_rfl) (m.tells (by assumption : FeIn Fs G)) (by kernel_rfl) (by omega) ?_)
  have H := bl_at (m.blk hFb).1 hi (by omega) (rfl : a.getD ((i).toNat) 0 = _)
  have E : -9223372036854775808 ≤ a.getD ((i).toNat) 0 ∧ a.getD ((i).toNat) 0 < 9223372036854775808 := z.at_ _
  refine RunR.sl hU [] 1 3 [0, 1, 4, 7, 20, 21, 22] [(0, pt ei), (1, .string nm), (4, pt f), (7, ι (a.getD (i).toNat 0)), (20, ς d a.length g), (21, ι (a.length : Int)), (22, ι i)] 1 ?_
  refine RunR.nn ?_
  refine RunC.region ?_
  refine RunR.sl hU [] 3 3 [0, 1, 4, 7, 20, 21, 22, 28] [(0, pt ei), (1, .string nm), (4, pt f), (7, ι (a.getD (i).toNat 0)), (20, ς d a.length g), (21, ι (a.length : Int)), (22, ι i), (28, .pointer (some ⟨ei, 2, none⟩))] 3 ?_
  refine RunR.st (some 29) (.load 49 (.tmp 28)) (Step.load_blk hU 2 ei (2) 87 (([pt fi] : List Value) ++ (([.map (some me)] : List Value) ++ (([ς Na nk e] : List Value) ++ (bls sl ++ ([ς Sa sn sc] : List Value))))) (ς Na nk e) (by kernel_rfl) (by kernel_rfl) (loadv_one (by kernel_rfl) (show Seg _ 2 _ from Seg.skip (n := 1) (o := 1) rfl (Seg.skip (n := 1) (o := 0) rfl (Seg.here _ _)))) (by kernel_rfl) ?_)
  refine RunR.sil hU [] 2 6 [0, 1, 4, 20, 21, 22, 31] [(0, pt ei), (1, .string nm), (4, pt f), (20, ς d a.length g), (21, ι (a.length : Int)), (22, ι i), (31, .pointer (elemAt Na (a.getD (i).toNat 0) 1))] ((True) ∧ ((0 ≤ (a.getD (i).toNat 0) ∧ (a.getD (i).toNat 0) < (nk : Int)) ∧ Option.isSome Na = true) ∧ True) rfl (by kernel_rfl) ⟨trivial, ⟨by omega, hNa (by omega)⟩, trivial⟩ ?_
  refine RunR.st none (.store 3 (.tmp 31) (.const (ι 0))) (Step.store_num hU 0 3 nk e Na .i64 l (a.getD (i).toNat 0) 0 (by kernel_rfl) (by kernel_rfl) (by kernel_rfl) rfl (by omega) ?_)
  have I : (l.set (a.getD (i).toNat 0).toNat 0).length = l.length := List.length_set
  refine RunR.dn ?_
  refine kblock_n ?_
  refine kseq_n ?_
  refine RunC.region ?_
  refine RunR.sil hU [0] 2 2 [0, 1, 4, 20, 21, 22] [(0, pt ei), (1, .string nm), (4, pt f), (20, ς d a.length g), (21, ι (a.length : Int)), (22, ι (i + 1))] ((-9223372036854775808 ≤ (i + 1) ∧ (i + 1) < 9223372036854775808) ∧ (True) ∧ True) rfl (by kernel_rfl) ⟨(by omega), trivial, trivial⟩ ?_
  refine RunR.dn ?_
  refine kloop_n _ [0, 1, 4, 20, 21, 22] [0, 0, 0, 0, 0] [(0, pt ei), (1, .string nm), (4, pt f), (20, ς d a.length g), (21, ι (a.length : Int)), (22, ι (i + 1))] [κ 3 .i64 Na nk e (l.set (a.getD (i).toNat 0).toNat 0), blk f 63 [ι c, ι j, ς d a.length g], blk ei 87 (([pt fi] : List Value) ++ (([.map (some me)] : List Value) ++ (([ς Na nk e] : List Value) ++ (bls sl ++ ([ς Sa sn sc] : List Value))))), mpf me (Fs.map feM) fc, rws .i64 G] (by kernel_rfl) (by kernel_rfl) ?_ ⟨(i + 1), (l.set (a.getD (i).toNat 0).toNat 0), (by omega), ‹_›, (by exact zero_step hi (by omega) v), (by rw [List.length_set]; exact t), rfl, (by rfl), (by rfl)⟩
  show ((a.length - (i + 1)).toNat : Nat) < ((a.length - i).toNat : Nat)
  omega
 refine RunC.exit ?_
 refine kseq_e ?_
 refine kloop_e ?_
 refine kblock_e ?_
 refine kseq_n ?_
 refine RunC.seq ?_
 refine RunC.regionU hU 7 [blk f 63 [ι c, ι j, ς d a.length g]] [1] [6] (bm 7 0) (by kernel_rfl) (by kernel_rfl) (by kernel_rfl) ?_
 refine RunU.sl hU 0 (bm 7 1) 33 (pt ei) ?_
 refine RunU.sl hU 1 (bm 7 3) 34 (pt f) ?_
 refine RunU.rd 2 (bm 7 7) 35 (.load 3 (.tmp 34)) (ι c) [1] (Reads.load_blk hU 0 f (0) 63 [ι c, ι j, ς d a.length g] (ι c) (by kernel_rfl) (by kernel_rfl) (by kernel_rfl)) ?_
 refine RunU.sl hU 3 (bm 7 15) 36 (pt ei) ?_
 refine RunU.sl hU 4 (bm 7 31) 37 (.pointer (some ⟨ei, 3, none⟩)) ?_
 refine RunU.sil hU false 5 (bm 7 63) 38 (.pointer (some ⟨ei, 3 + (c).toNat * 1, none⟩)) (0 ≤ c ∧ c < (64 : Int)) (by kernel_rfl) (by omega) (by kernel_rfl) (by kernel_rfl) (fun _ _ _ h => h) ?_
 have F : (sl.set ((c).toNat) false).length = sl.length := List.length_set
 refine RunU.on none (.store 4 (.tmp 38) (.const (η false))) 6 (bm 7 127) [] (Step.store_seg hU 2 ei (3 + (c).toNat * 1) 87 (([pt fi] : List Value) ++ (([.map (some me)] : List Value) ++ (([ς Na nk e] : List Value) ++ (bls sl ++ ([ς Sa sn sc] : List Value))))) (([pt fi] : List Value) ++ (([.map (some me)] : List Value) ++ (([ς Na nk e] : List Value) ++ (bls (sl.set ((c).toNat) false) ++ ([ς Sa sn sc] : List Value))))) ([η false]) (η false) (by kernel_rfl) (by kernel_rfl) (by kernel_rfl) 1 (by kernel_rfl) (by kernel_rfl) (by rfl) (by kernel_rfl) ((Put.skip (n := 1) (o := (1 + (1 + ((c).toNat)))) rfl (Put.skip (n := 1) (o := (1 + ((c).toNat))) rfl (Put.skip (n := 1) (o := ((c).toNat)) rfl (Put.front _ (Put.nthb (i := (c).toNat) (by omega) rfl))))).at (by omega)) ?_)
 refine orR ?_
 refine RunU.ev [0, 1] [(0, pt ei), (1, .string nm)] ?_
 refine RunU.dn ?_
 refine kseq_n ?_
 refine RunC.region ?_
 refine RunR.sl hU [] 3 3 [1, 41] [(1, .string nm), (41, .pointer (some ⟨ei, 1, none⟩))] 3 ?_
 refine RunR.st (some 42) (.load 48 (.tmp 41)) (Step.load_blk hU 0 ei (1) 87 (([pt fi] : List Value) ++ (([.map (some me)] : List Value) ++ (([ς Na nk e] : List Value) ++ (bls (sl.set ((c).toNat) false) ++ ([ς Sa sn sc] : List Value))))) (.map (some me)) (by kernel_rfl) (by kernel_rfl) (loadv_one (by kernel_rfl) (show Seg _ 1 _ from Seg.skip (n := 1) (o := 0) rfl (Seg.here _ _))) (by kernel_rfl) ?_)
 refine RunR.sl hU [] 1 5 [42, 43] [(42, .map (some me)), (43, .string nm)] 1 ?_
 refine RunR.st none (.call { callee := .builtin .delete, args := #[.tmp 42, .tmp 43], argTypes := #[48, 9] }) (Step.deleteFe hU 3 9 63 me fc Fs nm (by kernel_rfl) (by kernel_rfl) (by kernel_rfl) (by kernel_rfl) (by kernel_rfl) (by assumption : FMOK Fs fc) (by kernel_rfl) ?_)
 refine RunR.dn ?_
 refine kret_n [] [1, 0, 0, 1] [blk ei 87 (([pt fi] : List Value) ++ (([.map (some me)] : List Value) ++ (([ς Na nk e] : List Value) ++ (bls (sl.set ((c).toNat) false) ++ ([ς Sa sn sc] : List Value))))), mpf me ((fdel Fs nm).map feM) fc, κ 3 .i64 Na nk e l, rws .i64 G] trivial (by kernel_rfl) rfl ⟨(fdel Fs nm), l, (sl.set ((c).toNat) false), rfl, rfl, (by rfl), (by exact drop_yes m v (by omega)), ‹_›, (by exact drop_yesS m w), (by rw [List.length_set]; assumption)⟩
theorem fl_Ix_spec (BA : Option Addr) (bn : Nat) (bc : Nat) (xs : List Bool) (v : Bool) (hbn : xs.length = bn) (c : bn ≤ 1000000) :
 CallsS Try.prog 37 [ς BA bn bc, η v] [vw BA (bls xs)] (fun r D => ∃ (ix : Int), r = ι ix ∧ D = [] ∧ ((0 ≤ ix ∧ ix < (bn : Int) ∧ xs.getD ix.toNat false = v) ∨ (ix = -1 ∧ ∀ j : Nat, j < bn → xs.getD j false ≠ v))) := by
 refine CallsS.enter hU Try.f37 _ [.tmp 4] 19 Try.func37 rfl (by decide) rfl rfl (by kernel_rfl) fun g W => ?_
 refine RunC.know (p := 0 < xs.length → Option.isSome BA = true) (fun _ _ w hs => vw_some hs 0 rfl (by exact bls_len _)) (fun a => ?_)
 refine RunC.sr ?_
 refine RunR.sl hU [] 1 1 [0, 1, 4] [(0, ς BA bn bc), (1, η v), (4, ι 0)] 1 ?_
 refine RunR.nn ?_
 refine RunC.seq ?_
 refine RunC.sr ?_
 refine RunR.sl hU [] 3 3 [0, 1, 4, 7, 8] [(0, ς BA bn bc), (1, η v), (4, ι 0), (7, ι (bn : Int)), (8, ι 0)] 3 ?_
 refine RunR.nn ?_
 refine RunC.block ?_
 refine RunC.env [0, 1, 7, 8] [(0, ς BA bn bc), (1, η v), (7, ι (bn : Int)), (8, ι 0)] (by kernel_rfl) ?_
 refine RunC.only [0] [vw BA (bls xs)] (by kernel_rfl) ?_
 refine RunC.loop (σ := Nat) (fun n_ t_ D_ => ∃ (i : Int), (0 ≤ i) ∧ (i ≤ (bn : Int)) ∧ (∀ j : Nat, (j : Int) < i → xs.getD j false ≠ v) ∧ n_ = ((bn - i).toNat : Nat) ∧ t_ = [(0, ς BA bn bc), (1, η v), (7, ι (bn : Int)), (8, ι i)] ∧ D_ = [vw BA (bls xs)]) id _ ⟨0, (by omega), (by omega), (by intro j hj; omega), rfl, rfl, rfl⟩ ?_
 rintro n_ _ _ ⟨i, hi, f, hj, rfl, rfl, rfl⟩
 refine RunC.sr ?_
 refine RunR.sl hU [] 1 1 [0, 1, 7, 8, 9] [(0, ς BA bn bc), (1, η v), (7, ι (bn : Int)), (8, ι i), (9, η (decide (i < (bn : Int))))] 1 ?_
 refine RunR.nn ?_
 refine RunC.seq ?_
 refine RunC.condp (i < (bn : Int)) (by kernel_rfl) (fun e => ?_) (fun e => ?_)
 ·refine RunC.ks ?_
  refine RunC.seq ?_
  refine RunC.block ?_
  refine RunC.sr ?_
  refine RunR.sl hU [] 2 2 [0, 1, 5, 7, 8] [(0, ς BA bn bc), (1, η v), (5, ι i), (7, ι (bn : Int)), (8, ι i)] 2 ?_
  refine RunR.nx ?_
  refine RunR.sil hU [] 4 4 [0, 1, 5, 7, 8, 11, 14] [(0, ς BA bn bc), (1, η v), (5, ι i), (7, ι (bn : Int)), (8, ι i), (11, η v), (14, .pointer (elemAt BA i 1))] ((True) ∧ (True) ∧ (True) ∧ ((0 ≤ i ∧ i < (bn : Int)) ∧ Option.isSome BA = true) ∧ True) rfl (by kernel_rfl) ⟨trivial, trivial, trivial, ⟨by omega, a (by omega)⟩, trivial⟩ ?_
  refine RunR.st (some 15) (.load 4 (.tmp 14)) (Step.load_of hU 0 (vw BA (bls xs)) BA i 1 (bls xs) (η (xs.getD (i).toNat false)) (by kernel_rfl) (by kernel_rfl) (tells_vw _ _) (loadv_bls (by kernel_rfl) (by omega)) (by kernel_rfl) (by rw [bls_len]; omega) ?_)
  refine RunR.sl hU [] 1 6 [0, 1, 5, 7, 8, 16] [(0, ς BA bn bc), (1, η v), (5, ι i), (7, ι (bn : Int)), (8, ι i), (16, η (v == xs.getD (i).toNat false))] 1 ?_
  refine RunR.nn ?_
  refine RunC.cond (b := (v == xs.getD (i).toNat false)) (by kernel_rfl) (fun d => ?_) (fun d => ?_)
  ·refine RunC.sr ?_
   refine RunR.sl hU [] 2 2 [0, 1, 4, 7, 8] [(0, ς BA bn bc), (1, η v), (4, ι i), (7, ι (bn : Int)), (8, ι i)] 2 ?_
   refine RunR.nn ?_
   refine RunC.ret ?_
   refine kblock_r ?_
   refine kseq_r ?_
   refine kloop_r ?_
   refine kblock_r ?_
   refine kseq_r ?_
   refine kret_r [ι i] [] [] ⟨rfl, trivial⟩ (by kernel_rfl) rfl ⟨i, rfl, rfl, (by exact .inl ⟨by omega, by omega, ix_eq ‹_›⟩)⟩
  refine RunC.skip ?_
  refine kblock_n ?_
  refine kseq_n ?_
  refine RunC.region ?_
  refine RunR.sil hU [0] 2 2 [0, 1, 7, 8] [(0, ς BA bn bc), (1, η v), (7, ι (bn : Int)), (8, ι (i + 1))] ((-9223372036854775808 ≤ (i + 1) ∧ (i + 1) < 9223372036854775808) ∧ (True) ∧ True) rfl (by kernel_rfl) ⟨(by omega), trivial, trivial⟩ ?_
  refine RunR.dn ?_
  refine kloop_n _ [0, 1, 7, 8] [0] [(0, ς BA bn bc), (1, η v), (7, ι (bn : Int)), (8, ι (i + 1))] [vw BA (bls xs)] (by kernel_rfl) (by kernel_rfl) ?_ ⟨(i + 1), (by omega), ‹_›, (by exact ix_step hi hj ‹_›), rfl, (by rfl), (by rfl)⟩
  show ((bn - (i + 1)).toNat : Nat) < ((bn - i).toNat : Nat)
  omega
 refine RunC.exit ?_
 refine kseq_e ?_
 refine kloop_e ?_
 refine kblock_e ?_
 refine kseq_n ?_
 refine RunC.sr ?_
 refine RunR.sl hU [] 1 1 [4] [(4, ι (-1))] 1 ?_
 refine RunR.nn ?_
 refine RunC.ret ?_
 refine kret_r [ι (-1)] [] [] ⟨rfl, trivial⟩ (by kernel_rfl) rfl ⟨(-1), rfl, rfl, (by exact .inr ⟨rfl, fun j hj_ => hj j (by omega)⟩)⟩
end Go.Proofs.Ytlibhidhfbecbaa.LFileOne
