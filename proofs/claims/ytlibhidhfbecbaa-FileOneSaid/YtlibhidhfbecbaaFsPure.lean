/- Files: the files on a disk. -/
import Derived.Test.YtlibhidhfbecbaaLwPure
namespace Go.Proofs.Ytlibhidhfbecbaa.SL.I
set_option linter.unusedVariables false
set_option linter.unusedSimpArgs false
open Go Go.Proofs.Ytlibhidhfbecbaa.SL Go.Proofs.Ytlibhidhfbecbaa.SL.W Go.Proofs.Ytlibhidhfbecbaa.SL.D

theorem str_sb (s : ByteArray) : strOfNums (sb s) = s := by
  apply ByteArray.ext
  apply Array.ext'
  simp only [sb, strOfNums, List.map_map]
  conv => rhs; rw [← List.map_id s.data.toList]
  refine List.map_congr_left (fun x _ => ?_)
  simp
def win (rs : List (List Int)) (j : Nat) : List Int := ((rs.getD (j / 4) []).drop (64 * (j % 4))).take 64
def R16 (rs : List (List Int)) : Prop := rs.length = 16 ∧ ∀ r ∈ rs, r.length = 256
theorem R16.zero : R16 (List.replicate 16 (List.replicate 256 (0 : Int))) := ⟨List.length_replicate, fun r hr => by rw [List.eq_of_mem_replicate hr, List.length_replicate]⟩
theorem R16.at {rs : List (List Int)} (h : R16 rs) {i : Nat} (hi : i < 16) : (rs.getD i []).length = 256 := by
  have h1 := h.1
  rw [List.getD_eq_getElem?_getD, List.getElem?_eq_getElem (by omega)]
  exact h.2 _ (List.getElem_mem _)
theorem dirCE_R {rs : List (List Int)} {e : En} (h : R16 rs) (hn : e.1.size ≤ 40) (hs : 0 ≤ e.2.1 ∧ e.2.1 < 64) : R16 (dirCE rs e) := by
  refine ⟨by rw [dirCE, List.length_set]; exact h.1, fun r hr => ?_⟩
  rcases List.mem_or_eq_of_mem_set hr with hr | rfl
  · exact h.2 r hr
  · have := h.at (i := (e.2.1 / 4).toNat) (by omega)
    rw [putE_len2 hn (by omega), this]
theorem dirCE_win {rs : List (List Int)} {e : En} {j : Nat} (h : R16 rs) (hn : e.1.size ≤ 40) (hs : 0 ≤ e.2.1 ∧ e.2.1 < 64) (hj : j < 64) : win (dirCE rs e) j = if e.2.1 = (j : Int) then putE (win rs j) 0 e.1 e.2.2.1 (firstB e.2.2.2) else win rs j := by
  have h16 := h.1
  have hl := h.at (i := (e.2.1 / 4).toNat) (by omega)
  unfold win dirCE
  rw [getD_set (by omega)]
  by_cases h1 : j / 4 = (e.2.1 / 4).toNat
  · rw [if_pos h1]
    by_cases h2 : e.2.1 = (j : Int)
    · rw [if_pos h2, h1, show (64 * (e.2.1 % 4)).toNat = 64 * (j % 4) by omega, putE_win hn (by omega)]
    · rw [if_neg h2, h1, putE_other hn (by omega) (by omega) (by omega)]
  · rw [if_neg h1, if_neg (by omega)]
theorem dirC_win {C : Con} : ∀ {rs : List (List Int)}, R16 rs → (∀ e ∈ C, e.1.size ≤ 40 ∧ 0 ≤ e.2.1 ∧ e.2.1 < 64) → (C.map (·.2.1)).Nodup →
    R16 (C.foldl dirCE rs) ∧ ∀ j : Nat, j < 64 → (∀ e ∈ C, e.2.1 = (j : Int) → win (C.foldl dirCE rs) j = putE (win rs j) 0 e.1 e.2.2.1 (firstB e.2.2.2)) ∧ ((∀ e ∈ C, e.2.1 ≠ (j : Int)) → win (C.foldl dirCE rs) j = win rs j) := by
  induction C with
  | nil => exact fun h _ _ => ⟨h, fun j hj => ⟨fun e he => (by cases he), fun _ => rfl⟩⟩
  | cons a C ih =>
    intro rs h hC hn
    rw [List.map_cons, List.nodup_cons] at hn
    have ha := hC a List.mem_cons_self
    obtain ⟨h1, h2⟩ := ih (rs := dirCE rs a) (dirCE_R h ha.1 ha.2) (fun e he => hC e (List.mem_cons_of_mem _ he)) hn.2
    refine ⟨h1, fun j hj => ⟨fun e he hej => ?_, fun hno => ?_⟩⟩
    · rcases List.mem_cons.1 he with rfl | he
      · rw [List.foldl_cons, (h2 j hj).2 (fun x hx q => hn.1 (List.mem_map.2 ⟨x, hx, q.trans hej.symm⟩)), dirCE_win h ha.1 ha.2 hj, if_pos hej]
      · rw [List.foldl_cons, (h2 j hj).1 e he hej, dirCE_win h ha.1 ha.2 hj, if_neg]
        intro q
        exact hn.1 (List.mem_map.2 ⟨e, he, hej.trans q.symm⟩)
    · rw [List.foldl_cons, (h2 j hj).2 (fun e he => hno e (List.mem_cons_of_mem _ he)), dirCE_win h ha.1 ha.2 hj, if_neg (hno a List.mem_cons_self)]
theorem win_zero {j : Nat} (hj : j < 64) : win (List.replicate 16 (List.replicate 256 (0 : Int))) j = List.replicate 64 0 := by
  unfold win
  rw [List.getD_eq_getElem?_getD, List.getElem?_replicate, if_pos (by omega), Option.getD_some, List.drop_replicate, List.take_replicate]
  congr 1
  omega
theorem told_put {e : En} (hn : 1 ≤ e.1.size ∧ e.1.size ≤ 40) (hs : 0 ≤ e.2.2.1 ∧ e.2.2.1 ≤ 524288) (hf : 0 ≤ firstB e.2.2.2 ∧ firstB e.2.2.2 < 65536) : Told (putE (List.replicate 64 0) 0 e.1 e.2.2.1 (firstB e.2.2.2)) e := by
  obtain ⟨nm, sl, sz, bl⟩ := e
  simp only at hn hs hf
  unfold Told
  simp only
  generalize firstB bl = fb at *
  have hl : (putE (List.replicate 64 (0 : Int)) 0 nm sz fb).length = 64 := by rw [putE_len2 hn.2 (by simp), List.length_replicate]
  have g : ∀ j, (putE (List.replicate 64 (0 : Int)) 0 nm sz fb).getD j 0 = _ := fun j => putE_get hn.2 (by simp)
  refine ⟨?_, ?_, ?_, ?_⟩
  · rw [g 0]; simp
  · rw [nmB, g 0]
    simp only [Nat.lt_irrefl, if_false, Nat.zero_add, show ¬ (64 ≤ 0) by decide, if_true, Int.toNat_natCast]
    have : ((putE (List.replicate 64 (0 : Int)) 0 nm sz fb).drop 1).take nm.size = sb nm := by
      apply List.ext_getElem?
      intro j
      by_cases hj : j < nm.size
      · have h1 := g (1 + j)
        rw [if_neg (by omega), if_neg (by omega), if_neg (by omega), if_pos (by omega)] at h1
        rw [List.getElem?_take_of_lt hj, List.getElem?_drop]
        have h2 : 1 + j < (putE (List.replicate 64 (0 : Int)) 0 nm sz fb).length := by omega
        have h3 : j < (sb nm).length := by rw [SL.sb_len]; exact hj
        rw [List.getElem?_eq_getElem h2, List.getElem?_eq_getElem h3]
        rw [List.getD_eq_getElem?_getD, List.getElem?_eq_getElem h2, List.getD_eq_getElem?_getD, show 1 + j - (0 + 1) = j by omega, List.getElem?_eq_getElem h3] at h1
        exact congrArg some h1
      · rw [List.getElem?_eq_none (by rw [List.length_take]; omega), List.getElem?_eq_none (by rw [SL.sb_len]; omega)]
    rw [this, str_sb]
  · have e4 : leN ((putE (List.replicate 64 (0 : Int)) 0 nm sz fb).drop 44) 4 = leN (leB sz 4) 4 := by
      have h : ∀ j, j < 4 → ((putE (List.replicate 64 (0 : Int)) 0 nm sz fb).drop 44).getD j 0 = (leB sz 4).getD j 0 := fun j hj => by
        have h1 := g (44 + j)
        rw [if_neg (by omega), if_neg (by omega), if_neg (by omega), if_neg (by omega), if_neg (by omega), if_pos (by omega), show 44 + j - (0 + 44) = j by omega] at h1
        rw [← h1]
        simp only [List.getD_eq_getElem?_getD, List.getElem?_drop]
      simp only [leN, h 0 (by decide), h 1 (by decide), h 2 (by decide), h 3 (by decide)]
    rw [szB, e4, put_get32 ⟨hs.1, by have := hs.2; omega⟩]
  · have h48 := g 48
    have h49 := g 49
    rw [if_neg (by omega), if_neg (by omega), if_neg (by omega), if_neg (by omega), if_neg (by omega), if_neg (by omega), if_pos (by omega)] at h48 h49
    rw [nx, h48, h49]
    show fb % 256 + 256 * (fb / 256 % 256) = fb
    omega
theorem n2L_get : ∀ {xs : List Int} {q : Nat}, q < xs.length → (n2L xs).getD (2 * q) 0 = xs.getD q 0 % 256 ∧ (n2L xs).getD (2 * q + 1) 0 = xs.getD q 0 / 256 % 256
  | [], q, h => by simp at h
  | x :: xs, 0, _ => ⟨rfl, rfl⟩
  | x :: xs, q + 1, h => by
    have ih := n2L_get (xs := xs) (q := q) (by simpa using h)
    have e : n2L (x :: xs) = (x % 256) :: (x / 256 % 256) :: n2L xs := rfl
    rw [e, show 2 * (q + 1) = (2 * q + 1) + 1 by omega, List.getD_cons_succ, List.getD_cons_succ, List.getD_cons_succ]
    exact ih
theorem padB_get {xs : List Int} {j : Nat} (h : j < xs.length) : (padB xs).getD j 0 = xs.getD j 0 := by
  unfold padB
  rw [List.getD_eq_getElem?_getD, List.getD_eq_getElem?_getD, List.getElem?_append_left h]
theorem tab_nx {ns : List Int} {i : Nat} (hi : i < ns.length) (hb : 0 ≤ ns.getD i 0 ∧ ns.getD i 0 < 65536) : nx ((tabB ns).getD (i / 128) []) (2 * (i % 128)) = ns.getD i 0 := by
  have h1 : i / 128 < (ns.length + 127) / 128 := by omega
  have h2 : (tabB ns).getD (i / 128) [] = padB (n2L (chk 128 ns (i / 128))) := by
    unfold tabB tabN
    rw [List.getD_eq_getElem?_getD, List.getElem?_map, List.getElem?_range h1]; rfl
  have h3 : i % 128 < (chk 128 ns (i / 128)).length := by rw [chk_len]; omega
  have h4 : (chk 128 ns (i / 128)).getD (i % 128) 0 = ns.getD i 0 := by
    unfold chk
    simp only [List.getD_eq_getElem?_getD]
    rw [List.getElem?_take_of_lt (by omega), List.getElem?_drop]
    congr 2
    omega
  have h5 := n2L_get h3
  have h6 := n2L_len (chk 128 ns (i / 128))
  rw [h2, nx, padB_get (by omega), padB_get (by omega), h5.1, h5.2, h4]
  omega
theorem padB_len {xs : List Int} (h : xs.length ≤ 256) : (padB xs).length = 256 := by
  unfold padB
  rw [List.length_append, List.length_replicate]
  omega
theorem tabB_len (ns : List Int) : (tabB ns).length = (ns.length + 127) / 128 := by simp [tabB, tabN]
theorem tabB_256 {ns r : List Int} (h : r ∈ tabB ns) : r.length = 256 := by
  obtain ⟨c, _, rfl⟩ := List.mem_map.1 h
  refine padB_len ?_
  rw [n2L_len, chk_len]
  omega
theorem chg_bok {n : Nat} {ss : List Int} {wt : Wt} {rows : List (List Int)} {ls : List Ch} {i : Nat} (h : dat ls = chgL ss wt rows i) (hi : i ≤ rows.length) (hr : ∀ r ∈ rows, r.length = 256) (hn : 256 * (42 + i) + 256 ≤ n + 256) : BOK n ls := fun r hr2 => by
  have h1 : (r.1, r.2.2.2) ∈ chgL ss wt rows i := by rw [← h]; exact List.mem_map.2 ⟨r, hr2, rfl⟩
  have h2 := chgL_mem h1
  simp only at h2
  refine ⟨h2.1, by omega, ?_⟩
  rw [h2.2.2, List.getD_eq_getElem?_getD, List.getElem?_eq_getElem (by omega)]
  exact hr _ (List.getElem_mem _)
structure FS (n : Nat) (ss : List Int) (C : Con) (ns : List Int) : Prop where
  len : ss.length = n
  n6 : n % 256 = 0
  nb : n ≤ 557056
  k1 : 1 ≤ datN n
  good : Good C ns (datN n).toNat
  disk : OnDisk ss [] C ns (datN n).toNat
  head : seenP ss [] 0 = List.replicate 256 0
theorem good_perm {C C2 : Con} {ns : List Int} {k : Nat} (h : Good C ns k) (p : C2.Perm C) : Good C2 ns k := by
  have pb : (cbls C2).Perm (cbls C) := p.flatMap_right _
  exact ⟨(p.map _).nodup_iff.2 h.nms, (p.map _).nodup_iff.2 h.slots, fun e he => h.nm e (p.mem_iff.1 he), fun e he => h.sl e (p.mem_iff.1 he), fun e he => h.sz e (p.mem_iff.1 he), fun e he => h.need e (p.mem_iff.1 he), pb.nodup_iff.2 h.bls, fun b hb => h.bd b (pb.mem_iff.1 hb), h.len, h.k2, fun e he => h.lnk e (p.mem_iff.1 he), fun i hi => by rw [h.free i hi, pb.mem_iff]⟩
theorem good_sz {C : Con} {ns : List Int} {k : Nat} (h : Good C ns k) {e : En} (he : e ∈ C) : e.2.2.1 ≤ 524288 ∧ e.2.2.2.length ≤ 2048 := by
  have hk := h.k2
  have h3 : e.2.2.2.length ≤ 2048 := by
    have hn := cbls_nd h.bls he
    have hb : ∀ b ∈ e.2.2.2, 0 ≤ b ∧ b < (k : Int) := fun b hb => h.bd b (mem_cbls.2 ⟨e, he, hb⟩)
    have := nodup_le (es := e.2.2.2.map Int.toNat) (F := List.range k) ?_ ?_
    · rw [List.length_map, List.length_range] at this; omega
    · unfold List.Nodup
      rw [List.pairwise_map]
      refine List.Pairwise.imp_of_mem (fun {a b} ha hb2 hab hc => ?_) hn
      have h7 := hb a ha
      have h8 := hb b hb2
      exact hab (by omega)
    · intro x hx
      obtain ⟨b, hb2, rfl⟩ := List.mem_map.1 hx
      have h7 := hb b hb2
      exact List.mem_range.2 (by omega)
  have h4 := h.need e he
  refine ⟨by unfold need at h4; omega, h3⟩
theorem good_first {C : Con} {ns : List Int} {k : Nat} (h : Good C ns k) {e : En} (he : e ∈ C) : 0 ≤ firstB e.2.2.2 ∧ firstB e.2.2.2 < 65536 := by
  have hk := h.k2
  cases hb : e.2.2.2 with
  | nil => exact ⟨by decide, by decide⟩
  | cons b bl =>
    have := h.bd b (mem_cbls.2 ⟨e, he, by rw [hb]; exact List.mem_cons_self⟩)
    simp only [firstB]
    omega
theorem laid_disk {k : Nat} {C C2 : Con} {ns s2 : List Int} (hg : Good C2 ns k) (hp : C.Perm C2) (h : ∀ b : Int, 0 ≤ b → b < (16 + (ns.length + 127) / 128 : Nat) → vb s2 [] b = (dirC C ++ tabB ns).getD b.toNat []) : OnDisk s2 [] C2 ns k := by
  have hgC := good_perm hg hp
  have hw := dirC_win (C := C) R16.zero (fun e he => ⟨(hgC.nm e he).2, hgC.sl e he⟩) hgC.slots
  have hR : R16 (dirC C) := hw.1
  have hent : ∀ j : Nat, j < 64 → entB s2 [] j = win (dirC C) j := fun j hj => by
    unfold entB win
    rw [h _ (by omega) (by omega), List.getD_eq_getElem?_getD, List.getElem?_append_left (by rw [hR.1]; omega), ← List.getD_eq_getElem?_getD, show ((j : Int) / 4).toNat = j / 4 by omega, show (64 * ((j : Int) % 4)).toNat = 64 * (j % 4) by omega]
  refine ⟨fun i hi => ?_, fun j hj => ?_⟩
  · have hl := hg.len
    unfold nxt
    rw [h _ (by omega) (by omega), show ((16 : Int) + (i / 128 : Nat)).toNat = 16 + i / 128 by omega, List.getD_eq_getElem?_getD, List.getElem?_append_right (by rw [hR.1]; omega), hR.1, show 16 + i / 128 - 16 = i / 128 by omega, ← List.getD_eq_getElem?_getD]
    exact tab_nx (by omega) ((good_bnd hg).at_ i)
  · rw [hent j hj]
    have h2 := hw.2 j hj
    by_cases hex : ∃ e ∈ C2, e.2.1 = (j : Int)
    · obtain ⟨e, he, hej⟩ := hex
      refine .inl ⟨e, he, hej, ?_⟩
      have heC := hp.mem_iff.2 he
      show Told (win (C.foldl dirCE _) j) e
      rw [h2.1 e heC hej, win_zero hj]
      exact told_put (hg.nm e he) ⟨hg.sz e he, (good_sz hg he).1⟩ (good_first hg he)
    · have hno : ∀ e ∈ C2, e.2.1 ≠ (j : Int) := fun e he q => hex ⟨e, he, q⟩
      refine .inr ⟨hno, ?_⟩
      show (win (C.foldl dirCE _) j).getD 0 0 = 0
      rw [h2.2 (fun e he => hno e (hp.mem_iff.1 he)), win_zero hj]
      rfl
def cont (ss : List Int) (C : Con) (k : ByteArray) : Option (List Int) := (cget C k).map fun e => datF ss [] e.2.2.2 e.2.2.1
theorem free_count {C : Con} {ns : List Int} {k : Nat} (h : Good C ns k) : (frL ns).length + (cbls C).length = k := by
  have h1 : ((frL ns) ++ cbls C).Perm ((List.range k).map fun i : Nat => (i : Int)) := by
    rw [List.perm_ext_iff_of_nodup]
    · intro b
      rw [List.mem_append, List.mem_map]
      constructor
      · rintro (hb | hb)
        · have := fr_bd h.len b hb
          exact ⟨b.toNat, List.mem_range.2 (by omega), by omega⟩
        · have := h.bd b hb
          exact ⟨b.toNat, List.mem_range.2 (by omega), by omega⟩
      · rintro ⟨i, hi, rfl⟩
        have hi := List.mem_range.1 hi
        by_cases h0 : ns.getD i 0 = 0
        · exact .inl (List.mem_map.2 ⟨i, List.mem_filter.2 ⟨List.mem_range.2 (by rw [h.len]; exact hi), decide_eq_true h0⟩, rfl⟩)
        · exact .inr (Decidable.byContradiction fun g => h0 ((h.free i hi).2 g))
    · rw [List.nodup_append]
      refine ⟨?_, h.bls, fun a ha b hb e => ?_⟩
      · show (((List.range ns.length).filter _).map _).Nodup
        unfold List.Nodup
        rw [List.pairwise_map]
        exact ((List.nodup_range (n := ns.length)).sublist (List.filter_sublist ..)).imp (fun hab e => hab (by exact_mod_cast e))
      · subst e
        obtain ⟨i, hi, rfl⟩ := List.mem_map.1 ha
        have h2 := List.mem_filter.1 hi
        have h3 := List.mem_range.1 h2.1
        exact (h.free i (by have := h.len; omega)).1 (by simpa using h2.2) hb
    · unfold List.Nodup
      rw [List.pairwise_map]
      exact (List.nodup_range (n := k)).imp (fun hab e => hab (by exact_mod_cast e))
  have := h1.length_eq
  rwa [List.length_append, List.length_map, List.length_range] at this
end Go.Proofs.Ytlibhidhfbecbaa.SL.I
