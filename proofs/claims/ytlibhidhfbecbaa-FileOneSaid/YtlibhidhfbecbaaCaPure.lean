/- Files: a Commit while the power is there. -/
import Derived.Test.YtlibhidhfbecbaaFsPure
namespace Go.Proofs.Ytlibhidhfbecbaa.SL.I
set_option linter.unusedVariables false
set_option linter.unusedSimpArgs false
open Go Go.Proofs.Ytlibhidhfbecbaa.SL Go.Proofs.Ytlibhidhfbecbaa.SL.W Go.Proofs.Ytlibhidhfbecbaa.SL.D

theorem put_names {l : List Ca} (h : (l.map (·.1)).Nodup) {k : ByteArray} {g g2 : Bool} {a b : List Int} (h1 : (k, g, a) ∈ l) (h2 : (k, g2, b) ∈ l) : g = g2 ∧ a = b := by
  induction l with
  | nil => cases h1
  | cons x l ih =>
    rw [List.map_cons, List.nodup_cons] at h
    rcases List.mem_cons.1 h1 with h1 | h1 <;> rcases List.mem_cons.1 h2 with h2 | h2
    · rw [← h1] at h2; cases h2; exact ⟨rfl, rfl⟩
    · exact absurd (List.mem_map.2 ⟨_, h2, by rw [← h1]⟩) h.1
    · exact absurd (List.mem_map.2 ⟨_, h1, by rw [← h2]⟩) h.1
    · exact ih h.2 h1 h2
theorem gone_put {l : List Ca} (h : (l.map (·.1)).Nodup) {k : ByteArray} (h1 : isGone l k) (h2 : isPut l k) : False := by
  obtain ⟨⟨a, g, x⟩, hr, rfl, q⟩ := h1
  obtain ⟨⟨b, g2, y⟩, hr2, e, q2⟩ := h2
  simp only at e q q2
  subst e q q2
  have := (put_names h hr hr2).1
  cases this
structure CmD (C : Con) (l : List Ca) (C2 : Con) (c c2 : ByteArray → Option (List Int)) : Prop where
  gone : ∀ k, isGone l k → chas C2 k = false
  put : ∀ k bs, (k, false, bs) ∈ l → c2 k = some bs
  rest : ∀ k, ¬ isGone l k → ¬ isPut l k → c2 k = c k
  has : ∀ k, chas C2 k = true ↔ (chas C k = true ∧ ¬ isGone l k) ∨ isPut l k
theorem done_all {n : Nat} {ss s2 : List Int} {C C2 : Con} {ns : List Int} {l : List Ca} {sl0 : List Bool} {E : Ed} {W : Wt} {ls : List Ch} (hf : FS n ss C ns) (hm : MayOK C l (frL ns).length) (hs : SlC sl0 C) (hp : PutN l (dropsC l ⟨C, ns, sl0, frL ns⟩ l.length) l.length E W) (hC : C2.Perm E.C)
    (hls : dat ls = chgL ss W (dirC C2 ++ tabB E.ns) (16 + (E.ns.length + 127) / 128)) : WK n W ∧ BOK n ls ∧ EdOK (datN n).toNat E ∧
    ((∀ b : Int, 0 ≤ b → 256 * (42 + b) + 256 ≤ n → seenP s2 [] (42 + b) = seenP ss (W ++ layL (dat ls)) (42 + b)) → OnDisk s2 [] E.C E.ns (datN n).toNat ∧ CmD C l E.C (cont ss C) (cont s2 E.C)) := by
  have hdb := datN_bd n
  have hk1 := hf.k1
  have hE0 : EdOK (datN n).toNat (dropsC l ⟨C, ns, sl0, frL ns⟩ l.length) := dropsC_ok (begin_ok hf.good hs.1 hs.2) _
  have hsp : (dropsC l ⟨C, ns, sl0, frL ns⟩ l.length).sp = frL ns := dropsC_sp _
  have hnt : needs l l.length ≤ ((dropsC l ⟨C, ns, sl0, frL ns⟩ l.length).sp.length : Int) := by rw [hsp]; exact hm.nt
  have hok := putN_ok hE0 hm.nm hnt (Nat.le_refl _) hp
  have haddr := putN_addr hE0 hm.nm hnt (Nat.le_refl _) hp
  have hdata := putN_data hE0 hm.nm hnt hm.nd (Nat.le_refl _) hp
  have hwk : WK n W := fun r hr => by
    obtain ⟨b, hb, q1, q2⟩ := haddr r hr
    have := hE0.spb b hb
    exact ⟨by omega, by omega, q2⟩
  have hEl := hok.ed.good.len
  have hgC := good_perm hok.ed.good hC
  have hR : R16 (dirC C2) := (dirC_win (C := C2) R16.zero (fun e he => ⟨(hgC.nm e he).2, hgC.sl e he⟩) hgC.slots).1
  have hrl : (dirC C2 ++ tabB E.ns).length = 16 + (E.ns.length + 127) / 128 := by rw [List.length_append, hR.1, tabB_len]
  have hcnt : 16 + (E.ns.length + 127) / 128 ≤ 32 := by omega
  have hbok : BOK n ls := chg_bok hls (by omega) (fun r hr => (List.mem_append.1 hr).elim (hR.2 r) tabB_256) (by omega)
  refine ⟨hwk, hbok, hok.ed, fun hv => ?_⟩
  have hview : ∀ b : Int, 0 ≤ b → 256 * (42 + b) + 256 ≤ n → vb s2 [] b = if 0 ≤ b ∧ b < ((16 + (E.ns.length + 127) / 128 : Nat) : Int) then (dirC C2 ++ tabB E.ns).getD b.toNat [] else vb ss W b := fun b h0 h1 => by
    unfold vb
    rw [hv b h0 h1, hls, chgL_seen]
  have hvd : ∀ b : Int, 0 ≤ b → b < ((datN n).toNat : Int) → vb s2 [] (32 + b) = vb ss W (32 + b) := fun b h0 h1 => by
    rw [hview _ (by omega) (by omega), if_neg (by omega)]
  have hold : ∀ e ∈ C, datF ss W e.2.2.2 e.2.2.1 = datF ss [] e.2.2.2 e.2.2.1 := fun e he => datF_congr fun b hb => by
    have := vb_miss (ss := ss) (wt := []) (W := W) (b := 32 + b) (fun r hr e6 => by
      obtain ⟨c, hc, q1, _⟩ := haddr r hr
      have hbc : b = c := by omega
      subst hbc
      rw [hsp] at hc
      have h1 := hf.good.bd b (mem_cbls.2 ⟨e, he, hb⟩)
      obtain ⟨i, hi, hib⟩ := List.mem_map.1 hc
      have h2 := List.mem_filter.1 hi
      have h3 := (hf.good.free b.toNat (by omega)).1 (by rw [← hib]; simpa using h2.2)
      rw [Int.toNat_of_nonneg h1.1] at h3
      exact h3 (mem_cbls.2 ⟨e, he, hb⟩))
    rwa [List.nil_append] at this
  have hnew : ∀ e ∈ E.C, datF s2 [] e.2.2.2 e.2.2.1 = datF ss W e.2.2.2 e.2.2.1 := fun e he => datF_congr fun b hb => by
    have := hok.ed.good.bd b (mem_cbls.2 ⟨e, he, hb⟩)
    exact hvd b this.1 this.2
  have hhas : ∀ k, chas E.C k = true ↔ (chas C k = true ∧ ¬ isGone l k) ∨ isPut l k := fun k => by
    rw [hok.has, dropsC_has, List.take_length]
  refine ⟨laid_disk hok.ed.good hC (fun b h0 h1 => by rw [hview b h0 (by omega), if_pos ⟨h0, h1⟩]), ⟨fun k hg => ?_, fun k bs hb => ?_, fun k h1 h2 => ?_, hhas⟩⟩
  · rw [← Bool.not_eq_true, hhas]
    rintro (h1 | h1)
    · exact h1.2 hg
    · exact gone_put hm.nd hg h1
  · have hput : isPut l k := ⟨_, hb, rfl, rfl⟩
    obtain ⟨e, he, rfl⟩ := chas_iff.1 ((hhas k).2 (.inr hput))
    rw [cont, cget_some hok.ed.good.nms he, Option.map_some, hnew e he]
    rcases hdata e he with ⟨_, q⟩ | ⟨b2, q1, q2, q3⟩
    · rw [List.take_length] at q; exact absurd hput q
    · rw [List.take_length] at q1
      have := q3 ss []
      rw [List.nil_append] at this
      rw [this, (put_names hm.nd hb q1).2]
  · cases hc : chas C k with
    | false =>
      have : chas E.C k = false := by
        rw [← Bool.not_eq_true, hhas, hc]
        rintro (h3 | h3)
        · cases h3.1
        · exact h2 h3
      rw [cont, cont, cget_none hc, cget_none this]
      rfl
    | true =>
      obtain ⟨e, he, rfl⟩ := chas_iff.1 ((hhas k).2 (.inl ⟨hc, h1⟩))
      rcases hdata e he with ⟨q, _⟩ | ⟨b2, q1, _⟩
      · have heC := (dropsC_mem.1 q).1
        rw [cont, cont, cget_some hok.ed.good.nms he, cget_some hf.good.nms heC, Option.map_some, Option.map_some, hnew e he, hold e heC]
      · rw [List.take_length] at q1
        exact absurd ⟨_, q1, rfl, rfl⟩ h2
theorem cm_wk {n i : Nat} {ss : List Int} {C : Con} {ns : List Int} {l : List Ca} {sl0 : List Bool} {E : Ed} {W : Wt} (hf : FS n ss C ns) (hm : MayOK C l (frL ns).length) (hs : SlC sl0 C) (hp : PutN l (dropsC l ⟨C, ns, sl0, frL ns⟩ l.length) i E W) (hi : i ≤ l.length) : WK n W ∧ (∀ r ∈ W, 74 ≤ r.1) ∧ EdOK (datN n).toNat E := by
  have hdb := datN_bd n
  have hk1 := hf.k1
  have hE0 : EdOK (datN n).toNat (dropsC l ⟨C, ns, sl0, frL ns⟩ l.length) := dropsC_ok (begin_ok hf.good hs.1 hs.2) _
  have hsp : (dropsC l ⟨C, ns, sl0, frL ns⟩ l.length).sp = frL ns := dropsC_sp _
  have hnt : needs l l.length ≤ ((dropsC l ⟨C, ns, sl0, frL ns⟩ l.length).sp.length : Int) := by rw [hsp]; exact hm.nt
  have haddr := putN_addr hE0 hm.nm hnt hi hp
  refine ⟨fun r hr => ?_, fun r hr => ?_, (putN_ok hE0 hm.nm hnt hi hp).ed⟩
  · obtain ⟨b, hb, q1, q2⟩ := haddr r hr
    have := hE0.spb b hb
    exact ⟨by omega, by omega, q2⟩
  · obtain ⟨b, hb, q1, q2⟩ := haddr r hr
    have := hE0.spb b hb
    omega
theorem cm_calm {n : Nat} {ss s2 : List Int} {w2 wt : Wt} {lf l2 e : Int} {dn d2 dd q2 : Bool} {C C2 : Con} {ns ns2 : List Int} {l : List Ca} (h : CmR n ss wt lf dn C ns dd l e s2 w2 l2 d2 C2 ns2 q2) (hw0 : wt = []) (hf : FS n ss C ns) (hc : D.Calm lf dn) (hdd : dd = false) (hl2 : s2.length = n) :
    D.Calm l2 d2 ∧ w2 = [] ∧ q2 = false ∧ e = mayF C l (frL ns).length ∧ ((¬ e = 0 ∧ s2 = ss ∧ C2 = C ∧ ns2 = ns) ∨ (e = 0 ∧ FS n s2 C2 ns2 ∧ MayOK C l (frL ns).length ∧ CmD C l C2 (cont ss C) (cont s2 C2))) := by
  subst hw0
  have hdb := datN_bd n
  have hk1 := hf.k1
  cases h with
  | down h => rw [hdd] at h; cases h
  | may h hm he => exact ⟨hc, rfl, rfl, hm, .inl ⟨he, rfl, rfl, rfl⟩⟩
  | put h hm hs hp hg he hw =>
    exfalso
    have hmay := mayF_ok hf.good.nms hm.symm
    have hi := (List.getElem?_eq_some_iff.1 hg).1
    obtain ⟨hwk, _, hed⟩ := cm_wk hf hmay hs hp (by omega)
    obtain ⟨rfl, rfl⟩ := hc
    rw [wrs_calm] at hw
    · have := congrArg (·.1) hw
      exact he this
    · intro r hr
      rcases List.mem_append.1 hr with hr | hr
      · exact hwk r hr
      · obtain ⟨b, hb, q1, q2⟩ := putW_mem hr
        have := hed.spb b (List.mem_of_mem_take hb)
        exact ⟨by omega, by omega, q2⟩
  | fail h hm hs hp hw hC hls hll hcm he =>
    exfalso
    have hmay := mayF_ok hf.good.nms hm.symm
    obtain ⟨rfl, rfl⟩ := hc
    obtain ⟨hwk, h74, _⟩ := cm_wk hf hmay hs hp (Nat.le_refl _)
    rw [wrs_calm hwk, List.nil_append] at hw
    obtain ⟨_, h2, h3, h4⟩ := pair4 hw
    subst h2 h3 h4
    have hall := done_all (s2 := s2) hf hmay hs hp hC hls
    exact he (commit_calm hcm calm0 hf.len hwk (by omega) hall.2.1 (by omega)).1
  | done h hm hs hp hw hC hls hll hcm he =>
    have hmay := mayF_ok hf.good.nms hm.symm
    obtain ⟨rfl, rfl⟩ := hc
    obtain ⟨hwk, h74, _⟩ := cm_wk hf hmay hs hp (Nat.le_refl _)
    rw [wrs_calm hwk, List.nil_append] at hw
    obtain ⟨_, h2, h3, h4⟩ := pair4 hw
    subst h2 h3 h4
    have hall := done_all (s2 := s2) hf hmay hs hp hC hls
    have hcc := commit_calm hcm calm0 hf.len hwk (by omega) hall.2.1 (by omega)
    have hres := hall.2.2.2 hcc.2.2.2.1
    have hhead : seenP s2 [] 0 = List.replicate 256 0 := hcc.2.2.2.2 (by
      have := seen_miss (ss := ss) (w1 := []) (w := _) (x := 0) (fun r hr => by have := h74 r hr; omega)
      rw [List.nil_append] at this
      rw [this]
      exact hf.head)
    exact ⟨hcc.2.1, hcc.2.2.1, rfl, by rw [he]; exact hm, .inr ⟨he, ⟨hl2, hf.n6, hf.nb, hf.k1, hall.2.2.1.good, hres.1, hhead⟩, hmay, hres.2⟩⟩
theorem entB_ok {n : Nat} {ss : List Int} (hs : ss.length = n) (hi : In .u8 ss) (hn : 256 * 58 ≤ n) (i : Nat) (h : i < 64) : In .u8 (entB ss [] i) ∧ (entB ss [] i).length = 64 := by
  have h1 : (vb ss [] ((i : Int) / 4)).length = 256 := seen_len hs (WK.nil n) (by omega) (by omega)
  have h2 : In .u8 (vb ss [] ((i : Int) / 4)) := seen_in (ws := []) hi (ChOK.nil _) _
  exact ⟨(h2.drop _).take _, by unfold entB; rw [List.length_take, List.length_drop]; omega⟩
theorem open_fs {n : Nat} {ss : List Int} {C : Con} (h : OpenOK ss [] n C) (hs : ss.length = n) (hi : In .u8 ss) (h6 : n % 256 = 0) (hb : n ≤ 557056) (hk : 1 ≤ datN n) (h0 : seenP ss [] 0 = List.replicate 256 0) : FS n ss C (nextL ss [] (datN n).toNat) := by
  have hdb := datN_bd n
  have := open_good (entB_ok hs hi (by omega)) h
  exact ⟨hs, h6, hb, hk, this.1, this.2, h0⟩
theorem zero_seen {n : Nat} {b : Int} (h0 : 0 ≤ b) (h1 : 256 * b + 256 ≤ n) : seenP (List.replicate n 0) [] b = List.replicate 256 0 := by
  unfold seenP
  simp only [List.reverse_nil, List.find?_nil]
  rw [List.drop_replicate, List.take_replicate]
  congr 1
  omega
theorem zero_open {n : Nat} {C : Con} {ss : List Int} (hz : ∀ b : Int, 0 ≤ b → 256 * (42 + b) + 256 ≤ n → seenP ss [] (42 + b) = List.replicate 256 0) (hk : 1 ≤ datN n) (h : OpenOK ss [] n C) : C = [] := by
  have hdb := datN_bd n
  have g : Good [] (List.replicate (datN n).toNat 0) (datN n).toNat := ⟨List.nodup_nil, List.nodup_nil, fun e he => (by cases he), fun e he => (by cases he), fun e he => (by cases he), fun e he => (by cases he), List.nodup_nil, fun e he => (by cases he), List.length_replicate, by omega, fun e he => (by cases he), fun i hi => by
    rw [List.getD_eq_getElem?_getD, List.getElem?_replicate, if_pos hi]; simp [cbls]⟩
  have d : OnDisk ss [] [] (List.replicate (datN n).toNat 0) (datN n).toNat := by
    refine ⟨fun i hi => ?_, fun j hj => .inr ⟨fun e he => (by cases he), ?_⟩⟩
    · unfold nxt vb
      rw [hz _ (by omega) (by omega), nx]
      simp only [List.getD_eq_getElem?_getD, List.getElem?_replicate]
      rw [if_pos (by omega), if_pos (by omega), if_pos hi]
      rfl
    · unfold entB vb
      rw [hz _ (by omega) (by omega), List.drop_replicate, List.take_replicate, List.getD_eq_getElem?_getD, List.getElem?_replicate]
      split <;> rfl
  obtain ⟨C2, h2, h3⟩ := good_open g d
  rw [h.same h2]
  exact h3.eq_nil
theorem cont_has {ss : List Int} {C : Con} {k : ByteArray} : (cont ss C k).isSome = chas C k := by
  cases hc : chas C k with
  | false => rw [cont, cget_none hc]; rfl
  | true =>
    unfold cont
    cases hg : cget C k with
    | none =>
      obtain ⟨e, he, rfl⟩ := chas_iff.1 hc
      unfold cget at hg
      exact absurd (decide_eq_true rfl) (List.find?_eq_none.1 hg e he)
    | some e => rfl
theorem read_cont {ss : List Int} {F : List Fe} {k : ByteArray} : readF ss [] F k = match cont ss (fcon F) k with | some bs => (0, bs) | none => (4, []) := by
  unfold readF cont
  rw [cget_fe]
  unfold fhas fat
  cases fget F k <;> rfl
theorem nil_of_has {C : Con} (h : ∀ k, chas C k = false) : C = [] := by
  cases C with
  | nil => rfl
  | cons e C => exact absurd rfl (chas_not.1 (h e.1) e List.mem_cons_self)
end Go.Proofs.Ytlibhidhfbecbaa.SL.I
