/- Files: disks that are new; one file. -/
import Derived.Test.YtlibhidhfbecbaaCaPure
namespace Go.Proofs.Ytlibhidhfbecbaa.SL.I
set_option linter.unusedVariables false
set_option linter.unusedSimpArgs false
open Go Go.Proofs.Ytlibhidhfbecbaa.SL Go.Proofs.Ytlibhidhfbecbaa.SL.W Go.Proofs.Ytlibhidhfbecbaa.SL.D

def OpnBad (n : Nat) (ss : List Int) (wt : Wt) (lf : Int) (dn : Bool) : Prop :=
  ¬ 256 * 43 ≤ n ∨ (∃ (e : Int) (s2 : List Int) (w2 : Wt) (l2 : Int) (d2 : Bool), (e, s2, w2, l2, d2) = phs n ss wt lf dn (openL (logged n ss wt)) ∧ ¬ e = 0) ∨ datN n < 1 ∨ ∃ (s2 : List Int) (w2 : Wt) (l2 : Int) (d2 : Bool), (0, s2, w2, l2, d2) = phs n ss wt lf dn (openL (logged n ss wt)) ∧ ∀ C, ¬ OpenOK s2 w2 n C
section
variable {n : Nat} {ss s2 ns : List Int} {wt w2 : Wt} {lf l2 : Int} {dn d2 : Bool} {C C2 : Con}
theorem zero_logged (hn : 256 * 43 ≤ n) : logged n (List.replicate n 0) [] = [] := logged_none (zero_seen (by decide) (by omega))
theorem zero_view (hz : (0, s2, w2, l2, d2) = phs n ss wt lf dn (openL (logged n ss wt))) (hs : ss = List.replicate n 0) (hw : wt = []) (hc : D.Calm lf dn) (hn : 256 * 43 ≤ n) : D.Calm l2 d2 ∧ w2 = [] ∧ (∀ b : Int, 0 ≤ b → 256 * (42 + b) + 256 ≤ n → seenP s2 [] (42 + b) = List.replicate 256 0) ∧ seenP s2 [] 0 = List.replicate 256 0 := by
  subst hs hw
  have h := open_calm hz hc List.length_replicate (WK.nil n) hn
  refine ⟨h.2.1, h.2.2.1, fun b h0 h1 => ?_, h.2.2.2.2⟩
  rw [h.2.2.2.1 b h0 h1, zero_logged hn]
  exact zero_seen (by omega) h1
theorem lw_new (hz : (0, s2, w2, l2, d2) = phs n ss wt lf dn (openL (logged n ss wt))) (hs : ss = List.replicate n 0) (hw : wt = []) (hc : D.Calm lf dn) (hok : OpenOK s2 w2 n C) (hns : ns = nextL s2 w2 (datN n).toNat) (hl : s2.length = n) (hi : In .u8 s2) (h6 : n % 256 = 0) (hb : n ≤ 557056) (hk : 1 ≤ datN n) : FS n s2 C ns ∧ D.Calm l2 d2 ∧ w2 = [] ∧ C = [] := by
  have hdb := datN_bd n
  obtain ⟨h1, h2, h3, h4⟩ := zero_view hz hs hw hc (by omega)
  subst h2
  rw [hns]
  exact ⟨open_fs hok hl hi h6 hb hk h4, h1, rfl, zero_open h3 hk hok⟩
theorem zero_has (hz : ∀ b : Int, 0 ≤ b → 256 * (42 + b) + 256 ≤ n → seenP ss [] (42 + b) = List.replicate 256 0) (hk : 1 ≤ datN n) : ∃ C, OpenOK ss [] n C := by
  have hdb := datN_bd n
  have g : Good [] (List.replicate (datN n).toNat 0) (datN n).toNat := ⟨List.nodup_nil, List.nodup_nil, fun e he => (by cases he), fun e he => (by cases he), fun e he => (by cases he), fun e he => (by cases he), List.nodup_nil, fun e he => (by cases he), List.length_replicate, by omega, fun e he => (by cases he), fun i hi => by
    rw [List.getD_eq_getElem?_getD, List.getElem?_replicate, if_pos hi]; simp [cbls]⟩
  have d : OnDisk ss [] [] (List.replicate (datN n).toNat 0) (datN n).toNat := by
    refine ⟨fun i hi => ?_, fun j hj => .inr ⟨fun e he => (by cases he), ?_⟩⟩
    · unfold nxt vb
      rw [hz _ (by omega) (by omega), nx]
      simp only [List.getD_eq_getElem?_getD, List.getElem?_replicate]
      rw [if_pos (by omega), if_pos (by omega), if_pos hi]
      rfl
    · unfold entB vb
      rw [hz _ (by omega) (by omega), List.drop_replicate, List.take_replicate, List.getD_eq_getElem?_getD, List.getElem?_replicate]
      split <;> rfl
  obtain ⟨C2, h2, h3⟩ := good_open g d
  exact ⟨C2, h2⟩
theorem lw_bad (h : OpnBad n ss wt lf dn) (hs : ss = List.replicate n 0) (hw : wt = []) (hc : D.Calm lf dn) (hk : 1 ≤ datN n) : False := by
  have hdb := datN_bd n
  subst hs hw
  rcases h with h | ⟨e, s2, w2, l2, d2, h, he⟩ | h | ⟨s2, w2, l2, d2, h, hno⟩
  · omega
  · exact he (open_calm h hc List.length_replicate (WK.nil n) (by omega)).1
  · omega
  · obtain ⟨h1, h2, h3, h4⟩ := zero_view h rfl rfl hc (by omega)
    subst h2
    obtain ⟨C, hC⟩ := zero_has h3 hk
    exact hno C hC
end
def contL (ss : List Int) (C : Con) : List (ByteArray × List Int) := C.map fun e => (e.1, datF ss [] e.2.2.2 e.2.2.1)
theorem contL_mem {ss : List Int} {C : Con} (hn : (C.map (·.1)).Nodup) {k : ByteArray} {bs : List Int} : (k, bs) ∈ contL ss C ↔ cont ss C k = some bs := by
  constructor
  · intro h
    obtain ⟨e, he, q⟩ := List.mem_map.1 h
    cases q
    rw [cont, cget_some hn he]
    rfl
  · intro h
    unfold cont at h
    cases hg : cget C k with
    | none => rw [hg] at h; cases h
    | some e =>
      rw [hg] at h
      have := cget_mem hg
      refine List.mem_map.2 ⟨e, this.1, ?_⟩
      rw [this.2]
      simp only [Option.map_some, Option.some.injEq] at h
      rw [h]
theorem contL_names (ss : List Int) (C : Con) : (contL ss C).map (·.1) = C.map (·.1) := by
  unfold contL
  rw [List.map_map]
  rfl
theorem nodup_of_fst {α β : Type} {l : List (α × β)} (h : (l.map (·.1)).Nodup) : l.Nodup := by
  induction l with
  | nil => exact List.nodup_nil
  | cons a l ih =>
    rw [List.map_cons, List.nodup_cons] at h
    rw [List.nodup_cons]
    exact ⟨fun g => h.1 (List.mem_map.2 ⟨a, g, rfl⟩), ih h.2⟩
theorem contL_perm {ss : List Int} {C : Con} {L : List (ByteArray × List Int)} (hn : (C.map (·.1)).Nodup) (hL : (L.map (·.1)).Nodup) (h : ∀ k bs, (k, bs) ∈ L ↔ cont ss C k = some bs) : (contL ss C).Perm L := by
  rw [List.perm_ext_iff_of_nodup (nodup_of_fst (by rw [contL_names]; exact hn)) (nodup_of_fst hL)]
  intro x
  obtain ⟨k, bs⟩ := x
  rw [contL_mem hn, h]
def needL (L : List (ByteArray × List Int)) : Int := (L.map fun r => need (r.2.length : Int)).sum
theorem needL_perm {a b : List (ByteArray × List Int)} (h : a.Perm b) : needL a = needL b := by
  unfold needL
  induction h with
  | nil => rfl
  | cons x _ ih => rw [List.map_cons, List.map_cons, List.sum_cons, List.sum_cons, ih]
  | swap x y l => simp only [List.map_cons, List.sum_cons]; omega
  | trans _ _ h1 h2 => rw [h1, h2]
theorem datF_len {n : Nat} {ss : List Int} {C : Con} {ns : List Int} (hf : FS n ss C ns) {e : En} (he : e ∈ C) : ((datF ss [] e.2.2.2 e.2.2.1).length : Int) = e.2.2.1 := by
  have hdb := datN_bd n
  have hk := hf.k1
  have h1 := hf.good.need e he
  have h2 := hf.good.sz e he
  have hb : ∀ b ∈ e.2.2.2, (vb ss [] (32 + b)).length = 256 := fun b hb => by
    have := hf.good.bd b (mem_cbls.2 ⟨e, he, hb⟩)
    exact seen_len hf.len (WK.nil n) (by omega) (by omega)
  have h3 : ∀ bl : List Int, (∀ b ∈ bl, (vb ss [] (32 + b)).length = 256) → (datB ss [] bl).length = 256 * bl.length := fun bl => by
    induction bl with
    | nil => intro _; rfl
    | cons b bl ih =>
      intro h
      rw [datB, List.flatMap_cons, List.length_append, h b List.mem_cons_self, ← datB, ih (fun x hx => h x (List.mem_cons_of_mem _ hx)), List.length_cons]
      omega
  rw [datF, List.length_take, h3 _ hb]
  unfold need at h1
  omega
theorem cbls_need {n : Nat} {ss : List Int} {C : Con} {ns : List Int} (hf : FS n ss C ns) : ((cbls C).length : Int) = needL (contL ss C) := by
  have : ∀ D : Con, (∀ e ∈ D, e ∈ C) → ((cbls D).length : Int) = needL (contL ss D) := fun D => by
    induction D with
    | nil => intro _; rfl
    | cons e D ih =>
      intro h
      have h1 := hf.good.need e (h e List.mem_cons_self)
      have h2 := datF_len hf (h e List.mem_cons_self)
      have h3 := ih (fun x hx => h x (List.mem_cons_of_mem _ hx))
      have e1 : cbls (e :: D) = e.2.2.2 ++ cbls D := by simp [cbls]
      have e2 : needL (contL ss (e :: D)) = need ((datF ss [] e.2.2.2 e.2.2.1).length : Int) + needL (contL ss D) := by
        unfold needL contL
        rw [List.map_cons, List.map_cons, List.sum_cons]
      rw [e1, e2, h2, ← h3, ← h1, List.length_append]
      omega
  exact this C (fun e h => h)
theorem free_cont {n : Nat} {ss : List Int} {C : Con} {ns : List Int} {L : List (ByteArray × List Int)} (hf : FS n ss C ns) (hL : (L.map (·.1)).Nodup) (h : ∀ k bs, (k, bs) ∈ L ↔ cont ss C k = some bs) : ((frL ns).length : Int) = datN n - needL L ∧ C.length = L.length := by
  have hp := contL_perm hf.good.nms hL h
  have h1 := free_count hf.good
  have h2 := cbls_need hf
  have h3 := needL_perm hp
  have hk := hf.k1
  have h4 := hp.length_eq
  unfold contL at h4
  rw [List.length_map] at h4
  exact ⟨by omega, h4⟩
theorem mayF_one (C : Con) (nm : ByteArray) (g : Bool) (x : List Int) (fr : Int) : mayF C [(nm, g, x)] fr = if nm.size < 1 ∨ 40 < nm.size then 1 else if g = true then (if chas C nm = true then (if 64 < (C.length : Int) - 1 then 3 else if fr < 0 then 2 else 0) else 4) else if 64 < (if chas C nm = true then (C.length : Int) else (C.length : Int) + 1) then 3 else if fr < need (x.length : Int) then 2 else 0 := by
  have e : badN [(nm, g, x)] 0 nm ↔ (nm.size < 1 ∨ 40 < nm.size) := by
    unfold badN nin
    simp
  unfold mayF
  simp only [List.length_cons, List.length_nil, Nat.zero_add, mayS, List.getElem?_cons_zero]
  by_cases hb : nm.size < 1 ∨ 40 < nm.size
  · rw [if_pos (e.2 hb), if_pos hb]
  · rw [if_neg (fun q => hb (e.1 q)), if_neg hb]
    cases g with
    | true =>
      simp only [if_true]
      cases hc : chas C nm with
      | true => simp
      | false => simp
    | false =>
      simp only [Bool.false_eq_true, if_false, Int.zero_add]
theorem fs_len {n : Nat} {ss : List Int} {F : List Fe} {ns : List Int} (h : FS n ss (fcon F) ns) : F.length ≤ 64 := by
  have h1 := nodup_le (es := (fcon F).map (·.2.1)) (F := (List.range 64).map fun i : Nat => (i : Int)) h.good.slots (fun x hx => by
    obtain ⟨e, he, rfl⟩ := List.mem_map.1 hx
    have := h.good.sl e he
    exact List.mem_map.2 ⟨e.2.1.toNat, List.mem_range.2 (by omega), by omega⟩)
  rw [List.length_map, List.length_map, List.length_range] at h1
  unfold fcon at h1
  rw [List.length_map] at h1
  exact h1
theorem nil_k {k : Nat} {ns : List Int} (h : Good [] ns k) : (frL ns).length = k := by
  have := free_count h
  simp only [cbls, List.flatMap_nil, List.length_nil, Nat.add_zero] at this
  exact this
abbrev sA : ByteArray := ⟨#[97]⟩
abbrev sB : ByteArray := ⟨#[98]⟩
abbrev sC : ByteArray := ⟨#[99]⟩
structure AwS (n : Nat) (ss : List Int) (C : Con) (ns : List Int) : Prop where
  fs : FS n ss C ns
  a : cont ss C sA = some [120]
  b : cont ss C sB = some []
  rest : ∀ k, k ≠ sA → k ≠ sB → cont ss C k = none
section
variable {n : Nat} {s1 s2 s3 ns1 ns2 zs : List Int} {C1 C2 : Con} {e fr : Int} {A B : Option Addr} {c d : Nat} {w : Wt} {F : List Fe} {x y : List Int}
theorem aw1 (hn : (n : Int) = 256 * max 0 (min 80 2176)) (hC : C1 = []) (hf : FS n s1 C1 ns1) (hd : e = mayF C1 (ca [(sA, false, A, c, [120]), (sB, false, B, d, [])]) (frL ns1).length)
    (he : (¬ e = 0 ∧ s2 = s1 ∧ C2 = C1 ∧ ns2 = ns1) ∨ (e = 0 ∧ FS n s2 C2 ns2 ∧ MayOK C1 (ca [(sA, false, A, c, [120]), (sB, false, B, d, [])]) (frL ns1).length ∧ CmD C1 (ca [(sA, false, A, c, [120]), (sB, false, B, d, [])]) C2 (cont s1 C1) (cont s2 C2))) : e = 0 ∧ AwS n s2 C2 ns2 := by
  subst hC
  have hk : (datN n).toNat = 6 := by unfold datN; split <;> omega
  have h6 := nil_k hf.good
  rw [h6, hk] at hd
  have h0 : e = 0 := by
    rw [hd]
    show mayF [] [(sA, false, [120]), (sB, false, [])] 6 = 0
    decide
  refine ⟨h0, ?_⟩
  rcases he with he | ⟨_, h1, h2, h3⟩
  · exact absurd h0 he.1
  · refine ⟨h1, h3.put _ _ (by simp [ca]), h3.put _ _ (by simp [ca]), fun k ka kb => ?_⟩
    rw [h3.rest k]
    · rfl
    · rintro ⟨r, hr, q1, q2⟩
      simp only [ca, List.map_cons, List.map_nil, List.mem_cons, List.not_mem_nil, or_false] at hr
      rcases hr with rfl | rfl <;> cases q2
    · rintro ⟨r, hr, q1, q2⟩
      simp only [ca, List.map_cons, List.map_nil, List.mem_cons, List.not_mem_nil, or_false] at hr
      rcases hr with rfl | rfl
      · exact ka q1.symm
      · exact kb q1.symm
theorem aw2 (hf : AwS n s1 C1 ns1) (hd : e = mayF C1 (ca [(sA, true, A, c, x), (sA, true, B, d, y)]) fr)
    (he : (¬ e = 0 ∧ s2 = s1 ∧ C2 = C1 ∧ ns2 = ns1) ∨ (e = 0 ∧ FS n s2 C2 ns2 ∧ MayOK C1 (ca [(sA, true, A, c, x), (sA, true, B, d, y)]) fr ∧ CmD C1 (ca [(sA, true, A, c, x), (sA, true, B, d, y)]) C2 (cont s1 C1) (cont s2 C2))) : e = 1 ∧ AwS n s2 C2 ns2 := by
  have hc : chas C1 sA = true := by rw [← cont_has (ss := s1), hf.a]; rfl
  have h1 : e = 1 := by
    rw [hd]
    have e1 : ca [(sA, true, A, c, x), (sA, true, B, d, y)] = [(sA, true, x), (sA, true, y)] := rfl
    rw [e1]
    unfold mayF
    have b0 : ¬ badN [(sA, true, x), (sA, true, y)] 0 sA := by unfold badN nin; simp; decide
    have b1 : badN [(sA, true, x), (sA, true, y)] 1 sA := by unfold badN nin; simp
    simp only [List.length_cons, List.length_nil, Nat.zero_add, mayS, List.getElem?_cons_zero, List.getElem?_cons_succ, if_neg b0, if_pos b1, hc, if_true]
  refine ⟨h1, ?_⟩
  rcases he with ⟨_, rfl, rfl, rfl⟩ | ⟨h0, _⟩
  · exact hf
  · omega
theorem aw_a (hf : AwS n s1 (fcon F) ns1) (hw : w = []) (h : (e, zs) = readF s1 w F sA) : e = 0 ∧ zs = [120] := by
  subst hw
  rw [read_cont, hf.a] at h
  cases h
  exact ⟨rfl, rfl⟩
theorem aw_c (hf : AwS n s1 (fcon F) ns1) (hw : w = []) (h : (e, zs) = readF s1 w F sC) : e = 4 := by
  subst hw
  rw [read_cont, hf.rest sC (by decide) (by decide)] at h
  cases h
  rfl
theorem aw_free (hn : (n : Int) = 256 * max 0 (min 80 2176)) (hf : AwS n s1 (fcon F) ns1) : ((frL ns1).length : Int) = 5 := by
  have hk : datN n = 6 := by unfold datN; split <;> omega
  have := free_cont (L := [(sA, [120]), (sB, [])]) hf.fs (by decide) (fun k bs => by
    simp only [List.mem_cons, List.not_mem_nil, or_false, Prod.mk.injEq]
    constructor
    · rintro (⟨rfl, rfl⟩ | ⟨rfl, rfl⟩)
      · exact hf.a
      · exact hf.b
    · intro h
      by_cases ka : k = sA
      · subst ka; rw [hf.a] at h; exact .inl ⟨rfl, (Option.some.inj h).symm⟩
      · by_cases kb : k = sB
        · subst kb; rw [hf.b] at h; exact .inr ⟨rfl, (Option.some.inj h).symm⟩
        · rw [hf.rest k ka kb] at h; cases h)
  rw [this.1, hk]
  rfl
end
theorem str_x {e : Int} {zs : List Int} (h : e = 0 ∧ zs = [120]) : strOfNums zs = ⟨#[120]⟩ := by rw [h.2]; rfl
theorem dn_bd {n : Nat} {x : Int} (h : (n : Int) = x) : datN n ≤ 2048 ∧ datN n ≤ (n : Int) / 256 - 74 := datN_bd n
structure OneS (n : Nat) (ss : List Int) (C : Con) (ns : List Int) (nm : ByteArray) (x : List Int) : Prop where
  fs : FS n ss C ns
  is : cont ss C nm = some x
  rest : ∀ k, k ≠ nm → cont ss C k = none
structure On1 (n : Nat) (ss : List Int) (C : Con) (ns : List Int) (nm : ByteArray) (x : List Int) (e : Int) : Prop where
  fs : FS n ss C ns
  bad : nm.size < 1 ∨ 40 < nm.size → e = 1 ∧ C = []
  no : ¬ (nm.size < 1 ∨ 40 < nm.size) → ¬ e = 0 → e = 2 ∧ 25600 < x.length
  yes : e = 0 → OneS n ss C ns nm x
structure On2 (n : Nat) (ss : List Int) (C : Con) (ns : List Int) (nm : ByteArray) (x y : List Int) (e : Int) : Prop where
  fs : FS n ss C ns
  yes : e = 0 → OneS n ss C ns nm y
  no : ¬ e = 0 → e = 2 ∧ OneS n ss C ns nm x
theorem OneS.len {n : Nat} {ss : List Int} {C : Con} {ns : List Int} {nm : ByteArray} {x : List Int} (h : OneS n ss C ns nm x) : C.length = 1 ∧ ((frL ns).length : Int) = datN n - need (x.length : Int) := by
  have := free_cont (L := [(nm, x)]) h.fs (by simp) (fun k bs => by
    simp only [List.mem_cons, List.not_mem_nil, or_false, Prod.mk.injEq]
    constructor
    · rintro ⟨rfl, rfl⟩; exact h.is
    · intro q
      by_cases hk : k = nm
      · subst hk; rw [h.is] at q; exact ⟨rfl, (Option.some.inj q).symm⟩
      · rw [h.rest k hk] at q; cases q)
  refine ⟨this.2, ?_⟩
  rw [this.1]
  simp [needL]
section
variable {n : Nat} {s1 s2 s3 ns1 ns2 zs x y : List Int} {C1 C2 : Con} {e e2 : Int} {A : Option Addr} {c : Nat} {w : Wt} {F : List Fe} {nm : ByteArray}
theorem one_put {C : Con} (hD : CmD C (ca [(nm, false, A, c, x)]) C2 (cont s1 C) (cont s2 C2)) (hf : FS n s2 C2 ns2) (hr : ∀ k, k ≠ nm → cont s1 C k = none) : OneS n s2 C2 ns2 nm x := by
  refine ⟨hf, hD.put _ _ (by simp [ca]), fun k hk => ?_⟩
  rw [hD.rest k, hr k hk]
  · rintro ⟨r, h1, q1, q2⟩
    simp only [ca, List.map_cons, List.map_nil, List.mem_cons, List.not_mem_nil, or_false] at h1
    rw [h1] at q2
    cases q2
  · rintro ⟨r, h1, q1, q2⟩
    simp only [ca, List.map_cons, List.map_nil, List.mem_cons, List.not_mem_nil, or_false] at h1
    rw [h1] at q1
    exact hk q1.symm
theorem on1 (hn : (n : Int) = 256 * max 0 (min 174 2176)) (hC : C1 = []) (hf : FS n s1 C1 ns1) (hd : e = mayF C1 (ca [(nm, false, A, c, x)]) (frL ns1).length)
    (he : (¬ e = 0 ∧ s2 = s1 ∧ C2 = C1 ∧ ns2 = ns1) ∨ (e = 0 ∧ FS n s2 C2 ns2 ∧ MayOK C1 (ca [(nm, false, A, c, x)]) (frL ns1).length ∧ CmD C1 (ca [(nm, false, A, c, x)]) C2 (cont s1 C1) (cont s2 C2))) : On1 n s2 C2 ns2 nm x e := by
  subst hC
  have hk : (datN n).toNat = 100 := by unfold datN; split <;> omega
  have h6 := nil_k hf.good
  rw [h6, hk, show ca [(nm, false, A, c, x)] = [(nm, false, x)] from rfl, mayF_one] at hd
  have hc : chas [] nm = false := rfl
  simp only [hc, Bool.false_eq_true, if_false, List.length_nil] at hd
  rw [if_neg (show ¬ (64 : Int) < ((0 : Nat) : Int) + 1 by omega)] at hd
  rcases he with ⟨h0, rfl, rfl, rfl⟩ | ⟨h0, h1, h2, h3⟩
  · refine ⟨hf, fun hb => ⟨?_, rfl⟩, fun hb _ => ?_, fun q => absurd q h0⟩
    · rw [hd, if_pos hb]
    · rw [if_neg hb] at hd
      split at hd
      · rename_i h4
        unfold need at h4
        exact ⟨hd, by omega⟩
      · exact absurd hd h0
  · refine ⟨h1, fun hb => ?_, fun _ q => absurd h0 q, fun _ => one_put h3 h1 (fun k _ => rfl)⟩
    rw [if_pos hb] at hd
    omega
theorem on2 (h : OneS n s1 C1 ns1 nm x) (hnm : ¬ (nm.size < 1 ∨ 40 < nm.size)) (hd : e = mayF C1 (ca [(nm, false, A, c, y)]) (frL ns1).length)
    (he : (¬ e = 0 ∧ s2 = s1 ∧ C2 = C1 ∧ ns2 = ns1) ∨ (e = 0 ∧ FS n s2 C2 ns2 ∧ MayOK C1 (ca [(nm, false, A, c, y)]) (frL ns1).length ∧ CmD C1 (ca [(nm, false, A, c, y)]) C2 (cont s1 C1) (cont s2 C2))) : On2 n s2 C2 ns2 nm x y e := by
  rw [show ca [(nm, false, A, c, y)] = [(nm, false, y)] from rfl, mayF_one] at hd
  have hc : chas C1 nm = true := by rw [← cont_has (ss := s1), h.is]; rfl
  simp only [hc, Bool.false_eq_true, if_false, if_true, h.len.1] at hd
  rw [if_neg hnm, if_neg (show ¬ (64 : Int) < ((1 : Nat) : Int) by omega)] at hd
  rcases he with ⟨h0, rfl, rfl, rfl⟩ | ⟨h0, h1, h2, h3⟩
  · refine ⟨h.fs, fun q => absurd q h0, fun _ => ⟨?_, h⟩⟩
    split at hd
    · exact hd
    · exact absurd hd h0
  · exact ⟨h1, fun _ => one_put h3 h1 h.rest, fun q => absurd h0 q⟩
theorem on3 (h : On2 n s1 C1 ns1 nm x y e2) (hnm : ¬ (nm.size < 1 ∨ 40 < nm.size)) (hd : e = mayF C1 (ca [(nm, true, A, c, zs)]) (frL ns1).length)
    (he : (¬ e = 0 ∧ s2 = s1 ∧ C2 = C1 ∧ ns2 = ns1) ∨ (e = 0 ∧ FS n s2 C2 ns2 ∧ MayOK C1 (ca [(nm, true, A, c, zs)]) (frL ns1).length ∧ CmD C1 (ca [(nm, true, A, c, zs)]) C2 (cont s1 C1) (cont s2 C2))) : e = 0 ∧ FS n s2 C2 ns2 ∧ C2 = [] := by
  obtain ⟨z, hz⟩ : ∃ z, OneS n s1 C1 ns1 nm z := by
    by_cases h0 : e2 = 0
    · exact ⟨_, h.yes h0⟩
    · exact ⟨_, (h.no h0).2⟩
  rw [show ca [(nm, true, A, c, zs)] = [(nm, true, zs)] from rfl, mayF_one] at hd
  have hc : chas C1 nm = true := by rw [← cont_has (ss := s1), hz.is]; rfl
  simp only [hc, if_true, hz.len.1] at hd
  rw [if_neg hnm, if_neg (show ¬ (64 : Int) < ((1 : Nat) : Int) - 1 by omega), if_neg (by omega)] at hd
  rcases he with he | ⟨h0, h1, h2, h3⟩
  · exact absurd hd he.1
  · refine ⟨h0, h1, nil_of_has fun k => ?_⟩
    by_cases hk : k = nm
    · subst hk
      exact h3.gone _ ⟨(k, true, zs), by simp [ca], rfl, rfl⟩
    · rw [← Bool.not_eq_true, h3.has]
      rintro (q | ⟨r, q, q1, q2⟩)
      · have := cont_has (ss := s1) (C := C1) (k := k)
        rw [hz.rest k hk] at this
        rw [← this] at q
        exact absurd q.1 (by decide)
      · simp only [ca, List.map_cons, List.map_nil, List.mem_cons, List.not_mem_nil, or_false] at q
        rw [q] at q2
        cases q2
theorem one_rd (h : OneS n s1 (fcon F) ns1 nm x) (hw : w = []) (hr : (e, zs) = readF s1 w F nm) : e = 0 ∧ zs = x := by
  subst hw
  rw [read_cont, h.is] at hr
  cases hr
  exact ⟨rfl, rfl⟩
theorem one_rd2 (h : On2 n s1 (fcon F) ns1 nm x y e2) (hw : w = []) (hr : (e, zs) = readF s1 w F nm) : e = 0 ∧ (e2 = 0 → zs = y) ∧ (¬ e2 = 0 → zs = x) := by
  by_cases h0 : e2 = 0
  · have := one_rd (h.yes h0) hw hr
    exact ⟨this.1, fun _ => this.2, fun q => absurd h0 q⟩
  · have := one_rd (h.no h0).2 hw hr
    exact ⟨this.1, fun q => absurd q h0, fun _ => this.2⟩
theorem one_rd3 (h : fcon F = []) (hr : (e, zs) = readF s1 w F nm) : e = 4 := by
  cases F with
  | nil => cases hr; rfl
  | cons a F => cases h
theorem nil_len (h : fcon F = []) : F.length = 0 := by
  have := congrArg List.length h
  rw [fcon, List.length_map] at this
  exact this
theorem one_free (hn : (n : Int) = 256 * max 0 (min 174 2176)) (hf : FS n s1 C1 ns1) (h : C1 = []) : ((frL ns1).length : Int) = 100 := by
  subst h
  have hk : (datN n).toNat = 100 := by unfold datN; split <;> omega
  rw [nil_k hf.good, hk]
  rfl
end
theorem rd2_y {e e2 : Int} {zs x y : List Int} (h : e = 0 ∧ (e2 = 0 → zs = y) ∧ (¬ e2 = 0 → zs = x)) (h2 : e2 = 0) : zs = y := h.2.1 h2
theorem rd2_x {e e2 : Int} {zs x y : List Int} (h : e = 0 ∧ (e2 = 0 → zs = y) ∧ (¬ e2 = 0 → zs = x)) (h2 : ¬ e2 = 0) : zs = x := h.2.2 h2
end Go.Proofs.Ytlibhidhfbecbaa.SL.I
