/- The book of what was sealed, and layers sealed in chunks: plain laws. -/
import Derived.Test.YtkehpipialmneaaAPure
import Derived.Test.YtkehpipialmneaaSLzn
namespace Go.Proofs.Ytkehpipialmneaa.SL.B
set_option linter.unusedVariables false
set_option linter.unusedSimpArgs false
open Go Go.Proofs.Ytkehpipialmneaa.SL Go.Proofs.Ytkehpipialmneaa.SL.W
open Go.Proofs.Ytkehpipialmneaa.SL.Y (chunk chunk_len chunk_is chunk_in)

def be8 (n : Int) : List Int := (leB n 8).reverse
theorem be8_len (n : Int) : (be8 n).length = 8 := by rw [be8, List.length_reverse, leB_len]
def cyc (n : Int) : Nat → List Int
  | 0 => []
  | q + 1 => cyc n q ++ be8 n
theorem cyc_len (n : Int) : ∀ q, (cyc n q).length = 8 * q
  | 0 => rfl
  | q + 1 => by rw [cyc, List.length_append, cyc_len n q, be8_len]; omega
theorem cyc_front (n : Int) : ∀ q, cyc n (q + 1) = be8 n ++ cyc n q
  | 0 => by simp [cyc]
  | q + 1 => (congrArg (· ++ be8 n) (cyc_front n q)).trans (List.append_assoc _ _ _)
def boxL (n : Int) (L : Nat) : List Int := (cyc n ((L + 7) / 8)).take L
theorem boxL_len (n : Int) (L : Nat) : (boxL n L).length = L := by rw [boxL, List.length_take, cyc_len]; omega
def boxAt (n : Int) (L q : Nat) : List Int := (cyc n q).take L ++ List.replicate (L - 8 * q) 0
theorem boxAt_0 (n : Int) (L : Nat) : List.replicate L 0 = boxAt n L 0 := by simp [boxAt, cyc]
theorem boxAt_step {n : Int} {L q : Nat} (h : 8 * q < L) {zs us : List Int} (hz : zs = boxAt n L q) (hu : us = be8 n) {i m : Nat} (hi : i = 8 * q) (hm : m = L - 8 * q) : putl zs i (us.take m) = boxAt n L (q + 1) := by
  subst hz hu hi hm
  have h1 : (cyc n q).take L = cyc n q := List.take_of_length_le (by rw [cyc_len]; omega)
  have h2 : (cyc n (q + 1)).take L = cyc n q ++ (be8 n).take (L - 8 * q) := by
    rw [cyc, List.take_append, h1, cyc_len]
  have h3 : ((be8 n).take (L - 8 * q)).length = min (L - 8 * q) 8 := by rw [List.length_take, be8_len]
  unfold putl boxAt
  rw [h1, h2, h3, List.take_left' (cyc_len n q), List.drop_append, cyc_len, List.drop_of_length_le (by rw [cyc_len]; omega), List.nil_append, List.drop_replicate, List.append_assoc, List.append_assoc, show L - 8 * q - (8 * q + min (L - 8 * q) 8 - 8 * q) = L - 8 * (q + 1) by omega]
theorem boxAt_end {n : Int} {L q : Nat} (h : L ≤ 8 * q) (h2 : 8 * q < L + 8) {zs : List Int} (hz : zs = boxAt n L q) : zs = boxL n L := by
  rw [hz, boxAt, boxL, show L - 8 * q = 0 by omega, List.replicate_zero, List.append_nil, show (L + 7) / 8 = q by omega]
theorem beN_congr {xs ys : List Int} : ∀ k, (∀ i, i < k → xs.getD i 0 = ys.getD i 0) → beN xs k = beN ys k
  | 0, _ => rfl
  | k + 1, h => by rw [beN, beN, beN_congr k (fun i hi => h i (by omega)), h k (by omega)]
theorem getD_take (xs : List Int) {i m : Nat} (h : i < m) : (xs.take m).getD i 0 = xs.getD i 0 := by
  rw [List.getD_eq_getElem?_getD, List.getD_eq_getElem?_getD, List.getElem?_take_of_lt h]
theorem getD_left {xs ys : List Int} {i : Nat} (h : i < xs.length) : (xs ++ ys).getD i 0 = xs.getD i 0 := by
  rw [List.getD_eq_getElem?_getD, List.getD_eq_getElem?_getD, List.getElem?_append_left h]
theorem box_head {n : Int} {L m : Nat} (hn : fits .u64 n) (hL : 8 ≤ L) (hm : 8 ≤ m) : beN ((boxL n L).take m) 8 = n := by
  rw [beN_congr (ys := be8 n) 8 (fun i hi => by
    rw [getD_take _ (by omega), boxL, getD_take _ (by omega), show (L + 7) / 8 = ((L + 7) / 8 - 1) + 1 by omega, cyc_front, getD_left (by rw [be8_len]; exact hi)])]
  exact put_getBig64 hn

abbrev Bk := List (List Int × List Int × List Int × List Int)
def bxT (r : Bx) : List Int × List Int × List Int × List Int := (r.1.2.2, r.2.1.2.2, r.2.2.1.2.2, r.2.2.2.2.2)
def bxM (L : List Bx) : Bk := L.map bxT
theorem bxM_len (L : List Bx) : (bxM L).length = L.length := List.length_map ..
theorem bxM_snoc (L : List Bx) (r : Bx) : bxM (L ++ [r]) = bxM L ++ [bxT r] := by simp [bxM]
def okk (xs ys : List Int) : Prop := xs.length = 32 ∧ ys.length = 12
instance (xs ys : List Int) : Decidable (okk xs ys) := by unfold okk; infer_instance
def bopen (L : Bk) (ks ns bs hs : List Int) : Int × List Int :=
  if ¬ (ks.length = 32 ∧ ns.length = 12) then (1, []) else if hs.length < 16 then (8, []) else
    match L[(beN hs 8).toNat]? with
    | none => (7, [])
    | some s => if s.1 = ks ∧ s.2.1 = ns ∧ s.2.2.1 = bs ∧ boxL (beN hs 8) (s.2.2.2.length + 16) = hs then (0, s.2.2.2) else (7, [])
theorem bo_1 {L : Bk} {ks ns bs hs : List Int} (h : ¬ (ks.length = 32 ∧ ns.length = 12)) : (1, []) = bopen L ks ns bs hs := by rw [bopen, if_pos h]
theorem bo_8 {L : Bk} {ks ns bs hs : List Int} (h : ks.length = 32 ∧ ns.length = 12) (h2 : hs.length < 16) : (8, []) = bopen L ks ns bs hs := by rw [bopen, if_neg (fun g => g h), if_pos h2]
theorem bo_n {L : Bk} {ks ns bs hs : List Int} (h : ks.length = 32 ∧ ns.length = 12) (h2 : ¬ hs.length < 16) (h3 : L.length ≤ (beN hs 8).toNat) : (7, []) = bopen L ks ns bs hs := by
  rw [bopen, if_neg (fun g => g h), if_neg h2, List.getElem?_eq_none h3]
theorem bo_7 {L : List Bx} {ks ns bs hs : List Int} {r : Bx} {i : Nat} (h : ks.length = 32 ∧ ns.length = 12) (h2 : ¬ hs.length < 16) (h3 : L[i]? = some r) (hi : i = (beN hs 8).toNat)
    (h4 : ¬ (r.1.2.2 = ks ∧ r.2.1.2.2 = ns ∧ r.2.2.1.2.2 = bs ∧ boxL (beN hs 8) (r.2.2.2.2.2.length + 16) = hs)) : (7, []) = bopen (bxM L) ks ns bs hs := by
  subst hi
  have : (bxM L)[(beN hs 8).toNat]? = some (bxT r) := by rw [bxM, List.getElem?_map, h3]; rfl
  rw [bopen, if_neg (fun g => g h), if_neg h2, this]
  exact (if_neg h4).symm
theorem bo_0 {L : List Bx} {ks ns bs hs : List Int} {r : Bx} {i : Nat} (h : ks.length = 32 ∧ ns.length = 12) (h2 : ¬ hs.length < 16) (h3 : L[i]? = some r) (hi : i = (beN hs 8).toNat)
    (h4 : r.1.2.2 = ks) (h5 : r.2.1.2.2 = ns) (h6 : r.2.2.1.2.2 = bs) (h7 : boxL (beN hs 8) (r.2.2.2.2.2.length + 16) = hs) : (0, r.2.2.2.2.2) = bopen (bxM L) ks ns bs hs := by
  subst hi
  have : (bxM L)[(beN hs 8).toNat]? = some (bxT r) := by rw [bxM, List.getElem?_map, h3]; rfl
  rw [bopen, if_neg (fun g => g h), if_neg h2, this]
  exact (if_pos ⟨h4, h5, h6, h7⟩).symm

theorem bopen_le (L : Bk) (ks ns bs hs : List Int) : (bopen L ks ns bs hs).2.length ≤ hs.length := by
  unfold bopen
  split
  · exact Nat.zero_le _
  · split
    · exact Nat.zero_le _
    · split
      · exact Nat.zero_le _
      · split
        · rename_i h
          have := congrArg List.length h.2.2.2
          rw [boxL_len] at this
          show _ ≤ _
          dsimp only
          omega
        · exact Nat.zero_le _
theorem bopen_codes {L : Bk} {ks ns bs hs : List Int} (h : ks.length = 32 ∧ ns.length = 12) : (bopen L ks ns bs hs).1 = 0 ∨ (bopen L ks ns bs hs).1 = 7 ∨ (bopen L ks ns bs hs).1 = 8 := by
  unfold bopen
  rw [if_neg (fun g => g h)]
  split
  · exact .inr (.inr rfl)
  · split
    · exact .inr (.inl rfl)
    · split
      · exact .inl rfl
      · exact .inr (.inl rfl)
def chn (n L : Nat) : Nat := (L + n - 1) / n
theorem chn_lt {n L q : Nat} (h0 : 0 < n) (h : n * q < L) : q < chn n L := by
  unfold chn
  exact (Nat.le_div_iff_mul_le h0).2 (by rw [Nat.succ_mul, Nat.mul_comm q n]; omega)
theorem chn_end {n L q : Nat} (h0 : 0 < n) (hq : q ≤ chn n L) (h : L ≤ n * q) : q = chn n L := by
  refine Nat.le_antisymm hq (Nat.le_of_lt_succ ?_)
  unfold chn
  exact (Nat.div_lt_iff_lt_mul h0).2 (by rw [Nat.succ_mul, Nat.mul_comm q n]; omega)
theorem lt_chn {n L q : Nat} (h0 : 0 < n) (h : q < chn n L) : n * q < L := by
  have := (Nat.le_div_iff_mul_le h0).1 h
  rw [Nat.succ_mul, Nat.mul_comm q n] at this
  omega
theorem chn_pos {n L : Nat} (h0 : 0 < n) (h : 0 < L) : 0 < chn n L := chn_lt h0 (by omega)
theorem chn_le (n L : Nat) : chn n L ≤ L := by
  rcases Nat.eq_zero_or_pos n with rfl | h
  · exact Nat.le_trans (Nat.le_of_eq (Nat.div_zero _)) (Nat.zero_le _)
  · refine Nat.le_of_lt_succ ((Nat.div_lt_iff_lt_mul h).2 ?_)
    rw [Nat.succ_mul]
    have : L ≤ L * n := Nat.le_mul_of_pos_right _ h
    omega
def chR (A : Option Addr) (xs : List Int) (n m : Nat) : List Ro := (List.range m).map fun q => (subBase A (n * q) (n * q + (chunk n xs q).length) 1, (chunk n xs q).length, chunk n xs q)
theorem chR_len (A : Option Addr) (xs : List Int) (n m : Nat) : (chR A xs n m).length = m := by simp [chR]
theorem chR_snoc (A : Option Addr) (xs : List Int) (n m : Nat) : chR A xs n m ++ [(subBase A (n * m) (n * m + (chunk n xs m).length) 1, (chunk n xs m).length, chunk n xs m)] = chR A xs n (m + 1) := by
  simp [chR, List.range_succ]
def pcs (A : Option Addr) (xs : List Int) (n : Nat) : List Ro := if xs = [] then [(none, 0, [])] else chR A xs n (chn n xs.length)
theorem pcs_nil {A : Option Addr} {xs : List Int} {n : Nat} (h : xs.length = 0) : [(none, 0, [])] = pcs A xs n := (if_pos (List.length_eq_zero_iff.1 h)).symm
theorem pcs_chR {A : Option Addr} {xs : List Int} {n : Nat} (h : ¬ xs.length = 0) : chR A xs n (chn n xs.length) = pcs A xs n := (if_neg (fun e => h (by rw [e]; rfl))).symm
theorem tells_none (f : Fact) (A : Option Addr) : Tells f A [] := fun w fp hp => ⟨fun _ => False, fun _ h => h.elim, fun _ h => h.elim, fun h => by simp at h⟩
theorem pcs_tells {f : Fact} {A : Option Addr} {xs : List Int} (h : Tells f A (nums .u8 xs)) {n : Nat} : ∀ r ∈ pcs A xs n, Tells f r.1 (nums .u8 r.2.2) := by
  unfold pcs
  split
  · intro r hr
    rw [List.mem_singleton] at hr
    subst hr
    exact tells_none f none
  · intro r hr
    obtain ⟨q, hq, rfl⟩ := List.mem_map.1 hr
    have h1 := chunk_is n xs q
    rw [Nat.add_sub_cancel_left] at h1
    have h2 := tells_sub_nums h (n * q) (n * q + (chunk n xs q).length) (chunk n xs q).length (by
      have := chunk_len n xs q
      rcases Nat.eq_zero_or_pos n with rfl | h0
      · rw [Nat.zero_mul] at *; omega
      · have := lt_chn h0 (List.mem_range.1 hq); omega) (fun h => by omega)
    rw [h1] at h2
    exact h2
theorem _root_.Go.Proofs.Ytkehpipialmneaa.SL.Lend.many {D V : List Fact} {k : IntKind} (h : Lend D V) (j : Nat) (f : Fact) (rs : List Ro) (hf : D[j]? = some f) (ht : ∀ r ∈ rs, Tells f r.1 (nums k r.2.2)) : Lend D (vws (rowsL k rs) :: V) := fun w O R hs => by
  obtain ⟨fp, hp, hb⟩ := sat_of_mem (List.mem_of_getElem? hf) hs
  refine ⟨fp, ⟨f.bnd hp, fun r hr h0 => ?_⟩, hb, h w O R hs⟩
  obtain ⟨r, hr', rfl⟩ := List.mem_map.1 hr
  obtain ⟨q, h1, h2⟩ := ht r hr' w fp hp
  obtain ⟨a, h3, h4, h5⟩ := h2.2 h0
  exact ⟨a, h3, h1 _ h4, h5⟩
theorem pcs_ok {A : Option Addr} {xs : List Int} {n : Nat} (h : In .u8 xs) (hl : xs.length ≤ 140737488351232) : RowsOK .u8 (pcs A xs n) := by
  unfold pcs
  split
  · intro r hr
    rw [List.mem_singleton] at hr
    subst hr
    exact ⟨In.nil _, Nat.le_refl _, Nat.zero_le _⟩
  · intro r hr
    obtain ⟨q, _, rfl⟩ := List.mem_map.1 hr
    exact ⟨chunk_in h q, Nat.le_refl _, by rw [chunk_len]; omega⟩

def opAll (f : Nat → Int × List Int) : Nat → Int × List Int
  | 0 => (0, [])
  | m + 1 => if (opAll f m).1 = 0 then if (f m).1 = 0 then (0, (opAll f m).2 ++ (f m).2) else ((f m).1, []) else opAll f m
theorem opAll_stop {f : Nat → Int × List Int} {j : Nat} {os : List Int} (h : opAll f j = (0, os)) (h2 : ¬ (f j).1 = 0) : ∀ {m : Nat}, j < m → opAll f m = ((f j).1, [])
  | 0, hm => by omega
  | m + 1, hm => by
    rcases Nat.lt_or_ge j m with h3 | h3
    · rw [opAll, opAll_stop h h2 h3, if_neg h2]
    · obtain rfl : j = m := by omega
      rw [opAll, h, if_pos rfl, if_neg h2]
theorem opAll_step {f : Nat → Int × List Int} {j : Nat} {os zs : List Int} {e : Int} (h : opAll f j = (0, os)) (h2 : e = (f j).1) (h3 : zs = (f j).2) (h4 : e = 0) : opAll f (j + 1) = (0, os ++ zs) := by
  rw [opAll, h, if_pos rfl, ← h2, if_pos h4, ← h3]
theorem opAll_codes {f : Nat → Int × List Int} {m : Nat} (h : ∀ i, i < m → (f i).1 = 0 ∨ (f i).1 = 7 ∨ (f i).1 = 8) (h2 : ∃ i, i < m ∧ ¬ (f i).1 = 0) : (opAll f m).2 = [] ∧ ((opAll f m).1 = 7 ∨ (opAll f m).1 = 8) := by
  induction m with
  | zero => obtain ⟨i, hi, _⟩ := h2; omega
  | succ m ih =>
    rw [opAll]
    split
    · rename_i h5
      split
      · rename_i h6
        exfalso
        obtain ⟨i, hi, h7⟩ := h2
        rcases Nat.lt_or_ge i m with h8 | h8
        · have := ih (fun i hi => h i (by omega)) ⟨i, h8, h7⟩
          omega
        · obtain rfl : i = m := by omega
          exact h7 h6
      · rename_i h6
        exact ⟨rfl, by have := h m (by omega); omega⟩
    · rename_i h5
      refine ih (fun i hi => h i (by omega)) ?_
      apply Classical.byContradiction
      intro h6
      have : ∀ k, k ≤ m → (opAll f k).1 = 0 := by
        intro k
        induction k with
        | zero => intro _; rfl
        | succ k ihk =>
          intro hk
          have h7 : (f k).1 = 0 := Classical.byContradiction (fun h8 => h6 ⟨k, by omega, h8⟩)
          rw [opAll, if_pos (ihk (by omega)), if_pos h7]
      exact h5 (this m (Nat.le_refl _))
theorem opAll_ok {f : Nat → Int × List Int} {g : Nat → List Int} : ∀ {m : Nat}, (∀ i, i < m → f i = (0, g i)) → opAll f m = (0, (List.range m).flatMap g)
  | 0, _ => rfl
  | m + 1, h => by
    rw [opAll, opAll_ok (fun i hi => h i (by omega)), if_pos rfl, h m (by omega), if_pos rfl]
    simp [List.range_succ]
def nonceL (hb : List Int) (i : Int) (la : Bool) : List Int := (hb.drop 1).take 7 ++ ((leB i 4).reverse ++ [if la then 1 else 0])
theorem nonceL_len {hb : List Int} {i : Int} {la : Bool} (h : hb.length = 12) : (nonceL hb i la).length = 12 := by
  simp [nonceL, leB_len, h]
theorem nonceL_ne {hb : List Int} {i : Int} {a b : Bool} (h : nonceL hb i a = nonceL hb i b) : a = b := by
  unfold nonceL at h
  have h2 := List.append_cancel_left (List.append_cancel_left h)
  injection h2 with h2 _
  cases a <;> cases b <;> simp_all
def pcL (n : Nat) (xs : List Int) : Nat := if xs = [] then 1 else chn n xs.length
theorem pcs_len (A : Option Addr) (xs : List Int) (n : Nat) : (pcs A xs n).length = pcL n xs := by
  unfold pcs pcL
  split
  · rfl
  · exact chR_len ..
theorem pcs_get {A : Option Addr} {xs : List Int} {n i : Nat} {a : Option Addr} {c : Nat} {x : List Int} (h : (pcs A xs n)[i]? = some (a, c, x)) : x = chunk n xs i := by
  unfold pcs at h
  split at h
  · rename_i h0
    subst h0
    rcases i with _ | i
    · simp at h; simp [chunk, h]
    · simp at h
  · rw [chR, List.getElem?_map] at h
    cases h1 : (List.range (chn n xs.length))[i]? with
    | none => rw [h1] at h; cases h
    | some q =>
      rw [h1] at h
      obtain ⟨h2, h3⟩ := List.getElem?_eq_some_iff.1 h1
      rw [List.getElem_range] at h3
      subst h3
      simp at h
      exact h.2.2.symm
def Pcs (rs : List Ro) (X : Option Addr) (xs : List Int) (n : Nat) : Prop := rs = pcs X xs n
theorem Pcs.len {rs : List Ro} {X : Option Addr} {xs : List Int} {n : Nat} (h : Pcs rs X xs n) : rs.length = pcL n xs := by rw [h, pcs_len]
def quad (ks hb ctx xs : List Int) (n : Nat) (i : Int) : List Int × List Int × List Int × List Int := (ks, nonceL hb i (decide (i = (pcL n xs : Int) - 1)), hb ++ ctx, chunk n xs i.toNat)
def boxO (xs : List Int) (n : Nat) (i : Nat) : List Int := boxL i ((chunk n xs i).length + 16)
def boxesL (xs : List Int) (n : Nat) (m : Nat) : List Int := (List.range m).flatMap (boxO xs n)
def quads (ks hb ctx xs : List Int) (n m : Nat) : Bk := (List.range m).map fun (j : Nat) => quad ks hb ctx xs n (j : Int)
theorem boxO_len (xs : List Int) (n i : Nat) : (boxO xs n i).length = (chunk n xs i).length + 16 := boxL_len _ _
theorem box_step {os zs x : List Int} {rs : List Ro} {X a : Option Addr} {xs : List Int} {n c : Nat} {i : Int} (h0 : 0 ≤ i) (hp : Pcs rs X xs n) (hg : rs[i.toNat]? = some (a, c, x)) (ho : os = boxesL xs n i.toNat) (hz : zs = boxL i.toNat (x.length + 16)) : os ++ zs = boxesL xs n (i + 1).toNat := by
  rw [hp] at hg
  have := pcs_get hg
  rw [show (i + 1).toNat = i.toNat + 1 by omega, ho, hz, this]
  simp [boxesL, List.range_succ, boxO]
theorem quad_step {ks hb ctx xs x ns : List Int} {rs : List Ro} {X a : Option Addr} {n c : Nat} {i : Int} {M M2 : List Bx} (h0 : 0 ≤ i) (hp : Pcs rs X xs n) (hg : rs[i.toNat]? = some (a, c, x)) (hM : bxM M = quads ks hb ctx xs n i.toNat) (hn : ns = nonceL hb i (decide (i = (rs.length : Int) - 1))) (hM2 : bxM M2 = bxM M ++ [(ks, ns, hb ++ ctx, x)]) :
    bxM M2 = quads ks hb ctx xs n (i + 1).toNat := by
  rw [hp.len] at hn
  rw [hp] at hg
  have := pcs_get hg
  rw [show (i + 1).toNat = i.toNat + 1 by omega, hM2, hM, hn, this]
  simp [quads, List.range_succ, quad, Int.toNat_of_nonneg h0]
def fOpen (L : Bk) (ks hb ctx hs : List Int) (n : Nat) (i : Nat) : Int × List Int := bopen L ks (nonceL hb i (decide ((i : Int) = (pcL n hs : Int) - 1))) (hb ++ ctx) (chunk n hs i)
theorem fOpen_is {L : Bk} {ks hb ctx hs x ns : List Int} {rs : List Ro} {X a : Option Addr} {n c : Nat} {i : Int} (h0 : 0 ≤ i) (hp : Pcs rs X hs n) (hg : rs[i.toNat]? = some (a, c, x)) (hn : ns = nonceL hb i (decide (i = (rs.length : Int) - 1))) : bopen L ks ns (hb ++ ctx) x = fOpen L ks hb ctx hs n i.toNat := by
  rw [hp.len] at hn
  rw [hp] at hg
  rw [fOpen, hn, pcs_get hg, Int.toNat_of_nonneg h0]
def lastL (n : Nat) (hs : List Int) : Nat := (chunk n hs (pcL n hs - 1)).length
def szL (hb : List Int) : Int := beN ((hb.drop 8).take (hb.length - 8)) 4
theorem szL_bd {hb : List Int} (h : In .u8 hb) : 0 ≤ szL hb ∧ szL hb < 4294967296 := beN_bd ((h.drop 8).take _) 4
def openF (L : Bk) (ks ctx hs : List Int) : Int × List Int :=
  if ¬ ks.length = 32 then (1, []) else if hs.length < 12 ∨ hs.getD 0 0 ≠ 1 then (8, []) else if ¬ (1 ≤ szL (hs.take 12) ∧ szL (hs.take 12) ≤ 65536) then (8, []) else
  if lastL (szL (hs.take 12) + 16).toNat (hs.drop 12) < 16 ∨ lastL (szL (hs.take 12) + 16).toNat (hs.drop 12) = 16 ∧ 1 < pcL (szL (hs.take 12) + 16).toNat (hs.drop 12) then (8, []) else
  opAll (fOpen L ks (hs.take 12) ctx (hs.drop 12) (szL (hs.take 12) + 16).toNat) (pcL (szL (hs.take 12) + 16).toNat (hs.drop 12))
theorem chunks_take (n : Nat) (xs : List Int) : ∀ m, (List.range m).flatMap (chunk n xs) = xs.take (n * m)
  | 0 => by simp
  | m + 1 => by rw [List.range_succ, List.flatMap_append, chunks_take n xs m, Nat.mul_succ, List.take_add]; simp [chunk]
theorem chunks_all {n : Nat} (h0 : 0 < n) (xs : List Int) : (List.range (chn n xs.length)).flatMap (chunk n xs) = xs := by
  rw [chunks_take]
  refine List.take_of_length_le ?_
  apply Classical.byContradiction
  intro h
  have := chn_lt h0 (show n * chn n xs.length < xs.length by omega)
  omega
theorem chunk_nil (n i : Nat) : chunk n [] i = [] := by simp [chunk]
theorem pcL_all {n : Nat} (h0 : 0 < n) (xs : List Int) : (List.range (pcL n xs)).flatMap (chunk n xs) = xs := by
  unfold pcL
  split
  · rename_i h; subst h; simp [chunk_nil]
  · exact chunks_all h0 xs
theorem cat_chR (A : Option Addr) (xs : List Int) (n m : Nat) : cat (chR A xs n m) = (List.range m).flatMap (chunk n xs) := by
  simp [cat, chR, List.flatMap_map]
theorem Pcs.cat {rs : List Ro} {X : Option Addr} {xs : List Int} {n : Nat} (h : Pcs rs X xs n) (h0 : 0 < n) : Go.Proofs.Ytkehpipialmneaa.SL.cat rs = xs := by
  rw [show rs = _ from h]
  unfold pcs
  split
  · rename_i h; subst h; rfl
  · rw [cat_chR, chunks_all h0]
theorem pcL_le (n : Nat) (xs : List Int) : pcL n xs ≤ xs.length + 1 := by
  unfold pcL
  split
  · omega
  · have := chn_le n xs.length; omega
theorem pcL_pos {n : Nat} (h0 : 0 < n) (xs : List Int) : 0 < pcL n xs := by
  unfold pcL
  split
  · omega
  · rename_i h
    exact chn_pos h0 (by cases xs with | nil => exact absurd rfl h | cons => simp)
def headL (ps : List Int) (n : Int) : List Int := ([1] : List Int) ++ (ps ++ (leB n 4).reverse)
theorem headL_len {ps : List Int} {n : Int} (h : ps.length = 7) : (headL ps n).length = 12 := by simp [headL, leB_len, h]
section
variable {L : Bk} {ks ctx hs : List Int}
theorem of_short (h : ks.length = 32) (h2 : hs.length < 12 ∨ hs.getD 0 0 ≠ 1) : (8, []) = openF L ks ctx hs := by rw [openF, if_neg (fun g => g h), if_pos h2]
theorem of_size (h : ks.length = 32) (h2 : ¬ (hs.length < 12 ∨ hs.getD 0 0 ≠ 1)) {hb : List Int} (hh : hb = hs.take 12) (h3 : ¬ (1 ≤ szL hb ∧ szL hb ≤ 65536)) : (8, []) = openF L ks ctx hs := by
  subst hh
  rw [openF, if_neg (fun g => g h), if_neg h2, if_pos h3]
theorem of_last (h : ks.length = 32) (h2 : ¬ (hs.length < 12 ∨ hs.getD 0 0 ≠ 1)) {hb tl x : List Int} {n : Int} {rs : List Ro} {X a : Option Addr} {c : Nat} {i : Int} (hh : hb = hs.take 12) (ht : tl = hs.drop 12) (hn : n = szL hb + 16) (h3 : 1 ≤ szL hb ∧ szL hb ≤ 65536) (hp : Pcs rs X tl n.toNat) (hg : rs[i.toNat]? = some (a, c, x)) (hi : i = (rs.length : Int) - 1)
    (h4 : x.length < 16 ∨ x.length = 16 ∧ 1 < rs.length) : (8, []) = openF L ks ctx hs := by
  subst hh ht hn
  rw [hp.len] at h4 hi
  rw [hp] at hg
  have e := pcs_get hg
  rw [show i.toNat = pcL (szL (hs.take 12) + 16).toNat (hs.drop 12) - 1 by omega] at e
  rw [openF, if_neg (fun g => g h), if_neg h2, if_neg (fun g => g h3), if_pos]
  rw [lastL, ← e]
  exact h4
theorem of_go (h : ks.length = 32) (h2 : ¬ (hs.length < 12 ∨ hs.getD 0 0 ≠ 1)) {hb tl x : List Int} {n : Int} {rs : List Ro} {X a : Option Addr} {c : Nat} {i : Int} (hh : hb = hs.take 12) (ht : tl = hs.drop 12) (hn : n = szL hb + 16) (h3 : 1 ≤ szL hb ∧ szL hb ≤ 65536) (hp : Pcs rs X tl n.toNat) (hg : rs[i.toNat]? = some (a, c, x)) (hi : i = (rs.length : Int) - 1)
    (h4 : ¬ (x.length < 16 ∨ x.length = 16 ∧ 1 < rs.length)) : opAll (fOpen L ks hb ctx tl n.toNat) rs.length = openF L ks ctx hs := by
  subst hh ht hn
  rw [hp.len] at h4 hi ⊢
  rw [hp] at hg
  have e := pcs_get hg
  rw [show i.toNat = pcL (szL (hs.take 12) + 16).toNat (hs.drop 12) - 1 by omega] at e
  rw [openF, if_neg (fun g => g h), if_neg h2, if_neg (fun g => g h3), if_neg]
  rw [lastL, ← e]
  exact h4
end
section
variable {box : Nat → List Int} {N m : Nat}
theorem outs_len : ∀ m, (∀ j, j < m → (box j).length = N) → ((List.range m).flatMap box).length = N * m
  | 0, _ => rfl
  | m + 1, h => by
    rw [List.range_succ, List.flatMap_append, List.length_append, outs_len m (fun j hj => h j (by omega)), Nat.mul_succ]
    simp [h m (by omega)]
theorem outs_split {i : Nat} : ∀ {m : Nat}, i < m → ∃ r, (List.range m).flatMap box = (List.range i).flatMap box ++ (box i ++ r) ∧ (i + 1 = m → r = [])
  | 0, h => by omega
  | m + 1, h => by
    rcases Nat.lt_or_ge i m with h1 | h1
    · obtain ⟨r, h2, _⟩ := outs_split h1
      exact ⟨r ++ box m, by rw [List.range_succ, List.flatMap_append, h2]; simp, fun h3 => by omega⟩
    · obtain rfl : i = m := by omega
      exact ⟨[], by rw [List.range_succ, List.flatMap_append]; simp, fun _ => rfl⟩
theorem outs_chunk (h1 : ∀ j, j + 1 < m → (box j).length = N) (h2 : (box (m - 1)).length ≤ N) {i : Nat} (hi : i < m) : chunk N ((List.range m).flatMap box) i = box i := by
  obtain ⟨r, h3, h4⟩ := outs_split (box := box) hi
  have h5 := outs_len (box := box) i (fun j hj => h1 j (by omega))
  rw [chunk, h3, List.drop_left' h5]
  rcases Nat.lt_or_ge (i + 1) m with h6 | h6
  · exact List.take_left' (h1 i h6)
  · rw [h4 (by omega), List.append_nil]
    exact List.take_of_length_le (by rw [show i = m - 1 by omega]; exact h2)
theorem outs_all (h0 : 0 < m) (h1 : ∀ j, j + 1 < m → (box j).length = N) : ((List.range m).flatMap box).length = N * (m - 1) + (box (m - 1)).length := by
  obtain ⟨r, h3, h4⟩ := outs_split (box := box) (show m - 1 < m by omega)
  rw [h3, h4 (by omega), List.append_nil, List.length_append, outs_len (m - 1) (fun j hj => h1 j (by omega))]
end
section
variable {ks cs ps xs : List Int} {n : Int}
theorem head_take {ps : List Int} {n : Int} (hp : ps.length = 7) (out : List Int) : (headL ps n ++ out).take 12 = headL ps n := List.take_left' (headL_len hp)
theorem head_drop {ps : List Int} {n : Int} (hp : ps.length = 7) (out : List Int) : (headL ps n ++ out).drop 12 = out := List.drop_left' (headL_len hp)
theorem head_sz {ps : List Int} {n : Int} (hp : ps.length = 7) (hn : 1 ≤ n ∧ n ≤ 65536) : szL (headL ps n) = n := by
  have h1 : (headL ps n).drop 8 = (leB n 4).reverse := by
    unfold headL
    rw [← List.append_assoc]
    exact List.drop_left' (by simp [hp])
  unfold szL
  rw [h1, headL_len hp, List.take_of_length_le (by rw [List.length_reverse, leB_len]; exact Nat.le_refl _)]
  exact put_getBig32 ⟨by omega, by omega⟩
theorem pc_full {n : Nat} (h0 : 0 < n) {xs : List Int} {j : Nat} (h : j + 1 < pcL n xs) : (chunk n xs j).length = n := by
  rw [chunk_len]
  unfold pcL at h
  split at h
  · omega
  · have := lt_chn h0 h
    rw [Nat.mul_succ] at this
    omega
theorem pc_bd (n : Nat) (xs : List Int) (j : Nat) : (chunk n xs j).length ≤ n := by rw [chunk_len]; omega
theorem pc_last {n : Nat} (h0 : 0 < n) {xs : List Int} (h : 1 < pcL n xs) : 0 < (chunk n xs (pcL n xs - 1)).length := by
  rw [chunk_len]
  unfold pcL at h ⊢
  split at h
  · omega
  · rename_i hx
    rw [if_neg hx]
    have := lt_chn h0 (show chn n xs.length - 1 < chn n xs.length by omega)
    omega
theorem out_facts {n : Nat} (h0 : 0 < n) (xs : List Int) : (boxesL xs n (pcL n xs)).length = (n + 16) * (pcL n xs - 1) + ((chunk n xs (pcL n xs - 1)).length + 16) ∧ (∀ i, i < pcL n xs → chunk (n + 16) (boxesL xs n (pcL n xs)) i = boxO xs n i) := by
  have h1 : ∀ j, j + 1 < pcL n xs → (boxO xs n j).length = n + 16 := fun j hj => by rw [boxO_len, pc_full h0 hj]
  refine ⟨?_, fun i hi => outs_chunk h1 (by rw [boxO_len]; have := pc_bd n xs (pcL n xs - 1); omega) hi⟩
  rw [boxesL, outs_all (pcL_pos h0 xs) h1, boxO_len]
theorem quads_get {ks hb ctx xs : List Int} {n m i : Nat} (h : i < m) : (quads ks hb ctx xs n m)[i]? = some (quad ks hb ctx xs n (i : Int)) := by
  rw [quads, List.getElem?_map, List.getElem?_range h]
  rfl
theorem u64_nat {i : Nat} (h : i < 1000000) : fits .u64 (i : Int) := ⟨by omega, by omega⟩
theorem box_num {xs : List Int} {n i k : Nat} (hi : i < 1000000) (hk : 8 ≤ k) : beN ((boxO xs n i).take k) 8 = i := box_head (u64_nat hi) (by omega) hk
theorem open_self (hk : ks.length = 32) (hp : ps.length = 7) (hn : 1 ≤ n ∧ n ≤ 65536) (hx : xs.length ≤ 50000) :
    openF (quads ks (headL ps n) cs xs n.toNat (pcL n.toNat xs)) ks cs (headL ps n ++ boxesL xs n.toNat (pcL n.toNat xs)) = (0, xs) := by
  obtain ⟨k, rfl⟩ : ∃ k : Nat, n = (k : Int) := ⟨n.toNat, by omega⟩
  rw [Int.toNat_natCast]
  have h0 : 0 < k := by omega
  obtain ⟨ho, hc⟩ := out_facts h0 xs
  have hm := pcL_pos h0 xs
  have hml := pcL_le k xs
  have hlast := pc_last (n := k) (xs := xs) h0
  have hbd := pc_bd k xs (pcL k xs - 1)
  generalize hO : boxesL xs k (pcL k xs) = out at *
  have hsz : (szL (headL ps k) + 16).toNat = k + 16 := by rw [head_sz hp hn]; omega
  have hpc : pcL (k + 16) out = pcL k xs := by
    unfold pcL
    rw [if_neg (fun e => by rw [e] at ho; simp at ho)]
    refine (chn_end (by omega) ?_ ?_).symm
    · rw [show chn (k + 16) out.length = chn (k + 16) out.length - 1 + 1 by have := chn_pos (n := k + 16) (L := out.length) (by omega) (by omega); omega]
      refine Nat.le_of_lt_succ (Nat.lt_succ_of_le ?_)
      have h9 : pcL k xs - 1 < chn (k + 16) out.length := chn_lt (by omega) (by rw [ho]; omega)
      unfold pcL at h9 hm
      omega
    · have h9 : out.length ≤ (k + 16) * (pcL k xs - 1) + (k + 16) := by rw [ho]; omega
      rw [← Nat.mul_succ, show (pcL k xs - 1).succ = pcL k xs by omega] at h9
      exact h9
  have hl : lastL (k + 16) out = (chunk k xs (pcL k xs - 1)).length + 16 := by
    rw [lastL, hpc, hc _ (by omega), boxO_len]
  unfold openF
  rw [head_take hp, head_drop hp, hsz, hl, hpc]
  rw [if_neg (fun g => g hk), if_neg (fun g => by
    rcases g with g | g
    · rw [List.length_append, headL_len hp] at g; omega
    · exact g rfl), if_neg (fun g => g (by rw [head_sz hp hn]; exact hn)), if_neg (fun g => by
    rcases g with g | ⟨g, g2⟩
    · omega
    · have := hlast g2; omega)]
  rw [opAll_ok (g := chunk k xs) (fun i hi => ?_), pcL_all h0]
  rw [fOpen, hpc, hc i hi]
  have hnl : (nonceL (headL ps k) (i : Int) (decide ((i : Int) = (pcL k xs : Int) - 1))).length = 12 := nonceL_len (headL_len hp)
  have hbl : (boxO xs k i).length = (chunk k xs i).length + 16 := boxO_len _ _ _
  have hb8 : beN (boxO xs k i) 8 = i := by
    have := box_num (xs := xs) (n := k) (i := i) (k := (boxO xs k i).length) (by omega) (by omega)
    rw [List.take_length] at this
    exact this
  unfold bopen
  rw [if_neg (fun g => g ⟨hk, hnl⟩), if_neg (by omega), hb8, Int.toNat_natCast, quads_get hi]
  exact if_pos ⟨rfl, rfl, rfl, rfl⟩
theorem open_cut (hk : ks.length = 32) (hp : ps.length = 7) (hn : 1 ≤ n ∧ n ≤ 65536) (hx : xs.length ≤ 50000) {r : Nat} (hr : r < (headL ps n ++ boxesL xs n.toNat (pcL n.toNat xs)).length) :
    (openF (quads ks (headL ps n) cs xs n.toNat (pcL n.toNat xs)) ks cs ((headL ps n ++ boxesL xs n.toNat (pcL n.toNat xs)).take r)).2 = [] ∧
      ((openF (quads ks (headL ps n) cs xs n.toNat (pcL n.toNat xs)) ks cs ((headL ps n ++ boxesL xs n.toNat (pcL n.toNat xs)).take r)).1 = 7 ∨ (openF (quads ks (headL ps n) cs xs n.toNat (pcL n.toNat xs)) ks cs ((headL ps n ++ boxesL xs n.toNat (pcL n.toNat xs)).take r)).1 = 8) := by
  obtain ⟨k, rfl⟩ : ∃ k : Nat, n = (k : Int) := ⟨n.toNat, by omega⟩
  rw [Int.toNat_natCast] at *
  have h0 : 0 < k := by omega
  obtain ⟨ho, hc⟩ := out_facts h0 xs
  have hm := pcL_pos h0 xs
  have hml := pcL_le k xs
  generalize hO : boxesL xs k (pcL k xs) = out at *
  rw [List.length_append, headL_len hp] at hr
  unfold openF
  rw [if_neg (fun g => g hk)]
  by_cases h12 : r < 12
  · rw [if_pos (.inl (by rw [List.length_take]; omega))]
    exact ⟨rfl, .inr rfl⟩
  have ht1 : ((headL ps k ++ out).take r).take 12 = headL ps k := by rw [List.take_take, Nat.min_eq_left (by omega), head_take hp]
  have ht2 : ((headL ps k ++ out).take r).drop 12 = out.take (r - 12) := by rw [List.drop_take, head_drop hp]
  have ht3 : ((headL ps k ++ out).take r).getD 0 0 = 1 := by rw [getD_take _ (by omega)]; rfl
  have hsz : (szL (headL ps k) + 16).toNat = k + 16 := by rw [head_sz hp hn]; omega
  rw [ht1, ht2, ht3, hsz, if_neg (fun g => by
    rcases g with g | g
    · rw [List.length_take, List.length_append, headL_len hp] at g; omega
    · exact g rfl), if_neg (fun g => g (by rw [head_sz hp hn]; exact hn))]
  split
  · exact ⟨rfl, .inr rfl⟩
  rename_i hl
  have hl16 : 16 ≤ lastL (k + 16) (out.take (r - 12)) := by omega
  have htl : (out.take (r - 12)).length = r - 12 := by rw [List.length_take]; omega
  have hm' := pcL_pos (show 0 < k + 16 by omega) (out.take (r - 12))
  have hr0 : (k + 16) * (pcL (k + 16) (out.take (r - 12)) - 1) < r - 12 := by
    have h1 : (chunk (k + 16) (out.take (r - 12)) (pcL (k + 16) (out.take (r - 12)) - 1)).length ≥ 16 := hl16
    rw [chunk_len, htl] at h1
    omega
  refine opAll_codes (fun i _ => bopen_codes ⟨hk, nonceL_len (headL_len hp)⟩) ⟨pcL (k + 16) (out.take (r - 12)) - 1, by omega, ?_⟩
  unfold lastL at hl16
  have hcast : ((pcL (k + 16) (out.take (r - 12)) - 1 : Nat) : Int) = (pcL (k + 16) (out.take (r - 12)) : Int) - 1 := by omega
  unfold fOpen
  rw [hcast, decide_eq_true rfl, ← hcast]
  generalize hi : pcL (k + 16) (out.take (r - 12)) - 1 = i at *
  have him : i < pcL k xs := by
    apply Classical.byContradiction
    intro h9
    have h10 : (k + 16) * pcL k xs ≤ (k + 16) * i := Nat.mul_le_mul_left _ (by omega)
    have h11 : (k + 16) * pcL k xs = (k + 16) * (pcL k xs - 1) + (k + 16) := by rw [← Nat.mul_succ, show (pcL k xs - 1).succ = pcL k xs by omega]
    have := pc_bd k xs (pcL k xs - 1)
    omega
  have hq : chunk (k + 16) (out.take (r - 12)) i = (boxO xs k i).take (r - 12 - (k + 16) * i) := by
    rw [← hc i him, chunk, chunk, List.drop_take, List.take_take, List.take_take, Nat.min_comm]
  have hql : (chunk (k + 16) (out.take (r - 12)) i).length ≤ r - 12 - (k + 16) * i := by rw [hq, List.length_take]; omega
  have hb8 : beN (chunk (k + 16) (out.take (r - 12)) i) 8 = i := by rw [hq]; exact box_num (by omega) (by omega)
  have hnl : (nonceL (headL ps k) (i : Int) true).length = 12 := nonceL_len (headL_len hp)
  unfold bopen
  rw [if_neg (fun g => g ⟨hk, hnl⟩), if_neg (by omega), hb8, Int.toNat_natCast, quads_get him]
  have hne : ¬ ((quad ks (headL ps k) cs xs k (i : Int)).1 = ks ∧ (quad ks (headL ps k) cs xs k (i : Int)).2.1 = nonceL (headL ps k) (i : Int) true ∧ (quad ks (headL ps k) cs xs k (i : Int)).2.2.1 = headL ps k ++ cs ∧ boxL (i : Int) ((quad ks (headL ps k) cs xs k (i : Int)).2.2.2.length + 16) = chunk (k + 16) (out.take (r - 12)) i) := by
    rintro ⟨_, g2, _, g4⟩
    have g5 := nonceL_ne g2
    have g6 : (i : Int) = (pcL k xs : Int) - 1 := of_decide_eq_true g5
    have g7 := congrArg List.length g4
    rw [boxL_len, show (quad ks (headL ps k) cs xs k (i : Int)).2.2.2 = chunk k xs i from rfl] at g7
    rw [show pcL k xs - 1 = i by omega] at ho
    omega
  show ¬ (if _ then _ else _ : Int × List Int).1 = 0
  rw [if_neg hne]
  decide
end
theorem quo_ok {a b : Int} (h0 : 0 ≤ a) (h1 : 0 < b) (h2 : a < 9223372036854775808) : 0 ≤ a ∧ 0 < b ∧ (-9223372036854775808 ≤ a / b ∧ a / b < 9223372036854775808) := by
  have h3 := Int.ediv_le_self b h0
  have h4 := Int.ediv_nonneg h0 (Int.le_of_lt h1)
  exact ⟨h0, h1, by omega, by omega⟩
section
variable {M : List Bx} {ks cs ps xs zs b x : List Int} {n e : Int} {r : Nat}
theorem st_e (h : e = (openF (bxM M) ks cs zs).1) (hz : zs = headL ps n ++ boxesL xs n.toNat (pcL n.toNat xs)) (hM : bxM M = quads ks (headL ps n) cs xs n.toNat (pcL n.toNat xs)) (hk : ks.length = 32) (hp : ps.length = 7) (hn : 1 ≤ n ∧ n ≤ 65536) (hx : xs.length ≤ 50000) : e = 0 := by
  rw [h, hM, hz, open_self hk hp hn hx]
theorem st_x (h : x = (openF (bxM M) ks cs zs).2) (hz : zs = headL ps n ++ boxesL xs n.toNat (pcL n.toNat xs)) (hM : bxM M = quads ks (headL ps n) cs xs n.toNat (pcL n.toNat xs)) (hk : ks.length = 32) (hp : ps.length = 7) (hn : 1 ≤ n ∧ n ≤ 65536) (hx : xs.length ≤ 50000) : x = xs := by
  rw [h, hM, hz, open_self hk hp hn hx]
theorem st_y (h : x = (openF (bxM M) ks cs b).2) (hb : b = zs.take r) (hr : r < zs.length) (hz : zs = headL ps n ++ boxesL xs n.toNat (pcL n.toNat xs)) (hM : bxM M = quads ks (headL ps n) cs xs n.toNat (pcL n.toNat xs)) (hk : ks.length = 32) (hp : ps.length = 7) (hn : 1 ≤ n ∧ n ≤ 65536) (hx : xs.length ≤ 50000) : x = [] := by
  subst hz hb
  rw [h, hM]
  exact (open_cut hk hp hn hx hr).1
theorem st_g (h : e = (openF (bxM M) ks cs b).1) (hb : b = zs.take r) (hr : r < zs.length) (hz : zs = headL ps n ++ boxesL xs n.toNat (pcL n.toNat xs)) (hM : bxM M = quads ks (headL ps n) cs xs n.toNat (pcL n.toNat xs)) (hk : ks.length = 32) (hp : ps.length = 7) (hn : 1 ≤ n ∧ n ≤ 65536) (hx : xs.length ≤ 50000) : e = 7 ∨ e = 8 := by
  subst hz hb
  rw [h, hM]
  exact (open_cut hk hp hn hx hr).2
end
end Go.Proofs.Ytkehpipialmneaa.SL.B
