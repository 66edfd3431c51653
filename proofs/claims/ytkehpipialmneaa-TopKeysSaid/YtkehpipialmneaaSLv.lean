/- Appending so many zeros: append(x, make([]T, n)...). -/
import Derived.Test.YtkehpipialmneaaSLu
import Derived.Lib.AppendZeros
namespace Go.Proofs.Ytkehpipialmneaa.SL
set_option linter.unusedVariables false
set_option linter.unusedSimpArgs false
open Go
section
variable {P : Program} {w : World}
theorem zc_eq (kd : IntKind) (M : Nat) : Builtin.zeroCells (Value.int kd 0).cells M = (nums kd (List.replicate M 0)).toArray := by
  apply Array.ext'
  rw [zeroCells_num]
theorem run_zeros_none (t tn ty e : TypeId) (i : TypeInfo) (k kn : IntKind) (ht : P.underlying t = some (.slice e)) (htn : P.underlying tn = some (.int kn)) (hi : P.info? e = some i) (B : Option Addr) (n cap : Nat) (hn : n ≤ cap) :
    (Builtin.append_ #[t, tn] ty #[.slice B n cap, .int k 0]).run P w = .ok (.slice B n cap) w := by
  have hw : IntKind.i64.wrap (0 : Int) = 0 := by decide
  cases B with
  | none => simp [Builtin.append_, run_underlying ht, run_underlying htn, sizeOf, typeInfo, hi, asInt, asIntOf, hw, hn]
  | some b => simp [Builtin.append_, run_underlying ht, run_underlying htn, sizeOf, typeInfo, hi, asInt, asIntOf, hw, hn, storeCells]
theorem run_zeros_room (t tn ty e : TypeId) (i : TypeInfo) (z : Value) (k kn kd : IntKind) (ht : P.underlying t = some (.slice e)) (htn : P.underlying tn = some (.int kn)) (hi : P.info? e = some i) (hz : i.zero = some (.int kd 0)) (hs : i.size = 1)
    (g n cap M : Nat) (cur : Array Value) (hg : w.heap[g]? = some (.cells cur e (0, 0))) (hM : 0 < M) (h47 : n + M ≤ 140737488355328) (hb : M * i.bytes ≤ 140737488355328) (hroom : n + M ≤ cap) (hfit : n + M ≤ cur.size) :
    (Builtin.append_ #[t, tn] ty #[.slice (some ⟨g, 0, none⟩) n cap, .int k (M : Int)]).run P w =
      .ok (.slice (some ⟨g, 0, none⟩) (n + M) cap) (w.setRow g (cur.toList.take n ++ nums kd (List.replicate M 0) ++ cur.toList.drop (n + M)).toArray) := by
  have hw : IntKind.i64.wrap (M : Int) = M := by rw [IntKind.wrap_i64]; omega
  have hneg : ¬ ((M : Int) < 0) := by omega
  have h48 : ¬ (281474976710656 < (M : Int) * (i.bytes : Int)) := by rw [← Int.natCast_mul]; omega
  have hns : M ≠ 0 := by omega
  have hst := run_storeCells_at P g n e (nums kd (List.replicate M 0)) 0 cur w hg (by simpa [nums_length] using hfit) (nums_one _ _)
  simp only [Nat.add_zero, nums_length, List.length_replicate] at hst
  simp [Builtin.append_, run_underlying ht, run_underlying htn, sizeOf, typeInfo, zeroValue, hi, hz, hs, asInt, asIntOf, hw, hneg, h48, hns, hroom, zc_eq, Addr.add_lit, hst]
theorem run_zeros_grow (t tn ty e : TypeId) (i : TypeInfo) (k kn kd : IntKind) (ht : P.underlying t = some (.slice e)) (htn : P.underlying tn = some (.int kn)) (hi : P.info? e = some i) (hz : i.zero = some (.int kd 0)) (hs : i.size = 1)
    (b : Addr) (n cap M : Nat) (olds : List Value) (hlo : olds.length = n) (holds : ∀ j v, olds[j]? = some v → w.cell? (b.add j) = some v) (hM : 0 < M) (h47 : n + M ≤ 140737488355328) (hb : M * i.bytes ≤ 140737488355328)
    (hg : cap < n + M) (hfit : Builtin.nextslicecap (n + M) cap * i.bytes ≤ 281474976710656) :
    (Builtin.append_ #[t, tn] ty #[.slice (some b) n cap, .int k (M : Int)]).run P w =
      .ok (.slice (some ⟨w.heap.size, 0, none⟩) (n + M) (grownCap w (n + M) cap e)) (w.drew.alloc (.cells (olds.toArray ++ (nums kd (List.replicate M 0)).toArray ++ Builtin.zeroCells (Value.int kd 0).cells (grownCap w (n + M) cap e - (n + M))) e)) := by
  have hw : IntKind.i64.wrap (M : Int) = M := by rw [IntKind.wrap_i64]; omega
  have hneg : ¬ ((M : Int) < 0) := by omega
  have h48 : ¬ (281474976710656 < (M : Int) * (i.bytes : Int)) := by rw [← Int.natCast_mul]; omega
  have hns : M ≠ 0 := by omega
  have hn : ¬ (n + M ≤ cap) := by omega
  have h63 : ¬ (9223372036854775807 < ((n : Int) + (M : Int))) := by omega
  have h48' : ¬ (281474976710656 < Builtin.nextslicecap (n + M) cap * i.bytes) := by omega
  have hfo := run_firstCells_some (P := P) w.drew i.size n b n cap olds (by rw [hs]; omega) (by simpa using holds)
  rw [hs] at hfo
  simp [Builtin.append_, run_underlying ht, run_underlying htn, sizeOf, typeInfo, zeroValue, hi, hz, hs, asInt, asIntOf, hw, hneg, h48, hns, hn, h63, h48', Question.forced, hfo, newRow, grownCap, zc_eq]
end
section
variable {X : Cx} {U : Tab} (hU : U.OK X.P) {t : Env} {D : List Fact} {φ : Env → List Fact → Prop}
include hU
theorem Step.append_zeros {d : Nat} {ty tn : TypeId} {x y : Operand} (e by_ : Nat) (kd kn ki : IntKind) (k0 : Nat) (B : Option Addr) (n cap : Nat) (xs : List Int) (m : Int)
    (hty : look U.und ty = some (.slice e)) (htn : look U.und tn = some (.int kn)) (hti : look U.ti e = some (1, by_, .int kd 0))
    (hx : ev t x = some (.slice B n cap)) (hy : ev t y = some (.int ki m)) (hD : D[k0]? = some (row e 1 (.slice B n cap) n (nums kd xs)))
    (hn : n = xs.length) (h0 : 0 ≤ m) (h63 : (xs.length : Int) + m ≤ 140737488355328) (hb : ((xs.length : Int) + m) * by_ ≤ 140737488355328) (hd : Nat.ble (d + 1) X.N = true)
    (k : ∀ B' cap', (xs ++ List.replicate m.toNat 0).length ≤ cap' → (0 < (xs ++ List.replicate m.toNat (0 : Int)).length → B'.isSome = true) → φ (put t d (.slice B' (xs ++ List.replicate m.toNat (0 : Int)).length cap')) (row e 1 (.slice B' (xs ++ List.replicate m.toNat (0 : Int)).length cap') (xs ++ List.replicate m.toNat (0 : Int)).length (nums kd (xs ++ List.replicate m.toNat 0)) :: D.eraseIdx k0)) :
    Step X (some d) (.call { callee := .builtin .append, args := #[x, y], argTypes := #[ty, tn] }) t D φ := by
  subst hn
  obtain ⟨M, rfl⟩ := Int.eq_ofNat_of_zero_le h0
  simp only [Int.toNat_natCast] at k
  have hlen : (xs ++ List.replicate M (0 : Int)).length = xs.length + M := by simp
  rw [hlen] at k
  intro o hdst hop ρ a w ha hw Q K hK
  obtain ⟨i, hi, h1', h2', h3⟩ := hU.ti _ (look_mem hti)
  simp only at hi h1' h2' h3
  subst h2'
  have hb2 : (xs.length + M) * i.bytes ≤ 140737488355328 := by
    have : (((xs.length + M) * i.bytes : Nat) : Int) ≤ 140737488355328 := by rw [Int.natCast_mul, Int.natCast_add]; exact hb
    omega
  have hbM : M * i.bytes ≤ 140737488355328 := Nat.le_trans (Nat.mul_le_mul_right _ (by omega)) hb2
  have ht := hU.und _ (look_mem hty)
  have htn' := hU.und _ (look_mem htn)
  simp only at ht htn'
  have hw' := hw.pull hD
  obtain ⟨fpr, hc0, hbd, hform⟩ := hw'.head
  have fin : ∀ (B' : Option Addr) (cap' : Nat) (w' : World), (Builtin.append_ #[ty, tn] o.type #[.slice B xs.length cap, .int ki (M : Int)]).run X.P w = .ok (.slice B' (xs.length + M) cap') w' → SAT ρ.w0 ρ.W (row e 1 (.slice B' (xs.length + M) cap') (xs.length + M) (nums kd (xs ++ List.replicate M 0)) :: D.eraseIdx k0) w' →
      (0 < xs.length + M → B'.isSome = true) → wp2 X o a w K Q := by
    intro B' cap' w' hrun hsat hv'
    have hr : (execOp a.eval o).run X.P w = .ok (.value (.slice B' (xs.length + M) cap')) w' := by
      unfold execOp
      simp only [hop, resolve, invoke, builtin, Sem.run_bind, Sem.run_pure, Result.andThen_ok, List.map_toArray, List.map_cons, List.map_nil, ha.ev hx, ha.ev hy, hrun]
    have hcap : xs.length + M ≤ cap' := by
      obtain ⟨A', c', hv, hn, _⟩ := row_form hsat
      injection hv with _ _ hc
      rw [hc]; exact hn
    refine wp_val hr (hK _ _ _ _ ?_ hsat (k B' cap' hcap hv'))
    rw [hdst]
    exact ha.put (Nat.le_of_ble_eq_true hd) _
  have grown : ∀ (old : Nat), SAT ρ.w0 ρ.W (row e 1 (.slice (some ⟨w.heap.size, 0, none⟩) (xs.length + M) (grownCap w (xs.length + M) old e)) (xs.length + M) (nums kd (xs ++ List.replicate M 0)) :: D.eraseIdx k0)
      (w.drew.alloc (.cells ((nums kd xs).toArray ++ (nums kd (List.replicate M 0)).toArray ++ Builtin.zeroCells (Value.int kd 0).cells (grownCap w (xs.length + M) old e - (xs.length + M))) e)) := by
    intro old
    have hge := grownCap_ge w (xs.length + M) old e
    have hcm := grownCap_le_maxLen w (xs.length + M) old e (by simp only [maxLen]; omega)
    have hs := hw'.tail.drew.alloc (.cells ((nums kd xs).toArray ++ (nums kd (List.replicate M 0)).toArray ++ Builtin.zeroCells (Value.int kd 0).cells (grownCap w (xs.length + M) old e - (xs.length + M))) e)
      (blk w.drew.heap.size e (nums kd (xs ++ List.replicate M 0) ++ nums kd (List.replicate (grownCap w (xs.length + M) old e - (xs.length + M)) 0))) rfl (by
        have e1 : ((nums kd xs).toArray ++ (nums kd (List.replicate M 0)).toArray ++ Builtin.zeroCells (Value.int kd 0).cells (grownCap w (xs.length + M) old e - (xs.length + M))) = (nums kd (xs ++ List.replicate M 0) ++ nums kd (List.replicate (grownCap w (xs.length + M) old e - (xs.length + M)) 0)).toArray := by
          rw [zc_eq]; simp [nums]
        rw [e1]
        exact blk_new w.drew e _)
    have h4 := SAT.row_of_blk (s := 1) (n := xs.length + M) (cap := grownCap w (xs.length + M) old e) hs hge hcm (by rw [List.length_append, nums_length, nums_length, hlen, List.length_replicate]; omega)
    rwa [show (nums kd (xs ++ List.replicate M 0) ++ nums kd (List.replicate (grownCap w (xs.length + M) old e - (xs.length + M)) 0)).take ((xs.length + M) * 1) = nums kd (xs ++ List.replicate M 0) by rw [Nat.mul_one, ← hlen, ← nums_length kd, List.take_left]] at h4
  rw [nums_length, Nat.mul_one] at hc0
  by_cases hM : M = 0
  · subst hM
    simp only [List.replicate_zero, List.append_nil, Nat.add_zero] at fin
    rcases hform with ⟨hv, hl⟩ | ⟨b, cap', ex, hv, hh, hnc, hcm, hex, hfp⟩
    · injection hv with h1 h2 h3'
      subst h1; subst h3'
      exact fin none 0 w (run_zeros_none ty tn o.type e i ki kn ht htn' hi none _ 0 (by omega)) hw' (fun h => by omega)
    · injection hv with h1 h2 h3'
      subst h1; subst h3'
      exact fin _ _ w (run_zeros_none ty tn o.type e i ki kn ht htn' hi _ _ _ hnc) hw' (fun _ => rfl)
  · rcases hform with ⟨hv, hl⟩ | ⟨b, cap', ex, hv, hh, hnc, hcm, hex, hfp⟩
    · injection hv with h1 h2 h3'
      subst h1; subst h3'
      obtain rfl : xs = [] := List.eq_nil_of_length_eq_zero h2
      have hr := Go.Lib.run_append_nil_zeros (P := X.P) w ty tn o.type e i (.int kd 0) ki kn ht htn' hi h3 M (by omega) (by omega) (by omega) (by omega)
      refine fin _ _ _ ?_ (grown 0) (fun _ => rfl)
      simpa [nums, zc_eq] using hr
    · injection hv with h1 h2 h3'
      subst h1; subst h3'
      by_cases hroom : xs.length + M ≤ cap
      · have hfit : xs.length + M ≤ (nums kd xs ++ ex).toArray.size := by rw [List.size_toArray, hex]; omega
        have hr := run_zeros_room (P := X.P) (w := w) ty tn o.type e i (.int kd 0) ki kn kd ht htn' hi h3 h1' b xs.length cap M (nums kd xs ++ ex).toArray hh (by omega) (by omega) hbM hroom hfit
        refine fin _ cap _ hr ?_ (fun _ => rfl)
        have hexl : ex.length = cap - xs.length := by
          have := hex
          rw [List.length_append, nums_length] at this
          omega
        have e1 : List.take xs.length (nums kd xs ++ ex).toArray.toList ++ nums kd (List.replicate M 0) ++ List.drop (xs.length + M) (nums kd xs ++ ex).toArray.toList = nums kd (xs ++ List.replicate M 0) ++ ex.drop M := by
          have l1 := nums_length kd xs
          rw [show (nums kd xs ++ ex).toArray.toList = nums kd xs ++ ex from rfl, List.take_append_of_le_length (by omega), List.take_of_length_le (by omega), List.drop_append, List.drop_of_length_le (by omega), l1, show xs.length + M - xs.length = M by omega, List.nil_append, nums_append]
        rw [e1]
        refine hw'.change rfl _ rfl rfl rfl rfl (by simp) (fun fp hp' => ?_)
        have hfp' : ∀ x, fp x ↔ x = b := by
          rcases hp'.2.2 with ⟨hv, _⟩ | ⟨b', cap', ex', hv, _, _, _, _, h6⟩
          · cases hv
          · injection hv with hv
            injection hv with hv
            injection hv with hv
            subst hv
            exact h6
        refine ⟨fun x hx => setRow_other w b x _ (fun e => hx ((hfp' x).2 e)), ⟨by rw [nums_length, hlen]; omega, fun x hx => ?_, .inr ⟨b, cap, ex.drop M, rfl, setRow_heap w b _ _ e _ hh, hroom, hcm, ?_, hfp'⟩⟩⟩
        · have := hp'.2.1 x hx; simpa using this
        · rw [List.length_append, nums_length, hlen, List.length_drop, hexl]; omega
      · have holds : ∀ j u, (nums kd xs)[j]? = some u → w.cell? ((⟨b, 0, none⟩ : Addr).add j) = some u := fun j u hu => by
          rw [Addr.add_mid, cell_of_row w b _ _ e _ hh]
          simp only [Nat.zero_add, List.getElem?_toArray]
          rw [List.getElem?_append_left (List.getElem?_eq_some_iff.1 hu).1]
          exact hu
        have hr := run_zeros_grow (P := X.P) (w := w) ty tn o.type e i ki kn kd ht htn' hi h3 h1' ⟨b, 0, none⟩ xs.length cap M (nums kd xs) (nums_length _ _) holds (by omega) (by omega) hbM (by omega) (growslice_fits (by omega) hb2)
        exact fin _ _ _ hr (grown cap) (fun _ => rfl)
end
end Go.Proofs.Ytkehpipialmneaa.SL
