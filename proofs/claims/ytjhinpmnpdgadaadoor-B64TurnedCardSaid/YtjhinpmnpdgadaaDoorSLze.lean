/- A row of bytes that came of a text: it is marked behind its end, and may be written. -/
import Derived.Test.YtjhinpmnpdgadaaDoorSLzd
namespace Go.Proofs.YtjhinpmnpdgadaaDoor.SL
set_option linter.unusedVariables false
set_option linter.unusedSimpArgs false
open Go

def mrw (T b : Nat) (xs : List Int) : Fact where
  own := true
  P := fun w fp => (∃ ex : List Value, w.heap[b]? = some (.cells (nums .u8 xs ++ ex).toArray T ((nums .u8 xs ++ ex).length, (nums .u8 xs ++ ex).length + 1))) ∧ ∀ x, fp x ↔ x = b
  loc := fun h hl => ⟨h.1.imp fun ex e => (hl b ((h.2 b).2 rfl)).trans e, h.2⟩
  bnd := fun h x hx => by
    obtain ⟨⟨ex, e⟩, hf⟩ := h
    rw [(hf x).1 hx]
    exact (Array.getElem?_eq_some_iff.1 e).1
theorem tells_mrw (T b : Nat) (xs : List Int) : Tells (mrw T b xs) (some ⟨b, 0, none⟩) (nums .u8 xs) := fun w fp h => by
  obtain ⟨⟨ex, e⟩, hf⟩ := h
  refine ⟨fp, fun _ hb => hb, fun x hx => by rw [(hf x).1 hx]; exact (Array.getElem?_eq_some_iff.1 e).1, fun _ => ⟨_, rfl, (hf b).2 rfl, fun j v hv => ?_⟩⟩
  rw [Addr.add_mid, Nat.zero_add]
  have hj2 : (nums .u8 xs ++ ex)[j]? = some v := by rw [List.getElem?_append_left (List.getElem?_eq_some_iff.1 hv).1]; exact hv
  simp only [World.cell?, e]
  simpa using hj2
section
variable {X : Cx} {U : Tab} (hU : U.OK X.P) {t : Env} {D : List Fact} {φ : Env → List Fact → Prop}
include hU
theorem Step.str_row {d : Nat} {src dst : TypeId} {x : Operand} (e : Nat) (s : ByteArray) (h1 : look U.und src = some .string) (h2 : look U.und e = some (.int .u8)) (h3 : look U.und dst = some (.slice e)) (hx : ev t x = some (.string s)) (hd : Nat.ble (d + 1) X.N = true)
    (k : ∀ b cap, s.size ≤ cap → φ (put t d (.slice (some ⟨b, 0, none⟩) s.size cap)) (mrw e b (sb s) :: D)) : Step X (some d) (.convert src dst x) t D φ := by
  intro o hdst hop ρ a w ha hw Q K hK
  have hr : (execOp a.eval o).run X.P w = .ok (.value (.slice (some ⟨w.heap.size, 0, none⟩) s.size (grownCap w s.size 0 e))) (Lib.bytesWorld w e s) := by
    unfold execOp
    simp only [hop, ha.ev hx, Sem.run_bind, Lib.run_convert_string_bytes w src dst e s (hU.und _ (look_mem h1)) (hU.und _ (look_mem h3)) (hU.und _ (look_mem h2)), Result.andThen_ok, Sem.run_pure]
  obtain ⟨fr, O, R, hs1, hs2, hs3, hs4⟩ := hw
  have hold : ∀ b, b < w.heap.size → (Lib.bytesWorld w e s).heap[b]? = w.heap[b]? := fun b hb => Lib.bytesWorld_at_old w e s b hb
  have hsz := Lib.bytesWorld_size w e s
  have hcells : Lib.bytesCells w e s = (nums .u8 (sb s) ++ List.replicate (grownCap w s.size 0 e - s.size) (Value.int .u8 0)).toArray := by
    apply Array.ext'
    simp only [Lib.bytesCells, nums, sb, Array.toList_append, Array.toList_map, Array.toList_replicate, List.map_map]
    rfl
  have hsat : SAT ρ.w0 ρ.W (mrw e w.heap.size (sb s) :: D) (Lib.bytesWorld w e s) := by
    refine ⟨⟨fr.os, fr.tape, fr.output, by rw [hsz]; have := fr.size; omega, fun b hb hW => (hold b (by have := fr.size; omega)).trans (fr.block b hb hW)⟩, fun b => O b ∨ b = w.heap.size, R, ⟨fun b => b = w.heap.size, ⟨⟨List.replicate (grownCap w s.size 0 e - s.size) (Value.int .u8 0), ?_⟩, fun x => Iff.rfl⟩, fun b hb => .inr hb, ?_⟩, ?_, ?_, ?_⟩
    · rw [Lib.bytesWorld_at_new, hcells]
      simp only [List.size_toArray]
    · exact sat_mono (sat_loc hs1 (fun b hb => hold b (hs4 b hb))) (fun b hb => ⟨.inl hb, fun e => by have := hs4 b (.inl hb); omega⟩) (fun _ hb => hb)
    · rintro b (hb | rfl) hr
      · exact hs2 b hb hr
      · have := hs4 _ (.inr hr); omega
    · rintro b (hb | rfl)
      · exact hs3 b hb
      · left; have := fr.size; omega
    · rintro b ((hb | rfl) | hb)
      · rw [hsz]; have := hs4 b (.inl hb); omega
      · rw [hsz]; omega
      · rw [hsz]; have := hs4 b (.inr hb); omega
  refine wp_val hr (hK _ _ _ _ ?_ hsat (k _ _ (grownCap_ge w s.size 0 e)))
  rw [hdst]
  exact ha.put (Nat.le_of_ble_eq_true hd) _
theorem Step.store_mrw {ty : TypeId} {x y : Operand} (k0 T b : Nat) (xs : List Int) (i v : Int) (hx : ev t x = some (.pointer (elemAt (some ⟨b, 0, none⟩) i 1))) (hy : ev t y = some (.int .u8 v)) (hD : D[k0]? = some (mrw T b xs)) (hm : look U.sz ty = some 1)
    (hi : 0 ≤ i ∧ i < xs.length) (k : φ t (mrw T b (xs.set i.toNat v) :: D.eraseIdx k0)) : Step X none (.store ty x y) t D φ := by
  intro op hdst hop ρ a w ha hw Q K hK
  have hw' : SAT ρ.w0 ρ.W (mrw T b xs :: D.eraseIdx k0) w := hw.perm (perm_pull hD)
  obtain ⟨fp, ⟨ex, e⟩, hf⟩ := hw'.head
  have hil : i.toNat < xs.length := by omega
  have hset : (nums .u8 xs ++ ex).toArray.setIfInBounds i.toNat (.int .u8 v) = (nums .u8 (xs.set i.toNat v) ++ ex).toArray := by
    apply Array.ext'
    rw [Array.toList_setIfInBounds]
    simp only [nums]
    rw [List.set_append_left _ _ (by simpa using hil), List.map_set]
  have hst := run_storeCells_cells (P := X.P) b i.toNat [.int .u8 v] 0 w (by
      intro j hj
      obtain rfl : j = 0 := by simpa using hj
      have h2 : (nums .u8 xs ++ ex)[i.toNat]? = some (.int .u8 (xs.getD i.toNat 0)) := by rw [List.getElem?_append_left (by simpa [nums] using hil)]; simp [nums, List.getD_eq_getElem?_getD, List.getElem?_eq_getElem hil]
      simp only [World.cell?, e, Nat.add_zero]
      simp [h2]) (by
      intro j hj
      obtain rfl : j = 0 := by simpa using hj
      simp only [World.frozen?, e, Bool.and_eq_false_iff, decide_eq_false_iff_not]
      left
      simp only [List.length_append, nums, List.length_map]
      omega) (by intro u hu; rw [List.mem_singleton.1 hu]; rfl)
  have e1 : w.setCells b (i.toNat + 0) [.int .u8 v] = w.setRow b (nums .u8 (xs.set i.toNat v) ++ ex).toArray := by
    rw [Nat.add_zero, World.setCells, World.setCells, setCell_eq_setRow w b i.toNat _ T _ _ e, hset]
  rw [e1] at hst
  have hr : (execOp a.eval op).run X.P w = .ok .skip (w.setRow b (nums .u8 (xs.set i.toNat v) ++ ex).toArray) := by
    unfold execOp
    have hadd : elemAt (some ⟨b, 0, none⟩) i 1 = some ⟨b, i.toNat, none⟩ := by rw [elemAt_some rfl, Addr.add_mid, Nat.zero_add, Nat.mul_one]
    have hsz : ¬ ((Value.int .u8 v).cells.size ≠ 1) := by simp [Value.cells]
    have hc : (Value.int .u8 v).cells.toList = [.int .u8 v] := rfl
    simp only [hop, ha.ev hx, ha.ev hy, hadd, Instr.storeAt, Instr.sureAddr, storeVar, Sem.run_bind, Sem.run_pure, Result.andThen_ok, hU.run_sz hm, hsz, if_false, hc, hst]
  refine wp_unit hr (hK _ _ _ _ ?_ ?_ k)
  · rw [hdst]
    exact ha
  · refine hw'.change rfl _ rfl rfl rfl rfl (by simp) (fun fp hp => ⟨fun x hx => setRow_other w b x _ (fun e => hx ((hp.2 x).2 e)), ⟨ex, ?_⟩, hp.2⟩)
    rw [setRow_heap w b _ _ T _ e]
    simp [nums]
end
end Go.Proofs.YtjhinpmnpdgadaaDoor.SL
