/- A law's argument that is a slice of structs of a byte and a truth: its cells. -/
import Derived.Test.YtkehpipialmneaaSLy
import Derived.Test.YtkehpipialmneaaSLs
namespace Go.Proofs.Ytkehpipialmneaa.SL
set_option linter.unusedVariables false
open Go
abbrev Db := Int × Bool
def dosV : List Db → List Value
  | [] => []
  | r :: rs => .int .u8 r.1 :: .bool r.2 :: dosV rs
def DosOK (rs : List Db) : Prop := ∀ r ∈ rs, fits .u8 r.1
theorem dosV_len : ∀ rs : List Db, (dosV rs).length = rs.length * 2
  | [] => rfl
  | r :: rs => by rw [dosV, List.length_cons, List.length_cons, dosV_len rs, List.length_cons]; omega
theorem dosV_get : ∀ {rs : List Db} {i : Nat} {k : Int} {b : Bool}, rs[i]? = some (k, b) → (dosV rs)[i * 2]? = some (.int .u8 k) ∧ (dosV rs)[i * 2 + 1]? = some (.bool b)
  | [], i, k, b, h => by simp at h
  | r :: rs, 0, k, b, h => by
    simp only [List.getElem?_cons_zero, Option.some.injEq] at h
    subst h
    exact ⟨rfl, rfl⟩
  | r :: rs, i + 1, k, b, h => by
    rw [List.getElem?_cons_succ] at h
    have := dosV_get h
    rw [show (i + 1) * 2 = i * 2 + 1 + 1 by omega, dosV, List.getElem?_cons_succ, List.getElem?_cons_succ, show i * 2 + 1 + 1 + 1 = (i * 2 + 1) + 1 + 1 by omega, List.getElem?_cons_succ, List.getElem?_cons_succ]
    exact this
theorem dos_at {rs : List Db} (h : DosOK rs) {i : Nat} (hi : i < rs.length) : ∃ k b, rs[i]? = some (k, b) ∧ 0 ≤ k ∧ k < 256 := by
  have h1 := h (rs[i]) (List.getElem_mem hi)
  exact ⟨rs[i].1, rs[i].2, List.getElem?_eq_getElem hi, h1.1, h1.2⟩
theorem flat_dos : ∀ {css : List (List Value)}, (∀ x ∈ css, ∃ a b, x = [.int .u8 a, .bool b] ∧ fits .u8 a) → ∃ rs : List Db, rs.length = css.length ∧ css.flatten = dosV rs ∧ DosOK rs
  | [], _ => ⟨[], rfl, rfl, fun r hr => by cases hr⟩
  | x :: css, h => by
    obtain ⟨a, b, rfl, hf⟩ := h x (by simp)
    obtain ⟨rs, h1, h2, h3⟩ := flat_dos (css := css) (fun x hx => h x (by simp [hx]))
    refine ⟨(a, b) :: rs, by simp [h1], by rw [List.flatten_cons, h2]; rfl, fun r hr => ?_⟩
    rcases List.mem_cons.1 hr with rfl | hr
    · exact hf
    · exact h3 r hr
/-- A row of them that can be read. -/
def ToldD (w : World) (a : Option Addr) (rs : List Db) : Prop := 0 < (dosV rs).length → ∃ x, a = some x ∧ ∀ j v, (dosV rs)[j]? = some v → w.cell? (x.add j) = some v
theorem openw_dos {H : Type} {enc : TypeId × Value → H} {P : Program} {w : World} {t e : TypeId} {B : Nat} {fs : Array Field} {f g : Field} (h : P.underlying t = some (.slice e)) (hc : P.cellsOf e = 2) (hB : P.bytesOf e = B) (he : P.underlying e = some (.struct fs)) (hfs : fs.toList = [f, g])
    (hf : P.underlying f.type = some (.int .u8)) (hg : P.underlying g.type = some .bool) (hcg : contig P 0 fs.toList = true) (hs : P.cellsOf e = sizeAll P fs.toList) :
    OpenW enc P w t (fun cs => ∃ (a : Option Addr) (len cap : Nat) (rs : List Db), cs = [.slice a len cap] ∧ rs.length = len ∧ len ≤ cap ∧ len * B ≤ 140737488351232 ∧ DosOK rs ∧ ToldD w a rs) := fun fuel cs x hx hw => by
  have hR : OpenAll enc P w 0 (fun _ => true) true fs.toList [fun cs => ∃ a, cs = [.int .u8 a] ∧ fits .u8 a, fun cs => ∃ b, cs = [.bool b]] := by
    rw [hfs]; exact OpenAll.cons (opens_int hf) (OpenAll.cons (opens_bool hg) OpenAll.nil)
  obtain ⟨a, len, cap, css, rfl, h1, h2, h3, h4, h5⟩ := openw_slice h hc hB (by decide) (Opens.toW (opens_struct he hcg hs hR)) fuel cs x hx hw
  obtain ⟨rs, h6, h7, h8⟩ := flat_dos (css := css) (fun x hx => by
    obtain ⟨p, r, rfl, ⟨a, rfl, hfa⟩, ⟨b, rfl⟩⟩ := (h4 x hx).2
    exact ⟨a, b, rfl, hfa⟩)
  refine ⟨a, len, cap, rs, rfl, by omega, h2, h3, h8, fun hp => ?_⟩
  obtain ⟨y, h9, _, h10⟩ := h5 (by rw [h7]; exact hp)
  exact ⟨y, h9, fun j v hv => h10 j v (by rw [h7]; exact hv)⟩
theorem spot_none {w : World} {a : Addr} {v : Value} (h : w.cell? a = some v) : a.spot = none := by
  simp only [World.cell?] at h
  cases hs : a.spot with
  | none => rfl
  | some s => rw [hs] at h; split at h <;> simp_all
/-- Where a row that can be read lies. -/
theorem vw_at {w0 : World} {W : FP} {D : List Fact} {w : World} (h : SAT w0 W D w) (k : Nat) {A : Option Addr} {cs : List Value} (hk : D[k]? = some (vw A cs)) (hn : 0 < cs.length) : ∃ b o, A = some ⟨b, o, none⟩ := by
  obtain ⟨fp, _, hP⟩ := h.get k hk
  obtain ⟨a, rfl, _, hc⟩ := hP hn
  have h1 := hc 0 _ (List.getElem?_eq_getElem hn)
  have h2 := spot_none h1
  simp only [Addr.add, if_true] at h2
  obtain ⟨b, o, s⟩ := a
  simp only at h2
  subst h2
  exact ⟨b, o, rfl⟩
theorem elem_at {A : Option Addr} {b o : Nat} (h : A = some ⟨b, o, none⟩) (i : Int) (s : Nat) : elemAt A i s = some ⟨b, o + i.toNat * s, none⟩ := by
  subst h
  simp only [elemAt, Option.map_some, Addr.add]
  split
  · rename_i h0; rw [h0, Nat.add_zero]
  · rfl
theorem loadv_dos {U : Tab} {ty : TypeId} {rs : List Db} {i : Nat} {k : Int} {b : Bool} (hty : isRowTy U ty = some false) (h : rs[i]? = some (k, b)) : loadv U ty (dosV rs) (i * 2) = some (.int .u8 k) ∧ loadv U ty (dosV rs) (i * 2 + 1) = some (.bool b) := by
  simp only [loadv, hty]
  exact dosV_get h
section
variable {X : Cx} {U : Tab} (hU : U.OK X.P) {t : Env} {D : List Fact} {φ : Env → List Fact → Prop}
include hU
theorem Step.load_vwat {d : Nat} {ty : TypeId} {x : Operand} (k0 : Nat) (A : Option Addr) (b o j : Nat) (cs : List Value) (v : Value) (hA : A = some ⟨b, o, none⟩) (hx : ev t x = some (.pointer (some ⟨b, o + j, none⟩))) (hD : D[k0]? = some (vw A cs)) (hv : loadv U ty cs j = some v)
    (hd : Nat.ble (d + 1) X.N = true) (hlt : j < cs.length) (k : φ (put t d v) D) : Step X (some d) (.load ty x) t D φ := by
  refine Step.load_vw hU k0 A (j : Int) 1 cs v ?_ hD ?_ hd ?_ k
  · rw [hx, elem_at hA, Int.toNat_natCast, Nat.mul_one]
  · rw [Int.toNat_natCast, Nat.mul_one]; exact hv
  · rw [Int.toNat_natCast, Nat.mul_one]; exact hlt
end
end Go.Proofs.Ytkehpipialmneaa.SL
