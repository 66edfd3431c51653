/- Numbers as bytes: plain laws. -/
import Derived.Test.YtjhinpmnpdgadaaDoorSLq
import Derived.Lib.Bytealg
namespace Go.Proofs.YtjhinpmnpdgadaaDoor.SL.W
set_option linter.unusedVariables false
set_option linter.unusedSimpArgs false
open Go Go.Proofs.YtjhinpmnpdgadaaDoor.SL

/-! ### and, or, exclusive or, of numbers that aren't below 0 -/
/-! ### bytes of a number -/
/-! ### equal rows -/
/-! ### digits of base sixteen -/
abbrev digits : ByteArray := ⟨#[48, 49, 50, 51, 52, 53, 54, 55, 56, 57, 97, 98, 99, 100, 101, 102]⟩
/-- The digit of a value. -/
def hd (n : Int) : Int := (sb digits).getD n.toNat 0
theorem sb_len (s : ByteArray) : (sb s).length = s.size := by rw [sb, List.length_map]; rfl

theorem sb_str {zs : List Int} (hz : In .u8 zs) : sb (strOfNums zs) = zs := by
  unfold sb strOfNums
  simp only [List.map_map]
  conv => rhs; rw [← List.map_id zs]
  refine List.map_congr_left fun z hzm => ?_
  have := hz z hzm
  simp only [fits] at this
  simp only [Function.comp, id, UInt8.toNat_ofNat']
  omega
/-! ### the laws' last steps -/
end Go.Proofs.YtjhinpmnpdgadaaDoor.SL.W
