/-
  No cell of these rows narrows 'for every input' (looked for: loops, veiled, ifaces, maps, wideKeys, modest, calm, conditions, laid).
  DERIVED. THE GIVEN ROWS OF THIS SEAT. 10 by the template 'for every input the law returns true; each argument reads behind the call as it read before'; 0 by the template 'total and deterministic' (their statements: YtbnjcfhnbjaoiaaTotals.lean).
  GIVEN WITH THE SEED: the statements are not yours to turn. If you find one false, say at which input.
  Laid BY PROGRAM, IN A SANDBOX (cutbox-rows.mjs): the forced cells as the released guide's own fill.sh prints them over the translation cae9f69020aabde8… (all of the seat's roots in one cut). By AI agents, Wed Nov 11 2026. No macro, syntax, notation, axiom, sorry.
-/
import Derived.Test.YtbnjcfhnbjaoiaaChecked
import GoSem.Claim
import GoSem.ClaimJoined
import GoSem.ClaimMapViews
import Derived.JoinedTies
import Derived.KernelRfl
namespace Go.Proofs.Ytbnjcfhnbjaoiaa
/- THE CELL 'sum', in the pinned program and in every row, IS THE sha256 OF THE DUMP (.gsa) THAT YtbnjcfhnbjaoiaaProg.lean LOADS. Nothing in Lean hashes anything: it is a label: what it is worth is what the hold of that sum in a sandbox is worth. -/
noncomputable def Try.pinned : Pinned := { name := "ytbnjcfhnbjaoiaa", sum := "cae9f69020aabde807cfddc812321b3095911077163a6160d94a4aa405a19dbb", checked := Try.checked }
namespace Rows
def none {H : Type} : Left H := { results := [], args := [] }

/-- 'orloplaw07.FieldTells': WHATEVER THE INPUT: true; the input reads as it did. -/
def fieldTellsSpec : ChangeSpec := { name := "fieldTells", fn := fun _ => fun
  | [d] => { results := [.lit (.bool true)], args := [d] }
  | _ => none }
def fieldTellsRow : OpenClaim := { program := "ytbnjcfhnbjaoiaa", sum := "cae9f69020aabde807cfddc812321b3095911077163a6160d94a4aa405a19dbb", func := "orlop/orloplaw07.FieldTells", spec := "fieldTells", inPlace := ["math/bits.Add64"], apart := false }
def FieldTellsSaid : Prop := fieldTellsRow.holds Try.pinned (OpenSpec.ofChange fieldTellsSpec)

/-- ITS FALSE NEIGHBOUR: 'it returns false'. Refute it at one input. -/
def fieldTellsWrong : ChangeSpec := { name := "fieldTells", fn := fun _ => fun
  | [d] => { results := [.lit (.bool false)], args := [d] }
  | _ => none }
def FieldTellsWrongFalsely : Prop := fieldTellsRow.holds Try.pinned (OpenSpec.ofChange fieldTellsWrong)

/-- 'orloplaw03.MacBegins': WHATEVER THE INPUT: true; the input reads as it did. -/
def macBeginsSpec : ChangeSpec := { name := "macBegins", fn := fun _ => fun
  | [d1, d2, d3] => { results := [.lit (.bool true)], args := [d1, d2, d3] }
  | _ => none }
def macBeginsRow : OpenClaim := { program := "ytbnjcfhnbjaoiaa", sum := "cae9f69020aabde807cfddc812321b3095911077163a6160d94a4aa405a19dbb", func := "orlop/orloplaw03.MacBegins", spec := "macBegins", unfollowed := true, recurses := true, apart := false }
def MacBeginsSaid : Prop := macBeginsRow.holds Try.pinned (OpenSpec.ofChange macBeginsSpec)

/-- ITS FALSE NEIGHBOUR: 'it returns false'. Refute it at one input. -/
def macBeginsWrong : ChangeSpec := { name := "macBegins", fn := fun _ => fun
  | [d1, d2, d3] => { results := [.lit (.bool false)], args := [d1, d2, d3] }
  | _ => none }
def MacBeginsWrongFalsely : Prop := macBeginsRow.holds Try.pinned (OpenSpec.ofChange macBeginsWrong)

/-- 'orloplaw03.MacCodes': WHATEVER THE INPUT: true; the input reads as it did. -/
def macCodesSpec : ChangeSpec := { name := "macCodes", fn := fun _ => fun
  | [d1, d2] => { results := [.lit (.bool true)], args := [d1, d2] }
  | _ => none }
def macCodesRow : OpenClaim := { program := "ytbnjcfhnbjaoiaa", sum := "cae9f69020aabde807cfddc812321b3095911077163a6160d94a4aa405a19dbb", func := "orlop/orloplaw03.MacCodes", spec := "macCodes", unfollowed := true, recurses := true, apart := false }
def MacCodesSaid : Prop := macCodesRow.holds Try.pinned (OpenSpec.ofChange macCodesSpec)

/-- ITS FALSE NEIGHBOUR: 'it returns false'. Refute it at one input. -/
def macCodesWrong : ChangeSpec := { name := "macCodes", fn := fun _ => fun
  | [d1, d2] => { results := [.lit (.bool false)], args := [d1, d2] }
  | _ => none }
def MacCodesWrongFalsely : Prop := macCodesRow.holds Try.pinned (OpenSpec.ofChange macCodesWrong)

/-- 'orloplaw03.MacKeys': WHATEVER THE INPUT: true; the input reads as it did. -/
def macKeysSpec : ChangeSpec := { name := "macKeys", fn := fun _ => fun
  | [d1, d2] => { results := [.lit (.bool true)], args := [d1, d2] }
  | _ => none }
def macKeysRow : OpenClaim := { program := "ytbnjcfhnbjaoiaa", sum := "cae9f69020aabde807cfddc812321b3095911077163a6160d94a4aa405a19dbb", func := "orlop/orloplaw03.MacKeys", spec := "macKeys", unfollowed := true, recurses := true, apart := false }
def MacKeysSaid : Prop := macKeysRow.holds Try.pinned (OpenSpec.ofChange macKeysSpec)

/-- ITS FALSE NEIGHBOUR: 'it returns false'. Refute it at one input. -/
def macKeysWrong : ChangeSpec := { name := "macKeys", fn := fun _ => fun
  | [d1, d2] => { results := [.lit (.bool false)], args := [d1, d2] }
  | _ => none }
def MacKeysWrongFalsely : Prop := macKeysRow.holds Try.pinned (OpenSpec.ofChange macKeysWrong)

/-- 'orloplaw03.MacExpands': WHATEVER THE INPUT: true; the input reads as it did. -/
def macExpandsSpec : ChangeSpec := { name := "macExpands", fn := fun _ => fun
  | [d] => { results := [.lit (.bool true)], args := [d] }
  | _ => none }
def macExpandsRow : OpenClaim := { program := "ytbnjcfhnbjaoiaa", sum := "cae9f69020aabde807cfddc812321b3095911077163a6160d94a4aa405a19dbb", func := "orlop/orloplaw03.MacExpands", spec := "macExpands", unfollowed := true, recurses := true, apart := false }
def MacExpandsSaid : Prop := macExpandsRow.holds Try.pinned (OpenSpec.ofChange macExpandsSpec)

/-- ITS FALSE NEIGHBOUR: 'it returns false'. Refute it at one input. -/
def macExpandsWrong : ChangeSpec := { name := "macExpands", fn := fun _ => fun
  | [d] => { results := [.lit (.bool false)], args := [d] }
  | _ => none }
def MacExpandsWrongFalsely : Prop := macExpandsRow.holds Try.pinned (OpenSpec.ofChange macExpandsWrong)

/-- 'orloplaw07.FieldReckons': WHATEVER THE INPUT: true; the input reads as it did. -/
def fieldReckonsSpec : ChangeSpec := { name := "fieldReckons", fn := fun _ => fun
  | [d1, d2, d3] => { results := [.lit (.bool true)], args := [d1, d2, d3] }
  | _ => none }
def fieldReckonsRow : OpenClaim := { program := "ytbnjcfhnbjaoiaa", sum := "cae9f69020aabde807cfddc812321b3095911077163a6160d94a4aa405a19dbb", func := "orlop/orloplaw07.FieldReckons", spec := "fieldReckons", inPlace := ["math/bits.Add64"], apart := false }
def FieldReckonsSaid : Prop := fieldReckonsRow.holds Try.pinned (OpenSpec.ofChange fieldReckonsSpec)

/-- ITS FALSE NEIGHBOUR: 'it returns false'. Refute it at one input. -/
def fieldReckonsWrong : ChangeSpec := { name := "fieldReckons", fn := fun _ => fun
  | [d1, d2, d3] => { results := [.lit (.bool false)], args := [d1, d2, d3] }
  | _ => none }
def FieldReckonsWrongFalsely : Prop := fieldReckonsRow.holds Try.pinned (OpenSpec.ofChange fieldReckonsWrong)

/-- 'orloplaw07.FieldSquares': WHATEVER THE INPUT: true; the input reads as it did. -/
def fieldSquaresSpec : ChangeSpec := { name := "fieldSquares", fn := fun _ => fun
  | [d1, d2] => { results := [.lit (.bool true)], args := [d1, d2] }
  | _ => none }
def fieldSquaresRow : OpenClaim := { program := "ytbnjcfhnbjaoiaa", sum := "cae9f69020aabde807cfddc812321b3095911077163a6160d94a4aa405a19dbb", func := "orlop/orloplaw07.FieldSquares", spec := "fieldSquares", inPlace := ["math/bits.Add64"], apart := false }
def FieldSquaresSaid : Prop := fieldSquaresRow.holds Try.pinned (OpenSpec.ofChange fieldSquaresSpec)

/-- ITS FALSE NEIGHBOUR: 'it returns false'. Refute it at one input. -/
def fieldSquaresWrong : ChangeSpec := { name := "fieldSquares", fn := fun _ => fun
  | [d1, d2] => { results := [.lit (.bool false)], args := [d1, d2] }
  | _ => none }
def FieldSquaresWrongFalsely : Prop := fieldSquaresRow.holds Try.pinned (OpenSpec.ofChange fieldSquaresWrong)

/-- 'orloplaw07.FieldInverts': WHATEVER THE INPUT: true; the input reads as it did. -/
def fieldInvertsSpec : ChangeSpec := { name := "fieldInverts", fn := fun _ => fun
  | [d] => { results := [.lit (.bool true)], args := [d] }
  | _ => none }
def fieldInvertsRow : OpenClaim := { program := "ytbnjcfhnbjaoiaa", sum := "cae9f69020aabde807cfddc812321b3095911077163a6160d94a4aa405a19dbb", func := "orlop/orloplaw07.FieldInverts", spec := "fieldInverts", inPlace := ["math/bits.Add64"], apart := false }
def FieldInvertsSaid : Prop := fieldInvertsRow.holds Try.pinned (OpenSpec.ofChange fieldInvertsSpec)

/-- ITS FALSE NEIGHBOUR: 'it returns false'. Refute it at one input. -/
def fieldInvertsWrong : ChangeSpec := { name := "fieldInverts", fn := fun _ => fun
  | [d] => { results := [.lit (.bool false)], args := [d] }
  | _ => none }
def FieldInvertsWrongFalsely : Prop := fieldInvertsRow.holds Try.pinned (OpenSpec.ofChange fieldInvertsWrong)

/-- 'orloplaw07.FieldLaws': WHATEVER THE INPUT: true; the input reads as it did. -/
def fieldLawsSpec : ChangeSpec := { name := "fieldLaws", fn := fun _ => fun
  | [d1, d2] => { results := [.lit (.bool true)], args := [d1, d2] }
  | _ => none }
def fieldLawsRow : OpenClaim := { program := "ytbnjcfhnbjaoiaa", sum := "cae9f69020aabde807cfddc812321b3095911077163a6160d94a4aa405a19dbb", func := "orlop/orloplaw07.FieldLaws", spec := "fieldLaws", inPlace := ["math/bits.Add64"], apart := false }
def FieldLawsSaid : Prop := fieldLawsRow.holds Try.pinned (OpenSpec.ofChange fieldLawsSpec)

/-- ITS FALSE NEIGHBOUR: 'it returns false'. Refute it at one input. -/
def fieldLawsWrong : ChangeSpec := { name := "fieldLaws", fn := fun _ => fun
  | [d1, d2] => { results := [.lit (.bool false)], args := [d1, d2] }
  | _ => none }
def FieldLawsWrongFalsely : Prop := fieldLawsRow.holds Try.pinned (OpenSpec.ofChange fieldLawsWrong)

/-- 'orloplaw07.FieldChains': WHATEVER THE INPUT: true; the input reads as it did. -/
def fieldChainsSpec : ChangeSpec := { name := "fieldChains", fn := fun _ => fun
  | [d1, d2, d3] => { results := [.lit (.bool true)], args := [d1, d2, d3] }
  | _ => none }
def fieldChainsRow : OpenClaim := { program := "ytbnjcfhnbjaoiaa", sum := "cae9f69020aabde807cfddc812321b3095911077163a6160d94a4aa405a19dbb", func := "orlop/orloplaw07.FieldChains", spec := "fieldChains", inPlace := ["math/bits.Add64"], apart := false }
def FieldChainsSaid : Prop := fieldChainsRow.holds Try.pinned (OpenSpec.ofChange fieldChainsSpec)

/-- ITS FALSE NEIGHBOUR: 'it returns false'. Refute it at one input. -/
def fieldChainsWrong : ChangeSpec := { name := "fieldChains", fn := fun _ => fun
  | [d1, d2, d3] => { results := [.lit (.bool false)], args := [d1, d2, d3] }
  | _ => none }
def FieldChainsWrongFalsely : Prop := fieldChainsRow.holds Try.pinned (OpenSpec.ofChange fieldChainsWrong)

/- THE SECOND FORM. 'bulk': how many values and letters a reading holds, each counted each time it is reached (what is shared counts as often as it is met; a slice's spare places count too). A statement '..UptoSaid' is the law's where the arguments, and the package variables that the reading takes, are together of bulk at most 1048576: NARROWER than '..Said'. Prove '..Said' where nothing that the law and all that it calls make is longer than what came in: it says more and counts as full. Else prove '..UptoSaid'. A law counts once. -/
mutual
def uptoBulk {H : Type} : DataW H → Nat
  | .lit (.string bytes) => bytes.length + 1
  | .lit _ => 1
  | .nil => 1
  | .ptr d => uptoBulk d + 1
  | .slice elems spare => uptoBulkAll elems + uptoBulkAll spare + 1
  | .agg parts => uptoBulkAll parts + 1
  | .iface _ d => uptoBulk d + 1
  | .map entries => uptoBulkEntries entries + 1
  | .held _ => 1
def uptoBulkAll {H : Type} : List (DataW H) → Nat
  | [] => 0
  | d :: r => uptoBulk d + uptoBulkAll r
def uptoBulkEntries {H : Type} : List (Lit × DataW H) → Nat
  | [] => 0
  | x :: r => uptoBulkEntry x + uptoBulkEntries r
def uptoBulkEntry {H : Type} : Lit × DataW H → Nat
  | (.string bytes, d) => bytes.length + uptoBulk d + 1
  | (_, d) => uptoBulk d + 1
 end
def uptoSmall : (H : Type) → List (DataW H) → Bool := fun _ ds => decide (uptoBulkAll ds ≤ 1048576)
def OpenSpec.upto (s : _root_.Go.ChangeSpec) : _root_.Go.OpenSpec := { _root_.Go.OpenSpec.ofChange s with cond := some uptoSmall }

/-- 'orloplaw07.FieldTells', WHERE WHAT IT READS IS OF BULK AT MOST 1048576: true; the input reads as it did. -/
def fieldTellsUptoRow : OpenClaim := { program := "ytbnjcfhnbjaoiaa", sum := "cae9f69020aabde807cfddc812321b3095911077163a6160d94a4aa405a19dbb", func := "orlop/orloplaw07.FieldTells", spec := "fieldTells", inPlace := ["math/bits.Add64"], apart := false, narrowed := true }
def FieldTellsUptoSaid : Prop := fieldTellsUptoRow.holds Try.pinned (OpenSpec.upto fieldTellsSpec)

/-- 'orloplaw03.MacBegins', WHERE WHAT IT READS IS OF BULK AT MOST 1048576: true; the input reads as it did. -/
def macBeginsUptoRow : OpenClaim := { program := "ytbnjcfhnbjaoiaa", sum := "cae9f69020aabde807cfddc812321b3095911077163a6160d94a4aa405a19dbb", func := "orlop/orloplaw03.MacBegins", spec := "macBegins", unfollowed := true, recurses := true, apart := false, narrowed := true }
def MacBeginsUptoSaid : Prop := macBeginsUptoRow.holds Try.pinned (OpenSpec.upto macBeginsSpec)

/-- 'orloplaw03.MacCodes', WHERE WHAT IT READS IS OF BULK AT MOST 1048576: true; the input reads as it did. -/
def macCodesUptoRow : OpenClaim := { program := "ytbnjcfhnbjaoiaa", sum := "cae9f69020aabde807cfddc812321b3095911077163a6160d94a4aa405a19dbb", func := "orlop/orloplaw03.MacCodes", spec := "macCodes", unfollowed := true, recurses := true, apart := false, narrowed := true }
def MacCodesUptoSaid : Prop := macCodesUptoRow.holds Try.pinned (OpenSpec.upto macCodesSpec)

/-- 'orloplaw03.MacKeys', WHERE WHAT IT READS IS OF BULK AT MOST 1048576: true; the input reads as it did. -/
def macKeysUptoRow : OpenClaim := { program := "ytbnjcfhnbjaoiaa", sum := "cae9f69020aabde807cfddc812321b3095911077163a6160d94a4aa405a19dbb", func := "orlop/orloplaw03.MacKeys", spec := "macKeys", unfollowed := true, recurses := true, apart := false, narrowed := true }
def MacKeysUptoSaid : Prop := macKeysUptoRow.holds Try.pinned (OpenSpec.upto macKeysSpec)

/-- 'orloplaw03.MacExpands', WHERE WHAT IT READS IS OF BULK AT MOST 1048576: true; the input reads as it did. -/
def macExpandsUptoRow : OpenClaim := { program := "ytbnjcfhnbjaoiaa", sum := "cae9f69020aabde807cfddc812321b3095911077163a6160d94a4aa405a19dbb", func := "orlop/orloplaw03.MacExpands", spec := "macExpands", unfollowed := true, recurses := true, apart := false, narrowed := true }
def MacExpandsUptoSaid : Prop := macExpandsUptoRow.holds Try.pinned (OpenSpec.upto macExpandsSpec)

/-- 'orloplaw07.FieldReckons', WHERE WHAT IT READS IS OF BULK AT MOST 1048576: true; the input reads as it did. -/
def fieldReckonsUptoRow : OpenClaim := { program := "ytbnjcfhnbjaoiaa", sum := "cae9f69020aabde807cfddc812321b3095911077163a6160d94a4aa405a19dbb", func := "orlop/orloplaw07.FieldReckons", spec := "fieldReckons", inPlace := ["math/bits.Add64"], apart := false, narrowed := true }
def FieldReckonsUptoSaid : Prop := fieldReckonsUptoRow.holds Try.pinned (OpenSpec.upto fieldReckonsSpec)

/-- 'orloplaw07.FieldSquares', WHERE WHAT IT READS IS OF BULK AT MOST 1048576: true; the input reads as it did. -/
def fieldSquaresUptoRow : OpenClaim := { program := "ytbnjcfhnbjaoiaa", sum := "cae9f69020aabde807cfddc812321b3095911077163a6160d94a4aa405a19dbb", func := "orlop/orloplaw07.FieldSquares", spec := "fieldSquares", inPlace := ["math/bits.Add64"], apart := false, narrowed := true }
def FieldSquaresUptoSaid : Prop := fieldSquaresUptoRow.holds Try.pinned (OpenSpec.upto fieldSquaresSpec)

/-- 'orloplaw07.FieldInverts', WHERE WHAT IT READS IS OF BULK AT MOST 1048576: true; the input reads as it did. -/
def fieldInvertsUptoRow : OpenClaim := { program := "ytbnjcfhnbjaoiaa", sum := "cae9f69020aabde807cfddc812321b3095911077163a6160d94a4aa405a19dbb", func := "orlop/orloplaw07.FieldInverts", spec := "fieldInverts", inPlace := ["math/bits.Add64"], apart := false, narrowed := true }
def FieldInvertsUptoSaid : Prop := fieldInvertsUptoRow.holds Try.pinned (OpenSpec.upto fieldInvertsSpec)

/-- 'orloplaw07.FieldLaws', WHERE WHAT IT READS IS OF BULK AT MOST 1048576: true; the input reads as it did. -/
def fieldLawsUptoRow : OpenClaim := { program := "ytbnjcfhnbjaoiaa", sum := "cae9f69020aabde807cfddc812321b3095911077163a6160d94a4aa405a19dbb", func := "orlop/orloplaw07.FieldLaws", spec := "fieldLaws", inPlace := ["math/bits.Add64"], apart := false, narrowed := true }
def FieldLawsUptoSaid : Prop := fieldLawsUptoRow.holds Try.pinned (OpenSpec.upto fieldLawsSpec)

/-- 'orloplaw07.FieldChains', WHERE WHAT IT READS IS OF BULK AT MOST 1048576: true; the input reads as it did. -/
def fieldChainsUptoRow : OpenClaim := { program := "ytbnjcfhnbjaoiaa", sum := "cae9f69020aabde807cfddc812321b3095911077163a6160d94a4aa405a19dbb", func := "orlop/orloplaw07.FieldChains", spec := "fieldChains", inPlace := ["math/bits.Add64"], apart := false, narrowed := true }
def FieldChainsUptoSaid : Prop := fieldChainsUptoRow.holds Try.pinned (OpenSpec.upto fieldChainsSpec)

end Rows
end Go.Proofs.Ytbnjcfhnbjaoiaa
