/-
  NARROWER THAN 'FOR EVERY INPUT', by the rows' own cells (each row's printed sentence says how): B64Texts: laid · B64Reads: laid · B64Joins: laid · B64Turned: laid · PathParts: laid · PathWhite: laid · PathOut: laid · PathLoose: laid.
  DERIVED. THE GIVEN ROWS OF THIS SEAT. 8 by the template 'for every input the law returns true; each argument reads behind the call as it read before'; 0 by the template 'total and deterministic' (their statements: YtjhinpmnpdgadaaDoorTotals.lean).
  GIVEN WITH THE SEED: the statements are not yours to turn. If you find one false, say at which input.
  Laid BY PROGRAM, IN A SANDBOX (cutbox-rows.mjs): the forced cells as the released guide's own fill.sh prints them over the translation 7c6914b0d4936356… (all of the seat's roots in one cut). By AI agents, Wed Nov 11 2026. No macro, syntax, notation, axiom, sorry.
-/
import Derived.Test.YtjhinpmnpdgadaaDoorChecked
import GoSem.PinnedTables
import GoSem.Claim
import GoSem.ClaimJoined
import GoSem.ClaimMapViews
import Derived.JoinedTies
import Derived.KernelRfl
namespace Go.Proofs.YtjhinpmnpdgadaaDoor
/- THE CELL 'sum', in the pinned program and in every row, IS THE sha256 OF THE DUMP (.gsa) THAT YtjhinpmnpdgadaaDoorProg.lean LOADS. Nothing in Lean hashes anything: it is a label: what it is worth is what the hold of that sum in a sandbox is worth. -/
noncomputable def Tryd.pinned : Pinned := { name := "ytjhinpmnpdgadaadoor", sum := "7c6914b0d493635635fde101c3a40f1eaac01473db61771b818b00c676ef4f70", checked := Tryd.checked }
namespace Rows
def none {H : Type} : Left H := { results := [], args := [] }

/- WHAT THE LISTED PACKAGE-LEVEL VARIABLES READ AS WHEN THE CALL BEGINS. Each datum BY PROGRAM (the guide's laid-datum.mjs) off the statement by which the dump's own 'gosem.cut.vars' lays the variable. In a bare row this is a premise. The card (YtjhinpmnpdgadaaDoorCards.lean) ties it to the program's text. -/
def laid_unicode_utf8_acceptRanges {H : Type} : DataW H := .agg [.agg [.lit (.int .u8 128), .lit (.int .u8 191)], .agg [.lit (.int .u8 160), .lit (.int .u8 191)], .agg [.lit (.int .u8 128), .lit (.int .u8 159)], .agg [.lit (.int .u8 144), .lit (.int .u8 191)], .agg [.lit (.int .u8 128), .lit (.int .u8 143)], .agg [.lit (.int .u8 0), .lit (.int .u8 0)], .agg [.lit (.int .u8 0), .lit (.int .u8 0)], .agg [.lit (.int .u8 0), .lit (.int .u8 0)], .agg [.lit (.int .u8 0), .lit (.int .u8 0)], .agg [.lit (.int .u8 0), .lit (.int .u8 0)], .agg [.lit (.int .u8 0), .lit (.int .u8 0)], .agg [.lit (.int .u8 0), .lit (.int .u8 0)], .agg [.lit (.int .u8 0), .lit (.int .u8 0)], .agg [.lit (.int .u8 0), .lit (.int .u8 0)], .agg [.lit (.int .u8 0), .lit (.int .u8 0)], .agg [.lit (.int .u8 0), .lit (.int .u8 0)]]
/-- One of Go's own tables, pinned by name: the form's constant. -/
def laid_unicode_utf8_first : DataW Unit := Go.Pinned.utf8First

/-- 'orloplaw14.B64Texts': WHATEVER THE INPUT: true; the input reads as it did. -/
def b64TextsSpec : ChangeSpec := { name := "b64Texts", fn := fun _ => fun
  | [d] => { results := [.lit (.bool true)], args := [d] }
  | _ => none }
def b64TextsRow : OpenClaim := { program := "ytjhinpmnpdgadaadoor", sum := "7c6914b0d493635635fde101c3a40f1eaac01473db61771b818b00c676ef4f70", func := "orlop/orloplaw14.B64Texts", spec := "b64Texts", inPlace := ["internal/bytealg.IndexByteString", "internal/bytealg.IndexString"], unfollowed := true, recurses := true, named := ["unicode/utf8.first", "unicode/utf8.acceptRanges", "internal/bytealg.MaxLen"], apart := false, laid := [("unicode/utf8.acceptRanges", laid_unicode_utf8_acceptRanges), ("unicode/utf8.first", laid_unicode_utf8_first)] }
def B64TextsSaid : Prop := b64TextsRow.holds Tryd.pinned (OpenSpec.ofChange b64TextsSpec)

/-- ITS FALSE NEIGHBOUR: 'it returns false'. Refute it at one input. -/
def b64TextsWrong : ChangeSpec := { name := "b64Texts", fn := fun _ => fun
  | [d] => { results := [.lit (.bool false)], args := [d] }
  | _ => none }
def B64TextsWrongFalsely : Prop := b64TextsRow.holds Tryd.pinned (OpenSpec.ofChange b64TextsWrong)

/-- 'orloplaw14.B64Reads': WHATEVER THE INPUT: true; the input reads as it did. -/
def b64ReadsSpec : ChangeSpec := { name := "b64Reads", fn := fun _ => fun
  | [d] => { results := [.lit (.bool true)], args := [d] }
  | _ => none }
def b64ReadsRow : OpenClaim := { program := "ytjhinpmnpdgadaadoor", sum := "7c6914b0d493635635fde101c3a40f1eaac01473db61771b818b00c676ef4f70", func := "orlop/orloplaw14.B64Reads", spec := "b64Reads", inPlace := ["internal/bytealg.IndexByteString", "internal/bytealg.IndexString"], unfollowed := true, recurses := true, named := ["unicode/utf8.first", "unicode/utf8.acceptRanges", "internal/bytealg.MaxLen"], apart := false, laid := [("unicode/utf8.acceptRanges", laid_unicode_utf8_acceptRanges), ("unicode/utf8.first", laid_unicode_utf8_first)] }
def B64ReadsSaid : Prop := b64ReadsRow.holds Tryd.pinned (OpenSpec.ofChange b64ReadsSpec)

/-- ITS FALSE NEIGHBOUR: 'it returns false'. Refute it at one input. -/
def b64ReadsWrong : ChangeSpec := { name := "b64Reads", fn := fun _ => fun
  | [d] => { results := [.lit (.bool false)], args := [d] }
  | _ => none }
def B64ReadsWrongFalsely : Prop := b64ReadsRow.holds Tryd.pinned (OpenSpec.ofChange b64ReadsWrong)

/-- 'orloplaw14.B64Joins': WHATEVER THE INPUT: true; the input reads as it did. -/
def b64JoinsSpec : ChangeSpec := { name := "b64Joins", fn := fun _ => fun
  | [d1, d2] => { results := [.lit (.bool true)], args := [d1, d2] }
  | _ => none }
def b64JoinsRow : OpenClaim := { program := "ytjhinpmnpdgadaadoor", sum := "7c6914b0d493635635fde101c3a40f1eaac01473db61771b818b00c676ef4f70", func := "orlop/orloplaw14.B64Joins", spec := "b64Joins", inPlace := ["internal/bytealg.IndexByteString", "internal/bytealg.IndexString"], unfollowed := true, recurses := true, named := ["unicode/utf8.first", "unicode/utf8.acceptRanges", "internal/bytealg.MaxLen"], apart := false, laid := [("unicode/utf8.acceptRanges", laid_unicode_utf8_acceptRanges), ("unicode/utf8.first", laid_unicode_utf8_first)] }
def B64JoinsSaid : Prop := b64JoinsRow.holds Tryd.pinned (OpenSpec.ofChange b64JoinsSpec)

/-- ITS FALSE NEIGHBOUR: 'it returns false'. Refute it at one input. -/
def b64JoinsWrong : ChangeSpec := { name := "b64Joins", fn := fun _ => fun
  | [d1, d2] => { results := [.lit (.bool false)], args := [d1, d2] }
  | _ => none }
def B64JoinsWrongFalsely : Prop := b64JoinsRow.holds Tryd.pinned (OpenSpec.ofChange b64JoinsWrong)

/-- 'orloplaw14.B64Turned': WHATEVER THE INPUT: true; the input reads as it did. -/
def b64TurnedSpec : ChangeSpec := { name := "b64Turned", fn := fun _ => fun
  | [d1, d2, d3] => { results := [.lit (.bool true)], args := [d1, d2, d3] }
  | _ => none }
def b64TurnedRow : OpenClaim := { program := "ytjhinpmnpdgadaadoor", sum := "7c6914b0d493635635fde101c3a40f1eaac01473db61771b818b00c676ef4f70", func := "orlop/orloplaw14.B64Turned", spec := "b64Turned", inPlace := ["internal/bytealg.IndexByteString", "internal/bytealg.IndexString"], unfollowed := true, recurses := true, named := ["unicode/utf8.first", "unicode/utf8.acceptRanges", "internal/bytealg.MaxLen"], apart := false, laid := [("unicode/utf8.acceptRanges", laid_unicode_utf8_acceptRanges), ("unicode/utf8.first", laid_unicode_utf8_first)] }
def B64TurnedSaid : Prop := b64TurnedRow.holds Tryd.pinned (OpenSpec.ofChange b64TurnedSpec)

/-- ITS FALSE NEIGHBOUR: 'it returns false'. Refute it at one input. -/
def b64TurnedWrong : ChangeSpec := { name := "b64Turned", fn := fun _ => fun
  | [d1, d2, d3] => { results := [.lit (.bool false)], args := [d1, d2, d3] }
  | _ => none }
def B64TurnedWrongFalsely : Prop := b64TurnedRow.holds Tryd.pinned (OpenSpec.ofChange b64TurnedWrong)

/-- 'orloplaw20.PathParts': WHATEVER THE INPUT: true; the input reads as it did. -/
def pathPartsSpec : ChangeSpec := { name := "pathParts", fn := fun _ => fun
  | [d] => { results := [.lit (.bool true)], args := [d] }
  | _ => none }
def pathPartsRow : OpenClaim := { program := "ytjhinpmnpdgadaadoor", sum := "7c6914b0d493635635fde101c3a40f1eaac01473db61771b818b00c676ef4f70", func := "orlop/orloplaw20.PathParts", spec := "pathParts", inPlace := ["internal/bytealg.IndexByteString", "internal/bytealg.IndexString", "internal/abi.NoEscape", "internal/bytealg.MakeNoZero"], unfollowed := true, recurses := true, named := ["unicode/utf8.first", "unicode/utf8.acceptRanges", "internal/bytealg.MaxLen"], apart := false, laid := [("unicode/utf8.acceptRanges", laid_unicode_utf8_acceptRanges), ("unicode/utf8.first", laid_unicode_utf8_first)] }
def PathPartsSaid : Prop := pathPartsRow.holds Tryd.pinned (OpenSpec.ofChange pathPartsSpec)

/-- ITS FALSE NEIGHBOUR: 'it returns false'. Refute it at one input. -/
def pathPartsWrong : ChangeSpec := { name := "pathParts", fn := fun _ => fun
  | [d] => { results := [.lit (.bool false)], args := [d] }
  | _ => none }
def PathPartsWrongFalsely : Prop := pathPartsRow.holds Tryd.pinned (OpenSpec.ofChange pathPartsWrong)

/-- 'orloplaw20.PathWhite': WHATEVER THE INPUT: true; the input reads as it did. -/
def pathWhiteSpec : ChangeSpec := { name := "pathWhite", fn := fun _ => fun
  | [d] => { results := [.lit (.bool true)], args := [d] }
  | _ => none }
def pathWhiteRow : OpenClaim := { program := "ytjhinpmnpdgadaadoor", sum := "7c6914b0d493635635fde101c3a40f1eaac01473db61771b818b00c676ef4f70", func := "orlop/orloplaw20.PathWhite", spec := "pathWhite", inPlace := ["internal/bytealg.IndexByteString", "internal/bytealg.IndexString", "internal/abi.NoEscape", "internal/bytealg.MakeNoZero"], unfollowed := true, recurses := true, named := ["unicode/utf8.first", "unicode/utf8.acceptRanges", "internal/bytealg.MaxLen"], apart := false, laid := [("unicode/utf8.acceptRanges", laid_unicode_utf8_acceptRanges), ("unicode/utf8.first", laid_unicode_utf8_first)] }
def PathWhiteSaid : Prop := pathWhiteRow.holds Tryd.pinned (OpenSpec.ofChange pathWhiteSpec)

/-- ITS FALSE NEIGHBOUR: 'it returns false'. Refute it at one input. -/
def pathWhiteWrong : ChangeSpec := { name := "pathWhite", fn := fun _ => fun
  | [d] => { results := [.lit (.bool false)], args := [d] }
  | _ => none }
def PathWhiteWrongFalsely : Prop := pathWhiteRow.holds Tryd.pinned (OpenSpec.ofChange pathWhiteWrong)

/-- 'orloplaw20.PathOut': WHATEVER THE INPUT: true; the input reads as it did. -/
def pathOutSpec : ChangeSpec := { name := "pathOut", fn := fun _ => fun
  | [d1, d2] => { results := [.lit (.bool true)], args := [d1, d2] }
  | _ => none }
def pathOutRow : OpenClaim := { program := "ytjhinpmnpdgadaadoor", sum := "7c6914b0d493635635fde101c3a40f1eaac01473db61771b818b00c676ef4f70", func := "orlop/orloplaw20.PathOut", spec := "pathOut", inPlace := ["internal/bytealg.IndexByteString", "internal/bytealg.IndexString", "internal/abi.NoEscape", "internal/bytealg.MakeNoZero"], unfollowed := true, recurses := true, named := ["unicode/utf8.first", "unicode/utf8.acceptRanges", "internal/bytealg.MaxLen"], apart := false, laid := [("unicode/utf8.acceptRanges", laid_unicode_utf8_acceptRanges), ("unicode/utf8.first", laid_unicode_utf8_first)] }
def PathOutSaid : Prop := pathOutRow.holds Tryd.pinned (OpenSpec.ofChange pathOutSpec)

/-- ITS FALSE NEIGHBOUR: 'it returns false'. Refute it at one input. -/
def pathOutWrong : ChangeSpec := { name := "pathOut", fn := fun _ => fun
  | [d1, d2] => { results := [.lit (.bool false)], args := [d1, d2] }
  | _ => none }
def PathOutWrongFalsely : Prop := pathOutRow.holds Tryd.pinned (OpenSpec.ofChange pathOutWrong)

/-- 'orloplaw20.PathLoose': WHATEVER THE INPUT: true; the input reads as it did. -/
def pathLooseSpec : ChangeSpec := { name := "pathLoose", fn := fun _ => fun
  | [d1, d2, d3] => { results := [.lit (.bool true)], args := [d1, d2, d3] }
  | _ => none }
def pathLooseRow : OpenClaim := { program := "ytjhinpmnpdgadaadoor", sum := "7c6914b0d493635635fde101c3a40f1eaac01473db61771b818b00c676ef4f70", func := "orlop/orloplaw20.PathLoose", spec := "pathLoose", inPlace := ["internal/bytealg.IndexByteString", "internal/bytealg.IndexString", "internal/abi.NoEscape", "internal/bytealg.MakeNoZero"], unfollowed := true, recurses := true, named := ["unicode/utf8.first", "unicode/utf8.acceptRanges", "internal/bytealg.MaxLen"], apart := false, laid := [("unicode/utf8.acceptRanges", laid_unicode_utf8_acceptRanges), ("unicode/utf8.first", laid_unicode_utf8_first)] }
def PathLooseSaid : Prop := pathLooseRow.holds Tryd.pinned (OpenSpec.ofChange pathLooseSpec)

/-- ITS FALSE NEIGHBOUR: 'it returns false'. Refute it at one input. -/
def pathLooseWrong : ChangeSpec := { name := "pathLoose", fn := fun _ => fun
  | [d1, d2, d3] => { results := [.lit (.bool false)], args := [d1, d2, d3] }
  | _ => none }
def PathLooseWrongFalsely : Prop := pathLooseRow.holds Tryd.pinned (OpenSpec.ofChange pathLooseWrong)

/- THE SECOND FORM. 'bulk': how many values and letters a reading holds, each counted each time it is reached (what is shared counts as often as it is met; a slice's spare places count too). A statement '..UptoSaid' is the law's where the arguments, and the package variables that the reading takes, are together of bulk at most 1048576: NARROWER than '..Said'. Prove '..Said' where nothing that the law and all that it calls make is longer than what came in: it says more and counts as full. Else prove '..UptoSaid'. A law counts once. -/
mutual
def uptoBulk {H : Type} : DataW H → Nat
  | .lit (.string bytes) => bytes.length + 1
  | .lit _ => 1
  | .nil => 1
  | .ptr d => uptoBulk d + 1
  | .slice elems spare => uptoBulkAll elems + uptoBulkAll spare + 1
  | .agg parts => uptoBulkAll parts + 1
  | .iface _ d => uptoBulk d + 1
  | .map entries => uptoBulkEntries entries + 1
  | .held _ => 1
def uptoBulkAll {H : Type} : List (DataW H) → Nat
  | [] => 0
  | d :: r => uptoBulk d + uptoBulkAll r
def uptoBulkEntries {H : Type} : List (Lit × DataW H) → Nat
  | [] => 0
  | x :: r => uptoBulkEntry x + uptoBulkEntries r
def uptoBulkEntry {H : Type} : Lit × DataW H → Nat
  | (.string bytes, d) => bytes.length + uptoBulk d + 1
  | (_, d) => uptoBulk d + 1
 end
def uptoSmall : (H : Type) → List (DataW H) → Bool := fun _ ds => decide (uptoBulkAll ds ≤ 1048576)
def OpenSpec.upto (s : _root_.Go.ChangeSpec) : _root_.Go.OpenSpec := { _root_.Go.OpenSpec.ofChange s with cond := some uptoSmall }

/-- 'orloplaw14.B64Texts', WHERE WHAT IT READS IS OF BULK AT MOST 1048576: true; the input reads as it did. -/
def b64TextsUptoRow : OpenClaim := { program := "ytjhinpmnpdgadaadoor", sum := "7c6914b0d493635635fde101c3a40f1eaac01473db61771b818b00c676ef4f70", func := "orlop/orloplaw14.B64Texts", spec := "b64Texts", inPlace := ["internal/bytealg.IndexByteString", "internal/bytealg.IndexString"], unfollowed := true, recurses := true, named := ["unicode/utf8.first", "unicode/utf8.acceptRanges", "internal/bytealg.MaxLen"], apart := false, laid := [("unicode/utf8.acceptRanges", laid_unicode_utf8_acceptRanges), ("unicode/utf8.first", laid_unicode_utf8_first)], narrowed := true }
def B64TextsUptoSaid : Prop := b64TextsUptoRow.holds Tryd.pinned (OpenSpec.upto b64TextsSpec)

/-- 'orloplaw14.B64Reads', WHERE WHAT IT READS IS OF BULK AT MOST 1048576: true; the input reads as it did. -/
def b64ReadsUptoRow : OpenClaim := { program := "ytjhinpmnpdgadaadoor", sum := "7c6914b0d493635635fde101c3a40f1eaac01473db61771b818b00c676ef4f70", func := "orlop/orloplaw14.B64Reads", spec := "b64Reads", inPlace := ["internal/bytealg.IndexByteString", "internal/bytealg.IndexString"], unfollowed := true, recurses := true, named := ["unicode/utf8.first", "unicode/utf8.acceptRanges", "internal/bytealg.MaxLen"], apart := false, laid := [("unicode/utf8.acceptRanges", laid_unicode_utf8_acceptRanges), ("unicode/utf8.first", laid_unicode_utf8_first)], narrowed := true }
def B64ReadsUptoSaid : Prop := b64ReadsUptoRow.holds Tryd.pinned (OpenSpec.upto b64ReadsSpec)

/-- 'orloplaw14.B64Joins', WHERE WHAT IT READS IS OF BULK AT MOST 1048576: true; the input reads as it did. -/
def b64JoinsUptoRow : OpenClaim := { program := "ytjhinpmnpdgadaadoor", sum := "7c6914b0d493635635fde101c3a40f1eaac01473db61771b818b00c676ef4f70", func := "orlop/orloplaw14.B64Joins", spec := "b64Joins", inPlace := ["internal/bytealg.IndexByteString", "internal/bytealg.IndexString"], unfollowed := true, recurses := true, named := ["unicode/utf8.first", "unicode/utf8.acceptRanges", "internal/bytealg.MaxLen"], apart := false, laid := [("unicode/utf8.acceptRanges", laid_unicode_utf8_acceptRanges), ("unicode/utf8.first", laid_unicode_utf8_first)], narrowed := true }
def B64JoinsUptoSaid : Prop := b64JoinsUptoRow.holds Tryd.pinned (OpenSpec.upto b64JoinsSpec)

/-- 'orloplaw14.B64Turned', WHERE WHAT IT READS IS OF BULK AT MOST 1048576: true; the input reads as it did. -/
def b64TurnedUptoRow : OpenClaim := { program := "ytjhinpmnpdgadaadoor", sum := "7c6914b0d493635635fde101c3a40f1eaac01473db61771b818b00c676ef4f70", func := "orlop/orloplaw14.B64Turned", spec := "b64Turned", inPlace := ["internal/bytealg.IndexByteString", "internal/bytealg.IndexString"], unfollowed := true, recurses := true, named := ["unicode/utf8.first", "unicode/utf8.acceptRanges", "internal/bytealg.MaxLen"], apart := false, laid := [("unicode/utf8.acceptRanges", laid_unicode_utf8_acceptRanges), ("unicode/utf8.first", laid_unicode_utf8_first)], narrowed := true }
def B64TurnedUptoSaid : Prop := b64TurnedUptoRow.holds Tryd.pinned (OpenSpec.upto b64TurnedSpec)

/-- 'orloplaw20.PathParts', WHERE WHAT IT READS IS OF BULK AT MOST 1048576: true; the input reads as it did. -/
def pathPartsUptoRow : OpenClaim := { program := "ytjhinpmnpdgadaadoor", sum := "7c6914b0d493635635fde101c3a40f1eaac01473db61771b818b00c676ef4f70", func := "orlop/orloplaw20.PathParts", spec := "pathParts", inPlace := ["internal/bytealg.IndexByteString", "internal/bytealg.IndexString", "internal/abi.NoEscape", "internal/bytealg.MakeNoZero"], unfollowed := true, recurses := true, named := ["unicode/utf8.first", "unicode/utf8.acceptRanges", "internal/bytealg.MaxLen"], apart := false, laid := [("unicode/utf8.acceptRanges", laid_unicode_utf8_acceptRanges), ("unicode/utf8.first", laid_unicode_utf8_first)], narrowed := true }
def PathPartsUptoSaid : Prop := pathPartsUptoRow.holds Tryd.pinned (OpenSpec.upto pathPartsSpec)

/-- 'orloplaw20.PathWhite', WHERE WHAT IT READS IS OF BULK AT MOST 1048576: true; the input reads as it did. -/
def pathWhiteUptoRow : OpenClaim := { program := "ytjhinpmnpdgadaadoor", sum := "7c6914b0d493635635fde101c3a40f1eaac01473db61771b818b00c676ef4f70", func := "orlop/orloplaw20.PathWhite", spec := "pathWhite", inPlace := ["internal/bytealg.IndexByteString", "internal/bytealg.IndexString", "internal/abi.NoEscape", "internal/bytealg.MakeNoZero"], unfollowed := true, recurses := true, named := ["unicode/utf8.first", "unicode/utf8.acceptRanges", "internal/bytealg.MaxLen"], apart := false, laid := [("unicode/utf8.acceptRanges", laid_unicode_utf8_acceptRanges), ("unicode/utf8.first", laid_unicode_utf8_first)], narrowed := true }
def PathWhiteUptoSaid : Prop := pathWhiteUptoRow.holds Tryd.pinned (OpenSpec.upto pathWhiteSpec)

/-- 'orloplaw20.PathOut', WHERE WHAT IT READS IS OF BULK AT MOST 1048576: true; the input reads as it did. -/
def pathOutUptoRow : OpenClaim := { program := "ytjhinpmnpdgadaadoor", sum := "7c6914b0d493635635fde101c3a40f1eaac01473db61771b818b00c676ef4f70", func := "orlop/orloplaw20.PathOut", spec := "pathOut", inPlace := ["internal/bytealg.IndexByteString", "internal/bytealg.IndexString", "internal/abi.NoEscape", "internal/bytealg.MakeNoZero"], unfollowed := true, recurses := true, named := ["unicode/utf8.first", "unicode/utf8.acceptRanges", "internal/bytealg.MaxLen"], apart := false, laid := [("unicode/utf8.acceptRanges", laid_unicode_utf8_acceptRanges), ("unicode/utf8.first", laid_unicode_utf8_first)], narrowed := true }
def PathOutUptoSaid : Prop := pathOutUptoRow.holds Tryd.pinned (OpenSpec.upto pathOutSpec)

/-- 'orloplaw20.PathLoose', WHERE WHAT IT READS IS OF BULK AT MOST 1048576: true; the input reads as it did. -/
def pathLooseUptoRow : OpenClaim := { program := "ytjhinpmnpdgadaadoor", sum := "7c6914b0d493635635fde101c3a40f1eaac01473db61771b818b00c676ef4f70", func := "orlop/orloplaw20.PathLoose", spec := "pathLoose", inPlace := ["internal/bytealg.IndexByteString", "internal/bytealg.IndexString", "internal/abi.NoEscape", "internal/bytealg.MakeNoZero"], unfollowed := true, recurses := true, named := ["unicode/utf8.first", "unicode/utf8.acceptRanges", "internal/bytealg.MaxLen"], apart := false, laid := [("unicode/utf8.acceptRanges", laid_unicode_utf8_acceptRanges), ("unicode/utf8.first", laid_unicode_utf8_first)], narrowed := true }
def PathLooseUptoSaid : Prop := pathLooseUptoRow.holds Tryd.pinned (OpenSpec.upto pathLooseSpec)

end Rows
end Go.Proofs.YtjhinpmnpdgadaaDoor
