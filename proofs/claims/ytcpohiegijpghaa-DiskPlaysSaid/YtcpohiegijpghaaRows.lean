/-
  No cell of these rows narrows 'for every input' (looked for: loops, veiled, ifaces, maps, wideKeys, modest, calm, conditions, laid).
  DERIVED. THE GIVEN ROWS OF THIS SEAT. 10 by the template 'for every input the law returns true; each argument reads behind the call as it read before'; 0 by the template 'total and deterministic' (their statements: YtcpohiegijpghaaTotals.lean).
  GIVEN WITH THE SEED: the statements are not yours to turn. If you find one false, say at which input.
  Laid BY PROGRAM, IN A SANDBOX (cutbox-rows.mjs): the forced cells as the released guide's own fill.sh prints them over the translation 269f21a4661bd1f4… (all of the seat's roots in one cut). By AI agents, Wed Nov 11 2026. No macro, syntax, notation, axiom, sorry.
-/
import Derived.Test.YtcpohiegijpghaaChecked
import GoSem.Claim
import GoSem.ClaimJoined
import GoSem.ClaimMapViews
import Derived.JoinedTies
import Derived.KernelRfl
namespace Go.Proofs.Ytcpohiegijpghaa
/- THE CELL 'sum', in the pinned program and in every row, IS THE sha256 OF THE DUMP (.gsa) THAT YtcpohiegijpghaaProg.lean LOADS. Nothing in Lean hashes anything: it is a label: what it is worth is what the hold of that sum in a sandbox is worth. -/
noncomputable def Try.pinned : Pinned := { name := "ytcpohiegijpghaa", sum := "269f21a4661bd1f45ca5dfc802ff3f864cff6f26514148855076dce28f470148", checked := Try.checked }
namespace Rows
def none {H : Type} : Left H := { results := [], args := [] }

/-- 'orloplaw01.WordHex': WHATEVER THE INPUT: true; the input reads as it did. -/
def wordHexSpec : ChangeSpec := { name := "wordHex", fn := fun _ => fun
  | [d1, d2] => { results := [.lit (.bool true)], args := [d1, d2] }
  | _ => none }
def wordHexRow : OpenClaim := { program := "ytcpohiegijpghaa", sum := "269f21a4661bd1f45ca5dfc802ff3f864cff6f26514148855076dce28f470148", func := "orlop/orloplaw01.WordHex", spec := "wordHex", inPlace := ["internal/bytealg.IndexByteString"], apart := false }
def WordHexSaid : Prop := wordHexRow.holds Try.pinned (OpenSpec.ofChange wordHexSpec)

/-- ITS FALSE NEIGHBOUR: 'it returns false'. Refute it at one input. -/
def wordHexWrong : ChangeSpec := { name := "wordHex", fn := fun _ => fun
  | [d1, d2] => { results := [.lit (.bool false)], args := [d1, d2] }
  | _ => none }
def WordHexWrongFalsely : Prop := wordHexRow.holds Try.pinned (OpenSpec.ofChange wordHexWrong)

/-- 'orloplaw01.WordGets': WHATEVER THE INPUT: true; the input reads as it did. -/
def wordGetsSpec : ChangeSpec := { name := "wordGets", fn := fun _ => fun
  | [d] => { results := [.lit (.bool true)], args := [d] }
  | _ => none }
def wordGetsRow : OpenClaim := { program := "ytcpohiegijpghaa", sum := "269f21a4661bd1f45ca5dfc802ff3f864cff6f26514148855076dce28f470148", func := "orlop/orloplaw01.WordGets", spec := "wordGets", inPlace := ["internal/bytealg.IndexByteString"], apart := false }
def WordGetsSaid : Prop := wordGetsRow.holds Try.pinned (OpenSpec.ofChange wordGetsSpec)

/-- ITS FALSE NEIGHBOUR: 'it returns false'. Refute it at one input. -/
def wordGetsWrong : ChangeSpec := { name := "wordGets", fn := fun _ => fun
  | [d] => { results := [.lit (.bool false)], args := [d] }
  | _ => none }
def WordGetsWrongFalsely : Prop := wordGetsRow.holds Try.pinned (OpenSpec.ofChange wordGetsWrong)

/-- 'orloplaw01.WordEqual': WHATEVER THE INPUT: true; the input reads as it did. -/
def wordEqualSpec : ChangeSpec := { name := "wordEqual", fn := fun _ => fun
  | [d1, d2, d3] => { results := [.lit (.bool true)], args := [d1, d2, d3] }
  | _ => none }
def wordEqualRow : OpenClaim := { program := "ytcpohiegijpghaa", sum := "269f21a4661bd1f45ca5dfc802ff3f864cff6f26514148855076dce28f470148", func := "orlop/orloplaw01.WordEqual", spec := "wordEqual", inPlace := ["internal/bytealg.IndexByteString"], apart := false }
def WordEqualSaid : Prop := wordEqualRow.holds Try.pinned (OpenSpec.ofChange wordEqualSpec)

/-- ITS FALSE NEIGHBOUR: 'it returns false'. Refute it at one input. -/
def wordEqualWrong : ChangeSpec := { name := "wordEqual", fn := fun _ => fun
  | [d1, d2, d3] => { results := [.lit (.bool false)], args := [d1, d2, d3] }
  | _ => none }
def WordEqualWrongFalsely : Prop := wordEqualRow.holds Try.pinned (OpenSpec.ofChange wordEqualWrong)

/-- 'orloplaw01.WordHalves': WHATEVER THE INPUT: true; the input reads as it did. -/
def wordHalvesSpec : ChangeSpec := { name := "wordHalves", fn := fun _ => fun
  | [d] => { results := [.lit (.bool true)], args := [d] }
  | _ => none }
def wordHalvesRow : OpenClaim := { program := "ytcpohiegijpghaa", sum := "269f21a4661bd1f45ca5dfc802ff3f864cff6f26514148855076dce28f470148", func := "orlop/orloplaw01.WordHalves", spec := "wordHalves", inPlace := ["internal/bytealg.IndexByteString"], apart := false }
def WordHalvesSaid : Prop := wordHalvesRow.holds Try.pinned (OpenSpec.ofChange wordHalvesSpec)

/-- ITS FALSE NEIGHBOUR: 'it returns false'. Refute it at one input. -/
def wordHalvesWrong : ChangeSpec := { name := "wordHalves", fn := fun _ => fun
  | [d] => { results := [.lit (.bool false)], args := [d] }
  | _ => none }
def WordHalvesWrongFalsely : Prop := wordHalvesRow.holds Try.pinned (OpenSpec.ofChange wordHalvesWrong)

/-- 'orloplaw09.DiskLater': WHATEVER THE INPUT: true; the input reads as it did. -/
def diskLaterSpec : ChangeSpec := { name := "diskLater", fn := fun _ => fun
  | [d1, d2, d3] => { results := [.lit (.bool true)], args := [d1, d2, d3] }
  | _ => none }
def diskLaterRow : OpenClaim := { program := "ytcpohiegijpghaa", sum := "269f21a4661bd1f45ca5dfc802ff3f864cff6f26514148855076dce28f470148", func := "orlop/orloplaw09.DiskLater", spec := "diskLater", unfollowed := true, recurses := true, apart := false }
def DiskLaterSaid : Prop := diskLaterRow.holds Try.pinned (OpenSpec.ofChange diskLaterSpec)

/-- ITS FALSE NEIGHBOUR: 'it returns false'. Refute it at one input. -/
def diskLaterWrong : ChangeSpec := { name := "diskLater", fn := fun _ => fun
  | [d1, d2, d3] => { results := [.lit (.bool false)], args := [d1, d2, d3] }
  | _ => none }
def DiskLaterWrongFalsely : Prop := diskLaterRow.holds Try.pinned (OpenSpec.ofChange diskLaterWrong)

/-- 'orloplaw01.WordPuts': WHATEVER THE INPUT: true; the input reads as it did. -/
def wordPutsSpec : ChangeSpec := { name := "wordPuts", fn := fun _ => fun
  | [d1, d2] => { results := [.lit (.bool true)], args := [d1, d2] }
  | _ => none }
def wordPutsRow : OpenClaim := { program := "ytcpohiegijpghaa", sum := "269f21a4661bd1f45ca5dfc802ff3f864cff6f26514148855076dce28f470148", func := "orlop/orloplaw01.WordPuts", spec := "wordPuts", inPlace := ["internal/bytealg.IndexByteString"], apart := false }
def WordPutsSaid : Prop := wordPutsRow.holds Try.pinned (OpenSpec.ofChange wordPutsSpec)

/-- ITS FALSE NEIGHBOUR: 'it returns false'. Refute it at one input. -/
def wordPutsWrong : ChangeSpec := { name := "wordPuts", fn := fun _ => fun
  | [d1, d2] => { results := [.lit (.bool false)], args := [d1, d2] }
  | _ => none }
def WordPutsWrongFalsely : Prop := wordPutsRow.holds Try.pinned (OpenSpec.ofChange wordPutsWrong)

/-- 'orloplaw09.DiskEnds': WHATEVER THE INPUT: true; the input reads as it did. -/
def diskEndsSpec : ChangeSpec := { name := "diskEnds", fn := fun _ => fun
  | [d1, d2] => { results := [.lit (.bool true)], args := [d1, d2] }
  | _ => none }
def diskEndsRow : OpenClaim := { program := "ytcpohiegijpghaa", sum := "269f21a4661bd1f45ca5dfc802ff3f864cff6f26514148855076dce28f470148", func := "orlop/orloplaw09.DiskEnds", spec := "diskEnds", unfollowed := true, recurses := true, apart := false }
def DiskEndsSaid : Prop := diskEndsRow.holds Try.pinned (OpenSpec.ofChange diskEndsSpec)

/-- ITS FALSE NEIGHBOUR: 'it returns false'. Refute it at one input. -/
def diskEndsWrong : ChangeSpec := { name := "diskEnds", fn := fun _ => fun
  | [d1, d2] => { results := [.lit (.bool false)], args := [d1, d2] }
  | _ => none }
def DiskEndsWrongFalsely : Prop := diskEndsRow.holds Try.pinned (OpenSpec.ofChange diskEndsWrong)

/-- 'orloplaw09.DiskTwins': WHATEVER THE INPUT: true; the input reads as it did. -/
def diskTwinsSpec : ChangeSpec := { name := "diskTwins", fn := fun _ => fun
  | [d1, d2, d3] => { results := [.lit (.bool true)], args := [d1, d2, d3] }
  | _ => none }
def diskTwinsRow : OpenClaim := { program := "ytcpohiegijpghaa", sum := "269f21a4661bd1f45ca5dfc802ff3f864cff6f26514148855076dce28f470148", func := "orlop/orloplaw09.DiskTwins", spec := "diskTwins", unfollowed := true, recurses := true, apart := false }
def DiskTwinsSaid : Prop := diskTwinsRow.holds Try.pinned (OpenSpec.ofChange diskTwinsSpec)

/-- ITS FALSE NEIGHBOUR: 'it returns false'. Refute it at one input. -/
def diskTwinsWrong : ChangeSpec := { name := "diskTwins", fn := fun _ => fun
  | [d1, d2, d3] => { results := [.lit (.bool false)], args := [d1, d2, d3] }
  | _ => none }
def DiskTwinsWrongFalsely : Prop := diskTwinsRow.holds Try.pinned (OpenSpec.ofChange diskTwinsWrong)

/-- 'orloplaw09.DiskSafe': WHATEVER THE INPUT: true; the input reads as it did. -/
def diskSafeSpec : ChangeSpec := { name := "diskSafe", fn := fun _ => fun
  | [d1, d2] => { results := [.lit (.bool true)], args := [d1, d2] }
  | _ => none }
def diskSafeRow : OpenClaim := { program := "ytcpohiegijpghaa", sum := "269f21a4661bd1f45ca5dfc802ff3f864cff6f26514148855076dce28f470148", func := "orlop/orloplaw09.DiskSafe", spec := "diskSafe", unfollowed := true, recurses := true, apart := false }
def DiskSafeSaid : Prop := diskSafeRow.holds Try.pinned (OpenSpec.ofChange diskSafeSpec)

/-- ITS FALSE NEIGHBOUR: 'it returns false'. Refute it at one input. -/
def diskSafeWrong : ChangeSpec := { name := "diskSafe", fn := fun _ => fun
  | [d1, d2] => { results := [.lit (.bool false)], args := [d1, d2] }
  | _ => none }
def DiskSafeWrongFalsely : Prop := diskSafeRow.holds Try.pinned (OpenSpec.ofChange diskSafeWrong)

/-- 'orloplaw09.DiskPlays': WHATEVER THE INPUT: true; the input reads as it did. -/
def diskPlaysSpec : ChangeSpec := { name := "diskPlays", fn := fun _ => fun
  | [d1, d2] => { results := [.lit (.bool true)], args := [d1, d2] }
  | _ => none }
def diskPlaysRow : OpenClaim := { program := "ytcpohiegijpghaa", sum := "269f21a4661bd1f45ca5dfc802ff3f864cff6f26514148855076dce28f470148", func := "orlop/orloplaw09.DiskPlays", spec := "diskPlays", unfollowed := true, recurses := true, apart := false }
def DiskPlaysSaid : Prop := diskPlaysRow.holds Try.pinned (OpenSpec.ofChange diskPlaysSpec)

/-- ITS FALSE NEIGHBOUR: 'it returns false'. Refute it at one input. -/
def diskPlaysWrong : ChangeSpec := { name := "diskPlays", fn := fun _ => fun
  | [d1, d2] => { results := [.lit (.bool false)], args := [d1, d2] }
  | _ => none }
def DiskPlaysWrongFalsely : Prop := diskPlaysRow.holds Try.pinned (OpenSpec.ofChange diskPlaysWrong)

/- THE SECOND FORM. 'bulk': how many values and letters a reading holds, each counted each time it is reached (what is shared counts as often as it is met; a slice's spare places count too). A statement '..UptoSaid' is the law's where the arguments, and the package variables that the reading takes, are together of bulk at most 1048576: NARROWER than '..Said'. Prove '..Said' where nothing that the law and all that it calls make is longer than what came in: it says more and counts as full. Else prove '..UptoSaid'. A law counts once. -/
mutual
def uptoBulk {H : Type} : DataW H → Nat
  | .lit (.string bytes) => bytes.length + 1
  | .lit _ => 1
  | .nil => 1
  | .ptr d => uptoBulk d + 1
  | .slice elems spare => uptoBulkAll elems + uptoBulkAll spare + 1
  | .agg parts => uptoBulkAll parts + 1
  | .iface _ d => uptoBulk d + 1
  | .map entries => uptoBulkEntries entries + 1
  | .held _ => 1
def uptoBulkAll {H : Type} : List (DataW H) → Nat
  | [] => 0
  | d :: r => uptoBulk d + uptoBulkAll r
def uptoBulkEntries {H : Type} : List (Lit × DataW H) → Nat
  | [] => 0
  | x :: r => uptoBulkEntry x + uptoBulkEntries r
def uptoBulkEntry {H : Type} : Lit × DataW H → Nat
  | (.string bytes, d) => bytes.length + uptoBulk d + 1
  | (_, d) => uptoBulk d + 1
 end
def uptoSmall : (H : Type) → List (DataW H) → Bool := fun _ ds => decide (uptoBulkAll ds ≤ 1048576)
def OpenSpec.upto (s : _root_.Go.ChangeSpec) : _root_.Go.OpenSpec := { _root_.Go.OpenSpec.ofChange s with cond := some uptoSmall }

/-- 'orloplaw01.WordHex', WHERE WHAT IT READS IS OF BULK AT MOST 1048576: true; the input reads as it did. -/
def wordHexUptoRow : OpenClaim := { program := "ytcpohiegijpghaa", sum := "269f21a4661bd1f45ca5dfc802ff3f864cff6f26514148855076dce28f470148", func := "orlop/orloplaw01.WordHex", spec := "wordHex", inPlace := ["internal/bytealg.IndexByteString"], apart := false, narrowed := true }
def WordHexUptoSaid : Prop := wordHexUptoRow.holds Try.pinned (OpenSpec.upto wordHexSpec)

/-- 'orloplaw01.WordGets', WHERE WHAT IT READS IS OF BULK AT MOST 1048576: true; the input reads as it did. -/
def wordGetsUptoRow : OpenClaim := { program := "ytcpohiegijpghaa", sum := "269f21a4661bd1f45ca5dfc802ff3f864cff6f26514148855076dce28f470148", func := "orlop/orloplaw01.WordGets", spec := "wordGets", inPlace := ["internal/bytealg.IndexByteString"], apart := false, narrowed := true }
def WordGetsUptoSaid : Prop := wordGetsUptoRow.holds Try.pinned (OpenSpec.upto wordGetsSpec)

/-- 'orloplaw01.WordEqual', WHERE WHAT IT READS IS OF BULK AT MOST 1048576: true; the input reads as it did. -/
def wordEqualUptoRow : OpenClaim := { program := "ytcpohiegijpghaa", sum := "269f21a4661bd1f45ca5dfc802ff3f864cff6f26514148855076dce28f470148", func := "orlop/orloplaw01.WordEqual", spec := "wordEqual", inPlace := ["internal/bytealg.IndexByteString"], apart := false, narrowed := true }
def WordEqualUptoSaid : Prop := wordEqualUptoRow.holds Try.pinned (OpenSpec.upto wordEqualSpec)

/-- 'orloplaw01.WordHalves', WHERE WHAT IT READS IS OF BULK AT MOST 1048576: true; the input reads as it did. -/
def wordHalvesUptoRow : OpenClaim := { program := "ytcpohiegijpghaa", sum := "269f21a4661bd1f45ca5dfc802ff3f864cff6f26514148855076dce28f470148", func := "orlop/orloplaw01.WordHalves", spec := "wordHalves", inPlace := ["internal/bytealg.IndexByteString"], apart := false, narrowed := true }
def WordHalvesUptoSaid : Prop := wordHalvesUptoRow.holds Try.pinned (OpenSpec.upto wordHalvesSpec)

/-- 'orloplaw09.DiskLater', WHERE WHAT IT READS IS OF BULK AT MOST 1048576: true; the input reads as it did. -/
def diskLaterUptoRow : OpenClaim := { program := "ytcpohiegijpghaa", sum := "269f21a4661bd1f45ca5dfc802ff3f864cff6f26514148855076dce28f470148", func := "orlop/orloplaw09.DiskLater", spec := "diskLater", unfollowed := true, recurses := true, apart := false, narrowed := true }
def DiskLaterUptoSaid : Prop := diskLaterUptoRow.holds Try.pinned (OpenSpec.upto diskLaterSpec)

/-- 'orloplaw01.WordPuts', WHERE WHAT IT READS IS OF BULK AT MOST 1048576: true; the input reads as it did. -/
def wordPutsUptoRow : OpenClaim := { program := "ytcpohiegijpghaa", sum := "269f21a4661bd1f45ca5dfc802ff3f864cff6f26514148855076dce28f470148", func := "orlop/orloplaw01.WordPuts", spec := "wordPuts", inPlace := ["internal/bytealg.IndexByteString"], apart := false, narrowed := true }
def WordPutsUptoSaid : Prop := wordPutsUptoRow.holds Try.pinned (OpenSpec.upto wordPutsSpec)

/-- 'orloplaw09.DiskEnds', WHERE WHAT IT READS IS OF BULK AT MOST 1048576: true; the input reads as it did. -/
def diskEndsUptoRow : OpenClaim := { program := "ytcpohiegijpghaa", sum := "269f21a4661bd1f45ca5dfc802ff3f864cff6f26514148855076dce28f470148", func := "orlop/orloplaw09.DiskEnds", spec := "diskEnds", unfollowed := true, recurses := true, apart := false, narrowed := true }
def DiskEndsUptoSaid : Prop := diskEndsUptoRow.holds Try.pinned (OpenSpec.upto diskEndsSpec)

/-- 'orloplaw09.DiskTwins', WHERE WHAT IT READS IS OF BULK AT MOST 1048576: true; the input reads as it did. -/
def diskTwinsUptoRow : OpenClaim := { program := "ytcpohiegijpghaa", sum := "269f21a4661bd1f45ca5dfc802ff3f864cff6f26514148855076dce28f470148", func := "orlop/orloplaw09.DiskTwins", spec := "diskTwins", unfollowed := true, recurses := true, apart := false, narrowed := true }
def DiskTwinsUptoSaid : Prop := diskTwinsUptoRow.holds Try.pinned (OpenSpec.upto diskTwinsSpec)

/-- 'orloplaw09.DiskSafe', WHERE WHAT IT READS IS OF BULK AT MOST 1048576: true; the input reads as it did. -/
def diskSafeUptoRow : OpenClaim := { program := "ytcpohiegijpghaa", sum := "269f21a4661bd1f45ca5dfc802ff3f864cff6f26514148855076dce28f470148", func := "orlop/orloplaw09.DiskSafe", spec := "diskSafe", unfollowed := true, recurses := true, apart := false, narrowed := true }
def DiskSafeUptoSaid : Prop := diskSafeUptoRow.holds Try.pinned (OpenSpec.upto diskSafeSpec)

/-- 'orloplaw09.DiskPlays', WHERE WHAT IT READS IS OF BULK AT MOST 1048576: true; the input reads as it did. -/
def diskPlaysUptoRow : OpenClaim := { program := "ytcpohiegijpghaa", sum := "269f21a4661bd1f45ca5dfc802ff3f864cff6f26514148855076dce28f470148", func := "orlop/orloplaw09.DiskPlays", spec := "diskPlays", unfollowed := true, recurses := true, apart := false, narrowed := true }
def DiskPlaysUptoSaid : Prop := diskPlaysUptoRow.holds Try.pinned (OpenSpec.upto diskPlaysSpec)

end Rows
end Go.Proofs.Ytcpohiegijpghaa
