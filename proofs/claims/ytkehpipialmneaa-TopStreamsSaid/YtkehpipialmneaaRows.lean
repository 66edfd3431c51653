/-
  No cell of these rows narrows 'for every input' (looked for: loops, veiled, ifaces, maps, wideKeys, modest, calm, conditions, laid).
  DERIVED. THE GIVEN ROWS OF THIS SEAT. 4 by the template 'for every input the law returns true; each argument reads behind the call as it read before'; 0 by the template 'total and deterministic' (their statements: YtkehpipialmneaaTotals.lean).
  GIVEN WITH THE SEED: the statements are not yours to turn. If you find one false, say at which input.
  Laid BY PROGRAM, IN A SANDBOX (cutbox-rows.mjs): the forced cells as the released guide's own fill.sh prints them over the translation e805dcbdb55eaafd… (all of the seat's roots in one cut). By AI agents, Wed Nov 11 2026. No macro, syntax, notation, axiom, sorry.
-/
import Derived.Test.YtkehpipialmneaaChecked
import GoSem.Claim
import GoSem.ClaimJoined
import GoSem.ClaimMapViews
import Derived.JoinedTies
import Derived.KernelRfl
namespace Go.Proofs.Ytkehpipialmneaa
/- THE CELL 'sum', in the pinned program and in every row, IS THE sha256 OF THE DUMP (.gsa) THAT YtkehpipialmneaaProg.lean LOADS. Nothing in Lean hashes anything: it is a label: what it is worth is what the hold of that sum in a sandbox is worth. -/
noncomputable def Try.pinned : Pinned := { name := "ytkehpipialmneaa", sum := "e805dcbdb55eaafd55d51a18782e3c39fe72ac044533ef8294109362717ad12b", checked := Try.checked }
namespace Rows
def none {H : Type} : Left H := { results := [], args := [] }

/-- 'orloptop.TopBoxes': WHATEVER THE INPUT: true; the input reads as it did. -/
def topBoxesSpec : ChangeSpec := { name := "topBoxes", fn := fun _ => fun
  | [d1, d2, d3] => { results := [.lit (.bool true)], args := [d1, d2, d3] }
  | _ => none }
def topBoxesRow : OpenClaim := { program := "ytkehpipialmneaa", sum := "e805dcbdb55eaafd55d51a18782e3c39fe72ac044533ef8294109362717ad12b", func := "orlop/orloptop.TopBoxes", spec := "topBoxes", unfollowed := true, recurses := true, apart := false }
def TopBoxesSaid : Prop := topBoxesRow.holds Try.pinned (OpenSpec.ofChange topBoxesSpec)

/-- ITS FALSE NEIGHBOUR: 'it returns false'. Refute it at one input. -/
def topBoxesWrong : ChangeSpec := { name := "topBoxes", fn := fun _ => fun
  | [d1, d2, d3] => { results := [.lit (.bool false)], args := [d1, d2, d3] }
  | _ => none }
def TopBoxesWrongFalsely : Prop := topBoxesRow.holds Try.pinned (OpenSpec.ofChange topBoxesWrong)

/-- 'orloptop.TopKeys': WHATEVER THE INPUT: true; the input reads as it did. -/
def topKeysSpec : ChangeSpec := { name := "topKeys", fn := fun _ => fun
  | [d1, d2, d3] => { results := [.lit (.bool true)], args := [d1, d2, d3] }
  | _ => none }
def topKeysRow : OpenClaim := { program := "ytkehpipialmneaa", sum := "e805dcbdb55eaafd55d51a18782e3c39fe72ac044533ef8294109362717ad12b", func := "orlop/orloptop.TopKeys", spec := "topKeys", unfollowed := true, recurses := true, apart := false }
def TopKeysSaid : Prop := topKeysRow.holds Try.pinned (OpenSpec.ofChange topKeysSpec)

/-- ITS FALSE NEIGHBOUR: 'it returns false'. Refute it at one input. -/
def topKeysWrong : ChangeSpec := { name := "topKeys", fn := fun _ => fun
  | [d1, d2, d3] => { results := [.lit (.bool false)], args := [d1, d2, d3] }
  | _ => none }
def TopKeysWrongFalsely : Prop := topKeysRow.holds Try.pinned (OpenSpec.ofChange topKeysWrong)

/-- 'orloptop.TopStreams': WHATEVER THE INPUT: true; the input reads as it did. -/
def topStreamsSpec : ChangeSpec := { name := "topStreams", fn := fun _ => fun
  | [d1, d2] => { results := [.lit (.bool true)], args := [d1, d2] }
  | _ => none }
def topStreamsRow : OpenClaim := { program := "ytkehpipialmneaa", sum := "e805dcbdb55eaafd55d51a18782e3c39fe72ac044533ef8294109362717ad12b", func := "orlop/orloptop.TopStreams", spec := "topStreams", unfollowed := true, recurses := true, apart := false }
def TopStreamsSaid : Prop := topStreamsRow.holds Try.pinned (OpenSpec.ofChange topStreamsSpec)

/-- ITS FALSE NEIGHBOUR: 'it returns false'. Refute it at one input. -/
def topStreamsWrong : ChangeSpec := { name := "topStreams", fn := fun _ => fun
  | [d1, d2] => { results := [.lit (.bool false)], args := [d1, d2] }
  | _ => none }
def TopStreamsWrongFalsely : Prop := topStreamsRow.holds Try.pinned (OpenSpec.ofChange topStreamsWrong)

/-- 'orloptop.TopShares': WHATEVER THE INPUT: true; the input reads as it did. -/
def topSharesSpec : ChangeSpec := { name := "topShares", fn := fun _ => fun
  | [d1, d2] => { results := [.lit (.bool true)], args := [d1, d2] }
  | _ => none }
def topSharesRow : OpenClaim := { program := "ytkehpipialmneaa", sum := "e805dcbdb55eaafd55d51a18782e3c39fe72ac044533ef8294109362717ad12b", func := "orlop/orloptop.TopShares", spec := "topShares", inPlace := ["math/bits.Add64"], unfollowed := true, recurses := true, apart := false }
def TopSharesSaid : Prop := topSharesRow.holds Try.pinned (OpenSpec.ofChange topSharesSpec)

/-- ITS FALSE NEIGHBOUR: 'it returns false'. Refute it at one input. -/
def topSharesWrong : ChangeSpec := { name := "topShares", fn := fun _ => fun
  | [d1, d2] => { results := [.lit (.bool false)], args := [d1, d2] }
  | _ => none }
def TopSharesWrongFalsely : Prop := topSharesRow.holds Try.pinned (OpenSpec.ofChange topSharesWrong)

/- THE SECOND FORM. 'bulk': how many values and letters a reading holds, each counted each time it is reached (what is shared counts as often as it is met; a slice's spare places count too). A statement '..UptoSaid' is the law's where the arguments, and the package variables that the reading takes, are together of bulk at most 1048576: NARROWER than '..Said'. Prove '..Said' where nothing that the law and all that it calls make is longer than what came in: it says more and counts as full. Else prove '..UptoSaid'. A law counts once. -/
mutual
def uptoBulk {H : Type} : DataW H → Nat
  | .lit (.string bytes) => bytes.length + 1
  | .lit _ => 1
  | .nil => 1
  | .ptr d => uptoBulk d + 1
  | .slice elems spare => uptoBulkAll elems + uptoBulkAll spare + 1
  | .agg parts => uptoBulkAll parts + 1
  | .iface _ d => uptoBulk d + 1
  | .map entries => uptoBulkEntries entries + 1
  | .held _ => 1
def uptoBulkAll {H : Type} : List (DataW H) → Nat
  | [] => 0
  | d :: r => uptoBulk d + uptoBulkAll r
def uptoBulkEntries {H : Type} : List (Lit × DataW H) → Nat
  | [] => 0
  | x :: r => uptoBulkEntry x + uptoBulkEntries r
def uptoBulkEntry {H : Type} : Lit × DataW H → Nat
  | (.string bytes, d) => bytes.length + uptoBulk d + 1
  | (_, d) => uptoBulk d + 1
 end
def uptoSmall : (H : Type) → List (DataW H) → Bool := fun _ ds => decide (uptoBulkAll ds ≤ 1048576)
def OpenSpec.upto (s : _root_.Go.ChangeSpec) : _root_.Go.OpenSpec := { _root_.Go.OpenSpec.ofChange s with cond := some uptoSmall }

/-- 'orloptop.TopBoxes', WHERE WHAT IT READS IS OF BULK AT MOST 1048576: true; the input reads as it did. -/
def topBoxesUptoRow : OpenClaim := { program := "ytkehpipialmneaa", sum := "e805dcbdb55eaafd55d51a18782e3c39fe72ac044533ef8294109362717ad12b", func := "orlop/orloptop.TopBoxes", spec := "topBoxes", unfollowed := true, recurses := true, apart := false, narrowed := true }
def TopBoxesUptoSaid : Prop := topBoxesUptoRow.holds Try.pinned (OpenSpec.upto topBoxesSpec)

/-- 'orloptop.TopKeys', WHERE WHAT IT READS IS OF BULK AT MOST 1048576: true; the input reads as it did. -/
def topKeysUptoRow : OpenClaim := { program := "ytkehpipialmneaa", sum := "e805dcbdb55eaafd55d51a18782e3c39fe72ac044533ef8294109362717ad12b", func := "orlop/orloptop.TopKeys", spec := "topKeys", unfollowed := true, recurses := true, apart := false, narrowed := true }
def TopKeysUptoSaid : Prop := topKeysUptoRow.holds Try.pinned (OpenSpec.upto topKeysSpec)

/-- 'orloptop.TopStreams', WHERE WHAT IT READS IS OF BULK AT MOST 1048576: true; the input reads as it did. -/
def topStreamsUptoRow : OpenClaim := { program := "ytkehpipialmneaa", sum := "e805dcbdb55eaafd55d51a18782e3c39fe72ac044533ef8294109362717ad12b", func := "orlop/orloptop.TopStreams", spec := "topStreams", unfollowed := true, recurses := true, apart := false, narrowed := true }
def TopStreamsUptoSaid : Prop := topStreamsUptoRow.holds Try.pinned (OpenSpec.upto topStreamsSpec)

/-- 'orloptop.TopShares', WHERE WHAT IT READS IS OF BULK AT MOST 1048576: true; the input reads as it did. -/
def topSharesUptoRow : OpenClaim := { program := "ytkehpipialmneaa", sum := "e805dcbdb55eaafd55d51a18782e3c39fe72ac044533ef8294109362717ad12b", func := "orlop/orloptop.TopShares", spec := "topShares", inPlace := ["math/bits.Add64"], unfollowed := true, recurses := true, apart := false, narrowed := true }
def TopSharesUptoSaid : Prop := topSharesUptoRow.holds Try.pinned (OpenSpec.upto topSharesSpec)

end Rows
end Go.Proofs.Ytkehpipialmneaa
