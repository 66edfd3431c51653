/-
  No cell of these rows narrows 'for every input' (looked for: loops, veiled, ifaces, maps, wideKeys, modest, calm, conditions, laid).
  DERIVED. THE GIVEN ROWS OF THIS SEAT. 8 by the template 'for every input the law returns true; each argument reads behind the call as it read before'; 0 by the template 'total and deterministic' (their statements: YtaaplakahkgclaaTotals.lean).
  GIVEN WITH THE SEED: the statements are not yours to turn. If you find one false, say at which input.
  Laid BY PROGRAM, IN A SANDBOX (cutbox-rows.mjs): the forced cells as the released guide's own fill.sh prints them over the translation 2c91c28890acc660… (all of the seat's roots in one cut). By AI agents, Wed Nov 11 2026. No macro, syntax, notation, axiom, sorry.
-/
import Derived.Test.YtaaplakahkgclaaChecked
import GoSem.Claim
import GoSem.ClaimJoined
import GoSem.ClaimMapViews
import Derived.JoinedTies
import Derived.KernelRfl
namespace Go.Proofs.Ytaaplakahkgclaa
/- THE CELL 'sum', in the pinned program and in every row, IS THE sha256 OF THE DUMP (.gsa) THAT YtaaplakahkgclaaProg.lean LOADS. Nothing in Lean hashes anything: it is a label: what it is worth is what the hold of that sum in a sandbox is worth. -/
noncomputable def Try.pinned : Pinned := { name := "ytaaplakahkgclaa", sum := "2c91c28890acc660a816e8643590ef5fe107e2f8d1e5564e5f13e24914605eaf", checked := Try.checked }
namespace Rows
def none {H : Type} : Left H := { results := [], args := [] }

/-- 'orloplaw10.WalTwice': WHATEVER THE INPUT: true; the input reads as it did. -/
def walTwiceSpec : ChangeSpec := { name := "walTwice", fn := fun _ => fun
  | [d1, d2] => { results := [.lit (.bool true)], args := [d1, d2] }
  | _ => none }
def walTwiceRow : OpenClaim := { program := "ytaaplakahkgclaa", sum := "2c91c28890acc660a816e8643590ef5fe107e2f8d1e5564e5f13e24914605eaf", func := "orlop/orloplaw10.WalTwice", spec := "walTwice", unfollowed := true, recurses := true, apart := false }
def WalTwiceSaid : Prop := walTwiceRow.holds Try.pinned (OpenSpec.ofChange walTwiceSpec)

/-- ITS FALSE NEIGHBOUR: 'it returns false'. Refute it at one input. -/
def walTwiceWrong : ChangeSpec := { name := "walTwice", fn := fun _ => fun
  | [d1, d2] => { results := [.lit (.bool false)], args := [d1, d2] }
  | _ => none }
def WalTwiceWrongFalsely : Prop := walTwiceRow.holds Try.pinned (OpenSpec.ofChange walTwiceWrong)

/-- 'orloplaw10.WalAtomic': WHATEVER THE INPUT: true; the input reads as it did. -/
def walAtomicSpec : ChangeSpec := { name := "walAtomic", fn := fun _ => fun
  | [d] => { results := [.lit (.bool true)], args := [d] }
  | _ => none }
def walAtomicRow : OpenClaim := { program := "ytaaplakahkgclaa", sum := "2c91c28890acc660a816e8643590ef5fe107e2f8d1e5564e5f13e24914605eaf", func := "orlop/orloplaw10.WalAtomic", spec := "walAtomic", unfollowed := true, recurses := true, apart := false }
def WalAtomicSaid : Prop := walAtomicRow.holds Try.pinned (OpenSpec.ofChange walAtomicSpec)

/-- ITS FALSE NEIGHBOUR: 'it returns false'. Refute it at one input. -/
def walAtomicWrong : ChangeSpec := { name := "walAtomic", fn := fun _ => fun
  | [d] => { results := [.lit (.bool false)], args := [d] }
  | _ => none }
def WalAtomicWrongFalsely : Prop := walAtomicRow.holds Try.pinned (OpenSpec.ofChange walAtomicWrong)

/-- 'orloplaw10.WalPlain': WHATEVER THE INPUT: true; the input reads as it did. -/
def walPlainSpec : ChangeSpec := { name := "walPlain", fn := fun _ => fun
  | [d1, d2] => { results := [.lit (.bool true)], args := [d1, d2] }
  | _ => none }
def walPlainRow : OpenClaim := { program := "ytaaplakahkgclaa", sum := "2c91c28890acc660a816e8643590ef5fe107e2f8d1e5564e5f13e24914605eaf", func := "orlop/orloplaw10.WalPlain", spec := "walPlain", unfollowed := true, recurses := true, apart := false }
def WalPlainSaid : Prop := walPlainRow.holds Try.pinned (OpenSpec.ofChange walPlainSpec)

/-- ITS FALSE NEIGHBOUR: 'it returns false'. Refute it at one input. -/
def walPlainWrong : ChangeSpec := { name := "walPlain", fn := fun _ => fun
  | [d1, d2] => { results := [.lit (.bool false)], args := [d1, d2] }
  | _ => none }
def WalPlainWrongFalsely : Prop := walPlainRow.holds Try.pinned (OpenSpec.ofChange walPlainWrong)

/-- 'orloplaw10.WalOpens': WHATEVER THE INPUT: true; the input reads as it did. -/
def walOpensSpec : ChangeSpec := { name := "walOpens", fn := fun _ => fun
  | [d1, d2] => { results := [.lit (.bool true)], args := [d1, d2] }
  | _ => none }
def walOpensRow : OpenClaim := { program := "ytaaplakahkgclaa", sum := "2c91c28890acc660a816e8643590ef5fe107e2f8d1e5564e5f13e24914605eaf", func := "orlop/orloplaw10.WalOpens", spec := "walOpens", unfollowed := true, recurses := true, apart := false }
def WalOpensSaid : Prop := walOpensRow.holds Try.pinned (OpenSpec.ofChange walOpensSpec)

/-- ITS FALSE NEIGHBOUR: 'it returns false'. Refute it at one input. -/
def walOpensWrong : ChangeSpec := { name := "walOpens", fn := fun _ => fun
  | [d1, d2] => { results := [.lit (.bool false)], args := [d1, d2] }
  | _ => none }
def WalOpensWrongFalsely : Prop := walOpensRow.holds Try.pinned (OpenSpec.ofChange walOpensWrong)

/-- 'orloplaw08.CurveShares': WHATEVER THE INPUT: true; the input reads as it did. -/
def curveSharesSpec : ChangeSpec := { name := "curveShares", fn := fun _ => fun
  | [d1, d2] => { results := [.lit (.bool true)], args := [d1, d2] }
  | _ => none }
def curveSharesRow : OpenClaim := { program := "ytaaplakahkgclaa", sum := "2c91c28890acc660a816e8643590ef5fe107e2f8d1e5564e5f13e24914605eaf", func := "orlop/orloplaw08.CurveShares", spec := "curveShares", inPlace := ["math/bits.Add64"], apart := false }
def CurveSharesSaid : Prop := curveSharesRow.holds Try.pinned (OpenSpec.ofChange curveSharesSpec)

/-- ITS FALSE NEIGHBOUR: 'it returns false'. Refute it at one input. -/
def curveSharesWrong : ChangeSpec := { name := "curveShares", fn := fun _ => fun
  | [d1, d2] => { results := [.lit (.bool false)], args := [d1, d2] }
  | _ => none }
def CurveSharesWrongFalsely : Prop := curveSharesRow.holds Try.pinned (OpenSpec.ofChange curveSharesWrong)

/-- 'orloplaw08.CurvePoints': WHATEVER THE INPUT: true; the input reads as it did. -/
def curvePointsSpec : ChangeSpec := { name := "curvePoints", fn := fun _ => fun
  | [d] => { results := [.lit (.bool true)], args := [d] }
  | _ => none }
def curvePointsRow : OpenClaim := { program := "ytaaplakahkgclaa", sum := "2c91c28890acc660a816e8643590ef5fe107e2f8d1e5564e5f13e24914605eaf", func := "orlop/orloplaw08.CurvePoints", spec := "curvePoints", inPlace := ["math/bits.Add64"], apart := false }
def CurvePointsSaid : Prop := curvePointsRow.holds Try.pinned (OpenSpec.ofChange curvePointsSpec)

/-- ITS FALSE NEIGHBOUR: 'it returns false'. Refute it at one input. -/
def curvePointsWrong : ChangeSpec := { name := "curvePoints", fn := fun _ => fun
  | [d] => { results := [.lit (.bool false)], args := [d] }
  | _ => none }
def CurvePointsWrongFalsely : Prop := curvePointsRow.holds Try.pinned (OpenSpec.ofChange curvePointsWrong)

/-- 'orloplaw08.CurveLoose': WHATEVER THE INPUT: true; the input reads as it did. -/
def curveLooseSpec : ChangeSpec := { name := "curveLoose", fn := fun _ => fun
  | [d1, d2, d3] => { results := [.lit (.bool true)], args := [d1, d2, d3] }
  | _ => none }
def curveLooseRow : OpenClaim := { program := "ytaaplakahkgclaa", sum := "2c91c28890acc660a816e8643590ef5fe107e2f8d1e5564e5f13e24914605eaf", func := "orlop/orloplaw08.CurveLoose", spec := "curveLoose", inPlace := ["math/bits.Add64"], apart := false }
def CurveLooseSaid : Prop := curveLooseRow.holds Try.pinned (OpenSpec.ofChange curveLooseSpec)

/-- ITS FALSE NEIGHBOUR: 'it returns false'. Refute it at one input. -/
def curveLooseWrong : ChangeSpec := { name := "curveLoose", fn := fun _ => fun
  | [d1, d2, d3] => { results := [.lit (.bool false)], args := [d1, d2, d3] }
  | _ => none }
def CurveLooseWrongFalsely : Prop := curveLooseRow.holds Try.pinned (OpenSpec.ofChange curveLooseWrong)

/-- 'orloplaw08.CurveClamped': WHATEVER THE INPUT: true; the input reads as it did. -/
def curveClampedSpec : ChangeSpec := { name := "curveClamped", fn := fun _ => fun
  | [d1, d2] => { results := [.lit (.bool true)], args := [d1, d2] }
  | _ => none }
def curveClampedRow : OpenClaim := { program := "ytaaplakahkgclaa", sum := "2c91c28890acc660a816e8643590ef5fe107e2f8d1e5564e5f13e24914605eaf", func := "orlop/orloplaw08.CurveClamped", spec := "curveClamped", inPlace := ["math/bits.Add64"], apart := false }
def CurveClampedSaid : Prop := curveClampedRow.holds Try.pinned (OpenSpec.ofChange curveClampedSpec)

/-- ITS FALSE NEIGHBOUR: 'it returns false'. Refute it at one input. -/
def curveClampedWrong : ChangeSpec := { name := "curveClamped", fn := fun _ => fun
  | [d1, d2] => { results := [.lit (.bool false)], args := [d1, d2] }
  | _ => none }
def CurveClampedWrongFalsely : Prop := curveClampedRow.holds Try.pinned (OpenSpec.ofChange curveClampedWrong)

/- THE SECOND FORM. 'bulk': how many values and letters a reading holds, each counted each time it is reached (what is shared counts as often as it is met; a slice's spare places count too). A statement '..UptoSaid' is the law's where the arguments, and the package variables that the reading takes, are together of bulk at most 1048576: NARROWER than '..Said'. Prove '..Said' where nothing that the law and all that it calls make is longer than what came in: it says more and counts as full. Else prove '..UptoSaid'. A law counts once. -/
mutual
def uptoBulk {H : Type} : DataW H → Nat
  | .lit (.string bytes) => bytes.length + 1
  | .lit _ => 1
  | .nil => 1
  | .ptr d => uptoBulk d + 1
  | .slice elems spare => uptoBulkAll elems + uptoBulkAll spare + 1
  | .agg parts => uptoBulkAll parts + 1
  | .iface _ d => uptoBulk d + 1
  | .map entries => uptoBulkEntries entries + 1
  | .held _ => 1
def uptoBulkAll {H : Type} : List (DataW H) → Nat
  | [] => 0
  | d :: r => uptoBulk d + uptoBulkAll r
def uptoBulkEntries {H : Type} : List (Lit × DataW H) → Nat
  | [] => 0
  | x :: r => uptoBulkEntry x + uptoBulkEntries r
def uptoBulkEntry {H : Type} : Lit × DataW H → Nat
  | (.string bytes, d) => bytes.length + uptoBulk d + 1
  | (_, d) => uptoBulk d + 1
 end
def uptoSmall : (H : Type) → List (DataW H) → Bool := fun _ ds => decide (uptoBulkAll ds ≤ 1048576)
def OpenSpec.upto (s : _root_.Go.ChangeSpec) : _root_.Go.OpenSpec := { _root_.Go.OpenSpec.ofChange s with cond := some uptoSmall }

/-- 'orloplaw10.WalTwice', WHERE WHAT IT READS IS OF BULK AT MOST 1048576: true; the input reads as it did. -/
def walTwiceUptoRow : OpenClaim := { program := "ytaaplakahkgclaa", sum := "2c91c28890acc660a816e8643590ef5fe107e2f8d1e5564e5f13e24914605eaf", func := "orlop/orloplaw10.WalTwice", spec := "walTwice", unfollowed := true, recurses := true, apart := false, narrowed := true }
def WalTwiceUptoSaid : Prop := walTwiceUptoRow.holds Try.pinned (OpenSpec.upto walTwiceSpec)

/-- 'orloplaw10.WalAtomic', WHERE WHAT IT READS IS OF BULK AT MOST 1048576: true; the input reads as it did. -/
def walAtomicUptoRow : OpenClaim := { program := "ytaaplakahkgclaa", sum := "2c91c28890acc660a816e8643590ef5fe107e2f8d1e5564e5f13e24914605eaf", func := "orlop/orloplaw10.WalAtomic", spec := "walAtomic", unfollowed := true, recurses := true, apart := false, narrowed := true }
def WalAtomicUptoSaid : Prop := walAtomicUptoRow.holds Try.pinned (OpenSpec.upto walAtomicSpec)

/-- 'orloplaw10.WalPlain', WHERE WHAT IT READS IS OF BULK AT MOST 1048576: true; the input reads as it did. -/
def walPlainUptoRow : OpenClaim := { program := "ytaaplakahkgclaa", sum := "2c91c28890acc660a816e8643590ef5fe107e2f8d1e5564e5f13e24914605eaf", func := "orlop/orloplaw10.WalPlain", spec := "walPlain", unfollowed := true, recurses := true, apart := false, narrowed := true }
def WalPlainUptoSaid : Prop := walPlainUptoRow.holds Try.pinned (OpenSpec.upto walPlainSpec)

/-- 'orloplaw10.WalOpens', WHERE WHAT IT READS IS OF BULK AT MOST 1048576: true; the input reads as it did. -/
def walOpensUptoRow : OpenClaim := { program := "ytaaplakahkgclaa", sum := "2c91c28890acc660a816e8643590ef5fe107e2f8d1e5564e5f13e24914605eaf", func := "orlop/orloplaw10.WalOpens", spec := "walOpens", unfollowed := true, recurses := true, apart := false, narrowed := true }
def WalOpensUptoSaid : Prop := walOpensUptoRow.holds Try.pinned (OpenSpec.upto walOpensSpec)

/-- 'orloplaw08.CurveShares', WHERE WHAT IT READS IS OF BULK AT MOST 1048576: true; the input reads as it did. -/
def curveSharesUptoRow : OpenClaim := { program := "ytaaplakahkgclaa", sum := "2c91c28890acc660a816e8643590ef5fe107e2f8d1e5564e5f13e24914605eaf", func := "orlop/orloplaw08.CurveShares", spec := "curveShares", inPlace := ["math/bits.Add64"], apart := false, narrowed := true }
def CurveSharesUptoSaid : Prop := curveSharesUptoRow.holds Try.pinned (OpenSpec.upto curveSharesSpec)

/-- 'orloplaw08.CurvePoints', WHERE WHAT IT READS IS OF BULK AT MOST 1048576: true; the input reads as it did. -/
def curvePointsUptoRow : OpenClaim := { program := "ytaaplakahkgclaa", sum := "2c91c28890acc660a816e8643590ef5fe107e2f8d1e5564e5f13e24914605eaf", func := "orlop/orloplaw08.CurvePoints", spec := "curvePoints", inPlace := ["math/bits.Add64"], apart := false, narrowed := true }
def CurvePointsUptoSaid : Prop := curvePointsUptoRow.holds Try.pinned (OpenSpec.upto curvePointsSpec)

/-- 'orloplaw08.CurveLoose', WHERE WHAT IT READS IS OF BULK AT MOST 1048576: true; the input reads as it did. -/
def curveLooseUptoRow : OpenClaim := { program := "ytaaplakahkgclaa", sum := "2c91c28890acc660a816e8643590ef5fe107e2f8d1e5564e5f13e24914605eaf", func := "orlop/orloplaw08.CurveLoose", spec := "curveLoose", inPlace := ["math/bits.Add64"], apart := false, narrowed := true }
def CurveLooseUptoSaid : Prop := curveLooseUptoRow.holds Try.pinned (OpenSpec.upto curveLooseSpec)

/-- 'orloplaw08.CurveClamped', WHERE WHAT IT READS IS OF BULK AT MOST 1048576: true; the input reads as it did. -/
def curveClampedUptoRow : OpenClaim := { program := "ytaaplakahkgclaa", sum := "2c91c28890acc660a816e8643590ef5fe107e2f8d1e5564e5f13e24914605eaf", func := "orlop/orloplaw08.CurveClamped", spec := "curveClamped", inPlace := ["math/bits.Add64"], apart := false, narrowed := true }
def CurveClampedUptoSaid : Prop := curveClampedUptoRow.holds Try.pinned (OpenSpec.upto curveClampedSpec)

end Rows
end Go.Proofs.Ytaaplakahkgclaa
