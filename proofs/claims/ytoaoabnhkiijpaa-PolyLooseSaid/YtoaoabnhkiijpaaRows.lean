/-
  No cell of these rows narrows 'for every input' (looked for: loops, veiled, ifaces, maps, wideKeys, modest, calm, conditions, laid).
  DERIVED. THE GIVEN ROWS OF THIS SEAT. 12 by the template 'for every input the law returns true; each argument reads behind the call as it read before'; 0 by the template 'total and deterministic' (their statements: YtoaoabnhkiijpaaTotals.lean).
  GIVEN WITH THE SEED: the statements are not yours to turn. If you find one false, say at which input.
  Laid BY PROGRAM, IN A SANDBOX (cutbox-rows.mjs): the forced cells as the released guide's own fill.sh prints them over the translation 391f7d15f5c4d878… (all of the seat's roots in one cut). By AI agents, Wed Nov 11 2026. No macro, syntax, notation, axiom, sorry.
-/
import Derived.Test.YtoaoabnhkiijpaaChecked
import GoSem.Claim
import GoSem.ClaimJoined
import GoSem.ClaimMapViews
import Derived.JoinedTies
import Derived.KernelRfl
namespace Go.Proofs.Ytoaoabnhkiijpaa
/- THE CELL 'sum', in the pinned program and in every row, IS THE sha256 OF THE DUMP (.gsa) THAT YtoaoabnhkiijpaaProg.lean LOADS. Nothing in Lean hashes anything: it is a label: what it is worth is what the hold of that sum in a sandbox is worth. -/
noncomputable def Try.pinned : Pinned := { name := "ytoaoabnhkiijpaa", sum := "391f7d15f5c4d878f403d9df6674bdd7e13cd089ce8fc8def44ce012ad0a77b5", checked := Try.checked }
namespace Rows
def none {H : Type} : Left H := { results := [], args := [] }

/-- 'orloplaw04.ChachaBlocks': WHATEVER THE INPUT: true; the input reads as it did. -/
def chachaBlocksSpec : ChangeSpec := { name := "chachaBlocks", fn := fun _ => fun
  | [d1, d2, d3] => { results := [.lit (.bool true)], args := [d1, d2, d3] }
  | _ => none }
def chachaBlocksRow : OpenClaim := { program := "ytoaoabnhkiijpaa", sum := "391f7d15f5c4d878f403d9df6674bdd7e13cd089ce8fc8def44ce012ad0a77b5", func := "orlop/orloplaw04.ChachaBlocks", spec := "chachaBlocks", apart := false }
def ChachaBlocksSaid : Prop := chachaBlocksRow.holds Try.pinned (OpenSpec.ofChange chachaBlocksSpec)

/-- ITS FALSE NEIGHBOUR: 'it returns false'. Refute it at one input. -/
def chachaBlocksWrong : ChangeSpec := { name := "chachaBlocks", fn := fun _ => fun
  | [d1, d2, d3] => { results := [.lit (.bool false)], args := [d1, d2, d3] }
  | _ => none }
def ChachaBlocksWrongFalsely : Prop := chachaBlocksRow.holds Try.pinned (OpenSpec.ofChange chachaBlocksWrong)

/-- 'orloplaw04.ChachaTexts': WHATEVER THE INPUT: true; the input reads as it did. -/
def chachaTextsSpec : ChangeSpec := { name := "chachaTexts", fn := fun _ => fun
  | [d] => { results := [.lit (.bool true)], args := [d] }
  | _ => none }
def chachaTextsRow : OpenClaim := { program := "ytoaoabnhkiijpaa", sum := "391f7d15f5c4d878f403d9df6674bdd7e13cd089ce8fc8def44ce012ad0a77b5", func := "orlop/orloplaw04.ChachaTexts", spec := "chachaTexts", apart := false }
def ChachaTextsSaid : Prop := chachaTextsRow.holds Try.pinned (OpenSpec.ofChange chachaTextsSpec)

/-- ITS FALSE NEIGHBOUR: 'it returns false'. Refute it at one input. -/
def chachaTextsWrong : ChangeSpec := { name := "chachaTexts", fn := fun _ => fun
  | [d] => { results := [.lit (.bool false)], args := [d] }
  | _ => none }
def ChachaTextsWrongFalsely : Prop := chachaTextsRow.holds Try.pinned (OpenSpec.ofChange chachaTextsWrong)

/-- 'orloplaw04.ChachaParts': WHATEVER THE INPUT: true; the input reads as it did. -/
def chachaPartsSpec : ChangeSpec := { name := "chachaParts", fn := fun _ => fun
  | [d1, d2] => { results := [.lit (.bool true)], args := [d1, d2] }
  | _ => none }
def chachaPartsRow : OpenClaim := { program := "ytoaoabnhkiijpaa", sum := "391f7d15f5c4d878f403d9df6674bdd7e13cd089ce8fc8def44ce012ad0a77b5", func := "orlop/orloplaw04.ChachaParts", spec := "chachaParts", apart := false }
def ChachaPartsSaid : Prop := chachaPartsRow.holds Try.pinned (OpenSpec.ofChange chachaPartsSpec)

/-- ITS FALSE NEIGHBOUR: 'it returns false'. Refute it at one input. -/
def chachaPartsWrong : ChangeSpec := { name := "chachaParts", fn := fun _ => fun
  | [d1, d2] => { results := [.lit (.bool false)], args := [d1, d2] }
  | _ => none }
def ChachaPartsWrongFalsely : Prop := chachaPartsRow.holds Try.pinned (OpenSpec.ofChange chachaPartsWrong)

/-- 'orloplaw04.ChachaStream': WHATEVER THE INPUT: true; the input reads as it did. -/
def chachaStreamSpec : ChangeSpec := { name := "chachaStream", fn := fun _ => fun
  | [d1, d2] => { results := [.lit (.bool true)], args := [d1, d2] }
  | _ => none }
def chachaStreamRow : OpenClaim := { program := "ytoaoabnhkiijpaa", sum := "391f7d15f5c4d878f403d9df6674bdd7e13cd089ce8fc8def44ce012ad0a77b5", func := "orlop/orloplaw04.ChachaStream", spec := "chachaStream", apart := false }
def ChachaStreamSaid : Prop := chachaStreamRow.holds Try.pinned (OpenSpec.ofChange chachaStreamSpec)

/-- ITS FALSE NEIGHBOUR: 'it returns false'. Refute it at one input. -/
def chachaStreamWrong : ChangeSpec := { name := "chachaStream", fn := fun _ => fun
  | [d1, d2] => { results := [.lit (.bool false)], args := [d1, d2] }
  | _ => none }
def ChachaStreamWrongFalsely : Prop := chachaStreamRow.holds Try.pinned (OpenSpec.ofChange chachaStreamWrong)

/-- 'orloplaw02.ShaDigests': WHATEVER THE INPUT: true; the input reads as it did. -/
def shaDigestsSpec : ChangeSpec := { name := "shaDigests", fn := fun _ => fun
  | [d] => { results := [.lit (.bool true)], args := [d] }
  | _ => none }
def shaDigestsRow : OpenClaim := { program := "ytoaoabnhkiijpaa", sum := "391f7d15f5c4d878f403d9df6674bdd7e13cd089ce8fc8def44ce012ad0a77b5", func := "orlop/orloplaw02.ShaDigests", spec := "shaDigests", apart := false }
def ShaDigestsSaid : Prop := shaDigestsRow.holds Try.pinned (OpenSpec.ofChange shaDigestsSpec)

/-- ITS FALSE NEIGHBOUR: 'it returns false'. Refute it at one input. -/
def shaDigestsWrong : ChangeSpec := { name := "shaDigests", fn := fun _ => fun
  | [d] => { results := [.lit (.bool false)], args := [d] }
  | _ => none }
def ShaDigestsWrongFalsely : Prop := shaDigestsRow.holds Try.pinned (OpenSpec.ofChange shaDigestsWrong)

/-- 'orloplaw02.ShaParts': WHATEVER THE INPUT: true; the input reads as it did. -/
def shaPartsSpec : ChangeSpec := { name := "shaParts", fn := fun _ => fun
  | [d] => { results := [.lit (.bool true)], args := [d] }
  | _ => none }
def shaPartsRow : OpenClaim := { program := "ytoaoabnhkiijpaa", sum := "391f7d15f5c4d878f403d9df6674bdd7e13cd089ce8fc8def44ce012ad0a77b5", func := "orlop/orloplaw02.ShaParts", spec := "shaParts", apart := false }
def ShaPartsSaid : Prop := shaPartsRow.holds Try.pinned (OpenSpec.ofChange shaPartsSpec)

/-- ITS FALSE NEIGHBOUR: 'it returns false'. Refute it at one input. -/
def shaPartsWrong : ChangeSpec := { name := "shaParts", fn := fun _ => fun
  | [d] => { results := [.lit (.bool false)], args := [d] }
  | _ => none }
def ShaPartsWrongFalsely : Prop := shaPartsRow.holds Try.pinned (OpenSpec.ofChange shaPartsWrong)

/-- 'orloplaw02.ShaEnds': WHATEVER THE INPUT: true; the input reads as it did. -/
def shaEndsSpec : ChangeSpec := { name := "shaEnds", fn := fun _ => fun
  | [d1, d2] => { results := [.lit (.bool true)], args := [d1, d2] }
  | _ => none }
def shaEndsRow : OpenClaim := { program := "ytoaoabnhkiijpaa", sum := "391f7d15f5c4d878f403d9df6674bdd7e13cd089ce8fc8def44ce012ad0a77b5", func := "orlop/orloplaw02.ShaEnds", spec := "shaEnds", apart := false }
def ShaEndsSaid : Prop := shaEndsRow.holds Try.pinned (OpenSpec.ofChange shaEndsSpec)

/-- ITS FALSE NEIGHBOUR: 'it returns false'. Refute it at one input. -/
def shaEndsWrong : ChangeSpec := { name := "shaEnds", fn := fun _ => fun
  | [d1, d2] => { results := [.lit (.bool false)], args := [d1, d2] }
  | _ => none }
def ShaEndsWrongFalsely : Prop := shaEndsRow.holds Try.pinned (OpenSpec.ofChange shaEndsWrong)

/-- 'orloplaw02.ShaApart': WHATEVER THE INPUT: true; the input reads as it did. -/
def shaApartSpec : ChangeSpec := { name := "shaApart", fn := fun _ => fun
  | [d1, d2] => { results := [.lit (.bool true)], args := [d1, d2] }
  | _ => none }
def shaApartRow : OpenClaim := { program := "ytoaoabnhkiijpaa", sum := "391f7d15f5c4d878f403d9df6674bdd7e13cd089ce8fc8def44ce012ad0a77b5", func := "orlop/orloplaw02.ShaApart", spec := "shaApart", apart := false }
def ShaApartSaid : Prop := shaApartRow.holds Try.pinned (OpenSpec.ofChange shaApartSpec)

/-- ITS FALSE NEIGHBOUR: 'it returns false'. Refute it at one input. -/
def shaApartWrong : ChangeSpec := { name := "shaApart", fn := fun _ => fun
  | [d1, d2] => { results := [.lit (.bool false)], args := [d1, d2] }
  | _ => none }
def ShaApartWrongFalsely : Prop := shaApartRow.holds Try.pinned (OpenSpec.ofChange shaApartWrong)

/-- 'orloplaw05.PolyTags': WHATEVER THE INPUT: true; the input reads as it did. -/
def polyTagsSpec : ChangeSpec := { name := "polyTags", fn := fun _ => fun
  | [d1, d2] => { results := [.lit (.bool true)], args := [d1, d2] }
  | _ => none }
def polyTagsRow : OpenClaim := { program := "ytoaoabnhkiijpaa", sum := "391f7d15f5c4d878f403d9df6674bdd7e13cd089ce8fc8def44ce012ad0a77b5", func := "orlop/orloplaw05.PolyTags", spec := "polyTags", unfollowed := true, recurses := true, apart := false }
def PolyTagsSaid : Prop := polyTagsRow.holds Try.pinned (OpenSpec.ofChange polyTagsSpec)

/-- ITS FALSE NEIGHBOUR: 'it returns false'. Refute it at one input. -/
def polyTagsWrong : ChangeSpec := { name := "polyTags", fn := fun _ => fun
  | [d1, d2] => { results := [.lit (.bool false)], args := [d1, d2] }
  | _ => none }
def PolyTagsWrongFalsely : Prop := polyTagsRow.holds Try.pinned (OpenSpec.ofChange polyTagsWrong)

/-- 'orloplaw05.PolyEnds': WHATEVER THE INPUT: true; the input reads as it did. -/
def polyEndsSpec : ChangeSpec := { name := "polyEnds", fn := fun _ => fun
  | [d1, d2, d3] => { results := [.lit (.bool true)], args := [d1, d2, d3] }
  | _ => none }
def polyEndsRow : OpenClaim := { program := "ytoaoabnhkiijpaa", sum := "391f7d15f5c4d878f403d9df6674bdd7e13cd089ce8fc8def44ce012ad0a77b5", func := "orlop/orloplaw05.PolyEnds", spec := "polyEnds", unfollowed := true, recurses := true, apart := false }
def PolyEndsSaid : Prop := polyEndsRow.holds Try.pinned (OpenSpec.ofChange polyEndsSpec)

/-- ITS FALSE NEIGHBOUR: 'it returns false'. Refute it at one input. -/
def polyEndsWrong : ChangeSpec := { name := "polyEnds", fn := fun _ => fun
  | [d1, d2, d3] => { results := [.lit (.bool false)], args := [d1, d2, d3] }
  | _ => none }
def PolyEndsWrongFalsely : Prop := polyEndsRow.holds Try.pinned (OpenSpec.ofChange polyEndsWrong)

/-- 'orloplaw05.PolyPlain': WHATEVER THE INPUT: true; the input reads as it did. -/
def polyPlainSpec : ChangeSpec := { name := "polyPlain", fn := fun _ => fun
  | [d1, d2, d3] => { results := [.lit (.bool true)], args := [d1, d2, d3] }
  | _ => none }
def polyPlainRow : OpenClaim := { program := "ytoaoabnhkiijpaa", sum := "391f7d15f5c4d878f403d9df6674bdd7e13cd089ce8fc8def44ce012ad0a77b5", func := "orlop/orloplaw05.PolyPlain", spec := "polyPlain", unfollowed := true, recurses := true, apart := false }
def PolyPlainSaid : Prop := polyPlainRow.holds Try.pinned (OpenSpec.ofChange polyPlainSpec)

/-- ITS FALSE NEIGHBOUR: 'it returns false'. Refute it at one input. -/
def polyPlainWrong : ChangeSpec := { name := "polyPlain", fn := fun _ => fun
  | [d1, d2, d3] => { results := [.lit (.bool false)], args := [d1, d2, d3] }
  | _ => none }
def PolyPlainWrongFalsely : Prop := polyPlainRow.holds Try.pinned (OpenSpec.ofChange polyPlainWrong)

/-- 'orloplaw05.PolyLoose': WHATEVER THE INPUT: true; the input reads as it did. -/
def polyLooseSpec : ChangeSpec := { name := "polyLoose", fn := fun _ => fun
  | [d1, d2, d3] => { results := [.lit (.bool true)], args := [d1, d2, d3] }
  | _ => none }
def polyLooseRow : OpenClaim := { program := "ytoaoabnhkiijpaa", sum := "391f7d15f5c4d878f403d9df6674bdd7e13cd089ce8fc8def44ce012ad0a77b5", func := "orlop/orloplaw05.PolyLoose", spec := "polyLoose", unfollowed := true, recurses := true, apart := false }
def PolyLooseSaid : Prop := polyLooseRow.holds Try.pinned (OpenSpec.ofChange polyLooseSpec)

/-- ITS FALSE NEIGHBOUR: 'it returns false'. Refute it at one input. -/
def polyLooseWrong : ChangeSpec := { name := "polyLoose", fn := fun _ => fun
  | [d1, d2, d3] => { results := [.lit (.bool false)], args := [d1, d2, d3] }
  | _ => none }
def PolyLooseWrongFalsely : Prop := polyLooseRow.holds Try.pinned (OpenSpec.ofChange polyLooseWrong)

/- THE SECOND FORM. 'bulk': how many values and letters a reading holds, each counted each time it is reached (what is shared counts as often as it is met; a slice's spare places count too). A statement '..UptoSaid' is the law's where the arguments, and the package variables that the reading takes, are together of bulk at most 1048576: NARROWER than '..Said'. Prove '..Said' where nothing that the law and all that it calls make is longer than what came in: it says more and counts as full. Else prove '..UptoSaid'. A law counts once. -/
mutual
def uptoBulk {H : Type} : DataW H → Nat
  | .lit (.string bytes) => bytes.length + 1
  | .lit _ => 1
  | .nil => 1
  | .ptr d => uptoBulk d + 1
  | .slice elems spare => uptoBulkAll elems + uptoBulkAll spare + 1
  | .agg parts => uptoBulkAll parts + 1
  | .iface _ d => uptoBulk d + 1
  | .map entries => uptoBulkEntries entries + 1
  | .held _ => 1
def uptoBulkAll {H : Type} : List (DataW H) → Nat
  | [] => 0
  | d :: r => uptoBulk d + uptoBulkAll r
def uptoBulkEntries {H : Type} : List (Lit × DataW H) → Nat
  | [] => 0
  | x :: r => uptoBulkEntry x + uptoBulkEntries r
def uptoBulkEntry {H : Type} : Lit × DataW H → Nat
  | (.string bytes, d) => bytes.length + uptoBulk d + 1
  | (_, d) => uptoBulk d + 1
 end
def uptoSmall : (H : Type) → List (DataW H) → Bool := fun _ ds => decide (uptoBulkAll ds ≤ 1048576)
def OpenSpec.upto (s : _root_.Go.ChangeSpec) : _root_.Go.OpenSpec := { _root_.Go.OpenSpec.ofChange s with cond := some uptoSmall }

/-- 'orloplaw04.ChachaBlocks', WHERE WHAT IT READS IS OF BULK AT MOST 1048576: true; the input reads as it did. -/
def chachaBlocksUptoRow : OpenClaim := { program := "ytoaoabnhkiijpaa", sum := "391f7d15f5c4d878f403d9df6674bdd7e13cd089ce8fc8def44ce012ad0a77b5", func := "orlop/orloplaw04.ChachaBlocks", spec := "chachaBlocks", apart := false, narrowed := true }
def ChachaBlocksUptoSaid : Prop := chachaBlocksUptoRow.holds Try.pinned (OpenSpec.upto chachaBlocksSpec)

/-- 'orloplaw04.ChachaTexts', WHERE WHAT IT READS IS OF BULK AT MOST 1048576: true; the input reads as it did. -/
def chachaTextsUptoRow : OpenClaim := { program := "ytoaoabnhkiijpaa", sum := "391f7d15f5c4d878f403d9df6674bdd7e13cd089ce8fc8def44ce012ad0a77b5", func := "orlop/orloplaw04.ChachaTexts", spec := "chachaTexts", apart := false, narrowed := true }
def ChachaTextsUptoSaid : Prop := chachaTextsUptoRow.holds Try.pinned (OpenSpec.upto chachaTextsSpec)

/-- 'orloplaw04.ChachaParts', WHERE WHAT IT READS IS OF BULK AT MOST 1048576: true; the input reads as it did. -/
def chachaPartsUptoRow : OpenClaim := { program := "ytoaoabnhkiijpaa", sum := "391f7d15f5c4d878f403d9df6674bdd7e13cd089ce8fc8def44ce012ad0a77b5", func := "orlop/orloplaw04.ChachaParts", spec := "chachaParts", apart := false, narrowed := true }
def ChachaPartsUptoSaid : Prop := chachaPartsUptoRow.holds Try.pinned (OpenSpec.upto chachaPartsSpec)

/-- 'orloplaw04.ChachaStream', WHERE WHAT IT READS IS OF BULK AT MOST 1048576: true; the input reads as it did. -/
def chachaStreamUptoRow : OpenClaim := { program := "ytoaoabnhkiijpaa", sum := "391f7d15f5c4d878f403d9df6674bdd7e13cd089ce8fc8def44ce012ad0a77b5", func := "orlop/orloplaw04.ChachaStream", spec := "chachaStream", apart := false, narrowed := true }
def ChachaStreamUptoSaid : Prop := chachaStreamUptoRow.holds Try.pinned (OpenSpec.upto chachaStreamSpec)

/-- 'orloplaw02.ShaDigests', WHERE WHAT IT READS IS OF BULK AT MOST 1048576: true; the input reads as it did. -/
def shaDigestsUptoRow : OpenClaim := { program := "ytoaoabnhkiijpaa", sum := "391f7d15f5c4d878f403d9df6674bdd7e13cd089ce8fc8def44ce012ad0a77b5", func := "orlop/orloplaw02.ShaDigests", spec := "shaDigests", apart := false, narrowed := true }
def ShaDigestsUptoSaid : Prop := shaDigestsUptoRow.holds Try.pinned (OpenSpec.upto shaDigestsSpec)

/-- 'orloplaw02.ShaParts', WHERE WHAT IT READS IS OF BULK AT MOST 1048576: true; the input reads as it did. -/
def shaPartsUptoRow : OpenClaim := { program := "ytoaoabnhkiijpaa", sum := "391f7d15f5c4d878f403d9df6674bdd7e13cd089ce8fc8def44ce012ad0a77b5", func := "orlop/orloplaw02.ShaParts", spec := "shaParts", apart := false, narrowed := true }
def ShaPartsUptoSaid : Prop := shaPartsUptoRow.holds Try.pinned (OpenSpec.upto shaPartsSpec)

/-- 'orloplaw02.ShaEnds', WHERE WHAT IT READS IS OF BULK AT MOST 1048576: true; the input reads as it did. -/
def shaEndsUptoRow : OpenClaim := { program := "ytoaoabnhkiijpaa", sum := "391f7d15f5c4d878f403d9df6674bdd7e13cd089ce8fc8def44ce012ad0a77b5", func := "orlop/orloplaw02.ShaEnds", spec := "shaEnds", apart := false, narrowed := true }
def ShaEndsUptoSaid : Prop := shaEndsUptoRow.holds Try.pinned (OpenSpec.upto shaEndsSpec)

/-- 'orloplaw02.ShaApart', WHERE WHAT IT READS IS OF BULK AT MOST 1048576: true; the input reads as it did. -/
def shaApartUptoRow : OpenClaim := { program := "ytoaoabnhkiijpaa", sum := "391f7d15f5c4d878f403d9df6674bdd7e13cd089ce8fc8def44ce012ad0a77b5", func := "orlop/orloplaw02.ShaApart", spec := "shaApart", apart := false, narrowed := true }
def ShaApartUptoSaid : Prop := shaApartUptoRow.holds Try.pinned (OpenSpec.upto shaApartSpec)

/-- 'orloplaw05.PolyTags', WHERE WHAT IT READS IS OF BULK AT MOST 1048576: true; the input reads as it did. -/
def polyTagsUptoRow : OpenClaim := { program := "ytoaoabnhkiijpaa", sum := "391f7d15f5c4d878f403d9df6674bdd7e13cd089ce8fc8def44ce012ad0a77b5", func := "orlop/orloplaw05.PolyTags", spec := "polyTags", unfollowed := true, recurses := true, apart := false, narrowed := true }
def PolyTagsUptoSaid : Prop := polyTagsUptoRow.holds Try.pinned (OpenSpec.upto polyTagsSpec)

/-- 'orloplaw05.PolyEnds', WHERE WHAT IT READS IS OF BULK AT MOST 1048576: true; the input reads as it did. -/
def polyEndsUptoRow : OpenClaim := { program := "ytoaoabnhkiijpaa", sum := "391f7d15f5c4d878f403d9df6674bdd7e13cd089ce8fc8def44ce012ad0a77b5", func := "orlop/orloplaw05.PolyEnds", spec := "polyEnds", unfollowed := true, recurses := true, apart := false, narrowed := true }
def PolyEndsUptoSaid : Prop := polyEndsUptoRow.holds Try.pinned (OpenSpec.upto polyEndsSpec)

/-- 'orloplaw05.PolyPlain', WHERE WHAT IT READS IS OF BULK AT MOST 1048576: true; the input reads as it did. -/
def polyPlainUptoRow : OpenClaim := { program := "ytoaoabnhkiijpaa", sum := "391f7d15f5c4d878f403d9df6674bdd7e13cd089ce8fc8def44ce012ad0a77b5", func := "orlop/orloplaw05.PolyPlain", spec := "polyPlain", unfollowed := true, recurses := true, apart := false, narrowed := true }
def PolyPlainUptoSaid : Prop := polyPlainUptoRow.holds Try.pinned (OpenSpec.upto polyPlainSpec)

/-- 'orloplaw05.PolyLoose', WHERE WHAT IT READS IS OF BULK AT MOST 1048576: true; the input reads as it did. -/
def polyLooseUptoRow : OpenClaim := { program := "ytoaoabnhkiijpaa", sum := "391f7d15f5c4d878f403d9df6674bdd7e13cd089ce8fc8def44ce012ad0a77b5", func := "orlop/orloplaw05.PolyLoose", spec := "polyLoose", unfollowed := true, recurses := true, apart := false, narrowed := true }
def PolyLooseUptoSaid : Prop := polyLooseUptoRow.holds Try.pinned (OpenSpec.upto polyLooseSpec)

end Rows
end Go.Proofs.Ytoaoabnhkiijpaa
