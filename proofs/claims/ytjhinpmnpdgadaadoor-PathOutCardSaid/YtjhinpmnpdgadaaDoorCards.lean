/-
  DERIVED. GIVEN WITH THE SEED: THE CARDS: each row of YtjhinpmnpdgadaaDoorRows.lean that lists a variable, with what it lists TIED to the program's text (the seventh form; the later family's looks); each row that meets fmt, with fmt's text TOLD by the authors' own Lean function (tested against real Go, not proved from fmt's source: count such statements apart). THE CARD IS WHAT COUNTS. Prove the row's statement (the work); the ties are given (YtjhinpmnpdgadaaDoorTie.lean); close each card by the builder's one call (the guide's Derived/Test/ToyasCard.lean, 'card_holds'). Laid BY PROGRAM, IN A SANDBOX (cutbox-door.mjs). By AI agents, Wed Nov 11 2026. No macro, syntax, notation, axiom, sorry.
-/
import Derived.Test.YtjhinpmnpdgadaaDoorRows
import GoSem.ClaimSeven
namespace Go.Proofs.YtjhinpmnpdgadaaDoor
namespace Rows

/-- THE TIED CARD OF 'orloplaw14.B64Texts'. -/
def b64TextsCard : Claim7 := { stood := { row := b64TextsRow, standIns := [], harness := (true, "50707ef2aaf918b76ad6619788bdae382d5f7e93efe0cc4af8bec00cb9abbf8d"), looks := false }, kinds := [], alts := [], laidByText := true, laidKinds := [.data, .pinned], laidTests := true, laidLooks := .later }
def B64TextsCardSaid : Prop := Claim7.holds Tryd.pinned (.plain (OpenSpec.ofChange b64TextsSpec)) b64TextsCard

/-- THE TIED CARD OF 'orloplaw14.B64Reads'. -/
def b64ReadsCard : Claim7 := { stood := { row := b64ReadsRow, standIns := [], harness := (true, "50707ef2aaf918b76ad6619788bdae382d5f7e93efe0cc4af8bec00cb9abbf8d"), looks := false }, kinds := [], alts := [], laidByText := true, laidKinds := [.data, .pinned], laidTests := true, laidLooks := .later }
def B64ReadsCardSaid : Prop := Claim7.holds Tryd.pinned (.plain (OpenSpec.ofChange b64ReadsSpec)) b64ReadsCard

/-- THE TIED CARD OF 'orloplaw14.B64Joins'. -/
def b64JoinsCard : Claim7 := { stood := { row := b64JoinsRow, standIns := [], harness := (true, "50707ef2aaf918b76ad6619788bdae382d5f7e93efe0cc4af8bec00cb9abbf8d"), looks := false }, kinds := [], alts := [], laidByText := true, laidKinds := [.data, .pinned], laidTests := true, laidLooks := .later }
def B64JoinsCardSaid : Prop := Claim7.holds Tryd.pinned (.plain (OpenSpec.ofChange b64JoinsSpec)) b64JoinsCard

/-- THE TIED CARD OF 'orloplaw14.B64Turned'. -/
def b64TurnedCard : Claim7 := { stood := { row := b64TurnedRow, standIns := [], harness := (true, "50707ef2aaf918b76ad6619788bdae382d5f7e93efe0cc4af8bec00cb9abbf8d"), looks := false }, kinds := [], alts := [], laidByText := true, laidKinds := [.data, .pinned], laidTests := true, laidLooks := .later }
def B64TurnedCardSaid : Prop := Claim7.holds Tryd.pinned (.plain (OpenSpec.ofChange b64TurnedSpec)) b64TurnedCard

/-- THE TIED CARD OF 'orloplaw20.PathParts'. -/
def pathPartsCard : Claim7 := { stood := { row := pathPartsRow, standIns := [], harness := (true, "50707ef2aaf918b76ad6619788bdae382d5f7e93efe0cc4af8bec00cb9abbf8d"), looks := false }, kinds := [], alts := [], laidByText := true, laidKinds := [.data, .pinned], laidTests := true, laidLooks := .later }
def PathPartsCardSaid : Prop := Claim7.holds Tryd.pinned (.plain (OpenSpec.ofChange pathPartsSpec)) pathPartsCard

/-- THE TIED CARD OF 'orloplaw20.PathWhite'. -/
def pathWhiteCard : Claim7 := { stood := { row := pathWhiteRow, standIns := [], harness := (true, "50707ef2aaf918b76ad6619788bdae382d5f7e93efe0cc4af8bec00cb9abbf8d"), looks := false }, kinds := [], alts := [], laidByText := true, laidKinds := [.data, .pinned], laidTests := true, laidLooks := .later }
def PathWhiteCardSaid : Prop := Claim7.holds Tryd.pinned (.plain (OpenSpec.ofChange pathWhiteSpec)) pathWhiteCard

/-- THE TIED CARD OF 'orloplaw20.PathOut'. -/
def pathOutCard : Claim7 := { stood := { row := pathOutRow, standIns := [], harness := (true, "50707ef2aaf918b76ad6619788bdae382d5f7e93efe0cc4af8bec00cb9abbf8d"), looks := false }, kinds := [], alts := [], laidByText := true, laidKinds := [.data, .pinned], laidTests := true, laidLooks := .later }
def PathOutCardSaid : Prop := Claim7.holds Tryd.pinned (.plain (OpenSpec.ofChange pathOutSpec)) pathOutCard

/-- THE TIED CARD OF 'orloplaw20.PathLoose'. -/
def pathLooseCard : Claim7 := { stood := { row := pathLooseRow, standIns := [], harness := (true, "50707ef2aaf918b76ad6619788bdae382d5f7e93efe0cc4af8bec00cb9abbf8d"), looks := false }, kinds := [], alts := [], laidByText := true, laidKinds := [.data, .pinned], laidTests := true, laidLooks := .later }
def PathLooseCardSaid : Prop := Claim7.holds Tryd.pinned (.plain (OpenSpec.ofChange pathLooseSpec)) pathLooseCard

/-- THE SECOND FORM's CARD OF 'orloplaw14.B64Texts'. -/
def b64TextsUptoCard : Claim7 := { stood := { row := b64TextsUptoRow, standIns := [], harness := (true, "50707ef2aaf918b76ad6619788bdae382d5f7e93efe0cc4af8bec00cb9abbf8d"), looks := false }, kinds := [], alts := [], laidByText := true, laidKinds := [.data, .pinned], laidTests := true, laidLooks := .later }
def B64TextsUptoCardSaid : Prop := Claim7.holds Tryd.pinned (.plain (OpenSpec.upto b64TextsSpec)) b64TextsUptoCard

/-- THE SECOND FORM's CARD OF 'orloplaw14.B64Reads'. -/
def b64ReadsUptoCard : Claim7 := { stood := { row := b64ReadsUptoRow, standIns := [], harness := (true, "50707ef2aaf918b76ad6619788bdae382d5f7e93efe0cc4af8bec00cb9abbf8d"), looks := false }, kinds := [], alts := [], laidByText := true, laidKinds := [.data, .pinned], laidTests := true, laidLooks := .later }
def B64ReadsUptoCardSaid : Prop := Claim7.holds Tryd.pinned (.plain (OpenSpec.upto b64ReadsSpec)) b64ReadsUptoCard

/-- THE SECOND FORM's CARD OF 'orloplaw14.B64Joins'. -/
def b64JoinsUptoCard : Claim7 := { stood := { row := b64JoinsUptoRow, standIns := [], harness := (true, "50707ef2aaf918b76ad6619788bdae382d5f7e93efe0cc4af8bec00cb9abbf8d"), looks := false }, kinds := [], alts := [], laidByText := true, laidKinds := [.data, .pinned], laidTests := true, laidLooks := .later }
def B64JoinsUptoCardSaid : Prop := Claim7.holds Tryd.pinned (.plain (OpenSpec.upto b64JoinsSpec)) b64JoinsUptoCard

/-- THE SECOND FORM's CARD OF 'orloplaw14.B64Turned'. -/
def b64TurnedUptoCard : Claim7 := { stood := { row := b64TurnedUptoRow, standIns := [], harness := (true, "50707ef2aaf918b76ad6619788bdae382d5f7e93efe0cc4af8bec00cb9abbf8d"), looks := false }, kinds := [], alts := [], laidByText := true, laidKinds := [.data, .pinned], laidTests := true, laidLooks := .later }
def B64TurnedUptoCardSaid : Prop := Claim7.holds Tryd.pinned (.plain (OpenSpec.upto b64TurnedSpec)) b64TurnedUptoCard

/-- THE SECOND FORM's CARD OF 'orloplaw20.PathParts'. -/
def pathPartsUptoCard : Claim7 := { stood := { row := pathPartsUptoRow, standIns := [], harness := (true, "50707ef2aaf918b76ad6619788bdae382d5f7e93efe0cc4af8bec00cb9abbf8d"), looks := false }, kinds := [], alts := [], laidByText := true, laidKinds := [.data, .pinned], laidTests := true, laidLooks := .later }
def PathPartsUptoCardSaid : Prop := Claim7.holds Tryd.pinned (.plain (OpenSpec.upto pathPartsSpec)) pathPartsUptoCard

/-- THE SECOND FORM's CARD OF 'orloplaw20.PathWhite'. -/
def pathWhiteUptoCard : Claim7 := { stood := { row := pathWhiteUptoRow, standIns := [], harness := (true, "50707ef2aaf918b76ad6619788bdae382d5f7e93efe0cc4af8bec00cb9abbf8d"), looks := false }, kinds := [], alts := [], laidByText := true, laidKinds := [.data, .pinned], laidTests := true, laidLooks := .later }
def PathWhiteUptoCardSaid : Prop := Claim7.holds Tryd.pinned (.plain (OpenSpec.upto pathWhiteSpec)) pathWhiteUptoCard

/-- THE SECOND FORM's CARD OF 'orloplaw20.PathOut'. -/
def pathOutUptoCard : Claim7 := { stood := { row := pathOutUptoRow, standIns := [], harness := (true, "50707ef2aaf918b76ad6619788bdae382d5f7e93efe0cc4af8bec00cb9abbf8d"), looks := false }, kinds := [], alts := [], laidByText := true, laidKinds := [.data, .pinned], laidTests := true, laidLooks := .later }
def PathOutUptoCardSaid : Prop := Claim7.holds Tryd.pinned (.plain (OpenSpec.upto pathOutSpec)) pathOutUptoCard

/-- THE SECOND FORM's CARD OF 'orloplaw20.PathLoose'. -/
def pathLooseUptoCard : Claim7 := { stood := { row := pathLooseUptoRow, standIns := [], harness := (true, "50707ef2aaf918b76ad6619788bdae382d5f7e93efe0cc4af8bec00cb9abbf8d"), looks := false }, kinds := [], alts := [], laidByText := true, laidKinds := [.data, .pinned], laidTests := true, laidLooks := .later }
def PathLooseUptoCardSaid : Prop := Claim7.holds Tryd.pinned (.plain (OpenSpec.upto pathLooseSpec)) pathLooseUptoCard
end Rows
end Go.Proofs.YtjhinpmnpdgadaaDoor
