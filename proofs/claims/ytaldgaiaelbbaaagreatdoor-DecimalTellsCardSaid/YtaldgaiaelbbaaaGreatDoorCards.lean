/-
  DERIVED. GIVEN WITH THE SEED: THE CARDS: each row of YtaldgaiaelbbaaaGreatDoorRows.lean that lists a variable, with what it lists TIED to the program's text (the seventh form; the later family's looks); each row that meets fmt, with fmt's text TOLD by the authors' own Lean function (tested against real Go, not proved from fmt's source: count such statements apart). THE CARD IS WHAT COUNTS. Prove the row's statement (the work); the ties are given (YtaldgaiaelbbaaaGreatDoorTie.lean); close each card by the builder's one call (the guide's Derived/Test/ToyasCard.lean, 'card_holds'). Laid BY PROGRAM, IN A SANDBOX (cutbox-door.mjs). By AI agents, Wed Nov 11 2026. No macro, syntax, notation, axiom, sorry.
-/
import Derived.Test.YtaldgaiaelbbaaaGreatDoorRows
import GoSem.ClaimSeven
namespace Go.Proofs.YtaldgaiaelbbaaaGreatDoor
namespace Rows

/-- THE TIED CARD OF 'debenturelaw04.DecimalTells'. -/
def decimalTellsCard : Claim7 := { stood := { row := decimalTellsRow, standIns := [], harness := (true, "7cb6501bafc06cc91aafe2374194aa0798d8fb540c1ff8bc3088fb97c665b41a"), looks := true }, kinds := [], alts := [], laidByText := true, laidKinds := [.data, .data, .data, .data, .sentinel, .sentinel, .pinned], laidTests := true, laidLooks := .later }
def DecimalTellsCardSaid : Prop := Claim7.holds Tryz.pinned (.plain (OpenSpec.ofChange decimalTellsSpec)) decimalTellsCard

/-- THE TIED CARD OF 'debenturelaw04.DecimalBack'. -/
def decimalBackCard : Claim7 := { stood := { row := decimalBackRow, standIns := [], harness := (true, "7cb6501bafc06cc91aafe2374194aa0798d8fb540c1ff8bc3088fb97c665b41a"), looks := true }, kinds := [], alts := [], laidByText := true, laidKinds := [.data, .data, .data, .data, .sentinel, .sentinel, .pinned], laidTests := true, laidLooks := .later }
def DecimalBackCardSaid : Prop := Claim7.holds Tryz.pinned (.plain (OpenSpec.ofChange decimalBackSpec)) decimalBackCard

/-- THE TIED CARD OF 'debenturelaw04.DecimalPlaces'. -/
def decimalPlacesCard : Claim7 := { stood := { row := decimalPlacesRow, standIns := [], harness := (true, "7cb6501bafc06cc91aafe2374194aa0798d8fb540c1ff8bc3088fb97c665b41a"), looks := true }, kinds := [], alts := [], laidByText := true, laidKinds := [.data, .data, .data, .data, .sentinel, .sentinel, .pinned], laidTests := true, laidLooks := .later }
def DecimalPlacesCardSaid : Prop := Claim7.holds Tryz.pinned (.plain (OpenSpec.ofChange decimalPlacesSpec)) decimalPlacesCard

/-- THE TIED CARD OF 'debenturelaw04.DecimalParts'. -/
def decimalPartsCard : Claim7 := { stood := { row := decimalPartsRow, standIns := [], harness := (true, "7cb6501bafc06cc91aafe2374194aa0798d8fb540c1ff8bc3088fb97c665b41a"), looks := true }, kinds := [], alts := [], laidByText := true, laidKinds := [.data, .data, .data, .data, .sentinel, .sentinel, .pinned], laidTests := true, laidLooks := .later }
def DecimalPartsCardSaid : Prop := Claim7.holds Tryz.pinned (.plain (OpenSpec.ofChange decimalPartsSpec)) decimalPartsCard

/-- THE TIED CARD OF 'debenturelaw04.DecimalWhole'. -/
def decimalWholeCard : Claim7 := { stood := { row := decimalWholeRow, standIns := [], harness := (true, "7cb6501bafc06cc91aafe2374194aa0798d8fb540c1ff8bc3088fb97c665b41a"), looks := true }, kinds := [], alts := [], laidByText := true, laidKinds := [.data, .data, .data, .data, .sentinel, .sentinel, .pinned], laidTests := true, laidLooks := .later }
def DecimalWholeCardSaid : Prop := Claim7.holds Tryz.pinned (.plain (OpenSpec.ofChange decimalWholeSpec)) decimalWholeCard

/-- THE SECOND FORM's CARD OF 'debenturelaw04.DecimalTells'. -/
def decimalTellsUptoCard : Claim7 := { stood := { row := decimalTellsUptoRow, standIns := [], harness := (true, "7cb6501bafc06cc91aafe2374194aa0798d8fb540c1ff8bc3088fb97c665b41a"), looks := true }, kinds := [], alts := [], laidByText := true, laidKinds := [.data, .data, .data, .data, .sentinel, .sentinel, .pinned], laidTests := true, laidLooks := .later }
def DecimalTellsUptoCardSaid : Prop := Claim7.holds Tryz.pinned (.plain (OpenSpec.upto decimalTellsSpec)) decimalTellsUptoCard

/-- THE SECOND FORM's CARD OF 'debenturelaw04.DecimalBack'. -/
def decimalBackUptoCard : Claim7 := { stood := { row := decimalBackUptoRow, standIns := [], harness := (true, "7cb6501bafc06cc91aafe2374194aa0798d8fb540c1ff8bc3088fb97c665b41a"), looks := true }, kinds := [], alts := [], laidByText := true, laidKinds := [.data, .data, .data, .data, .sentinel, .sentinel, .pinned], laidTests := true, laidLooks := .later }
def DecimalBackUptoCardSaid : Prop := Claim7.holds Tryz.pinned (.plain (OpenSpec.upto decimalBackSpec)) decimalBackUptoCard

/-- THE SECOND FORM's CARD OF 'debenturelaw04.DecimalPlaces'. -/
def decimalPlacesUptoCard : Claim7 := { stood := { row := decimalPlacesUptoRow, standIns := [], harness := (true, "7cb6501bafc06cc91aafe2374194aa0798d8fb540c1ff8bc3088fb97c665b41a"), looks := true }, kinds := [], alts := [], laidByText := true, laidKinds := [.data, .data, .data, .data, .sentinel, .sentinel, .pinned], laidTests := true, laidLooks := .later }
def DecimalPlacesUptoCardSaid : Prop := Claim7.holds Tryz.pinned (.plain (OpenSpec.upto decimalPlacesSpec)) decimalPlacesUptoCard

/-- THE SECOND FORM's CARD OF 'debenturelaw04.DecimalParts'. -/
def decimalPartsUptoCard : Claim7 := { stood := { row := decimalPartsUptoRow, standIns := [], harness := (true, "7cb6501bafc06cc91aafe2374194aa0798d8fb540c1ff8bc3088fb97c665b41a"), looks := true }, kinds := [], alts := [], laidByText := true, laidKinds := [.data, .data, .data, .data, .sentinel, .sentinel, .pinned], laidTests := true, laidLooks := .later }
def DecimalPartsUptoCardSaid : Prop := Claim7.holds Tryz.pinned (.plain (OpenSpec.upto decimalPartsSpec)) decimalPartsUptoCard

/-- THE SECOND FORM's CARD OF 'debenturelaw04.DecimalWhole'. -/
def decimalWholeUptoCard : Claim7 := { stood := { row := decimalWholeUptoRow, standIns := [], harness := (true, "7cb6501bafc06cc91aafe2374194aa0798d8fb540c1ff8bc3088fb97c665b41a"), looks := true }, kinds := [], alts := [], laidByText := true, laidKinds := [.data, .data, .data, .data, .sentinel, .sentinel, .pinned], laidTests := true, laidLooks := .later }
def DecimalWholeUptoCardSaid : Prop := Claim7.holds Tryz.pinned (.plain (OpenSpec.upto decimalWholeSpec)) decimalWholeUptoCard
end Rows
end Go.Proofs.YtaldgaiaelbbaaaGreatDoor
