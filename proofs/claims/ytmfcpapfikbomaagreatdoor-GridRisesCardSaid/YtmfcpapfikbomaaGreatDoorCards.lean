/-
  DERIVED. GIVEN WITH THE SEED: THE CARDS: each row of YtmfcpapfikbomaaGreatDoorRows.lean that lists a variable, with what it lists TIED to the program's text (the seventh form; the later family's looks); each row that meets fmt, with fmt's text TOLD by the authors' own Lean function (tested against real Go, not proved from fmt's source: count such statements apart). THE CARD IS WHAT COUNTS. Prove the row's statement (the work); the ties are given (YtmfcpapfikbomaaGreatDoorTie.lean); close each card by the builder's one call (the guide's Derived/Test/ToyasCard.lean, 'card_holds'). Laid BY PROGRAM, IN A SANDBOX (cutbox-door.mjs). By AI agents, Wed Nov 11 2026. No macro, syntax, notation, axiom, sorry.
-/
import Derived.Test.YtmfcpapfikbomaaGreatDoorRows
import GoSem.ClaimSeven
namespace Go.Proofs.YtmfcpapfikbomaaGreatDoor
namespace Rows

/-- THE TIED CARD OF 'debenturelaw05.GridTells'. -/
def gridTellsCard : Claim7 := { stood := { row := gridTellsRow, standIns := [], harness := (true, "b3870cba59922883960d8a6bf06328dd79f9947c939392f4afc6c5f8b9def57b"), looks := true }, kinds := [], alts := [], laidByText := true, laidKinds := [.data, .data, .data, .sentinel, .sentinel], laidTests := true, laidLooks := .later }
def GridTellsCardSaid : Prop := Claim7.holds Tryz.pinned (.plain (OpenSpec.ofChange gridTellsSpec)) gridTellsCard

/-- THE TIED CARD OF 'debenturelaw05.GridNear'. -/
def gridNearCard : Claim7 := { stood := { row := gridNearRow, standIns := [], harness := (true, "b3870cba59922883960d8a6bf06328dd79f9947c939392f4afc6c5f8b9def57b"), looks := true }, kinds := [], alts := [], laidByText := true, laidKinds := [.data, .data, .data, .sentinel, .sentinel], laidTests := true, laidLooks := .later }
def GridNearCardSaid : Prop := Claim7.holds Tryz.pinned (.plain (OpenSpec.ofChange gridNearSpec)) gridNearCard

/-- THE TIED CARD OF 'debenturelaw05.GridRises'. -/
def gridRisesCard : Claim7 := { stood := { row := gridRisesRow, standIns := [], harness := (true, "b3870cba59922883960d8a6bf06328dd79f9947c939392f4afc6c5f8b9def57b"), looks := true }, kinds := [], alts := [], laidByText := true, laidKinds := [.data, .data, .data, .sentinel, .sentinel], laidTests := true, laidLooks := .later }
def GridRisesCardSaid : Prop := Claim7.holds Tryz.pinned (.plain (OpenSpec.ofChange gridRisesSpec)) gridRisesCard

/-- THE TIED CARD OF 'debenturelaw05.GridTwice'. -/
def gridTwiceCard : Claim7 := { stood := { row := gridTwiceRow, standIns := [], harness := (true, "b3870cba59922883960d8a6bf06328dd79f9947c939392f4afc6c5f8b9def57b"), looks := true }, kinds := [], alts := [], laidByText := true, laidKinds := [.data, .data, .data, .sentinel, .sentinel], laidTests := true, laidLooks := .later }
def GridTwiceCardSaid : Prop := Claim7.holds Tryz.pinned (.plain (OpenSpec.ofChange gridTwiceSpec)) gridTwiceCard

/-- THE TIED CARD OF 'debenturelaw05.GridHalves'. -/
def gridHalvesCard : Claim7 := { stood := { row := gridHalvesRow, standIns := [], harness := (true, "b3870cba59922883960d8a6bf06328dd79f9947c939392f4afc6c5f8b9def57b"), looks := true }, kinds := [], alts := [], laidByText := true, laidKinds := [.data, .data, .data, .sentinel, .sentinel], laidTests := true, laidLooks := .later }
def GridHalvesCardSaid : Prop := Claim7.holds Tryz.pinned (.plain (OpenSpec.ofChange gridHalvesSpec)) gridHalvesCard

/-- THE TIED CARD OF 'debenturelaw05.GridCents'. -/
def gridCentsCard : Claim7 := { stood := { row := gridCentsRow, standIns := [], harness := (true, "b3870cba59922883960d8a6bf06328dd79f9947c939392f4afc6c5f8b9def57b"), looks := true }, kinds := [], alts := [], laidByText := true, laidKinds := [.data, .data, .data, .sentinel, .sentinel], laidTests := true, laidLooks := .later }
def GridCentsCardSaid : Prop := Claim7.holds Tryz.pinned (.plain (OpenSpec.ofChange gridCentsSpec)) gridCentsCard

/-- THE SECOND FORM's CARD OF 'debenturelaw05.GridTells'. -/
def gridTellsUptoCard : Claim7 := { stood := { row := gridTellsUptoRow, standIns := [], harness := (true, "b3870cba59922883960d8a6bf06328dd79f9947c939392f4afc6c5f8b9def57b"), looks := true }, kinds := [], alts := [], laidByText := true, laidKinds := [.data, .data, .data, .sentinel, .sentinel], laidTests := true, laidLooks := .later }
def GridTellsUptoCardSaid : Prop := Claim7.holds Tryz.pinned (.plain (OpenSpec.upto gridTellsSpec)) gridTellsUptoCard

/-- THE SECOND FORM's CARD OF 'debenturelaw05.GridNear'. -/
def gridNearUptoCard : Claim7 := { stood := { row := gridNearUptoRow, standIns := [], harness := (true, "b3870cba59922883960d8a6bf06328dd79f9947c939392f4afc6c5f8b9def57b"), looks := true }, kinds := [], alts := [], laidByText := true, laidKinds := [.data, .data, .data, .sentinel, .sentinel], laidTests := true, laidLooks := .later }
def GridNearUptoCardSaid : Prop := Claim7.holds Tryz.pinned (.plain (OpenSpec.upto gridNearSpec)) gridNearUptoCard

/-- THE SECOND FORM's CARD OF 'debenturelaw05.GridRises'. -/
def gridRisesUptoCard : Claim7 := { stood := { row := gridRisesUptoRow, standIns := [], harness := (true, "b3870cba59922883960d8a6bf06328dd79f9947c939392f4afc6c5f8b9def57b"), looks := true }, kinds := [], alts := [], laidByText := true, laidKinds := [.data, .data, .data, .sentinel, .sentinel], laidTests := true, laidLooks := .later }
def GridRisesUptoCardSaid : Prop := Claim7.holds Tryz.pinned (.plain (OpenSpec.upto gridRisesSpec)) gridRisesUptoCard

/-- THE SECOND FORM's CARD OF 'debenturelaw05.GridTwice'. -/
def gridTwiceUptoCard : Claim7 := { stood := { row := gridTwiceUptoRow, standIns := [], harness := (true, "b3870cba59922883960d8a6bf06328dd79f9947c939392f4afc6c5f8b9def57b"), looks := true }, kinds := [], alts := [], laidByText := true, laidKinds := [.data, .data, .data, .sentinel, .sentinel], laidTests := true, laidLooks := .later }
def GridTwiceUptoCardSaid : Prop := Claim7.holds Tryz.pinned (.plain (OpenSpec.upto gridTwiceSpec)) gridTwiceUptoCard

/-- THE SECOND FORM's CARD OF 'debenturelaw05.GridHalves'. -/
def gridHalvesUptoCard : Claim7 := { stood := { row := gridHalvesUptoRow, standIns := [], harness := (true, "b3870cba59922883960d8a6bf06328dd79f9947c939392f4afc6c5f8b9def57b"), looks := true }, kinds := [], alts := [], laidByText := true, laidKinds := [.data, .data, .data, .sentinel, .sentinel], laidTests := true, laidLooks := .later }
def GridHalvesUptoCardSaid : Prop := Claim7.holds Tryz.pinned (.plain (OpenSpec.upto gridHalvesSpec)) gridHalvesUptoCard

/-- THE SECOND FORM's CARD OF 'debenturelaw05.GridCents'. -/
def gridCentsUptoCard : Claim7 := { stood := { row := gridCentsUptoRow, standIns := [], harness := (true, "b3870cba59922883960d8a6bf06328dd79f9947c939392f4afc6c5f8b9def57b"), looks := true }, kinds := [], alts := [], laidByText := true, laidKinds := [.data, .data, .data, .sentinel, .sentinel], laidTests := true, laidLooks := .later }
def GridCentsUptoCardSaid : Prop := Claim7.holds Tryz.pinned (.plain (OpenSpec.upto gridCentsSpec)) gridCentsUptoCard
end Rows
end Go.Proofs.YtmfcpapfikbomaaGreatDoor
