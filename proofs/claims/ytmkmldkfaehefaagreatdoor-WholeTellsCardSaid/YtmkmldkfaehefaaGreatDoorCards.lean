/-
  DERIVED. GIVEN WITH THE SEED: THE CARDS: each row of YtmkmldkfaehefaaGreatDoorRows.lean that lists a variable, with what it lists TIED to the program's text (the seventh form; the later family's looks); each row that meets fmt, with fmt's text TOLD by the authors' own Lean function (tested against real Go, not proved from fmt's source: count such statements apart). THE CARD IS WHAT COUNTS. Prove the row's statement (the work); the ties are given (YtmkmldkfaehefaaGreatDoorTie.lean); close each card by the builder's one call (the guide's Derived/Test/ToyasCard.lean, 'card_holds'). Laid BY PROGRAM, IN A SANDBOX (cutbox-door.mjs). By AI agents, Wed Nov 11 2026. No macro, syntax, notation, axiom, sorry.
-/
import Derived.Test.YtmkmldkfaehefaaGreatDoorRows
import GoSem.ClaimSeven
namespace Go.Proofs.YtmkmldkfaehefaaGreatDoor
namespace Rows

/-- THE TIED CARD OF 'debenturelaw02.WholeTells'. -/
def wholeTellsCard : Claim7 := { stood := { row := wholeTellsRow, standIns := [], harness := (true, "bdbd4e5b09325eccd875a060e8c411f452cabddbb7ed0d3b3fcf22eeff5f72e7"), looks := true }, kinds := [], alts := [], laidByText := true, laidKinds := [.data, .data, .data, .sentinel, .sentinel], laidTests := true, laidLooks := .later }
def WholeTellsCardSaid : Prop := Claim7.holds Tryz.pinned (.plain (OpenSpec.ofChange wholeTellsSpec)) wholeTellsCard

/-- THE TIED CARD OF 'debenturelaw03.RatTells'. -/
def ratTellsCard : Claim7 := { stood := { row := ratTellsRow, standIns := [], harness := (true, "bdbd4e5b09325eccd875a060e8c411f452cabddbb7ed0d3b3fcf22eeff5f72e7"), looks := true }, kinds := [], alts := [], laidByText := true, laidKinds := [.data, .data, .data, .sentinel, .sentinel], laidTests := true, laidLooks := .later }
def RatTellsCardSaid : Prop := Claim7.holds Tryz.pinned (.plain (OpenSpec.ofChange ratTellsSpec)) ratTellsCard

/-- THE TIED CARD OF 'debenturelaw03.RatField'. -/
def ratFieldCard : Claim7 := { stood := { row := ratFieldRow, standIns := [], harness := (true, "bdbd4e5b09325eccd875a060e8c411f452cabddbb7ed0d3b3fcf22eeff5f72e7"), looks := true }, kinds := [], alts := [], laidByText := true, laidKinds := [.data, .data, .data, .sentinel, .sentinel], laidTests := true, laidLooks := .later }
def RatFieldCardSaid : Prop := Claim7.holds Tryz.pinned (.plain (OpenSpec.ofChange ratFieldSpec)) ratFieldCard

/-- THE TIED CARD OF 'debenturelaw03.RatOrder'. -/
def ratOrderCard : Claim7 := { stood := { row := ratOrderRow, standIns := [], harness := (true, "bdbd4e5b09325eccd875a060e8c411f452cabddbb7ed0d3b3fcf22eeff5f72e7"), looks := true }, kinds := [], alts := [], laidByText := true, laidKinds := [.data, .data, .data, .sentinel, .sentinel], laidTests := true, laidLooks := .later }
def RatOrderCardSaid : Prop := Claim7.holds Tryz.pinned (.plain (OpenSpec.ofChange ratOrderSpec)) ratOrderCard

/-- THE TIED CARD OF 'debenturelaw03.RatSplits'. -/
def ratSplitsCard : Claim7 := { stood := { row := ratSplitsRow, standIns := [], harness := (true, "bdbd4e5b09325eccd875a060e8c411f452cabddbb7ed0d3b3fcf22eeff5f72e7"), looks := true }, kinds := [], alts := [], laidByText := true, laidKinds := [.data, .data, .data, .sentinel, .sentinel], laidTests := true, laidLooks := .later }
def RatSplitsCardSaid : Prop := Claim7.holds Tryz.pinned (.plain (OpenSpec.ofChange ratSplitsSpec)) ratSplitsCard

/-- THE TIED CARD OF 'debenturelaw03.RatTimes'. -/
def ratTimesCard : Claim7 := { stood := { row := ratTimesRow, standIns := [], harness := (true, "bdbd4e5b09325eccd875a060e8c411f452cabddbb7ed0d3b3fcf22eeff5f72e7"), looks := true }, kinds := [], alts := [], laidByText := true, laidKinds := [.data, .data, .data, .sentinel, .sentinel], laidTests := true, laidLooks := .later }
def RatTimesCardSaid : Prop := Claim7.holds Tryz.pinned (.plain (OpenSpec.ofChange ratTimesSpec)) ratTimesCard

/-- THE SECOND FORM's CARD OF 'debenturelaw02.WholeTells'. -/
def wholeTellsUptoCard : Claim7 := { stood := { row := wholeTellsUptoRow, standIns := [], harness := (true, "bdbd4e5b09325eccd875a060e8c411f452cabddbb7ed0d3b3fcf22eeff5f72e7"), looks := true }, kinds := [], alts := [], laidByText := true, laidKinds := [.data, .data, .data, .sentinel, .sentinel], laidTests := true, laidLooks := .later }
def WholeTellsUptoCardSaid : Prop := Claim7.holds Tryz.pinned (.plain (OpenSpec.upto wholeTellsSpec)) wholeTellsUptoCard

/-- THE SECOND FORM's CARD OF 'debenturelaw03.RatTells'. -/
def ratTellsUptoCard : Claim7 := { stood := { row := ratTellsUptoRow, standIns := [], harness := (true, "bdbd4e5b09325eccd875a060e8c411f452cabddbb7ed0d3b3fcf22eeff5f72e7"), looks := true }, kinds := [], alts := [], laidByText := true, laidKinds := [.data, .data, .data, .sentinel, .sentinel], laidTests := true, laidLooks := .later }
def RatTellsUptoCardSaid : Prop := Claim7.holds Tryz.pinned (.plain (OpenSpec.upto ratTellsSpec)) ratTellsUptoCard

/-- THE SECOND FORM's CARD OF 'debenturelaw03.RatField'. -/
def ratFieldUptoCard : Claim7 := { stood := { row := ratFieldUptoRow, standIns := [], harness := (true, "bdbd4e5b09325eccd875a060e8c411f452cabddbb7ed0d3b3fcf22eeff5f72e7"), looks := true }, kinds := [], alts := [], laidByText := true, laidKinds := [.data, .data, .data, .sentinel, .sentinel], laidTests := true, laidLooks := .later }
def RatFieldUptoCardSaid : Prop := Claim7.holds Tryz.pinned (.plain (OpenSpec.upto ratFieldSpec)) ratFieldUptoCard

/-- THE SECOND FORM's CARD OF 'debenturelaw03.RatOrder'. -/
def ratOrderUptoCard : Claim7 := { stood := { row := ratOrderUptoRow, standIns := [], harness := (true, "bdbd4e5b09325eccd875a060e8c411f452cabddbb7ed0d3b3fcf22eeff5f72e7"), looks := true }, kinds := [], alts := [], laidByText := true, laidKinds := [.data, .data, .data, .sentinel, .sentinel], laidTests := true, laidLooks := .later }
def RatOrderUptoCardSaid : Prop := Claim7.holds Tryz.pinned (.plain (OpenSpec.upto ratOrderSpec)) ratOrderUptoCard

/-- THE SECOND FORM's CARD OF 'debenturelaw03.RatSplits'. -/
def ratSplitsUptoCard : Claim7 := { stood := { row := ratSplitsUptoRow, standIns := [], harness := (true, "bdbd4e5b09325eccd875a060e8c411f452cabddbb7ed0d3b3fcf22eeff5f72e7"), looks := true }, kinds := [], alts := [], laidByText := true, laidKinds := [.data, .data, .data, .sentinel, .sentinel], laidTests := true, laidLooks := .later }
def RatSplitsUptoCardSaid : Prop := Claim7.holds Tryz.pinned (.plain (OpenSpec.upto ratSplitsSpec)) ratSplitsUptoCard

/-- THE SECOND FORM's CARD OF 'debenturelaw03.RatTimes'. -/
def ratTimesUptoCard : Claim7 := { stood := { row := ratTimesUptoRow, standIns := [], harness := (true, "bdbd4e5b09325eccd875a060e8c411f452cabddbb7ed0d3b3fcf22eeff5f72e7"), looks := true }, kinds := [], alts := [], laidByText := true, laidKinds := [.data, .data, .data, .sentinel, .sentinel], laidTests := true, laidLooks := .later }
def RatTimesUptoCardSaid : Prop := Claim7.holds Tryz.pinned (.plain (OpenSpec.upto ratTimesSpec)) ratTimesUptoCard
end Rows
end Go.Proofs.YtmkmldkfaehefaaGreatDoor
