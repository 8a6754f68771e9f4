/-
  DERIVED. GIVEN WITH THE SEED: THE CARDS: each row of YtmkmldkfaehefaaDoorRows.lean that lists a variable, with what it lists TIED to the program's text (the seventh form; the later family's looks); each row that meets fmt, with fmt's text TOLD by the authors' own Lean function (tested against real Go, not proved from fmt's source: count such statements apart). THE CARD IS WHAT COUNTS. Prove the row's statement (the work); the ties are given (YtmkmldkfaehefaaDoorTie.lean); close each card by the builder's one call (the guide's Derived/Test/ToyasCard.lean, 'card_holds'). Laid BY PROGRAM, IN A SANDBOX (cutbox-door.mjs). By AI agents, Wed Nov 11 2026. No macro, syntax, notation, axiom, sorry.
-/
import Derived.Test.YtmkmldkfaehefaaDoorRows
import GoSem.ClaimSeven
namespace Go.Proofs.YtmkmldkfaehefaaDoor
namespace Rows

/-- THE TIED CARD OF 'debenturelaw02.WholeLaws'. -/
def wholeLawsCard : Claim7 := { stood := { row := wholeLawsRow, standIns := [], harness := (true, "2da19d4324e1b7fc1d51d8615ed06ada97961d6e30aa7afce54110a3552b5e62"), looks := true }, kinds := [], alts := [], laidByText := true, laidKinds := [.data, .data, .data, .sentinel, .sentinel], laidTests := true, laidLooks := .later }
def WholeLawsCardSaid : Prop := Claim7.holds Tryd.pinned (.plain (OpenSpec.ofChange wholeLawsSpec)) wholeLawsCard

/-- THE TIED CARD OF 'debenturelaw02.WholeDivides'. -/
def wholeDividesCard : Claim7 := { stood := { row := wholeDividesRow, standIns := [], harness := (true, "2da19d4324e1b7fc1d51d8615ed06ada97961d6e30aa7afce54110a3552b5e62"), looks := true }, kinds := [], alts := [], laidByText := true, laidKinds := [.data, .data, .data, .sentinel, .sentinel], laidTests := true, laidLooks := .later }
def WholeDividesCardSaid : Prop := Claim7.holds Tryd.pinned (.plain (OpenSpec.ofChange wholeDividesSpec)) wholeDividesCard

/-- THE TIED CARD OF 'debenturelaw02.WholeOrder'. -/
def wholeOrderCard : Claim7 := { stood := { row := wholeOrderRow, standIns := [], harness := (true, "2da19d4324e1b7fc1d51d8615ed06ada97961d6e30aa7afce54110a3552b5e62"), looks := true }, kinds := [], alts := [], laidByText := true, laidKinds := [.data, .data, .data, .sentinel, .sentinel], laidTests := true, laidLooks := .later }
def WholeOrderCardSaid : Prop := Claim7.holds Tryd.pinned (.plain (OpenSpec.ofChange wholeOrderSpec)) wholeOrderCard

/-- THE TIED CARD OF 'debenturelaw02.WholeNumbers'. -/
def wholeNumbersCard : Claim7 := { stood := { row := wholeNumbersRow, standIns := [], harness := (true, "2da19d4324e1b7fc1d51d8615ed06ada97961d6e30aa7afce54110a3552b5e62"), looks := true }, kinds := [], alts := [], laidByText := true, laidKinds := [.data, .data, .data, .sentinel, .sentinel], laidTests := true, laidLooks := .later }
def WholeNumbersCardSaid : Prop := Claim7.holds Tryd.pinned (.plain (OpenSpec.ofChange wholeNumbersSpec)) wholeNumbersCard

/-- THE TIED CARD OF 'debenturelaw02.WholeHalves'. -/
def wholeHalvesCard : Claim7 := { stood := { row := wholeHalvesRow, standIns := [], harness := (true, "2da19d4324e1b7fc1d51d8615ed06ada97961d6e30aa7afce54110a3552b5e62"), looks := true }, kinds := [], alts := [], laidByText := true, laidKinds := [.data, .data, .data, .sentinel, .sentinel], laidTests := true, laidLooks := .later }
def WholeHalvesCardSaid : Prop := Claim7.holds Tryd.pinned (.plain (OpenSpec.ofChange wholeHalvesSpec)) wholeHalvesCard

/-- THE SECOND FORM's CARD OF 'debenturelaw02.WholeLaws'. -/
def wholeLawsUptoCard : Claim7 := { stood := { row := wholeLawsUptoRow, standIns := [], harness := (true, "2da19d4324e1b7fc1d51d8615ed06ada97961d6e30aa7afce54110a3552b5e62"), looks := true }, kinds := [], alts := [], laidByText := true, laidKinds := [.data, .data, .data, .sentinel, .sentinel], laidTests := true, laidLooks := .later }
def WholeLawsUptoCardSaid : Prop := Claim7.holds Tryd.pinned (.plain (OpenSpec.upto wholeLawsSpec)) wholeLawsUptoCard

/-- THE SECOND FORM's CARD OF 'debenturelaw02.WholeDivides'. -/
def wholeDividesUptoCard : Claim7 := { stood := { row := wholeDividesUptoRow, standIns := [], harness := (true, "2da19d4324e1b7fc1d51d8615ed06ada97961d6e30aa7afce54110a3552b5e62"), looks := true }, kinds := [], alts := [], laidByText := true, laidKinds := [.data, .data, .data, .sentinel, .sentinel], laidTests := true, laidLooks := .later }
def WholeDividesUptoCardSaid : Prop := Claim7.holds Tryd.pinned (.plain (OpenSpec.upto wholeDividesSpec)) wholeDividesUptoCard

/-- THE SECOND FORM's CARD OF 'debenturelaw02.WholeOrder'. -/
def wholeOrderUptoCard : Claim7 := { stood := { row := wholeOrderUptoRow, standIns := [], harness := (true, "2da19d4324e1b7fc1d51d8615ed06ada97961d6e30aa7afce54110a3552b5e62"), looks := true }, kinds := [], alts := [], laidByText := true, laidKinds := [.data, .data, .data, .sentinel, .sentinel], laidTests := true, laidLooks := .later }
def WholeOrderUptoCardSaid : Prop := Claim7.holds Tryd.pinned (.plain (OpenSpec.upto wholeOrderSpec)) wholeOrderUptoCard

/-- THE SECOND FORM's CARD OF 'debenturelaw02.WholeNumbers'. -/
def wholeNumbersUptoCard : Claim7 := { stood := { row := wholeNumbersUptoRow, standIns := [], harness := (true, "2da19d4324e1b7fc1d51d8615ed06ada97961d6e30aa7afce54110a3552b5e62"), looks := true }, kinds := [], alts := [], laidByText := true, laidKinds := [.data, .data, .data, .sentinel, .sentinel], laidTests := true, laidLooks := .later }
def WholeNumbersUptoCardSaid : Prop := Claim7.holds Tryd.pinned (.plain (OpenSpec.upto wholeNumbersSpec)) wholeNumbersUptoCard

/-- THE SECOND FORM's CARD OF 'debenturelaw02.WholeHalves'. -/
def wholeHalvesUptoCard : Claim7 := { stood := { row := wholeHalvesUptoRow, standIns := [], harness := (true, "2da19d4324e1b7fc1d51d8615ed06ada97961d6e30aa7afce54110a3552b5e62"), looks := true }, kinds := [], alts := [], laidByText := true, laidKinds := [.data, .data, .data, .sentinel, .sentinel], laidTests := true, laidLooks := .later }
def WholeHalvesUptoCardSaid : Prop := Claim7.holds Tryd.pinned (.plain (OpenSpec.upto wholeHalvesSpec)) wholeHalvesUptoCard
end Rows
end Go.Proofs.YtmkmldkfaehefaaDoor
