/-
  DERIVED. GIVEN WITH THE SEED: THE CARDS: each row of YtnhpnnbjimnmlaaGreatDoorRows.lean that lists a variable, with what it lists TIED to the program's text (the seventh form; the later family's looks); each row that meets fmt, with fmt's text TOLD by the authors' own Lean function (tested against real Go, not proved from fmt's source: count such statements apart). THE CARD IS WHAT COUNTS. Prove the row's statement (the work); the ties are given (YtnhpnnbjimnmlaaGreatDoorTie.lean); close each card by the builder's one call (the guide's Derived/Test/ToyasCard.lean, 'card_holds'). Laid BY PROGRAM, IN A SANDBOX (cutbox-door.mjs). By AI agents, Wed Nov 11 2026. No macro, syntax, notation, axiom, sorry.
-/
import Derived.Test.YtnhpnnbjimnmlaaGreatDoorRows
import GoSem.ClaimSeven
namespace Go.Proofs.YtnhpnnbjimnmlaaGreatDoor
namespace Rows

/-- THE TIED CARD OF 'debenturelaw05.GridNear'. -/
def gridNearCard : Claim7 := { stood := { row := gridNearRow, standIns := [], harness := (true, "274ca92e9a6f67e5beeb906602bb197e3a126a6cf54ca7db638eb314b6769d6f"), looks := true }, kinds := [], alts := [], laidByText := true, laidKinds := [.data, .data, .data, .sentinel, .sentinel], laidTests := true, laidLooks := .later }
def GridNearCardSaid : Prop := Claim7.holds Tryz.pinned (.plain (OpenSpec.ofChange gridNearSpec)) gridNearCard

/-- THE SECOND FORM's CARD OF 'debenturelaw05.GridNear'. -/
def gridNearUptoCard : Claim7 := { stood := { row := gridNearUptoRow, standIns := [], harness := (true, "274ca92e9a6f67e5beeb906602bb197e3a126a6cf54ca7db638eb314b6769d6f"), looks := true }, kinds := [], alts := [], laidByText := true, laidKinds := [.data, .data, .data, .sentinel, .sentinel], laidTests := true, laidLooks := .later }
def GridNearUptoCardSaid : Prop := Claim7.holds Tryz.pinned (.plain (OpenSpec.upto gridNearSpec)) gridNearUptoCard
end Rows
end Go.Proofs.YtnhpnnbjimnmlaaGreatDoor
