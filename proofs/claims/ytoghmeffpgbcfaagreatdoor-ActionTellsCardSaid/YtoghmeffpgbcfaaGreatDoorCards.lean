/-
  DERIVED. GIVEN WITH THE SEED: THE CARDS: each row of YtoghmeffpgbcfaaGreatDoorRows.lean that lists a variable, with what it lists TIED to the program's text (the seventh form; the later family's looks); each row that meets fmt, with fmt's text TOLD by the authors' own Lean function (tested against real Go, not proved from fmt's source: count such statements apart). THE CARD IS WHAT COUNTS. Prove the row's statement (the work); the ties are given (YtoghmeffpgbcfaaGreatDoorTie.lean); close each card by the builder's one call (the guide's Derived/Test/ToyasCard.lean, 'card_holds'). Laid BY PROGRAM, IN A SANDBOX (cutbox-door.mjs). By AI agents, Wed Nov 11 2026. No macro, syntax, notation, axiom, sorry.
-/
import Derived.Test.YtoghmeffpgbcfaaGreatDoorRows
import GoSem.ClaimSeven
namespace Go.Proofs.YtoghmeffpgbcfaaGreatDoor
namespace Rows

/-- THE TIED CARD OF 'debenturelaw15.ActionTells'. -/
def actionTellsCard : Claim7 := { stood := { row := actionTellsRow, standIns := [], harness := (true, "e49ae85bf9ddd41ebd5249cafc9df0e43b5f2c529efac24c3b6055c28f8729e6"), looks := true }, kinds := [], alts := [], laidByText := true, laidKinds := [.data, .data, .data, .data, .sentinel, .sentinel, .pinned], laidTests := true, laidLooks := .later }
def ActionTellsCardSaid : Prop := Claim7.holds Tryz.pinned (.plain (OpenSpec.ofChange actionTellsSpec)) actionTellsCard

/-- THE TIED CARD OF 'debenturelaw15.ActionBack'. -/
def actionBackCard : Claim7 := { stood := { row := actionBackRow, standIns := [], harness := (true, "e49ae85bf9ddd41ebd5249cafc9df0e43b5f2c529efac24c3b6055c28f8729e6"), looks := true }, kinds := [], alts := [], laidByText := true, laidKinds := [.data, .data, .data, .data, .sentinel, .sentinel, .pinned], laidTests := true, laidLooks := .later }
def ActionBackCardSaid : Prop := Claim7.holds Tryz.pinned (.plain (OpenSpec.ofChange actionBackSpec)) actionBackCard

/-- THE TIED CARD OF 'debenturelaw15.ActionDays'. -/
def actionDaysCard : Claim7 := { stood := { row := actionDaysRow, standIns := [], harness := (true, "e49ae85bf9ddd41ebd5249cafc9df0e43b5f2c529efac24c3b6055c28f8729e6"), looks := true }, kinds := [], alts := [], laidByText := true, laidKinds := [.data, .data, .data, .data, .sentinel, .sentinel, .pinned], laidTests := true, laidLooks := .later }
def ActionDaysCardSaid : Prop := Claim7.holds Tryz.pinned (.plain (OpenSpec.ofChange actionDaysSpec)) actionDaysCard

/-- THE TIED CARD OF 'debenturelaw15.ActionKinds'. -/
def actionKindsCard : Claim7 := { stood := { row := actionKindsRow, standIns := [], harness := (true, "e49ae85bf9ddd41ebd5249cafc9df0e43b5f2c529efac24c3b6055c28f8729e6"), looks := true }, kinds := [], alts := [], laidByText := true, laidKinds := [.data, .data, .data, .data, .sentinel, .sentinel, .pinned], laidTests := true, laidLooks := .later }
def ActionKindsCardSaid : Prop := Claim7.holds Tryz.pinned (.plain (OpenSpec.ofChange actionKindsSpec)) actionKindsCard

/-- THE SECOND FORM's CARD OF 'debenturelaw15.ActionTells'. -/
def actionTellsUptoCard : Claim7 := { stood := { row := actionTellsUptoRow, standIns := [], harness := (true, "e49ae85bf9ddd41ebd5249cafc9df0e43b5f2c529efac24c3b6055c28f8729e6"), looks := true }, kinds := [], alts := [], laidByText := true, laidKinds := [.data, .data, .data, .data, .sentinel, .sentinel, .pinned], laidTests := true, laidLooks := .later }
def ActionTellsUptoCardSaid : Prop := Claim7.holds Tryz.pinned (.plain (OpenSpec.upto actionTellsSpec)) actionTellsUptoCard

/-- THE SECOND FORM's CARD OF 'debenturelaw15.ActionBack'. -/
def actionBackUptoCard : Claim7 := { stood := { row := actionBackUptoRow, standIns := [], harness := (true, "e49ae85bf9ddd41ebd5249cafc9df0e43b5f2c529efac24c3b6055c28f8729e6"), looks := true }, kinds := [], alts := [], laidByText := true, laidKinds := [.data, .data, .data, .data, .sentinel, .sentinel, .pinned], laidTests := true, laidLooks := .later }
def ActionBackUptoCardSaid : Prop := Claim7.holds Tryz.pinned (.plain (OpenSpec.upto actionBackSpec)) actionBackUptoCard

/-- THE SECOND FORM's CARD OF 'debenturelaw15.ActionDays'. -/
def actionDaysUptoCard : Claim7 := { stood := { row := actionDaysUptoRow, standIns := [], harness := (true, "e49ae85bf9ddd41ebd5249cafc9df0e43b5f2c529efac24c3b6055c28f8729e6"), looks := true }, kinds := [], alts := [], laidByText := true, laidKinds := [.data, .data, .data, .data, .sentinel, .sentinel, .pinned], laidTests := true, laidLooks := .later }
def ActionDaysUptoCardSaid : Prop := Claim7.holds Tryz.pinned (.plain (OpenSpec.upto actionDaysSpec)) actionDaysUptoCard

/-- THE SECOND FORM's CARD OF 'debenturelaw15.ActionKinds'. -/
def actionKindsUptoCard : Claim7 := { stood := { row := actionKindsUptoRow, standIns := [], harness := (true, "e49ae85bf9ddd41ebd5249cafc9df0e43b5f2c529efac24c3b6055c28f8729e6"), looks := true }, kinds := [], alts := [], laidByText := true, laidKinds := [.data, .data, .data, .data, .sentinel, .sentinel, .pinned], laidTests := true, laidLooks := .later }
def ActionKindsUptoCardSaid : Prop := Claim7.holds Tryz.pinned (.plain (OpenSpec.upto actionKindsSpec)) actionKindsUptoCard
end Rows
end Go.Proofs.YtoghmeffpgbcfaaGreatDoor
