/-
  DERIVED. GIVEN WITH THE SEED: THE CARDS: each row of YtiipafafbpaaoaaGreatDoorRows.lean that lists a variable, with what it lists TIED to the program's text (the seventh form; the later family's looks); each row that meets fmt, with fmt's text TOLD by the authors' own Lean function (tested against real Go, not proved from fmt's source: count such statements apart). THE CARD IS WHAT COUNTS. Prove the row's statement (the work); the ties are given (YtiipafafbpaaoaaGreatDoorTie.lean); close each card by the builder's one call (the guide's Derived/Test/ToyasCard.lean, 'card_holds'). Laid BY PROGRAM, IN A SANDBOX (cutbox-door.mjs). By AI agents, Wed Nov 11 2026. No macro, syntax, notation, axiom, sorry.
-/
import Derived.Test.YtiipafafbpaaoaaGreatDoorRows
import GoSem.ClaimSeven
namespace Go.Proofs.YtiipafafbpaaoaaGreatDoor
namespace Rows

/-- THE TIED CARD OF 'sealringlaw38.SimplifyMeasure'. -/
def simplifyMeasureCard : Claim7 := { stood := { row := simplifyMeasureRow, standIns := [], harness := (true, "c8a37a571755769fb2cf5c6bd1c8a3f4ddaa26b210ead3fa7ff3ca3633a8e781"), looks := false }, kinds := [], alts := [], laidByText := true, laidKinds := [.data, .data, .data, .data, .widerDeep, .pinned], laidTests := true, laidLooks := .later }
def SimplifyMeasureCardSaid : Prop := Claim7.holds Tryz.pinned (.plain (OpenSpec.ofChange simplifyMeasureSpec)) simplifyMeasureCard

/-- THE SECOND FORM's CARD OF 'sealringlaw38.SimplifyMeasure'. -/
def simplifyMeasureUptoCard : Claim7 := { stood := { row := simplifyMeasureUptoRow, standIns := [], harness := (true, "c8a37a571755769fb2cf5c6bd1c8a3f4ddaa26b210ead3fa7ff3ca3633a8e781"), looks := false }, kinds := [], alts := [], laidByText := true, laidKinds := [.data, .data, .data, .data, .widerDeep, .pinned], laidTests := true, laidLooks := .later }
def SimplifyMeasureUptoCardSaid : Prop := Claim7.holds Tryz.pinned (.plain (OpenSpec.upto simplifyMeasureSpec)) simplifyMeasureUptoCard
end Rows
end Go.Proofs.YtiipafafbpaaoaaGreatDoor
