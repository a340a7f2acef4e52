/-
  DERIVED. GIVEN WITH THE SEED: THE CARDS: each row of YtimogkojklpdnaaGreatDoorRows.lean that lists a variable, with what it lists TIED to the program's text (the seventh form; the later family's looks); each row that meets fmt, with fmt's text TOLD by the authors' own Lean function (tested against real Go, not proved from fmt's source: count such statements apart). THE CARD IS WHAT COUNTS. Prove the row's statement (the work); the ties are given (YtimogkojklpdnaaGreatDoorTie.lean); close each card by the builder's one call (the guide's Derived/Test/ToyasCard.lean, 'card_holds'). Laid BY PROGRAM, IN A SANDBOX (cutbox-door.mjs). By AI agents, Wed Nov 11 2026. No macro, syntax, notation, axiom, sorry.
-/
import Derived.Test.YtimogkojklpdnaaGreatDoorRows
import GoSem.ClaimSeven
namespace Go.Proofs.YtimogkojklpdnaaGreatDoor
namespace Rows

/-- THE TIED CARD OF 'sealringlaw36.ConstraintHolds'. -/
def constraintHoldsCard : Claim7 := { stood := { row := constraintHoldsRow, standIns := [], harness := (true, "4a1a28b134421ac00ec0dc48d7b1f3c144ed05c082fc758581b7d353ba829929"), looks := false }, kinds := [], alts := [], laidByText := true, laidKinds := [.data, .data, .data, .data, .pinned], laidTests := true, laidLooks := .later }
def ConstraintHoldsCardSaid : Prop := Claim7.holds Tryz.pinned (.plain (OpenSpec.ofChange constraintHoldsSpec)) constraintHoldsCard

/-- THE TIED CARD OF 'sealringlaw36.ConstraintDescribed'. -/
def constraintDescribedCard : Claim7 := { stood := { row := constraintDescribedRow, standIns := [], harness := (true, "4a1a28b134421ac00ec0dc48d7b1f3c144ed05c082fc758581b7d353ba829929"), looks := false }, kinds := [], alts := [], laidByText := true, laidKinds := [.data, .data, .data, .data, .pinned], laidTests := true, laidLooks := .later }
def ConstraintDescribedCardSaid : Prop := Claim7.holds Tryz.pinned (.plain (OpenSpec.ofChange constraintDescribedSpec)) constraintDescribedCard

/-- THE TIED CARD OF 'sealringlaw36.ConstraintTrivial'. -/
def constraintTrivialCard : Claim7 := { stood := { row := constraintTrivialRow, standIns := [], harness := (true, "4a1a28b134421ac00ec0dc48d7b1f3c144ed05c082fc758581b7d353ba829929"), looks := false }, kinds := [], alts := [], laidByText := true, laidKinds := [.data, .data, .data, .data, .pinned], laidTests := true, laidLooks := .later }
def ConstraintTrivialCardSaid : Prop := Claim7.holds Tryz.pinned (.plain (OpenSpec.ofChange constraintTrivialSpec)) constraintTrivialCard

/-- THE TIED CARD OF 'sealringlaw36.ConstraintDrops'. -/
def constraintDropsCard : Claim7 := { stood := { row := constraintDropsRow, standIns := [], harness := (true, "4a1a28b134421ac00ec0dc48d7b1f3c144ed05c082fc758581b7d353ba829929"), looks := false }, kinds := [], alts := [], laidByText := true, laidKinds := [.data, .data, .data, .data, .pinned], laidTests := true, laidLooks := .later }
def ConstraintDropsCardSaid : Prop := Claim7.holds Tryz.pinned (.plain (OpenSpec.ofChange constraintDropsSpec)) constraintDropsCard

/-- THE TIED CARD OF 'sealringlaw36.ConstraintInstance'. -/
def constraintInstanceCard : Claim7 := { stood := { row := constraintInstanceRow, standIns := [], harness := (true, "4a1a28b134421ac00ec0dc48d7b1f3c144ed05c082fc758581b7d353ba829929"), looks := false }, kinds := [], alts := [], laidByText := true, laidKinds := [.data, .data, .data, .data, .pinned], laidTests := true, laidLooks := .later }
def ConstraintInstanceCardSaid : Prop := Claim7.holds Tryz.pinned (.plain (OpenSpec.ofChange constraintInstanceSpec)) constraintInstanceCard

/-- THE TIED CARD OF 'sealringlaw36.ConstraintComposed'. -/
def constraintComposedCard : Claim7 := { stood := { row := constraintComposedRow, standIns := [], harness := (true, "4a1a28b134421ac00ec0dc48d7b1f3c144ed05c082fc758581b7d353ba829929"), looks := false }, kinds := [], alts := [], laidByText := true, laidKinds := [.data, .data, .data, .data, .pinned], laidTests := true, laidLooks := .later }
def ConstraintComposedCardSaid : Prop := Claim7.holds Tryz.pinned (.plain (OpenSpec.ofChange constraintComposedSpec)) constraintComposedCard

/-- THE TIED CARD OF 'sealringlaw36.ConstraintValid'. -/
def constraintValidCard : Claim7 := { stood := { row := constraintValidRow, standIns := [], harness := (true, "4a1a28b134421ac00ec0dc48d7b1f3c144ed05c082fc758581b7d353ba829929"), looks := false }, kinds := [], alts := [], laidByText := true, laidKinds := [.data, .data, .data, .data, .widerDeep, .pinned], laidTests := true, laidLooks := .later }
def ConstraintValidCardSaid : Prop := Claim7.holds Tryz.pinned (.plain (OpenSpec.ofChange constraintValidSpec)) constraintValidCard

/-- THE TIED CARD OF 'sealringlaw36.ConstraintGeneric'. -/
def constraintGenericCard : Claim7 := { stood := { row := constraintGenericRow, standIns := [], harness := (true, "4a1a28b134421ac00ec0dc48d7b1f3c144ed05c082fc758581b7d353ba829929"), looks := false }, kinds := [], alts := [], laidByText := true, laidKinds := [.data, .data, .data, .data, .pinned], laidTests := true, laidLooks := .later }
def ConstraintGenericCardSaid : Prop := Claim7.holds Tryz.pinned (.plain (OpenSpec.ofChange constraintGenericSpec)) constraintGenericCard

/-- THE SECOND FORM's CARD OF 'sealringlaw36.ConstraintHolds'. -/
def constraintHoldsUptoCard : Claim7 := { stood := { row := constraintHoldsUptoRow, standIns := [], harness := (true, "4a1a28b134421ac00ec0dc48d7b1f3c144ed05c082fc758581b7d353ba829929"), looks := false }, kinds := [], alts := [], laidByText := true, laidKinds := [.data, .data, .data, .data, .pinned], laidTests := true, laidLooks := .later }
def ConstraintHoldsUptoCardSaid : Prop := Claim7.holds Tryz.pinned (.plain (OpenSpec.upto constraintHoldsSpec)) constraintHoldsUptoCard

/-- THE SECOND FORM's CARD OF 'sealringlaw36.ConstraintDescribed'. -/
def constraintDescribedUptoCard : Claim7 := { stood := { row := constraintDescribedUptoRow, standIns := [], harness := (true, "4a1a28b134421ac00ec0dc48d7b1f3c144ed05c082fc758581b7d353ba829929"), looks := false }, kinds := [], alts := [], laidByText := true, laidKinds := [.data, .data, .data, .data, .pinned], laidTests := true, laidLooks := .later }
def ConstraintDescribedUptoCardSaid : Prop := Claim7.holds Tryz.pinned (.plain (OpenSpec.upto constraintDescribedSpec)) constraintDescribedUptoCard

/-- THE SECOND FORM's CARD OF 'sealringlaw36.ConstraintTrivial'. -/
def constraintTrivialUptoCard : Claim7 := { stood := { row := constraintTrivialUptoRow, standIns := [], harness := (true, "4a1a28b134421ac00ec0dc48d7b1f3c144ed05c082fc758581b7d353ba829929"), looks := false }, kinds := [], alts := [], laidByText := true, laidKinds := [.data, .data, .data, .data, .pinned], laidTests := true, laidLooks := .later }
def ConstraintTrivialUptoCardSaid : Prop := Claim7.holds Tryz.pinned (.plain (OpenSpec.upto constraintTrivialSpec)) constraintTrivialUptoCard

/-- THE SECOND FORM's CARD OF 'sealringlaw36.ConstraintDrops'. -/
def constraintDropsUptoCard : Claim7 := { stood := { row := constraintDropsUptoRow, standIns := [], harness := (true, "4a1a28b134421ac00ec0dc48d7b1f3c144ed05c082fc758581b7d353ba829929"), looks := false }, kinds := [], alts := [], laidByText := true, laidKinds := [.data, .data, .data, .data, .pinned], laidTests := true, laidLooks := .later }
def ConstraintDropsUptoCardSaid : Prop := Claim7.holds Tryz.pinned (.plain (OpenSpec.upto constraintDropsSpec)) constraintDropsUptoCard

/-- THE SECOND FORM's CARD OF 'sealringlaw36.ConstraintInstance'. -/
def constraintInstanceUptoCard : Claim7 := { stood := { row := constraintInstanceUptoRow, standIns := [], harness := (true, "4a1a28b134421ac00ec0dc48d7b1f3c144ed05c082fc758581b7d353ba829929"), looks := false }, kinds := [], alts := [], laidByText := true, laidKinds := [.data, .data, .data, .data, .pinned], laidTests := true, laidLooks := .later }
def ConstraintInstanceUptoCardSaid : Prop := Claim7.holds Tryz.pinned (.plain (OpenSpec.upto constraintInstanceSpec)) constraintInstanceUptoCard

/-- THE SECOND FORM's CARD OF 'sealringlaw36.ConstraintComposed'. -/
def constraintComposedUptoCard : Claim7 := { stood := { row := constraintComposedUptoRow, standIns := [], harness := (true, "4a1a28b134421ac00ec0dc48d7b1f3c144ed05c082fc758581b7d353ba829929"), looks := false }, kinds := [], alts := [], laidByText := true, laidKinds := [.data, .data, .data, .data, .pinned], laidTests := true, laidLooks := .later }
def ConstraintComposedUptoCardSaid : Prop := Claim7.holds Tryz.pinned (.plain (OpenSpec.upto constraintComposedSpec)) constraintComposedUptoCard

/-- THE SECOND FORM's CARD OF 'sealringlaw36.ConstraintValid'. -/
def constraintValidUptoCard : Claim7 := { stood := { row := constraintValidUptoRow, standIns := [], harness := (true, "4a1a28b134421ac00ec0dc48d7b1f3c144ed05c082fc758581b7d353ba829929"), looks := false }, kinds := [], alts := [], laidByText := true, laidKinds := [.data, .data, .data, .data, .widerDeep, .pinned], laidTests := true, laidLooks := .later }
def ConstraintValidUptoCardSaid : Prop := Claim7.holds Tryz.pinned (.plain (OpenSpec.upto constraintValidSpec)) constraintValidUptoCard

/-- THE SECOND FORM's CARD OF 'sealringlaw36.ConstraintGeneric'. -/
def constraintGenericUptoCard : Claim7 := { stood := { row := constraintGenericUptoRow, standIns := [], harness := (true, "4a1a28b134421ac00ec0dc48d7b1f3c144ed05c082fc758581b7d353ba829929"), looks := false }, kinds := [], alts := [], laidByText := true, laidKinds := [.data, .data, .data, .data, .pinned], laidTests := true, laidLooks := .later }
def ConstraintGenericUptoCardSaid : Prop := Claim7.holds Tryz.pinned (.plain (OpenSpec.upto constraintGenericSpec)) constraintGenericUptoCard
end Rows
end Go.Proofs.YtimogkojklpdnaaGreatDoor
