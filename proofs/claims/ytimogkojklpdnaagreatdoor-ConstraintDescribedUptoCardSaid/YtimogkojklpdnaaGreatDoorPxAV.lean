/-
  Holds reports whether a substitution is a solution of a system that bytes describe: the tied card of ConstraintDescribed, up to the row's bound. Conditions: none.
-/
import Derived.Test.YtimogkojklpdnaaGreatDoorPxAU
set_option linter.unusedVariables false
set_option linter.unusedSimpArgs false
set_option linter.unnecessarySimpa false
namespace Go.Proofs.YtimogkojklpdnaaGreatDoor.Cd
open Go.ChangeShapes Go.WideShapes Go.ChangeAt Go.RowKit Go.Pm
set_option maxRecDepth 100000
set_option maxHeartbeats 2000000
theorem constraintDescribed:Rows.ConstraintDescribedUptoCardSaid:=
 Claim7.holds_tied_plain_at .later [] _ _ _ _ (over Go.Pm.bE.V4) (λ_ h=>by cases h) hw (λ_ h=>by cases h) constraintDescribedUpto_row_tie rfl ⟨rfl,rfl⟩ hm rfl plain hg
end Go.Proofs.YtimogkojklpdnaaGreatDoor.Cd
