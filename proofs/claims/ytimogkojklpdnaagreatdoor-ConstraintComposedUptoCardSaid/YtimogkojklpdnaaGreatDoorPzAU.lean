/-
  A solution of an instance, after the substitution, is a solution of the system: the tied card of ConstraintComposed, up to the row's bound. Conditions: none.
-/
import Derived.Test.YtimogkojklpdnaaGreatDoorPzAA
import Derived.Test.YtimogkojklpdnaaGreatDoorPzAT
set_option linter.unusedVariables false
set_option linter.unusedSimpArgs false
set_option linter.unnecessarySimpa false
namespace Go.Proofs.YtimogkojklpdnaaGreatDoor.Cq
open Go.ChangeShapes Go.WideShapes Go.ChangeAt Go.RowKit Go.Pm
set_option maxRecDepth 100000
set_option maxHeartbeats 2000000
theorem constraintComposed:Rows.ConstraintComposedUptoCardSaid:=
 Claim7.holds_tied_plain_at .later [] _ _ _ _ (over Go.Pm.bO.SQ) (λ_ h=>by cases h) hw (λ_ h=>by cases h) constraintComposedUpto_row_tie rfl ⟨rfl,rfl⟩ hm rfl plain hg
end Go.Proofs.YtimogkojklpdnaaGreatDoor.Cq
