/-
  ConstraintGeneric: the law's statement, proved (slimmed by program). Conditions: none.
-/
import Derived.Test.YtimogkojklpdnaaGreatDoorPyAT
set_option linter.unusedVariables false
set_option linter.unusedSimpArgs false
set_option linter.unnecessarySimpa false
set_option linter.unusedSectionVars false
namespace Go.Proofs.YtimogkojklpdnaaGreatDoor.Cg
open Go.ChangeShapes Go.WideShapes Go.ChangeAt Go.RowKit Go.Pm
set_option maxRecDepth 100000
set_option maxHeartbeats 2000000
theorem constraintGeneric:Rows.ConstraintGenericUptoCardSaid:=
 Claim7.holds_tied_plain_at .later [] _ _ _ _ (over Go.Pm.vD.ok) (λ_ h=>by cases h) hw (λ_ h=>by cases h) constraintGenericUpto_row_tie rfl ⟨rfl,rfl⟩ hm rfl plain hg
end Go.Proofs.YtimogkojklpdnaaGreatDoor.Cg
