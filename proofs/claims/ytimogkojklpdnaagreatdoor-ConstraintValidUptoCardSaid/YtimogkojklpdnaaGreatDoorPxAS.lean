/-
  ConstraintValid: the law's statement, proved (slimmed by program). Conditions: none.
-/
import Derived.Test.YtimogkojklpdnaaGreatDoorPxAR
set_option linter.unusedVariables false
set_option linter.unusedSimpArgs false
set_option linter.unnecessarySimpa false
set_option linter.unusedSectionVars false
namespace Go.Proofs.YtimogkojklpdnaaGreatDoor.Cv
open Go.ChangeShapes Go.WideShapes Go.ChangeAt Go.RowKit Go.Pm
set_option maxRecDepth 100000
set_option maxHeartbeats 2000000
theorem constraintValid:Rows.ConstraintValidUptoCardSaid:=
 Claim7.holds_tied_plain_at .later [] _ _ _ _ (over (Fh.ok (iD:=⟨False⟩) (λh=>h))) (λ_ h=>by cases h) hw (λ_ h=>by cases h) constraintValidUpto_row_tie rfl ⟨rfl,rfl⟩ hm rfl plain hg
end Go.Proofs.YtimogkojklpdnaaGreatDoor.Cv
