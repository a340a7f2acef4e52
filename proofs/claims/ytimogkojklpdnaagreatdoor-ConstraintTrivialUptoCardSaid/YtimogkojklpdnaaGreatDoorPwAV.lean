/-
  Trivial reports whether a demand of a system that bytes describe is trivial, or returns the specified error: the tied card of ConstraintTrivial, up to the row's bound. Conditions: none.
-/
import Derived.Test.YtimogkojklpdnaaGreatDoorPwAU
set_option linter.unusedVariables false
set_option linter.unusedSimpArgs false
set_option linter.unnecessarySimpa false
namespace Go.Proofs.YtimogkojklpdnaaGreatDoor.Ct
open Go.ChangeShapes Go.WideShapes Go.ChangeAt Go.RowKit Go.Pm
set_option maxRecDepth 100000
set_option maxHeartbeats 2000000
theorem constraintTrivial:Rows.ConstraintTrivialUptoCardSaid:=
 Claim7.holds_tied_plain_at .later [] _ _ _ _ (over Go.Pm.bC.WX) (λ_ h=>by cases h) hw (λ_ h=>by cases h) constraintTrivialUpto_row_tie rfl ⟨rfl,rfl⟩ hm rfl plain hg
end Go.Proofs.YtimogkojklpdnaaGreatDoor.Ct
