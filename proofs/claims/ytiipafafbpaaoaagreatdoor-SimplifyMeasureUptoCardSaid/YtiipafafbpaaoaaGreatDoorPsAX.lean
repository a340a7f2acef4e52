/-
  Each alternative that simplify.Step returns for a described system has a lesser measure, at every input of the card's bounds.
-/
import Derived.Test.YtiipafafbpaaoaaGreatDoorPsAW
set_option linter.unusedVariables false
set_option linter.unusedSimpArgs false
set_option linter.unnecessarySimpa false
set_option linter.unusedSectionVars false
namespace Go.Proofs.YtiipafafbpaaoaaGreatDoor.Sm
open Go.ChangeShapes Go.WideShapes Go.ChangeAt Go.RowKit Go.Pm
set_option maxRecDepth 100000
set_option maxHeartbeats 2000000
theorem simplifyMeasure:Rows.SimplifyMeasureUptoCardSaid:=
 Claim7.holds_tied_plain_at .later [] _ _ _ _ (over (Wu.ok (iD:=⟨False⟩) (λh=>h))) (λ_ h=>by cases h) hw (λ_ h=>by cases h) simplifyMeasureUpto_row_tie rfl ⟨rfl,rfl⟩ hm rfl plain hg
end Go.Proofs.YtiipafafbpaaoaaGreatDoor.Sm
