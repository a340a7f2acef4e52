/-
  ConstraintInstance: at arguments within the statement's bounds (its 'Upto' card) every run of the law returns true. Conditions: those of the statement.
-/
import Derived.Test.YtimogkojklpdnaaGreatDoorPzAS
set_option linter.unusedVariables false
set_option linter.unusedSimpArgs false
section
set_option maxRecDepth 100000
set_option maxHeartbeats 2000000
namespace Go.Proofs.YtimogkojklpdnaaGreatDoor.Ci
open Go.ChangeShapes Go.WideShapes Go.ChangeAt Go.RowKit Go.Pm
theorem constraintInstance:Rows.ConstraintInstanceUptoCardSaid:=
 Claim7.holds_tied_plain_at .later [] _ _ _ _ (over Go.Pm.Nine.cfgOk9) (fun _ h=>by cases h) hw (fun _ h=>by cases h) constraintInstanceUpto_row_tie rfl ⟨rfl,rfl⟩ hm rfl plain hg
end Go.Proofs.YtimogkojklpdnaaGreatDoor.Ci
end
