/-
  A part of the library Pm and its contracts (joined by program): PmLinkI5. Conditions: none.
-/
import Derived.Test.YtimogkojklpdnaaGreatDoorPzAR
set_option linter.unusedVariables false
set_option linter.unusedSimpArgs false
section
set_option maxRecDepth 100000
set_option maxHeartbeats 2000000
namespace Go.Proofs.YtimogkojklpdnaaGreatDoor.Ci
open Go.ChangeShapes Go.WideShapes Go.ChangeAt Go.RowKit Go.Pm
theorem hg:false=Rows.constraintInstanceUptoRow.goesBy Tryz.pinned.checked.prog:=by kernel_rfl
end Go.Proofs.YtimogkojklpdnaaGreatDoor.Ci
end
