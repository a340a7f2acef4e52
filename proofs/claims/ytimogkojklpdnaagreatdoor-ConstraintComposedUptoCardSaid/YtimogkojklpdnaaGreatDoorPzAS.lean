/-
  A part of the library Pm (joined by program). Conditions: none.
-/
import Derived.Test.YtimogkojklpdnaaGreatDoorPzAA
import Derived.Test.YtimogkojklpdnaaGreatDoorPzAR
set_option linter.unusedVariables false
set_option linter.unusedSimpArgs false
set_option linter.unnecessarySimpa false
namespace Go.Proofs.YtimogkojklpdnaaGreatDoor.Cq
open Go.ChangeShapes Go.WideShapes Go.ChangeAt Go.RowKit Go.Pm
set_option maxRecDepth 100000
set_option maxHeartbeats 2000000
theorem plain (f : FuncId) (fn : Func) (hf : Tryz.pinned.checked.prog.funcNamed "sealring/sealringlaw36.ConstraintComposed" = some f) (Mw : Tryz.pinned.checked.prog.funcs[f]? = some fn) :
  false=Tryz.pinned.checked.prog.looks []/\∀(j:Nat) t,fn.params[j]?=some t->Tryz.pinned.checked.prog.wantsStandIn t=false:=by
 obtain rfl : f = 8 := Zu ((show Tryz.prog.funcNamed "sealring/sealringlaw36.ConstraintComposed" = some 8 by kernel_rfl).symm.trans hf) |>.symm
 obtain rfl:fn=Tryz.f8:=(Zu (Tryz.func8.symm.trans Mw)).symm;refine⟨by kernel_rfl,λj t ht=>?_⟩;rw[Tryz.params8]at ht;have hm:=abf ht;simp at hm;rcases hm with rfl |rfl |rfl
 ·exact(show Tryz.prog.wantsStandIn 40=false by kernel_rfl)
 ·exact(show Tryz.prog.wantsStandIn 41=false by kernel_rfl)
 ·exact(show Tryz.prog.wantsStandIn 5=false by kernel_rfl)
theorem hw:Rows.constraintComposedUptoRow.wfByText (Rows.OpenSpec.upto Rows.constraintComposedSpec)=true:=by kernel_rfl
theorem hm : Tryz.pinned.checked.prog.mainIs = some (true, "4a1a28b134421ac00ec0dc48d7b1f3c144ed05c082fc758581b7d353ba829929".toList) := by kernel_rfl
end Go.Proofs.YtimogkojklpdnaaGreatDoor.Cq
