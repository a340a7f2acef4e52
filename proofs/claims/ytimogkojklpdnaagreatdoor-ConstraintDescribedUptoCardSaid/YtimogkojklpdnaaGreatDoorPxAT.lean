/-
  Pm, a part. Conditions: none.
-/
import Derived.Test.YtimogkojklpdnaaGreatDoorPxAS
set_option linter.unusedVariables false
set_option linter.unusedSimpArgs false
set_option linter.unnecessarySimpa false
namespace Go.Proofs.YtimogkojklpdnaaGreatDoor.Cd
open Go.ChangeShapes Go.WideShapes Go.ChangeAt Go.RowKit Go.Pm
set_option maxRecDepth 100000
set_option maxHeartbeats 2000000
theorem plain (f : FuncId) (fn : Func) (hf : Tryz.pinned.checked.prog.funcNamed "sealring/sealringlaw36.ConstraintDescribed" = some f) (PG : Tryz.pinned.checked.prog.funcs[f]? = some fn) :
  false=Tryz.pinned.checked.prog.looks []/\∀(j:Nat) t,fn.params[j]?=some t->Tryz.pinned.checked.prog.wantsStandIn t=false:=by
 obtain rfl : f = 4 := abi ((show Tryz.prog.funcNamed "sealring/sealringlaw36.ConstraintDescribed" = some 4 by kernel_rfl).symm.trans hf) |>.symm
 obtain rfl:fn=Tryz.f4:=(abi (Tryz.func4.symm.trans PG)).symm;refine⟨by kernel_rfl,λj t ht=>?_⟩;rw[Tryz.params4]at ht;have hm:=adg ht;simp at hm;rcases hm with rfl |rfl
 ·exact(show Tryz.prog.wantsStandIn 40=false by kernel_rfl)
 ·exact(show Tryz.prog.wantsStandIn 41=false by kernel_rfl)
theorem hw:Rows.constraintDescribedUptoRow.wfByText (Rows.OpenSpec.upto Rows.constraintDescribedSpec)=true:=by kernel_rfl
theorem hm : Tryz.pinned.checked.prog.mainIs = some (true, "4a1a28b134421ac00ec0dc48d7b1f3c144ed05c082fc758581b7d353ba829929".toList) := by kernel_rfl
end Go.Proofs.YtimogkojklpdnaaGreatDoor.Cd
