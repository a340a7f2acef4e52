/-
  Pm, a part. Conditions: none.
-/
import Derived.Test.YtimogkojklpdnaaGreatDoorPxAP
set_option linter.unusedVariables false
set_option linter.unusedSimpArgs false
set_option linter.unnecessarySimpa false
set_option linter.unusedSectionVars false
namespace Go.Proofs.YtimogkojklpdnaaGreatDoor.Cv
open Go.ChangeShapes Go.WideShapes Go.ChangeAt Go.RowKit Go.Pm
set_option maxRecDepth 100000
set_option maxHeartbeats 2000000
theorem plain (f : FuncId) (fn : Func) (hf : Tryz.pinned.checked.prog.funcNamed "sealring/sealringlaw36.ConstraintValid" = some f) (CB : Tryz.pinned.checked.prog.funcs[f]? = some fn) :
  false=Tryz.pinned.checked.prog.looks []/\∀(j:Nat) t,fn.params[j]?=some t->Tryz.pinned.checked.prog.wantsStandIn t=false:=by
 obtain rfl : f = 9 := TF ((show Tryz.prog.funcNamed "sealring/sealringlaw36.ConstraintValid" = some 9 by kernel_rfl).symm.trans hf) |>.symm
 obtain rfl:fn=Tryz.f9:=(TF (Tryz.func9.symm.trans CB)).symm;refine⟨by kernel_rfl,λj t ht=>?_⟩;rw[Tryz.params9]at ht;have hm:=UL ht;simp at hm;obtain rfl:=hm;exact(show Tryz.prog.wantsStandIn 22=false by kernel_rfl)
theorem hw:Rows.constraintValidUptoRow.wfByText (Rows.OpenSpec.upto Rows.constraintValidSpec)=true:=by kernel_rfl
theorem hm : Tryz.pinned.checked.prog.mainIs = some (true, "4a1a28b134421ac00ec0dc48d7b1f3c144ed05c082fc758581b7d353ba829929".toList) := by kernel_rfl
end Go.Proofs.YtimogkojklpdnaaGreatDoor.Cv
