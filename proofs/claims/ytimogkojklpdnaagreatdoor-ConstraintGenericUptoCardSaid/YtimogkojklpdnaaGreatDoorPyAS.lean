/-
  Pm, a part. Conditions: none.
-/
import Derived.Test.YtimogkojklpdnaaGreatDoorPyAR
set_option linter.unusedVariables false
set_option linter.unusedSimpArgs false
set_option linter.unnecessarySimpa false
set_option linter.unusedSectionVars false
namespace Go.Proofs.YtimogkojklpdnaaGreatDoor.Cg
open Go.ChangeShapes Go.WideShapes Go.ChangeAt Go.RowKit Go.Pm
set_option maxRecDepth 100000
set_option maxHeartbeats 2000000
theorem plain (f : FuncId) (fn : Func) (hf : Tryz.pinned.checked.prog.funcNamed "sealring/sealringlaw36.ConstraintGeneric" = some f) (Pq : Tryz.pinned.checked.prog.funcs[f]? = some fn) :
  false=Tryz.pinned.checked.prog.looks []/\∀(j:Nat) t,fn.params[j]?=some t->Tryz.pinned.checked.prog.wantsStandIn t=false:=by
 obtain rfl : f = 10 := aa2 ((show Tryz.prog.funcNamed "sealring/sealringlaw36.ConstraintGeneric" = some 10 by kernel_rfl).symm.trans hf) |>.symm
 obtain rfl:fn=Tryz.f10:=(aa2 (Tryz.func10.symm.trans Pq)).symm;refine⟨by kernel_rfl,λj t ht=>?_⟩;rw[Tryz.params10]at ht;have hm:=acZ ht;simp at hm;rcases hm with rfl |rfl;exact(show Tryz.prog.wantsStandIn 40=false by kernel_rfl);exact(show Tryz.prog.wantsStandIn 61=false by kernel_rfl)
theorem hw:Rows.constraintGenericUptoRow.wfByText (Rows.OpenSpec.upto Rows.constraintGenericSpec)=true:=by kernel_rfl
theorem hm : Tryz.pinned.checked.prog.mainIs = some (true, "4a1a28b134421ac00ec0dc48d7b1f3c144ed05c082fc758581b7d353ba829929".toList) := by kernel_rfl
end Go.Proofs.YtimogkojklpdnaaGreatDoor.Cg
