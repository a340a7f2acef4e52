/-
  A part of the library Pm and its contracts (joined by program): PmLinkI4. Conditions: none.
-/
import Derived.Test.YtimogkojklpdnaaGreatDoorPzAQ
set_option linter.unusedVariables false
set_option linter.unusedSimpArgs false
section
set_option maxRecDepth 100000
set_option maxHeartbeats 2000000
namespace Go.Proofs.YtimogkojklpdnaaGreatDoor.Ci
open Go.ChangeShapes Go.WideShapes Go.ChangeAt Go.RowKit Go.Pm
theorem plain (f : FuncId) (fn : Func) (hf : Tryz.pinned.checked.prog.funcNamed "sealring/sealringlaw36.ConstraintInstance" = some f) (hfn : Tryz.pinned.checked.prog.funcs[f]? = some fn) :
  false=Tryz.pinned.checked.prog.looks []∧∀ (j:Nat) t,fn.params[j]?=some t→Tryz.pinned.checked.prog.wantsStandIn t=false:=by
 obtain rfl : f = 7 := Option.some.inj ((show Tryz.prog.funcNamed "sealring/sealringlaw36.ConstraintInstance" = some 7 by kernel_rfl).symm.trans hf) |>.symm
 obtain rfl:fn=Tryz.f7:=(Option.some.inj (Tryz.func7.symm.trans hfn)).symm
 refine ⟨by kernel_rfl,fun j t ht=>?_⟩
 rw [Tryz.params7] at ht
 have hm:=Array.mem_of_getElem? ht
 simp at hm
 rcases hm with rfl | rfl
 ·exact (show Tryz.prog.wantsStandIn 22=false by kernel_rfl)
 ·exact (show Tryz.prog.wantsStandIn 23=false by kernel_rfl)
theorem hw:Rows.constraintInstanceUptoRow.wfByText (Rows.OpenSpec.upto Rows.constraintInstanceSpec)=true:=by kernel_rfl
theorem hm : Tryz.pinned.checked.prog.mainIs = some (true, "4a1a28b134421ac00ec0dc48d7b1f3c144ed05c082fc758581b7d353ba829929".toList) := by kernel_rfl
end Go.Proofs.YtimogkojklpdnaaGreatDoor.Ci
end
