/-
  Pm, a part. Conditions: none.
-/
import Derived.Test.YtiipafafbpaaoaaGreatDoorPsAU
set_option linter.unusedVariables false
set_option linter.unusedSimpArgs false
set_option linter.unnecessarySimpa false
set_option linter.unusedSectionVars false
namespace Go.Proofs.YtiipafafbpaaoaaGreatDoor.Sm
open Go.ChangeShapes Go.WideShapes Go.ChangeAt Go.RowKit Go.Pm
set_option maxRecDepth 100000
set_option maxHeartbeats 2000000
theorem plain (f : FuncId) (i : Func) (u : Tryz.pinned.checked.prog.funcNamed "sealring/sealringlaw38.SimplifyMeasure" = some f) (v : Tryz.pinned.checked.prog.funcs[f]? = some i) :
  false=Tryz.pinned.checked.prog.looks []/\∀(j:Nat) t,i.params[j]?=some t->Tryz.pinned.checked.prog.wantsStandIn t=false:=by
 obtain rfl : f = 3 := af7 ((show Tryz.prog.funcNamed "sealring/sealringlaw38.SimplifyMeasure" = some 3 by kernel_rfl).symm.trans u) |>.symm
 obtain rfl:i=Tryz.f3:=(af7 (Tryz.func3.symm.trans v)).symm;refine⟨by kernel_rfl,λj t Z=>?_⟩;rw[Tryz.params3]at Z;have d:=ahw Z;simp at d;obtain rfl:=d;exact(show Tryz.prog.wantsStandIn 22=false by kernel_rfl)
theorem hw:Rows.simplifyMeasureUptoRow.wfByText (Rows.OpenSpec.upto Rows.simplifyMeasureSpec)=true:=by kernel_rfl
theorem hm : Tryz.pinned.checked.prog.mainIs = some (true, "c8a37a571755769fb2cf5c6bd1c8a3f4ddaa26b210ead3fa7ff3ca3633a8e781".toList) := by kernel_rfl
end Go.Proofs.YtiipafafbpaaoaaGreatDoor.Sm
