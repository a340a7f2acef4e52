/-
  Pm, a part. Conditions: none.
-/
import Derived.Test.YtimogkojklpdnaaGreatDoorPyAA
import Derived.Test.YtimogkojklpdnaaGreatDoorProg
import Derived.Test.YtimogkojklpdnaaGreatDoorRows
import Derived.JoinedOf
import Derived.KernelRfl
set_option linter.unusedVariables false
set_option linter.unusedSimpArgs false
set_option linter.unnecessarySimpa false
set_option linter.unusedSectionVars false
namespace Go.Proofs.YtimogkojklpdnaaGreatDoor.Cg
open Go
set_option maxRecDepth 100000
set_option maxHeartbeats 4000000
theorem XT:(λ(P:Program) (f:FuncId) (fn:Func) (s:ChangeSpec) (c:OpenClaim)=>(c.wf (OpenSpec.ofChange s):Bool)) Tryz.prog 10 Tryz.f10 (Rows.OpenSpec.upto Rows.constraintGenericSpec).bare Rows.constraintGenericUptoRow=true:=by kernel_rfl
theorem XU:(λ(P:Program) (f:FuncId) (fn:Func) (s:ChangeSpec) (c:OpenClaim)=>(laidOutB P:Bool)) Tryz.prog 10 Tryz.f10 (Rows.OpenSpec.upto Rows.constraintGenericSpec).bare Rows.constraintGenericUptoRow=true:=by kernel_rfl
theorem XV:(λ(P:Program) (f:FuncId) (fn:Func) (s:ChangeSpec) (c:OpenClaim)=>(mapsRowed P:Bool)) Tryz.prog 10 Tryz.f10 (Rows.OpenSpec.upto Rows.constraintGenericSpec).bare Rows.constraintGenericUptoRow=true:=by kernel_rfl
theorem XW:(λ(P:Program) (f:FuncId) (fn:Func) (s:ChangeSpec) (c:OpenClaim)=>(fn.params.all (P.readableRec ·):Bool)) Tryz.prog 10 Tryz.f10 (Rows.OpenSpec.upto Rows.constraintGenericSpec).bare Rows.constraintGenericUptoRow=true:=by kernel_rfl
theorem XX:(λ(P:Program) (f:FuncId) (fn:Func) (s:ChangeSpec) (c:OpenClaim)=>(namedTie P c.named s.vars:Bool)) Tryz.prog 10 Tryz.f10 (Rows.OpenSpec.upto Rows.constraintGenericSpec).bare Rows.constraintGenericUptoRow=true:=by kernel_rfl
theorem XY:(λ(P:Program) (f:FuncId) (fn:Func) (s:ChangeSpec) (c:OpenClaim)=>((c.stops==[]):Bool)) Tryz.prog 10 Tryz.f10 (Rows.OpenSpec.upto Rows.constraintGenericSpec).bare Rows.constraintGenericUptoRow=true:=by kernel_rfl
theorem XZ:(λ(P:Program) (f:FuncId) (fn:Func) (s:ChangeSpec) (c:OpenClaim)=>((P.stops==[]):Bool)) Tryz.prog 10 Tryz.f10 (Rows.OpenSpec.upto Rows.constraintGenericSpec).bare Rows.constraintGenericUptoRow=true:=by kernel_rfl
theorem X0:(λ(P:Program) (f:FuncId) (fn:Func) (s:ChangeSpec) (c:OpenClaim)=>((c.knobs==[]):Bool)) Tryz.prog 10 Tryz.f10 (Rows.OpenSpec.upto Rows.constraintGenericSpec).bare Rows.constraintGenericUptoRow=true:=by kernel_rfl
theorem X6:(λ(P:Program) (f:FuncId) (fn:Func) (s:ChangeSpec) (c:OpenClaim)=>((P.stopKnobs==[]):Bool)) Tryz.prog 10 Tryz.f10 (Rows.OpenSpec.upto Rows.constraintGenericSpec).bare Rows.constraintGenericUptoRow=true:=by kernel_rfl
theorem X7:(λ(P:Program) (f:FuncId) (fn:Func) (s:ChangeSpec) (c:OpenClaim)=>((c.inPlace==P.inPlace f):Bool)) Tryz.prog 10 Tryz.f10 (Rows.OpenSpec.upto Rows.constraintGenericSpec).bare Rows.constraintGenericUptoRow=true:=by kernel_rfl
theorem UK:(λ(P:Program) (f:FuncId) (fn:Func) (s:ChangeSpec) (c:OpenClaim)=>((c.unfollowed==P.unfollowed f):Bool)) Tryz.prog 10 Tryz.f10 (Rows.OpenSpec.upto Rows.constraintGenericSpec).bare Rows.constraintGenericUptoRow=true:=by kernel_rfl
theorem UL:(λ(P:Program) (f:FuncId) (fn:Func) (s:ChangeSpec) (c:OpenClaim)=>((c.recurses==P.recurses f):Bool)) Tryz.prog 10 Tryz.f10 (Rows.OpenSpec.upto Rows.constraintGenericSpec).bare Rows.constraintGenericUptoRow=true:=by kernel_rfl
theorem UM:(λ(P:Program) (f:FuncId) (fn:Func) (s:ChangeSpec) (c:OpenClaim)=>((c.named==P.varsNamed f):Bool)) Tryz.prog 10 Tryz.f10 (Rows.OpenSpec.upto Rows.constraintGenericSpec).bare Rows.constraintGenericUptoRow=true:=by kernel_rfl
theorem UN:(λ(P:Program) (f:FuncId) (fn:Func) (s:ChangeSpec) (c:OpenClaim)=>((c.maps==(fn.params.toList++s.plain.varTypes P).any (P.mapsRec ·)):Bool)) Tryz.prog 10 Tryz.f10 (Rows.OpenSpec.upto Rows.constraintGenericSpec).bare Rows.constraintGenericUptoRow=true:=by kernel_rfl
theorem UO:(λ(P:Program) (f:FuncId) (fn:Func) (s:ChangeSpec) (c:OpenClaim)=>((c.ifaces==(fn.params.toList++s.plain.varTypes P).any (P.ifacesRec ·)):Bool)) Tryz.prog 10 Tryz.f10 (Rows.OpenSpec.upto Rows.constraintGenericSpec).bare Rows.constraintGenericUptoRow=true:=by kernel_rfl
theorem UP:(λ(P:Program) (f:FuncId) (fn:Func) (s:ChangeSpec) (c:OpenClaim)=>((c.mapsOut==P.mapsAmong fn.resultTypes.toList):Bool)) Tryz.prog 10 Tryz.f10 (Rows.OpenSpec.upto Rows.constraintGenericSpec).bare Rows.constraintGenericUptoRow=true:=by kernel_rfl
theorem UQ:(λ(P:Program) (f:FuncId) (fn:Func) (s:ChangeSpec) (c:OpenClaim)=>((c.loops==(fn.params.toList++s.plain.varTypes P).any (P.loopsFrom ·)):Bool)) Tryz.prog 10 Tryz.f10 (Rows.OpenSpec.upto Rows.constraintGenericSpec).bare Rows.constraintGenericUptoRow=true:=by kernel_rfl
theorem UR:(λ(P:Program) (f:FuncId) (fn:Func) (s:ChangeSpec) (c:OpenClaim)=>((c.wideKeys==(fn.params.toList++s.plain.varTypes P++fn.resultTypes.toList).any (P.wideKeysFrom ·)):Bool)) Tryz.prog 10 Tryz.f10 (Rows.OpenSpec.upto Rows.constraintGenericSpec).bare Rows.constraintGenericUptoRow=true:=by kernel_rfl
theorem US:(λ(P:Program) (f:FuncId) (fn:Func) (s:ChangeSpec) (c:OpenClaim)=>(s.vars.all (P.varReadable ·):Bool)) Tryz.prog 10 Tryz.f10 (Rows.OpenSpec.upto Rows.constraintGenericSpec).bare Rows.constraintGenericUptoRow=true:=by kernel_rfl
theorem UT:(λ(P:Program) (f:FuncId) (fn:Func) (s:ChangeSpec) (c:OpenClaim)=>(fn.resultTypes.all (λt=>P.readableRec t&&decide (t<P.types.size)):Bool)) Tryz.prog 10 Tryz.f10 (Rows.OpenSpec.upto Rows.constraintGenericSpec).bare Rows.constraintGenericUptoRow=true:=by kernel_rfl
theorem UU:(λ(P:Program) (f:FuncId) (fn:Func) (s:ChangeSpec) (c:OpenClaim)=>((c.ifacesOut==fn.resultTypes.toList.any (P.ifacesRec ·)):Bool)) Tryz.prog 10 Tryz.f10 (Rows.OpenSpec.upto Rows.constraintGenericSpec).bare Rows.constraintGenericUptoRow=true:=by kernel_rfl
theorem UW:(λ(P:Program) (f:FuncId) (fn:Func) (s:ChangeSpec) (c:OpenClaim)=>((c.loopsOut==fn.resultTypes.toList.any (P.loopsFrom ·)):Bool)) Tryz.prog 10 Tryz.f10 (Rows.OpenSpec.upto Rows.constraintGenericSpec).bare Rows.constraintGenericUptoRow=true:=by kernel_rfl
theorem UX:(λ(P:Program) (f:FuncId) (fn:Func) (s:ChangeSpec) (c:OpenClaim)=>((c.plainKeys==P.plainKeys):Bool)) Tryz.prog 10 Tryz.f10 (Rows.OpenSpec.upto Rows.constraintGenericSpec).bare Rows.constraintGenericUptoRow=true:=by kernel_rfl
theorem UY:(λ(P:Program) (f:FuncId) (fn:Func) (s:ChangeSpec) (c:OpenClaim)=>(c.shortTexts.isNone:Bool)) Tryz.prog 10 Tryz.f10 (Rows.OpenSpec.upto Rows.constraintGenericSpec).bare Rows.constraintGenericUptoRow=true:=by kernel_rfl
theorem UZ:(λ(P:Program) (f:FuncId) (fn:Func) (s:ChangeSpec) (c:OpenClaim)=>(P.stopsHeard:Bool)) Tryz.prog 10 Tryz.f10 (Rows.OpenSpec.upto Rows.constraintGenericSpec).bare Rows.constraintGenericUptoRow=true:=by kernel_rfl
theorem U0:(λ(P:Program) (f:FuncId) (fn:Func) (s:ChangeSpec) (c:OpenClaim)=>(P.mayEnter:Bool)) Tryz.prog 10 Tryz.f10 (Rows.OpenSpec.upto Rows.constraintGenericSpec).bare Rows.constraintGenericUptoRow=true:=by kernel_rfl
theorem U1:(λ(P:Program) (f:FuncId) (fn:Func) (s:ChangeSpec) (c:OpenClaim)=>((c.lifted==P.liftsFinal):Bool)) Tryz.prog 10 Tryz.f10 (Rows.OpenSpec.upto Rows.constraintGenericSpec).bare Rows.constraintGenericUptoRow=true:=by kernel_rfl
theorem U2:(λ(P:Program) (f:FuncId) (fn:Func) (s:ChangeSpec) (c:OpenClaim)=>((P.make==some c.make):Bool)) Tryz.prog 10 Tryz.f10 (Rows.OpenSpec.upto Rows.constraintGenericSpec).bare Rows.constraintGenericUptoRow=true:=by kernel_rfl
theorem U3:(λ(P:Program) (f:FuncId) (fn:Func) (s:ChangeSpec) (c:OpenClaim)=>((c.kinds==(if c.domain.isEmpty then[]else fn.params.toList.map λt=>match P.underlying t with |some (.int k)=>some k |_=>none)):Bool)) Tryz.prog 10 Tryz.f10 (Rows.OpenSpec.upto Rows.constraintGenericSpec).bare Rows.constraintGenericUptoRow=true:=by kernel_rfl
theorem U4:(λ(P:Program) (f:FuncId) (fn:Func) (s:ChangeSpec) (c:OpenClaim)=>((c.pinned==c.pinnedBy):Bool)) Tryz.prog 10 Tryz.f10 (Rows.OpenSpec.upto Rows.constraintGenericSpec).bare Rows.constraintGenericUptoRow=true:=by kernel_rfl
theorem U5:(λ(P:Program) (f:FuncId) (fn:Func) (s:ChangeSpec) (c:OpenClaim)=>((c.veiled==(fn.params.toList++s.plain.varTypes P++fn.resultTypes.toList).any (P.veiledRec ·)):Bool)) Tryz.prog 10 Tryz.f10 (Rows.OpenSpec.upto Rows.constraintGenericSpec).bare Rows.constraintGenericUptoRow=true:=by kernel_rfl
theorem U6:(λ(P:Program) (f:FuncId) (fn:Func) (s:ChangeSpec) (c:OpenClaim)=>(c.veiledFits P fn.params.toList (fn.params.toList++s.plain.varTypes P++fn.resultTypes.toList):Bool)) Tryz.prog 10 Tryz.f10 (Rows.OpenSpec.upto Rows.constraintGenericSpec).bare Rows.constraintGenericUptoRow=true:=by kernel_rfl
theorem iH{a b:Bool}(ha:a=true)(hb:b=true):(a&&b)=true:=by rw[ha,hb];rfl
theorem closed:joinedFacts Tryz.prog 10 Tryz.f10 (Rows.OpenSpec.upto Rows.constraintGenericSpec).bare Rows.constraintGenericUptoRow=true:=by
 unfold joinedFacts;exact(iH (iH (iH (iH (iH (iH (iH (iH (iH (iH (iH (iH (iH (iH (iH (iH (iH (iH (iH (iH (iH (iH (iH (iH (iH (iH (iH (iH (iH (iH (iH XT XU) XV) XW) XX) XY) XZ) X0) X6) X7) UK) UL) UM) UN) UO) UP) UQ) UR) US) UT) UU) UW) UX) UY) UZ) U0) U1) U2) U3) U4) U5) U6)
end Go.Proofs.YtimogkojklpdnaaGreatDoor.Cg
