/-
  Pm, a part. Conditions: none.
-/
import Derived.Test.YtimogkojklpdnaaGreatDoorPwAA
import Derived.Test.YtimogkojklpdnaaGreatDoorProg
import Derived.Test.YtimogkojklpdnaaGreatDoorRows
import Derived.JoinedOf
import Derived.KernelRfl
set_option linter.unusedVariables false
set_option linter.unusedSimpArgs false
set_option linter.unnecessarySimpa false
namespace Go.Proofs.YtimogkojklpdnaaGreatDoor.Ct
open Go
set_option maxRecDepth 100000
set_option maxHeartbeats 4000000
theorem YY:(λ(P:Program) (f:FuncId) (fn:Func) (s:ChangeSpec) (c:OpenClaim)=>(c.wf (OpenSpec.ofChange s):Bool)) Tryz.prog 5 Tryz.f5 (Rows.OpenSpec.upto Rows.constraintTrivialSpec).bare Rows.constraintTrivialUptoRow=true:=by kernel_rfl
theorem YZ:(λ(P:Program) (f:FuncId) (fn:Func) (s:ChangeSpec) (c:OpenClaim)=>(laidOutB P:Bool)) Tryz.prog 5 Tryz.f5 (Rows.OpenSpec.upto Rows.constraintTrivialSpec).bare Rows.constraintTrivialUptoRow=true:=by kernel_rfl
theorem Y0:(λ(P:Program) (f:FuncId) (fn:Func) (s:ChangeSpec) (c:OpenClaim)=>(mapsRowed P:Bool)) Tryz.prog 5 Tryz.f5 (Rows.OpenSpec.upto Rows.constraintTrivialSpec).bare Rows.constraintTrivialUptoRow=true:=by kernel_rfl
theorem Y1:(λ(P:Program) (f:FuncId) (fn:Func) (s:ChangeSpec) (c:OpenClaim)=>(fn.params.all (P.readableRec ·):Bool)) Tryz.prog 5 Tryz.f5 (Rows.OpenSpec.upto Rows.constraintTrivialSpec).bare Rows.constraintTrivialUptoRow=true:=by kernel_rfl
theorem Y2:(λ(P:Program) (f:FuncId) (fn:Func) (s:ChangeSpec) (c:OpenClaim)=>(namedTie P c.named s.vars:Bool)) Tryz.prog 5 Tryz.f5 (Rows.OpenSpec.upto Rows.constraintTrivialSpec).bare Rows.constraintTrivialUptoRow=true:=by kernel_rfl
theorem Y3:(λ(P:Program) (f:FuncId) (fn:Func) (s:ChangeSpec) (c:OpenClaim)=>((c.stops==[]):Bool)) Tryz.prog 5 Tryz.f5 (Rows.OpenSpec.upto Rows.constraintTrivialSpec).bare Rows.constraintTrivialUptoRow=true:=by kernel_rfl
theorem Y4:(λ(P:Program) (f:FuncId) (fn:Func) (s:ChangeSpec) (c:OpenClaim)=>((P.stops==[]):Bool)) Tryz.prog 5 Tryz.f5 (Rows.OpenSpec.upto Rows.constraintTrivialSpec).bare Rows.constraintTrivialUptoRow=true:=by kernel_rfl
theorem Y5:(λ(P:Program) (f:FuncId) (fn:Func) (s:ChangeSpec) (c:OpenClaim)=>((c.knobs==[]):Bool)) Tryz.prog 5 Tryz.f5 (Rows.OpenSpec.upto Rows.constraintTrivialSpec).bare Rows.constraintTrivialUptoRow=true:=by kernel_rfl
theorem Y6:(λ(P:Program) (f:FuncId) (fn:Func) (s:ChangeSpec) (c:OpenClaim)=>((P.stopKnobs==[]):Bool)) Tryz.prog 5 Tryz.f5 (Rows.OpenSpec.upto Rows.constraintTrivialSpec).bare Rows.constraintTrivialUptoRow=true:=by kernel_rfl
theorem Y7:(λ(P:Program) (f:FuncId) (fn:Func) (s:ChangeSpec) (c:OpenClaim)=>((c.inPlace==P.inPlace f):Bool)) Tryz.prog 5 Tryz.f5 (Rows.OpenSpec.upto Rows.constraintTrivialSpec).bare Rows.constraintTrivialUptoRow=true:=by kernel_rfl
theorem Vu:(λ(P:Program) (f:FuncId) (fn:Func) (s:ChangeSpec) (c:OpenClaim)=>((c.unfollowed==P.unfollowed f):Bool)) Tryz.prog 5 Tryz.f5 (Rows.OpenSpec.upto Rows.constraintTrivialSpec).bare Rows.constraintTrivialUptoRow=true:=by kernel_rfl
theorem Vv:(λ(P:Program) (f:FuncId) (fn:Func) (s:ChangeSpec) (c:OpenClaim)=>((c.recurses==P.recurses f):Bool)) Tryz.prog 5 Tryz.f5 (Rows.OpenSpec.upto Rows.constraintTrivialSpec).bare Rows.constraintTrivialUptoRow=true:=by kernel_rfl
theorem Vw:(λ(P:Program) (f:FuncId) (fn:Func) (s:ChangeSpec) (c:OpenClaim)=>((c.named==P.varsNamed f):Bool)) Tryz.prog 5 Tryz.f5 (Rows.OpenSpec.upto Rows.constraintTrivialSpec).bare Rows.constraintTrivialUptoRow=true:=by kernel_rfl
theorem Vx:(λ(P:Program) (f:FuncId) (fn:Func) (s:ChangeSpec) (c:OpenClaim)=>((c.maps==(fn.params.toList++s.plain.varTypes P).any (P.mapsRec ·)):Bool)) Tryz.prog 5 Tryz.f5 (Rows.OpenSpec.upto Rows.constraintTrivialSpec).bare Rows.constraintTrivialUptoRow=true:=by kernel_rfl
theorem Vy:(λ(P:Program) (f:FuncId) (fn:Func) (s:ChangeSpec) (c:OpenClaim)=>((c.ifaces==(fn.params.toList++s.plain.varTypes P).any (P.ifacesRec ·)):Bool)) Tryz.prog 5 Tryz.f5 (Rows.OpenSpec.upto Rows.constraintTrivialSpec).bare Rows.constraintTrivialUptoRow=true:=by kernel_rfl
theorem Vz:(λ(P:Program) (f:FuncId) (fn:Func) (s:ChangeSpec) (c:OpenClaim)=>((c.mapsOut==P.mapsAmong fn.resultTypes.toList):Bool)) Tryz.prog 5 Tryz.f5 (Rows.OpenSpec.upto Rows.constraintTrivialSpec).bare Rows.constraintTrivialUptoRow=true:=by kernel_rfl
theorem VA:(λ(P:Program) (f:FuncId) (fn:Func) (s:ChangeSpec) (c:OpenClaim)=>((c.loops==(fn.params.toList++s.plain.varTypes P).any (P.loopsFrom ·)):Bool)) Tryz.prog 5 Tryz.f5 (Rows.OpenSpec.upto Rows.constraintTrivialSpec).bare Rows.constraintTrivialUptoRow=true:=by kernel_rfl
theorem VB:(λ(P:Program) (f:FuncId) (fn:Func) (s:ChangeSpec) (c:OpenClaim)=>((c.wideKeys==(fn.params.toList++s.plain.varTypes P++fn.resultTypes.toList).any (P.wideKeysFrom ·)):Bool)) Tryz.prog 5 Tryz.f5 (Rows.OpenSpec.upto Rows.constraintTrivialSpec).bare Rows.constraintTrivialUptoRow=true:=by kernel_rfl
theorem VC:(λ(P:Program) (f:FuncId) (fn:Func) (s:ChangeSpec) (c:OpenClaim)=>(s.vars.all (P.varReadable ·):Bool)) Tryz.prog 5 Tryz.f5 (Rows.OpenSpec.upto Rows.constraintTrivialSpec).bare Rows.constraintTrivialUptoRow=true:=by kernel_rfl
theorem VD:(λ(P:Program) (f:FuncId) (fn:Func) (s:ChangeSpec) (c:OpenClaim)=>(fn.resultTypes.all (λt=>P.readableRec t&&decide (t<P.types.size)):Bool)) Tryz.prog 5 Tryz.f5 (Rows.OpenSpec.upto Rows.constraintTrivialSpec).bare Rows.constraintTrivialUptoRow=true:=by kernel_rfl
theorem VE:(λ(P:Program) (f:FuncId) (fn:Func) (s:ChangeSpec) (c:OpenClaim)=>((c.ifacesOut==fn.resultTypes.toList.any (P.ifacesRec ·)):Bool)) Tryz.prog 5 Tryz.f5 (Rows.OpenSpec.upto Rows.constraintTrivialSpec).bare Rows.constraintTrivialUptoRow=true:=by kernel_rfl
theorem VF:(λ(P:Program) (f:FuncId) (fn:Func) (s:ChangeSpec) (c:OpenClaim)=>((c.loopsOut==fn.resultTypes.toList.any (P.loopsFrom ·)):Bool)) Tryz.prog 5 Tryz.f5 (Rows.OpenSpec.upto Rows.constraintTrivialSpec).bare Rows.constraintTrivialUptoRow=true:=by kernel_rfl
theorem VG:(λ(P:Program) (f:FuncId) (fn:Func) (s:ChangeSpec) (c:OpenClaim)=>((c.plainKeys==P.plainKeys):Bool)) Tryz.prog 5 Tryz.f5 (Rows.OpenSpec.upto Rows.constraintTrivialSpec).bare Rows.constraintTrivialUptoRow=true:=by kernel_rfl
theorem VH:(λ(P:Program) (f:FuncId) (fn:Func) (s:ChangeSpec) (c:OpenClaim)=>(c.shortTexts.isNone:Bool)) Tryz.prog 5 Tryz.f5 (Rows.OpenSpec.upto Rows.constraintTrivialSpec).bare Rows.constraintTrivialUptoRow=true:=by kernel_rfl
theorem VI:(λ(P:Program) (f:FuncId) (fn:Func) (s:ChangeSpec) (c:OpenClaim)=>(P.stopsHeard:Bool)) Tryz.prog 5 Tryz.f5 (Rows.OpenSpec.upto Rows.constraintTrivialSpec).bare Rows.constraintTrivialUptoRow=true:=by kernel_rfl
theorem VJ:(λ(P:Program) (f:FuncId) (fn:Func) (s:ChangeSpec) (c:OpenClaim)=>(P.mayEnter:Bool)) Tryz.prog 5 Tryz.f5 (Rows.OpenSpec.upto Rows.constraintTrivialSpec).bare Rows.constraintTrivialUptoRow=true:=by kernel_rfl
theorem VK:(λ(P:Program) (f:FuncId) (fn:Func) (s:ChangeSpec) (c:OpenClaim)=>((c.lifted==P.liftsFinal):Bool)) Tryz.prog 5 Tryz.f5 (Rows.OpenSpec.upto Rows.constraintTrivialSpec).bare Rows.constraintTrivialUptoRow=true:=by kernel_rfl
theorem VL:(λ(P:Program) (f:FuncId) (fn:Func) (s:ChangeSpec) (c:OpenClaim)=>((P.make==some c.make):Bool)) Tryz.prog 5 Tryz.f5 (Rows.OpenSpec.upto Rows.constraintTrivialSpec).bare Rows.constraintTrivialUptoRow=true:=by kernel_rfl
theorem VN:(λ(P:Program) (f:FuncId) (fn:Func) (s:ChangeSpec) (c:OpenClaim)=>((c.kinds==(if c.domain.isEmpty then[]else fn.params.toList.map λt=>match P.underlying t with |some (.int k)=>some k |_=>none)):Bool)) Tryz.prog 5 Tryz.f5 (Rows.OpenSpec.upto Rows.constraintTrivialSpec).bare Rows.constraintTrivialUptoRow=true:=by kernel_rfl
theorem VO:(λ(P:Program) (f:FuncId) (fn:Func) (s:ChangeSpec) (c:OpenClaim)=>((c.pinned==c.pinnedBy):Bool)) Tryz.prog 5 Tryz.f5 (Rows.OpenSpec.upto Rows.constraintTrivialSpec).bare Rows.constraintTrivialUptoRow=true:=by kernel_rfl
theorem VP:(λ(P:Program) (f:FuncId) (fn:Func) (s:ChangeSpec) (c:OpenClaim)=>((c.veiled==(fn.params.toList++s.plain.varTypes P++fn.resultTypes.toList).any (P.veiledRec ·)):Bool)) Tryz.prog 5 Tryz.f5 (Rows.OpenSpec.upto Rows.constraintTrivialSpec).bare Rows.constraintTrivialUptoRow=true:=by kernel_rfl
theorem VR:(λ(P:Program) (f:FuncId) (fn:Func) (s:ChangeSpec) (c:OpenClaim)=>(c.veiledFits P fn.params.toList (fn.params.toList++s.plain.varTypes P++fn.resultTypes.toList):Bool)) Tryz.prog 5 Tryz.f5 (Rows.OpenSpec.upto Rows.constraintTrivialSpec).bare Rows.constraintTrivialUptoRow=true:=by kernel_rfl
theorem iV{a b:Bool}(ha:a=true)(hb:b=true):(a&&b)=true:=by rw[ha,hb];rfl
theorem closed:joinedFacts Tryz.prog 5 Tryz.f5 (Rows.OpenSpec.upto Rows.constraintTrivialSpec).bare Rows.constraintTrivialUptoRow=true:=by
 unfold joinedFacts;exact(iV (iV (iV (iV (iV (iV (iV (iV (iV (iV (iV (iV (iV (iV (iV (iV (iV (iV (iV (iV (iV (iV (iV (iV (iV (iV (iV (iV (iV (iV (iV YY YZ) Y0) Y1) Y2) Y3) Y4) Y5) Y6) Y7) Vu) Vv) Vw) Vx) Vy) Vz) VA) VB) VC) VD) VE) VF) VG) VH) VI) VJ) VK) VL) VN) VO) VP) VR)
end Go.Proofs.YtimogkojklpdnaaGreatDoor.Ct
