/-
  Pm, a part. Conditions: none.
-/
import Derived.Test.YtimogkojklpdnaaGreatDoorPxAA
import Derived.Test.YtimogkojklpdnaaGreatDoorProg
import Derived.Test.YtimogkojklpdnaaGreatDoorRows
import Derived.JoinedOf
import Derived.KernelRfl
set_option linter.unusedVariables false
set_option linter.unusedSimpArgs false
set_option linter.unnecessarySimpa false
set_option linter.unusedSectionVars false
namespace Go.Proofs.YtimogkojklpdnaaGreatDoor.Cv
open Go
set_option maxRecDepth 100000
set_option maxHeartbeats 4000000
theorem LB:(λ(P:Program) (f:FuncId) (fn:Func) (s:ChangeSpec) (c:OpenClaim)=>(c.wf (OpenSpec.ofChange s):Bool)) Tryz.prog 9 Tryz.f9 (Rows.OpenSpec.upto Rows.constraintValidSpec).bare Rows.constraintValidUptoRow=true:=by kernel_rfl
theorem LC:(λ(P:Program) (f:FuncId) (fn:Func) (s:ChangeSpec) (c:OpenClaim)=>(laidOutB P:Bool)) Tryz.prog 9 Tryz.f9 (Rows.OpenSpec.upto Rows.constraintValidSpec).bare Rows.constraintValidUptoRow=true:=by kernel_rfl
theorem LD:(λ(P:Program) (f:FuncId) (fn:Func) (s:ChangeSpec) (c:OpenClaim)=>(mapsRowed P:Bool)) Tryz.prog 9 Tryz.f9 (Rows.OpenSpec.upto Rows.constraintValidSpec).bare Rows.constraintValidUptoRow=true:=by kernel_rfl
theorem LF:(λ(P:Program) (f:FuncId) (fn:Func) (s:ChangeSpec) (c:OpenClaim)=>(fn.params.all (P.readableRec ·):Bool)) Tryz.prog 9 Tryz.f9 (Rows.OpenSpec.upto Rows.constraintValidSpec).bare Rows.constraintValidUptoRow=true:=by kernel_rfl
theorem LG:(λ(P:Program) (f:FuncId) (fn:Func) (s:ChangeSpec) (c:OpenClaim)=>(namedTie P c.named s.vars:Bool)) Tryz.prog 9 Tryz.f9 (Rows.OpenSpec.upto Rows.constraintValidSpec).bare Rows.constraintValidUptoRow=true:=by kernel_rfl
theorem LH:(λ(P:Program) (f:FuncId) (fn:Func) (s:ChangeSpec) (c:OpenClaim)=>((c.stops==[]):Bool)) Tryz.prog 9 Tryz.f9 (Rows.OpenSpec.upto Rows.constraintValidSpec).bare Rows.constraintValidUptoRow=true:=by kernel_rfl
theorem LI:(λ(P:Program) (f:FuncId) (fn:Func) (s:ChangeSpec) (c:OpenClaim)=>((P.stops==[]):Bool)) Tryz.prog 9 Tryz.f9 (Rows.OpenSpec.upto Rows.constraintValidSpec).bare Rows.constraintValidUptoRow=true:=by kernel_rfl
theorem LJ:(λ(P:Program) (f:FuncId) (fn:Func) (s:ChangeSpec) (c:OpenClaim)=>((c.knobs==[]):Bool)) Tryz.prog 9 Tryz.f9 (Rows.OpenSpec.upto Rows.constraintValidSpec).bare Rows.constraintValidUptoRow=true:=by kernel_rfl
theorem LK:(λ(P:Program) (f:FuncId) (fn:Func) (s:ChangeSpec) (c:OpenClaim)=>((P.stopKnobs==[]):Bool)) Tryz.prog 9 Tryz.f9 (Rows.OpenSpec.upto Rows.constraintValidSpec).bare Rows.constraintValidUptoRow=true:=by kernel_rfl
theorem LL:(λ(P:Program) (f:FuncId) (fn:Func) (s:ChangeSpec) (c:OpenClaim)=>((c.inPlace==P.inPlace f):Bool)) Tryz.prog 9 Tryz.f9 (Rows.OpenSpec.upto Rows.constraintValidSpec).bare Rows.constraintValidUptoRow=true:=by kernel_rfl
theorem IP:(λ(P:Program) (f:FuncId) (fn:Func) (s:ChangeSpec) (c:OpenClaim)=>((c.unfollowed==P.unfollowed f):Bool)) Tryz.prog 9 Tryz.f9 (Rows.OpenSpec.upto Rows.constraintValidSpec).bare Rows.constraintValidUptoRow=true:=by kernel_rfl
theorem IQ:(λ(P:Program) (f:FuncId) (fn:Func) (s:ChangeSpec) (c:OpenClaim)=>((c.recurses==P.recurses f):Bool)) Tryz.prog 9 Tryz.f9 (Rows.OpenSpec.upto Rows.constraintValidSpec).bare Rows.constraintValidUptoRow=true:=by kernel_rfl
theorem IR:(λ(P:Program) (f:FuncId) (fn:Func) (s:ChangeSpec) (c:OpenClaim)=>((c.named==P.varsNamed f):Bool)) Tryz.prog 9 Tryz.f9 (Rows.OpenSpec.upto Rows.constraintValidSpec).bare Rows.constraintValidUptoRow=true:=by kernel_rfl
theorem IS:(λ(P:Program) (f:FuncId) (fn:Func) (s:ChangeSpec) (c:OpenClaim)=>((c.maps==(fn.params.toList++s.plain.varTypes P).any (P.mapsRec ·)):Bool)) Tryz.prog 9 Tryz.f9 (Rows.OpenSpec.upto Rows.constraintValidSpec).bare Rows.constraintValidUptoRow=true:=by kernel_rfl
theorem IT:(λ(P:Program) (f:FuncId) (fn:Func) (s:ChangeSpec) (c:OpenClaim)=>((c.ifaces==(fn.params.toList++s.plain.varTypes P).any (P.ifacesRec ·)):Bool)) Tryz.prog 9 Tryz.f9 (Rows.OpenSpec.upto Rows.constraintValidSpec).bare Rows.constraintValidUptoRow=true:=by kernel_rfl
theorem IU:(λ(P:Program) (f:FuncId) (fn:Func) (s:ChangeSpec) (c:OpenClaim)=>((c.mapsOut==P.mapsAmong fn.resultTypes.toList):Bool)) Tryz.prog 9 Tryz.f9 (Rows.OpenSpec.upto Rows.constraintValidSpec).bare Rows.constraintValidUptoRow=true:=by kernel_rfl
theorem IV:(λ(P:Program) (f:FuncId) (fn:Func) (s:ChangeSpec) (c:OpenClaim)=>((c.loops==(fn.params.toList++s.plain.varTypes P).any (P.loopsFrom ·)):Bool)) Tryz.prog 9 Tryz.f9 (Rows.OpenSpec.upto Rows.constraintValidSpec).bare Rows.constraintValidUptoRow=true:=by kernel_rfl
theorem IW:(λ(P:Program) (f:FuncId) (fn:Func) (s:ChangeSpec) (c:OpenClaim)=>((c.wideKeys==(fn.params.toList++s.plain.varTypes P++fn.resultTypes.toList).any (P.wideKeysFrom ·)):Bool)) Tryz.prog 9 Tryz.f9 (Rows.OpenSpec.upto Rows.constraintValidSpec).bare Rows.constraintValidUptoRow=true:=by kernel_rfl
theorem IX:(λ(P:Program) (f:FuncId) (fn:Func) (s:ChangeSpec) (c:OpenClaim)=>(s.vars.all (P.varReadable ·):Bool)) Tryz.prog 9 Tryz.f9 (Rows.OpenSpec.upto Rows.constraintValidSpec).bare Rows.constraintValidUptoRow=true:=by kernel_rfl
theorem IY:(λ(P:Program) (f:FuncId) (fn:Func) (s:ChangeSpec) (c:OpenClaim)=>(fn.resultTypes.all (λt=>P.readableRec t&&decide (t<P.types.size)):Bool)) Tryz.prog 9 Tryz.f9 (Rows.OpenSpec.upto Rows.constraintValidSpec).bare Rows.constraintValidUptoRow=true:=by kernel_rfl
theorem IZ:(λ(P:Program) (f:FuncId) (fn:Func) (s:ChangeSpec) (c:OpenClaim)=>((c.ifacesOut==fn.resultTypes.toList.any (P.ifacesRec ·)):Bool)) Tryz.prog 9 Tryz.f9 (Rows.OpenSpec.upto Rows.constraintValidSpec).bare Rows.constraintValidUptoRow=true:=by kernel_rfl
theorem I0:(λ(P:Program) (f:FuncId) (fn:Func) (s:ChangeSpec) (c:OpenClaim)=>((c.loopsOut==fn.resultTypes.toList.any (P.loopsFrom ·)):Bool)) Tryz.prog 9 Tryz.f9 (Rows.OpenSpec.upto Rows.constraintValidSpec).bare Rows.constraintValidUptoRow=true:=by kernel_rfl
theorem I6:(λ(P:Program) (f:FuncId) (fn:Func) (s:ChangeSpec) (c:OpenClaim)=>((c.plainKeys==P.plainKeys):Bool)) Tryz.prog 9 Tryz.f9 (Rows.OpenSpec.upto Rows.constraintValidSpec).bare Rows.constraintValidUptoRow=true:=by kernel_rfl
theorem I7:(λ(P:Program) (f:FuncId) (fn:Func) (s:ChangeSpec) (c:OpenClaim)=>(c.shortTexts.isNone:Bool)) Tryz.prog 9 Tryz.f9 (Rows.OpenSpec.upto Rows.constraintValidSpec).bare Rows.constraintValidUptoRow=true:=by kernel_rfl
theorem I8:(λ(P:Program) (f:FuncId) (fn:Func) (s:ChangeSpec) (c:OpenClaim)=>(P.stopsHeard:Bool)) Tryz.prog 9 Tryz.f9 (Rows.OpenSpec.upto Rows.constraintValidSpec).bare Rows.constraintValidUptoRow=true:=by kernel_rfl
theorem I9:(λ(P:Program) (f:FuncId) (fn:Func) (s:ChangeSpec) (c:OpenClaim)=>(P.mayEnter:Bool)) Tryz.prog 9 Tryz.f9 (Rows.OpenSpec.upto Rows.constraintValidSpec).bare Rows.constraintValidUptoRow=true:=by kernel_rfl
theorem Ja:(λ(P:Program) (f:FuncId) (fn:Func) (s:ChangeSpec) (c:OpenClaim)=>((c.lifted==P.liftsFinal):Bool)) Tryz.prog 9 Tryz.f9 (Rows.OpenSpec.upto Rows.constraintValidSpec).bare Rows.constraintValidUptoRow=true:=by kernel_rfl
theorem Jb:(λ(P:Program) (f:FuncId) (fn:Func) (s:ChangeSpec) (c:OpenClaim)=>((P.make==some c.make):Bool)) Tryz.prog 9 Tryz.f9 (Rows.OpenSpec.upto Rows.constraintValidSpec).bare Rows.constraintValidUptoRow=true:=by kernel_rfl
theorem Jc:(λ(P:Program) (f:FuncId) (fn:Func) (s:ChangeSpec) (c:OpenClaim)=>((c.kinds==(if c.domain.isEmpty then[]else fn.params.toList.map λt=>match P.underlying t with |some (.int k)=>some k |_=>none)):Bool)) Tryz.prog 9 Tryz.f9 (Rows.OpenSpec.upto Rows.constraintValidSpec).bare Rows.constraintValidUptoRow=true:=by kernel_rfl
theorem Jd:(λ(P:Program) (f:FuncId) (fn:Func) (s:ChangeSpec) (c:OpenClaim)=>((c.pinned==c.pinnedBy):Bool)) Tryz.prog 9 Tryz.f9 (Rows.OpenSpec.upto Rows.constraintValidSpec).bare Rows.constraintValidUptoRow=true:=by kernel_rfl
theorem Je:(λ(P:Program) (f:FuncId) (fn:Func) (s:ChangeSpec) (c:OpenClaim)=>((c.veiled==(fn.params.toList++s.plain.varTypes P++fn.resultTypes.toList).any (P.veiledRec ·)):Bool)) Tryz.prog 9 Tryz.f9 (Rows.OpenSpec.upto Rows.constraintValidSpec).bare Rows.constraintValidUptoRow=true:=by kernel_rfl
theorem Jf:(λ(P:Program) (f:FuncId) (fn:Func) (s:ChangeSpec) (c:OpenClaim)=>(c.veiledFits P fn.params.toList (fn.params.toList++s.plain.varTypes P++fn.resultTypes.toList):Bool)) Tryz.prog 9 Tryz.f9 (Rows.OpenSpec.upto Rows.constraintValidSpec).bare Rows.constraintValidUptoRow=true:=by kernel_rfl
theorem fy{a b:Bool}(ha:a=true)(hb:b=true):(a&&b)=true:=by rw[ha,hb];rfl
theorem closed:joinedFacts Tryz.prog 9 Tryz.f9 (Rows.OpenSpec.upto Rows.constraintValidSpec).bare Rows.constraintValidUptoRow=true:=by
 unfold joinedFacts;exact(fy (fy (fy (fy (fy (fy (fy (fy (fy (fy (fy (fy (fy (fy (fy (fy (fy (fy (fy (fy (fy (fy (fy (fy (fy (fy (fy (fy (fy (fy (fy LB LC) LD) LF) LG) LH) LI) LJ) LK) LL) IP) IQ) IR) IS) IT) IU) IV) IW) IX) IY) IZ) I0) I6) I7) I8) I9) Ja) Jb) Jc) Jd) Je) Jf)
end Go.Proofs.YtimogkojklpdnaaGreatDoor.Cv
