/-
  A part of the library Pm (joined by program). Conditions: none.
-/
import Derived.Test.YtimogkojklpdnaaGreatDoorPyAA
import Derived.Test.YtimogkojklpdnaaGreatDoorProg
import Derived.Test.YtimogkojklpdnaaGreatDoorRows
import Derived.JoinedOf
import Derived.KernelRfl
set_option linter.unusedVariables false
set_option linter.unusedSimpArgs false
set_option linter.unnecessarySimpa false
namespace Go.Proofs.YtimogkojklpdnaaGreatDoor.Cr
open Go
set_option maxRecDepth 100000
set_option maxHeartbeats 4000000
theorem VI:(λ(P:Program) (f:FuncId) (fn:Func) (s:ChangeSpec) (c:OpenClaim)=>(c.wf (OpenSpec.ofChange s):Bool)) Tryz.prog 6 Tryz.f6 (Rows.OpenSpec.upto Rows.constraintDropsSpec).bare Rows.constraintDropsUptoRow=true:=by kernel_rfl
theorem VJ:(λ(P:Program) (f:FuncId) (fn:Func) (s:ChangeSpec) (c:OpenClaim)=>(laidOutB P:Bool)) Tryz.prog 6 Tryz.f6 (Rows.OpenSpec.upto Rows.constraintDropsSpec).bare Rows.constraintDropsUptoRow=true:=by kernel_rfl
theorem VK:(λ(P:Program) (f:FuncId) (fn:Func) (s:ChangeSpec) (c:OpenClaim)=>(mapsRowed P:Bool)) Tryz.prog 6 Tryz.f6 (Rows.OpenSpec.upto Rows.constraintDropsSpec).bare Rows.constraintDropsUptoRow=true:=by kernel_rfl
theorem VL:(λ(P:Program) (f:FuncId) (fn:Func) (s:ChangeSpec) (c:OpenClaim)=>(fn.params.all (P.readableRec ·):Bool)) Tryz.prog 6 Tryz.f6 (Rows.OpenSpec.upto Rows.constraintDropsSpec).bare Rows.constraintDropsUptoRow=true:=by kernel_rfl
theorem VN:(λ(P:Program) (f:FuncId) (fn:Func) (s:ChangeSpec) (c:OpenClaim)=>(namedTie P c.named s.vars:Bool)) Tryz.prog 6 Tryz.f6 (Rows.OpenSpec.upto Rows.constraintDropsSpec).bare Rows.constraintDropsUptoRow=true:=by kernel_rfl
theorem VO:(λ(P:Program) (f:FuncId) (fn:Func) (s:ChangeSpec) (c:OpenClaim)=>((c.stops==[]):Bool)) Tryz.prog 6 Tryz.f6 (Rows.OpenSpec.upto Rows.constraintDropsSpec).bare Rows.constraintDropsUptoRow=true:=by kernel_rfl
theorem VP:(λ(P:Program) (f:FuncId) (fn:Func) (s:ChangeSpec) (c:OpenClaim)=>((P.stops==[]):Bool)) Tryz.prog 6 Tryz.f6 (Rows.OpenSpec.upto Rows.constraintDropsSpec).bare Rows.constraintDropsUptoRow=true:=by kernel_rfl
theorem VR:(λ(P:Program) (f:FuncId) (fn:Func) (s:ChangeSpec) (c:OpenClaim)=>((c.knobs==[]):Bool)) Tryz.prog 6 Tryz.f6 (Rows.OpenSpec.upto Rows.constraintDropsSpec).bare Rows.constraintDropsUptoRow=true:=by kernel_rfl
theorem VS:(λ(P:Program) (f:FuncId) (fn:Func) (s:ChangeSpec) (c:OpenClaim)=>((P.stopKnobs==[]):Bool)) Tryz.prog 6 Tryz.f6 (Rows.OpenSpec.upto Rows.constraintDropsSpec).bare Rows.constraintDropsUptoRow=true:=by kernel_rfl
theorem VT:(λ(P:Program) (f:FuncId) (fn:Func) (s:ChangeSpec) (c:OpenClaim)=>((c.inPlace==P.inPlace f):Bool)) Tryz.prog 6 Tryz.f6 (Rows.OpenSpec.upto Rows.constraintDropsSpec).bare Rows.constraintDropsUptoRow=true:=by kernel_rfl
theorem Sc:(λ(P:Program) (f:FuncId) (fn:Func) (s:ChangeSpec) (c:OpenClaim)=>((c.unfollowed==P.unfollowed f):Bool)) Tryz.prog 6 Tryz.f6 (Rows.OpenSpec.upto Rows.constraintDropsSpec).bare Rows.constraintDropsUptoRow=true:=by kernel_rfl
theorem Se:(λ(P:Program) (f:FuncId) (fn:Func) (s:ChangeSpec) (c:OpenClaim)=>((c.recurses==P.recurses f):Bool)) Tryz.prog 6 Tryz.f6 (Rows.OpenSpec.upto Rows.constraintDropsSpec).bare Rows.constraintDropsUptoRow=true:=by kernel_rfl
theorem Sf:(λ(P:Program) (f:FuncId) (fn:Func) (s:ChangeSpec) (c:OpenClaim)=>((c.named==P.varsNamed f):Bool)) Tryz.prog 6 Tryz.f6 (Rows.OpenSpec.upto Rows.constraintDropsSpec).bare Rows.constraintDropsUptoRow=true:=by kernel_rfl
theorem Sg:(λ(P:Program) (f:FuncId) (fn:Func) (s:ChangeSpec) (c:OpenClaim)=>((c.maps==(fn.params.toList++s.plain.varTypes P).any (P.mapsRec ·)):Bool)) Tryz.prog 6 Tryz.f6 (Rows.OpenSpec.upto Rows.constraintDropsSpec).bare Rows.constraintDropsUptoRow=true:=by kernel_rfl
theorem Sh:(λ(P:Program) (f:FuncId) (fn:Func) (s:ChangeSpec) (c:OpenClaim)=>((c.ifaces==(fn.params.toList++s.plain.varTypes P).any (P.ifacesRec ·)):Bool)) Tryz.prog 6 Tryz.f6 (Rows.OpenSpec.upto Rows.constraintDropsSpec).bare Rows.constraintDropsUptoRow=true:=by kernel_rfl
theorem Si:(λ(P:Program) (f:FuncId) (fn:Func) (s:ChangeSpec) (c:OpenClaim)=>((c.mapsOut==P.mapsAmong fn.resultTypes.toList):Bool)) Tryz.prog 6 Tryz.f6 (Rows.OpenSpec.upto Rows.constraintDropsSpec).bare Rows.constraintDropsUptoRow=true:=by kernel_rfl
theorem Sj:(λ(P:Program) (f:FuncId) (fn:Func) (s:ChangeSpec) (c:OpenClaim)=>((c.loops==(fn.params.toList++s.plain.varTypes P).any (P.loopsFrom ·)):Bool)) Tryz.prog 6 Tryz.f6 (Rows.OpenSpec.upto Rows.constraintDropsSpec).bare Rows.constraintDropsUptoRow=true:=by kernel_rfl
theorem Sk:(λ(P:Program) (f:FuncId) (fn:Func) (s:ChangeSpec) (c:OpenClaim)=>((c.wideKeys==(fn.params.toList++s.plain.varTypes P++fn.resultTypes.toList).any (P.wideKeysFrom ·)):Bool)) Tryz.prog 6 Tryz.f6 (Rows.OpenSpec.upto Rows.constraintDropsSpec).bare Rows.constraintDropsUptoRow=true:=by kernel_rfl
theorem Sl:(λ(P:Program) (f:FuncId) (fn:Func) (s:ChangeSpec) (c:OpenClaim)=>(s.vars.all (P.varReadable ·):Bool)) Tryz.prog 6 Tryz.f6 (Rows.OpenSpec.upto Rows.constraintDropsSpec).bare Rows.constraintDropsUptoRow=true:=by kernel_rfl
theorem Sn:(λ(P:Program) (f:FuncId) (fn:Func) (s:ChangeSpec) (c:OpenClaim)=>(fn.resultTypes.all (λt=>P.readableRec t&&decide (t<P.types.size)):Bool)) Tryz.prog 6 Tryz.f6 (Rows.OpenSpec.upto Rows.constraintDropsSpec).bare Rows.constraintDropsUptoRow=true:=by kernel_rfl
theorem Sq:(λ(P:Program) (f:FuncId) (fn:Func) (s:ChangeSpec) (c:OpenClaim)=>((c.ifacesOut==fn.resultTypes.toList.any (P.ifacesRec ·)):Bool)) Tryz.prog 6 Tryz.f6 (Rows.OpenSpec.upto Rows.constraintDropsSpec).bare Rows.constraintDropsUptoRow=true:=by kernel_rfl
theorem Sr:(λ(P:Program) (f:FuncId) (fn:Func) (s:ChangeSpec) (c:OpenClaim)=>((c.loopsOut==fn.resultTypes.toList.any (P.loopsFrom ·)):Bool)) Tryz.prog 6 Tryz.f6 (Rows.OpenSpec.upto Rows.constraintDropsSpec).bare Rows.constraintDropsUptoRow=true:=by kernel_rfl
theorem Ss:(λ(P:Program) (f:FuncId) (fn:Func) (s:ChangeSpec) (c:OpenClaim)=>((c.plainKeys==P.plainKeys):Bool)) Tryz.prog 6 Tryz.f6 (Rows.OpenSpec.upto Rows.constraintDropsSpec).bare Rows.constraintDropsUptoRow=true:=by kernel_rfl
theorem Su:(λ(P:Program) (f:FuncId) (fn:Func) (s:ChangeSpec) (c:OpenClaim)=>(c.shortTexts.isNone:Bool)) Tryz.prog 6 Tryz.f6 (Rows.OpenSpec.upto Rows.constraintDropsSpec).bare Rows.constraintDropsUptoRow=true:=by kernel_rfl
theorem Sv:(λ(P:Program) (f:FuncId) (fn:Func) (s:ChangeSpec) (c:OpenClaim)=>(P.stopsHeard:Bool)) Tryz.prog 6 Tryz.f6 (Rows.OpenSpec.upto Rows.constraintDropsSpec).bare Rows.constraintDropsUptoRow=true:=by kernel_rfl
theorem Sw:(λ(P:Program) (f:FuncId) (fn:Func) (s:ChangeSpec) (c:OpenClaim)=>(P.mayEnter:Bool)) Tryz.prog 6 Tryz.f6 (Rows.OpenSpec.upto Rows.constraintDropsSpec).bare Rows.constraintDropsUptoRow=true:=by kernel_rfl
theorem Sx:(λ(P:Program) (f:FuncId) (fn:Func) (s:ChangeSpec) (c:OpenClaim)=>((c.lifted==P.liftsFinal):Bool)) Tryz.prog 6 Tryz.f6 (Rows.OpenSpec.upto Rows.constraintDropsSpec).bare Rows.constraintDropsUptoRow=true:=by kernel_rfl
theorem Sz:(λ(P:Program) (f:FuncId) (fn:Func) (s:ChangeSpec) (c:OpenClaim)=>((P.make==some c.make):Bool)) Tryz.prog 6 Tryz.f6 (Rows.OpenSpec.upto Rows.constraintDropsSpec).bare Rows.constraintDropsUptoRow=true:=by kernel_rfl
theorem SA:(λ(P:Program) (f:FuncId) (fn:Func) (s:ChangeSpec) (c:OpenClaim)=>((c.kinds==(if c.domain.isEmpty then[]else fn.params.toList.map λt=>match P.underlying t with |some (.int k)=>some k |_=>none)):Bool)) Tryz.prog 6 Tryz.f6 (Rows.OpenSpec.upto Rows.constraintDropsSpec).bare Rows.constraintDropsUptoRow=true:=by kernel_rfl
theorem SB:(λ(P:Program) (f:FuncId) (fn:Func) (s:ChangeSpec) (c:OpenClaim)=>((c.pinned==c.pinnedBy):Bool)) Tryz.prog 6 Tryz.f6 (Rows.OpenSpec.upto Rows.constraintDropsSpec).bare Rows.constraintDropsUptoRow=true:=by kernel_rfl
theorem SC:(λ(P:Program) (f:FuncId) (fn:Func) (s:ChangeSpec) (c:OpenClaim)=>((c.veiled==(fn.params.toList++s.plain.varTypes P++fn.resultTypes.toList).any (P.veiledRec ·)):Bool)) Tryz.prog 6 Tryz.f6 (Rows.OpenSpec.upto Rows.constraintDropsSpec).bare Rows.constraintDropsUptoRow=true:=by kernel_rfl
theorem SE:(λ(P:Program) (f:FuncId) (fn:Func) (s:ChangeSpec) (c:OpenClaim)=>(c.veiledFits P fn.params.toList (fn.params.toList++s.plain.varTypes P++fn.resultTypes.toList):Bool)) Tryz.prog 6 Tryz.f6 (Rows.OpenSpec.upto Rows.constraintDropsSpec).bare Rows.constraintDropsUptoRow=true:=by kernel_rfl
theorem ir{a b:Bool}(ha:a=true)(hb:b=true):(a&&b)=true:=by rw[ha,hb];rfl
theorem closed:joinedFacts Tryz.prog 6 Tryz.f6 (Rows.OpenSpec.upto Rows.constraintDropsSpec).bare Rows.constraintDropsUptoRow=true:=by
 unfold joinedFacts;exact(ir (ir (ir (ir (ir (ir (ir (ir (ir (ir (ir (ir (ir (ir (ir (ir (ir (ir (ir (ir (ir (ir (ir (ir (ir (ir (ir (ir (ir (ir (ir VI VJ) VK) VL) VN) VO) VP) VR) VS) VT) Sc) Se) Sf) Sg) Sh) Si) Sj) Sk) Sl) Sn) Sq) Sr) Ss) Su) Sv) Sw) Sx) Sz) SA) SB) SC) SE)
end Go.Proofs.YtimogkojklpdnaaGreatDoor.Cr
