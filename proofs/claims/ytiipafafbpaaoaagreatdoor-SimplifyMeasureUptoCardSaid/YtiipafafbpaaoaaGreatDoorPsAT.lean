/-
  Pm, a part. Conditions: none.
-/
import Derived.Test.YtiipafafbpaaoaaGreatDoorPsAA
import Derived.Test.YtiipafafbpaaoaaGreatDoorProg
import Derived.Test.YtiipafafbpaaoaaGreatDoorRows
import Derived.JoinedOf
import Derived.KernelRfl
set_option linter.unusedVariables false
set_option linter.unusedSimpArgs false
set_option linter.unnecessarySimpa false
set_option linter.unusedSectionVars false
namespace Go.Proofs.YtiipafafbpaaoaaGreatDoor.Sm
open Go
set_option maxRecDepth 100000
set_option maxHeartbeats 4000000
theorem acI:(λ(P:Program) (f:FuncId) (i:Func) (s:ChangeSpec) (c:OpenClaim)=>(c.wf (OpenSpec.ofChange s):Bool)) Tryz.prog 3 Tryz.f3 (Rows.OpenSpec.upto Rows.simplifyMeasureSpec).bare Rows.simplifyMeasureUptoRow=true:=by kernel_rfl
theorem acJ:(λ(P:Program) (f:FuncId) (i:Func) (s:ChangeSpec) (c:OpenClaim)=>(laidOutB P:Bool)) Tryz.prog 3 Tryz.f3 (Rows.OpenSpec.upto Rows.simplifyMeasureSpec).bare Rows.simplifyMeasureUptoRow=true:=by kernel_rfl
theorem acK:(λ(P:Program) (f:FuncId) (i:Func) (s:ChangeSpec) (c:OpenClaim)=>(mapsRowed P:Bool)) Tryz.prog 3 Tryz.f3 (Rows.OpenSpec.upto Rows.simplifyMeasureSpec).bare Rows.simplifyMeasureUptoRow=true:=by kernel_rfl
theorem acL:(λ(P:Program) (f:FuncId) (i:Func) (s:ChangeSpec) (c:OpenClaim)=>(i.params.all (P.readableRec ·):Bool)) Tryz.prog 3 Tryz.f3 (Rows.OpenSpec.upto Rows.simplifyMeasureSpec).bare Rows.simplifyMeasureUptoRow=true:=by kernel_rfl
theorem acM:(λ(P:Program) (f:FuncId) (i:Func) (s:ChangeSpec) (c:OpenClaim)=>(namedTie P c.named s.vars:Bool)) Tryz.prog 3 Tryz.f3 (Rows.OpenSpec.upto Rows.simplifyMeasureSpec).bare Rows.simplifyMeasureUptoRow=true:=by kernel_rfl
theorem acN:(λ(P:Program) (f:FuncId) (i:Func) (s:ChangeSpec) (c:OpenClaim)=>((c.stops==[]):Bool)) Tryz.prog 3 Tryz.f3 (Rows.OpenSpec.upto Rows.simplifyMeasureSpec).bare Rows.simplifyMeasureUptoRow=true:=by kernel_rfl
theorem acO:(λ(P:Program) (f:FuncId) (i:Func) (s:ChangeSpec) (c:OpenClaim)=>((P.stops==[]):Bool)) Tryz.prog 3 Tryz.f3 (Rows.OpenSpec.upto Rows.simplifyMeasureSpec).bare Rows.simplifyMeasureUptoRow=true:=by kernel_rfl
theorem acP:(λ(P:Program) (f:FuncId) (i:Func) (s:ChangeSpec) (c:OpenClaim)=>((c.knobs==[]):Bool)) Tryz.prog 3 Tryz.f3 (Rows.OpenSpec.upto Rows.simplifyMeasureSpec).bare Rows.simplifyMeasureUptoRow=true:=by kernel_rfl
theorem acQ:(λ(P:Program) (f:FuncId) (i:Func) (s:ChangeSpec) (c:OpenClaim)=>((P.stopKnobs==[]):Bool)) Tryz.prog 3 Tryz.f3 (Rows.OpenSpec.upto Rows.simplifyMeasureSpec).bare Rows.simplifyMeasureUptoRow=true:=by kernel_rfl
theorem acR:(λ(P:Program) (f:FuncId) (i:Func) (s:ChangeSpec) (c:OpenClaim)=>((c.inPlace==P.inPlace f):Bool)) Tryz.prog 3 Tryz.f3 (Rows.OpenSpec.upto Rows.simplifyMeasureSpec).bare Rows.simplifyMeasureUptoRow=true:=by kernel_rfl
theorem mw:(λ(P:Program) (f:FuncId) (i:Func) (s:ChangeSpec) (c:OpenClaim)=>((c.unfollowed==P.unfollowed f):Bool)) Tryz.prog 3 Tryz.f3 (Rows.OpenSpec.upto Rows.simplifyMeasureSpec).bare Rows.simplifyMeasureUptoRow=true:=by kernel_rfl
theorem nD:(λ(P:Program) (f:FuncId) (i:Func) (s:ChangeSpec) (c:OpenClaim)=>((c.recurses==P.recurses f):Bool)) Tryz.prog 3 Tryz.f3 (Rows.OpenSpec.upto Rows.simplifyMeasureSpec).bare Rows.simplifyMeasureUptoRow=true:=by kernel_rfl
theorem oV:(λ(P:Program) (f:FuncId) (i:Func) (s:ChangeSpec) (c:OpenClaim)=>((c.named==P.varsNamed f):Bool)) Tryz.prog 3 Tryz.f3 (Rows.OpenSpec.upto Rows.simplifyMeasureSpec).bare Rows.simplifyMeasureUptoRow=true:=by kernel_rfl
theorem po:(λ(P:Program) (f:FuncId) (i:Func) (s:ChangeSpec) (c:OpenClaim)=>((c.maps==(i.params.toList++s.plain.varTypes P).any (P.mapsRec ·)):Bool)) Tryz.prog 3 Tryz.f3 (Rows.OpenSpec.upto Rows.simplifyMeasureSpec).bare Rows.simplifyMeasureUptoRow=true:=by kernel_rfl
theorem pw:(λ(P:Program) (f:FuncId) (i:Func) (s:ChangeSpec) (c:OpenClaim)=>((c.ifaces==(i.params.toList++s.plain.varTypes P).any (P.ifacesRec ·)):Bool)) Tryz.prog 3 Tryz.f3 (Rows.OpenSpec.upto Rows.simplifyMeasureSpec).bare Rows.simplifyMeasureUptoRow=true:=by kernel_rfl
theorem aaa:(λ(P:Program) (f:FuncId) (i:Func) (s:ChangeSpec) (c:OpenClaim)=>((c.mapsOut==P.mapsAmong i.resultTypes.toList):Bool)) Tryz.prog 3 Tryz.f3 (Rows.OpenSpec.upto Rows.simplifyMeasureSpec).bare Rows.simplifyMeasureUptoRow=true:=by kernel_rfl
theorem aab:(λ(P:Program) (f:FuncId) (i:Func) (s:ChangeSpec) (c:OpenClaim)=>((c.loops==(i.params.toList++s.plain.varTypes P).any (P.loopsFrom ·)):Bool)) Tryz.prog 3 Tryz.f3 (Rows.OpenSpec.upto Rows.simplifyMeasureSpec).bare Rows.simplifyMeasureUptoRow=true:=by kernel_rfl
theorem aac:(λ(P:Program) (f:FuncId) (i:Func) (s:ChangeSpec) (c:OpenClaim)=>((c.wideKeys==(i.params.toList++s.plain.varTypes P++i.resultTypes.toList).any (P.wideKeysFrom ·)):Bool)) Tryz.prog 3 Tryz.f3 (Rows.OpenSpec.upto Rows.simplifyMeasureSpec).bare Rows.simplifyMeasureUptoRow=true:=by kernel_rfl
theorem aad:(λ(P:Program) (f:FuncId) (i:Func) (s:ChangeSpec) (c:OpenClaim)=>(s.vars.all (P.varReadable ·):Bool)) Tryz.prog 3 Tryz.f3 (Rows.OpenSpec.upto Rows.simplifyMeasureSpec).bare Rows.simplifyMeasureUptoRow=true:=by kernel_rfl
theorem aae:(λ(P:Program) (f:FuncId) (i:Func) (s:ChangeSpec) (c:OpenClaim)=>(i.resultTypes.all (λt=>P.readableRec t&&decide (t<P.types.size)):Bool)) Tryz.prog 3 Tryz.f3 (Rows.OpenSpec.upto Rows.simplifyMeasureSpec).bare Rows.simplifyMeasureUptoRow=true:=by kernel_rfl
theorem aaf:(λ(P:Program) (f:FuncId) (i:Func) (s:ChangeSpec) (c:OpenClaim)=>((c.ifacesOut==i.resultTypes.toList.any (P.ifacesRec ·)):Bool)) Tryz.prog 3 Tryz.f3 (Rows.OpenSpec.upto Rows.simplifyMeasureSpec).bare Rows.simplifyMeasureUptoRow=true:=by kernel_rfl
theorem aag:(λ(P:Program) (f:FuncId) (i:Func) (s:ChangeSpec) (c:OpenClaim)=>((c.loopsOut==i.resultTypes.toList.any (P.loopsFrom ·)):Bool)) Tryz.prog 3 Tryz.f3 (Rows.OpenSpec.upto Rows.simplifyMeasureSpec).bare Rows.simplifyMeasureUptoRow=true:=by kernel_rfl
theorem aah:(λ(P:Program) (f:FuncId) (i:Func) (s:ChangeSpec) (c:OpenClaim)=>((c.plainKeys==P.plainKeys):Bool)) Tryz.prog 3 Tryz.f3 (Rows.OpenSpec.upto Rows.simplifyMeasureSpec).bare Rows.simplifyMeasureUptoRow=true:=by kernel_rfl
theorem aai:(λ(P:Program) (f:FuncId) (i:Func) (s:ChangeSpec) (c:OpenClaim)=>(c.shortTexts.isNone:Bool)) Tryz.prog 3 Tryz.f3 (Rows.OpenSpec.upto Rows.simplifyMeasureSpec).bare Rows.simplifyMeasureUptoRow=true:=by kernel_rfl
theorem aaj:(λ(P:Program) (f:FuncId) (i:Func) (s:ChangeSpec) (c:OpenClaim)=>(P.stopsHeard:Bool)) Tryz.prog 3 Tryz.f3 (Rows.OpenSpec.upto Rows.simplifyMeasureSpec).bare Rows.simplifyMeasureUptoRow=true:=by kernel_rfl
theorem aak:(λ(P:Program) (f:FuncId) (i:Func) (s:ChangeSpec) (c:OpenClaim)=>(P.mayEnter:Bool)) Tryz.prog 3 Tryz.f3 (Rows.OpenSpec.upto Rows.simplifyMeasureSpec).bare Rows.simplifyMeasureUptoRow=true:=by kernel_rfl
theorem aal:(λ(P:Program) (f:FuncId) (i:Func) (s:ChangeSpec) (c:OpenClaim)=>((c.lifted==P.liftsFinal):Bool)) Tryz.prog 3 Tryz.f3 (Rows.OpenSpec.upto Rows.simplifyMeasureSpec).bare Rows.simplifyMeasureUptoRow=true:=by kernel_rfl
theorem aam:(λ(P:Program) (f:FuncId) (i:Func) (s:ChangeSpec) (c:OpenClaim)=>((P.make==some c.make):Bool)) Tryz.prog 3 Tryz.f3 (Rows.OpenSpec.upto Rows.simplifyMeasureSpec).bare Rows.simplifyMeasureUptoRow=true:=by kernel_rfl
theorem aan:(λ(P:Program) (f:FuncId) (i:Func) (s:ChangeSpec) (c:OpenClaim)=>((c.kinds==(if c.domain.isEmpty then[]else i.params.toList.map λt=>match P.underlying t with |some (.int k)=>some k |_=>none)):Bool)) Tryz.prog 3 Tryz.f3 (Rows.OpenSpec.upto Rows.simplifyMeasureSpec).bare Rows.simplifyMeasureUptoRow=true:=by kernel_rfl
theorem aao:(λ(P:Program) (f:FuncId) (i:Func) (s:ChangeSpec) (c:OpenClaim)=>((c.pinned==c.pinnedBy):Bool)) Tryz.prog 3 Tryz.f3 (Rows.OpenSpec.upto Rows.simplifyMeasureSpec).bare Rows.simplifyMeasureUptoRow=true:=by kernel_rfl
theorem aap:(λ(P:Program) (f:FuncId) (i:Func) (s:ChangeSpec) (c:OpenClaim)=>((c.veiled==(i.params.toList++s.plain.varTypes P++i.resultTypes.toList).any (P.veiledRec ·)):Bool)) Tryz.prog 3 Tryz.f3 (Rows.OpenSpec.upto Rows.simplifyMeasureSpec).bare Rows.simplifyMeasureUptoRow=true:=by kernel_rfl
theorem aaq:(λ(P:Program) (f:FuncId) (i:Func) (s:ChangeSpec) (c:OpenClaim)=>(c.veiledFits P i.params.toList (i.params.toList++s.plain.varTypes P++i.resultTypes.toList):Bool)) Tryz.prog 3 Tryz.f3 (Rows.OpenSpec.upto Rows.simplifyMeasureSpec).bare Rows.simplifyMeasureUptoRow=true:=by kernel_rfl
theorem jI{a b:Bool}(j:a=true)(W:b=true):(a&&b)=true:=by rw[j,W];rfl
theorem closed:joinedFacts Tryz.prog 3 Tryz.f3 (Rows.OpenSpec.upto Rows.simplifyMeasureSpec).bare Rows.simplifyMeasureUptoRow=true:=by
 unfold joinedFacts;exact(jI (jI (jI (jI (jI (jI (jI (jI (jI (jI (jI (jI (jI (jI (jI (jI (jI (jI (jI (jI (jI (jI (jI (jI (jI (jI (jI (jI (jI (jI (jI acI acJ) acK) acL) acM) acN) acO) acP) acQ) acR) mw) nD) oV) po) pw) aaa) aab) aac) aad) aae) aaf) aag) aah) aai) aaj) aak) aal) aam) aan) aao) aap) aaq)
end Go.Proofs.YtiipafafbpaaoaaGreatDoor.Sm
