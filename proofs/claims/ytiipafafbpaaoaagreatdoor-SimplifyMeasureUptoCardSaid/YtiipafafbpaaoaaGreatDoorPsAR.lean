/-
  Pm, a part. Conditions: none.
-/
import Derived.Test.YtiipafafbpaaoaaGreatDoorPsAQ
set_option linter.unusedVariables false
set_option linter.unusedSimpArgs false
set_option linter.unnecessarySimpa false
set_option linter.unusedSectionVars false
namespace Go.Proofs.YtiipafafbpaaoaaGreatDoor.Sm
open Go.ChangeShapes Go.WideShapes Go.ChangeAt Go.RowKit Go.Pm
set_option maxRecDepth 100000
set_option maxHeartbeats 2000000
theorem own:ownKnob Tryz.prog.godebug=none:=by kernel_rfl
theorem aa8:Wu.C.mode 3=.pure:=rfl
theorem laid:laidOutB Tryz.prog=true:=by kernel_rfl
theorem SF(K:@dn ⟨False⟩ Wu.C)(H:Type)(i:TypeId×Value->H)(W:World)(base:Nat)(args:Array Value)(z M:List (DataW H))(B:List MemPlace)
  (Y:∀(j:Nat) t v,Tryz.f3.params[j]?=some t->args[j]?=some v->Value.okWide Tryz.prog W .any base t v)
  (g:DataW.Whole i Tryz.prog Tryz.f3.params.toList Rows.simplifyMeasureSpec.vars false W args.toList z M B) (hk:Rows.uptoSmall H (z++M)=true) (hG:eA W P6):
  Calls Tryz.prog 3 args W λe f=>∃v,e=.returned v/\Rows.simplifyMeasureSpec.post i Tryz.prog Tryz.f3 false true false false W args v f:=by
 have n:=g;have cK:=λp F=>g.lt p F
 obtain⟨p,q,G,hV,rfl,hfz,hnd⟩:=g;have X:DataW.TrodAll i Tryz.prog W 0 (λ_=>true) true Tryz.f3.params.toList args.toList z p:=G;rw[Tryz.params3]at X Y;obtain⟨D,vs0,u,ds0,R,q0,oW,rfl,rfl,Q,u0⟩:=trodAll_cons X;obtain⟨rfl,rfl,rfl⟩:=trodAll_nil u0;obtain rfl:args= #[D]:=by cases args;simp_all
 obtain⟨rfl,rfl⟩:=trodVars_none hV;obtain⟨Z,s0,b0,c0⟩:=SE (Y 0 _ D rfl rfl) Q;have a:=of_decide_eq_true hk;simp only[agC,Rows.uptoBulkAll]at a;obtain⟨m,hm⟩:=(Wu.Hq Wu.xj Z (λy hy=>(b0 y hy).1) yxa).rk
 have O:L2 (cd W P6) [D] [.aa false (fA Z)]:=⟨rfl,λj hj=>by
  match j,hj with
  |0,_=>exact s0⟩
 refine(xO (iD:=⟨False⟩) K Wu.rU (.inl aa8) hm (A:=P6) (λb a=>a.elim) O hG).mono ?_;rintro e f ⟨v,rfl,hv,N⟩
 cases hv
 refine⟨_,rfl,?_⟩
 have S:∀(v:Value) (d:DataW H) (p:List MemPlace) (h:DataW.Trod i Tryz.prog W 0 (λ_=>true) true 22 v d p) (w:∀x∈p,x.block<W.heap.size),DataW.Trod i Tryz.prog f 0 (λb=>decide (b<W.heap.size)) true 22 v d p:=λv d p h w=>
  WideElems.Trod_stays (P:=Tryz.prog) laid (by kernel_rfl) (of_decide_eq_true (by kernel_rfl)) h (λp F=>by
   have a:=w p F
   cases p with
   |cell b U=>show f.cell? ⟨b,U,none⟩=W.cell? ⟨b,U,none⟩;exact na (dH.ba (iD:=⟨False⟩) N b a)
   |map b=>exact dH.ba (iD:=⟨False⟩) N b a) (λx J=>by simpa using w x J)
 refine⟨[u],[],_,[],R,[],n,?_,?_,?_,dH.kept (iD:=⟨False⟩) N _,λh=>Bool.noConfusion h⟩;exact trodAll_cons_mk (shut_bool (E6 (T6.dA 4 _ rfl)) _) trodAll_mk0
 ·have V:DataW.TrodAll i Tryz.prog f 0 (λb=>decide (b<W.heap.size)) true [22] [D] [u] (R++[]):=
   trodAll_cons_mk (S D u R Q (λx J=>cK x (by simp[J]))) trodAll_mk0
  rw[agC]at V;exact V
 rfl
end Go.Proofs.YtiipafafbpaaoaaGreatDoor.Sm
