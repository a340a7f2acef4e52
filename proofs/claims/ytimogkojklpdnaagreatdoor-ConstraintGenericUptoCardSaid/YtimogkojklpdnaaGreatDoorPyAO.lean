/-
  Pm, a part. Conditions: none.
-/
import Derived.Test.YtimogkojklpdnaaGreatDoorPyAN
set_option linter.unusedVariables false
set_option linter.unusedSimpArgs false
set_option linter.unnecessarySimpa false
set_option linter.unusedSectionVars false
namespace Go.Proofs.YtimogkojklpdnaaGreatDoor.Cg
open Go.ChangeShapes Go.WideShapes Go.ChangeAt Go.RowKit Go.Pm
set_option maxRecDepth 100000
set_option maxHeartbeats 2000000
theorem own:ownKnob Tryz.prog.godebug=none:=by kernel_rfl
theorem VV:vD.C.mode 10=.pure:=rfl
theorem laid:laidOutB Tryz.prog=true:=by kernel_rfl
theorem Om(K:eY vD.C)(H:Type)(ec:TypeId×Value->H)(W:World)(base:Nat)(args:Array Value)(ds gs:List (DataW H))(before:List MemPlace)
  (jJ:∀(j:Nat) t v,Tryz.f10.params[j]?=some t->args[j]?=some v->Value.okWide Tryz.prog W .any base t v)
  (hW:DataW.Whole ec Tryz.prog Tryz.f10.params.toList Rows.constraintGenericSpec.vars false W args.toList ds gs before) (hk:Rows.uptoSmall H (ds++gs)=true):
  Calls Tryz.prog 10 args W λe W'=>∃v,e=.returned v/\Rows.constraintGenericSpec.post ec Tryz.prog Tryz.f10 false true false false W args v W':=by
 have hW':=hW;have cL:=λp hp=>hW.lt p hp
 obtain⟨p,q,FI,hV,rfl,Ws,hnd⟩:=hW;have hA:DataW.TrodAll ec Tryz.prog W 0 (λ_=>true) true Tryz.f10.params.toList args.toList ds p:=FI;rw[Tryz.params10]at hA jJ;obtain⟨v0,vs0,d0,ds0,p0,q0,qR,rfl,rfl,h0,u0⟩:=trodAll_cons hA;obtain⟨v1,vs1,d1,ds1,p1,q1,rfl,rfl,rfl,h1,u1⟩:=trodAll_cons u0;obtain⟨rfl,rfl,rfl⟩:=trodAll_nil u1;obtain rfl:args= #[v0,v1]:=by cases args;simp_all
 obtain⟨rfl,rfl⟩:=trodVars_none hV;obtain⟨l0,s0,b0,c0⟩:=Ol (jJ 0 _ v0 rfl rfl) h0;obtain⟨A1,B1,s1,a1,q1,r1⟩:=GJ (jJ 1 _ v1 rfl rfl) h1;have hb:=of_decide_eq_true hk;simp only[abv,Rows.uptoBulkAll]at hb;obtain⟨m,hm⟩:=(vD.GI l0 A1 B1 (λy hy=>(b0 y hy).1) (by omega) (λa ha=>by have:=a1 a ha;omega) (by omega) (by omega)).pg
 have VW:L2 (bZ W Lp) [v0,v1] [.aa false (dZ l0),.agg [.aa false (vD.bP A1),.aa false (vD.bP B1)]]:=⟨rfl,λj hj=>by
  match j,hj with
  |0,_=>exact s0
  |1,_=>exact s1⟩
 refine(AO K vD.sa (.inl VV) hm (A:=Lp) (λb hb=>hb.elim) VW).mono ?_;rintro e W' ⟨v,rfl,hv,hg⟩
 cases hv
 refine⟨_,rfl,?_⟩
 have stay0:∀(v:Value) (d:DataW H) (p:List MemPlace) (h:DataW.Trod ec Tryz.prog W 0 (λ_=>true) true 40 v d p) (hl:∀x∈p,x.block<W.heap.size),DataW.Trod ec Tryz.prog W' 0 (λb=>decide (b<W.heap.size)) true 40 v d p:=λv d p h hl=>
  WideElems.Trod_stays (P:=Tryz.prog) laid (by kernel_rfl) (of_decide_eq_true (by kernel_rfl)) h (λp hp=>by
   have hb:=hl p hp
   cases p with
   |cell b off=>show W'.cell? ⟨b,off,none⟩=W.cell? ⟨b,off,none⟩;exact lj (hg.aR b hb)
   |map b=>exact hg.aR b hb) (λx hx=>by simpa using hl x hx)
 have stay1:∀(v:Value) (d:DataW H) (p:List MemPlace) (h:DataW.Trod ec Tryz.prog W 0 (λ_=>true) true 61 v d p) (hl:∀x∈p,x.block<W.heap.size),DataW.Trod ec Tryz.prog W' 0 (λb=>decide (b<W.heap.size)) true 61 v d p:=λv d p h hl=>
  WideElems.Trod_stays (P:=Tryz.prog) laid (by kernel_rfl) (of_decide_eq_true (by kernel_rfl)) h (λp hp=>by
   have hb:=hl p hp
   cases p with
   |cell b off=>show W'.cell? ⟨b,off,none⟩=W.cell? ⟨b,off,none⟩;exact lj (hg.aR b hb)
   |map b=>exact hg.aR b hb) (λx hx=>by simpa using hl x hx)
 refine⟨[d0,d1],[],_,[],p0++(p1),[],hW',?_,?_,?_,hg.kept _,λh=>Bool.noConfusion h⟩;exact trodAll_cons_mk (shut_bool (Ca (T6.cQ 4 _ rfl)) _) trodAll_mk0
 ·have h3:DataW.TrodAll ec Tryz.prog W' 0 (λb=>decide (b<W.heap.size)) true [40,61] [v0,v1] [d0,d1] (p0++(p1++[])):=
   trodAll_cons_mk (stay0 v0 d0 p0 h0 (λx hx=>cL x (by simp[hx]))) (trodAll_cons_mk (stay1 v1 d1 p1 h1 (λx hx=>cL x (by simp[hx]))) trodAll_mk0)
  rw[abv]at h3;exact h3
 rfl
end Go.Proofs.YtimogkojklpdnaaGreatDoor.Cg
