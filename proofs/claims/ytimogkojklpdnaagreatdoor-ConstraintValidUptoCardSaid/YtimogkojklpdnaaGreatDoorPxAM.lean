/-
  Pm, a part. Conditions: none.
-/
import Derived.Test.YtimogkojklpdnaaGreatDoorPxAL
set_option linter.unusedVariables false
set_option linter.unusedSimpArgs false
set_option linter.unnecessarySimpa false
set_option linter.unusedSectionVars false
namespace Go.Proofs.YtimogkojklpdnaaGreatDoor.Cv
open Go.ChangeShapes Go.WideShapes Go.ChangeAt Go.RowKit Go.Pm
set_option maxRecDepth 100000
set_option maxHeartbeats 2000000
theorem own:ownKnob Tryz.prog.godebug=none:=by kernel_rfl
theorem Jw:Fh.C.mode 9=.pure:=rfl
theorem laid:laidOutB Tryz.prog=true:=by kernel_rfl
theorem DW(K:@cj ⟨False⟩ Fh.C)(H:Type)(ec:TypeId×Value->H)(W:World)(base:Nat)(args:Array Value)(ds gs:List (DataW H))(before:List MemPlace)
  (gC:∀(j:Nat) t v,Tryz.f9.params[j]?=some t->args[j]?=some v->Value.okWide Tryz.prog W .any base t v)
  (hW:DataW.Whole ec Tryz.prog Tryz.f9.params.toList Rows.constraintValidSpec.vars false W args.toList ds gs before) (hk:Rows.uptoSmall H (ds++gs)=true) (hG:cp W we):
  Calls Tryz.prog 9 args W λe W'=>∃v,e=.returned v/\Rows.constraintValidSpec.post ec Tryz.prog Tryz.f9 false true false false W args v W':=by
 have RQ:=hW;have cx:=λp hp=>hW.lt p hp
 obtain⟨p,q,Me,hV,rfl,Kb,Tl⟩:=hW;have hA:DataW.TrodAll ec Tryz.prog W 0 (λ_=>true) true Tryz.f9.params.toList args.toList ds p:=Me;rw[Tryz.params9]at hA gC;obtain⟨v0,Tn,d0,To,p0,q0,kG,rfl,rfl,h0,u0⟩:=trodAll_cons hA;obtain⟨rfl,rfl,rfl⟩:=trodAll_nil u0;obtain rfl:args= #[v0]:=by cases args;simp_all
 obtain⟨rfl,rfl⟩:=trodVars_none hV;obtain⟨l0,s0,b0⟩:=zo (gC 0 _ v0 rfl rfl) h0;have hb:=of_decide_eq_true hk;simp only[Uc,Rows.uptoBulkAll]at hb;obtain⟨m,hm⟩:=(Fh.vv l0 (by unfold bu.kN;omega)).k9
 have Jx:L2 (aS W we) [v0] [.ab false (aX l0)]:=⟨rfl,λj hj=>by
  match j,hj with
  |0,_=>exact s0⟩
 refine(uk (iD:=⟨False⟩) K Fh.gT (.inl Jw) hm (A:=we) (λb hb=>hb.elim) Jx hG).mono ?_;rintro e W' ⟨v,rfl,hv,hg⟩
 cases hv
 refine⟨_,rfl,?_⟩
 have stay0:∀(v:Value) (d:DataW H) (p:List MemPlace) (h:DataW.Trod ec Tryz.prog W 0 (λ_=>true) true 22 v d p) (hl:∀x∈p,x.block<W.heap.size),DataW.Trod ec Tryz.prog W' 0 (λb=>decide (b<W.heap.size)) true 22 v d p:=λv d p h hl=>
  WideElems.Trod_stays (P:=Tryz.prog) laid (by kernel_rfl) (of_decide_eq_true (by kernel_rfl)) h (λp hp=>by
   have hb:=hl p hp
   cases p with
   |cell b off=>show W'.cell? ⟨b,off,none⟩=W.cell? ⟨b,off,none⟩;exact iE (cc.aB (iD:=⟨False⟩) hg b hb)
   |map b=>exact cc.aB (iD:=⟨False⟩) hg b hb) (λx hx=>by simpa using hl x hx)
 refine⟨[d0],[],_,[],p0,[],RQ,?_,?_,?_,cc.kept (iD:=⟨False⟩) hg _,λh=>Bool.noConfusion h⟩;exact trodAll_cons_mk (shut_bool (vw (T6.cI 4 _ rfl)) _) trodAll_mk0
 ·have h3:DataW.TrodAll ec Tryz.prog W' 0 (λb=>decide (b<W.heap.size)) true [22] [v0] [d0] (p0++[]):=
   trodAll_cons_mk (stay0 v0 d0 p0 h0 (λx hx=>cx x (by simp[hx]))) trodAll_mk0
  rw[Uc]at h3;exact h3
 rfl
end Go.Proofs.YtimogkojklpdnaaGreatDoor.Cv
