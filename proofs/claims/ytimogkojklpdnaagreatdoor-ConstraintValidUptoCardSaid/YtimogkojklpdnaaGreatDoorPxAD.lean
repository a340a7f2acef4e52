/-
  Pm, a part. Conditions: none.
-/
import Derived.Test.YtimogkojklpdnaaGreatDoorPxAC
set_option linter.unusedVariables false
set_option linter.unusedSimpArgs false
set_option linter.unnecessarySimpa false
set_option linter.unusedSectionVars false
namespace Go.Pm
open Go.Proofs
attribute [local irreducible] aA az aH aF Ev ag ai aD bw
set_option maxRecDepth 4000
set_option maxHeartbeats 4000000
theorem wQ(t t':Tm)(hb:aE t<1000000000)(ew:aE t'<1000000000):aW C 134 [enc t,enc t'] (.int .i64 (bR t t')):=by
 induction t using Tm.ind generalizing t' with
 |h k s o l ih=>
  obtain⟨k',s',o',l'⟩:=t';refine FY k s o l k' s' o' l' hb ew (λt ht t' O7=>ih t ht t' ?_ ?_);have:=bF ht;simp only[aE]at hb;omega;have:=bF O7;simp only[aE]at ew;omega
theorem BZ(t t':Tm)(hb:aE t<1000000000)(ew:aE t'<1000000000):aW C 78 [enc t,enc t'] (.bool (decide (bR t t'=0))):=by
 have h1:=wQ t t' hb ew;obtain⟨k,s,o,l⟩:=t;obtain⟨k',s',o',l'⟩:=t';refine aW.of (aD.dD Tryz.func78 rfl ?_);rw[bL,bL]at h1 ⊢;refine wB ?_;refine R.call rfl rfl (ai.pure rfl (by simp[au,aJ]) (by simpa[ba,cJ,bP]using h1) ?_);refine wE (λhc=>?_) λhc=>?_;exact⟨_,rfl,congrArg PV.bool (decide_eq_true (by assumption)).symm⟩;exact⟨_,rfl,congrArg PV.bool (decide_eq_false (by assumption)).symm⟩
theorem zV(a b:ByteArray):aW C 153 [.str a,.str b] (.int .i64 (vP a b)):=by
 have e:vP a b=Lib.compareBytes a.data.toList b.data.toList:=by unfold vP de;rw[ByteArray.toList_eq,ByteArray.toList_eq]
 rw[e];refine aW.of (aD.dD Tryz.func153 rfl ?_);refine wB ?_;refine R.call rfl rfl (ai.ext rfl rfl rfl ?_);refine wB ?_;exact⟨_,rfl,rfl⟩
theorem EL(a b:ByteArray):aW C 103 [.str a,.str b] (.int .i64 (vP a b)):=by
 refine aW.of (aD.dD Tryz.func103 rfl ?_);refine wB ?_;refine R.call rfl rfl (ai.pure rfl rfl (zV a b) ?_);refine wB ?_;exact⟨_,rfl,rfl⟩
theorem GD(k s o l k' s' o' l')(hb:aE (.mk k s o l)<1000000000)(ew:aE (.mk k' s' o' l')<1000000000)
  (ih:∀t∈l,∀t'∈l',aW C 52 [enc t,enc t'] (.int .i64 (bR t t'))):aW C 52 [enc (.mk k s o l),enc (.mk k' s' o' l')] (.int .i64 (bR (.mk k s o l) (.mk k' s' o' l'))):=by
 refine aW.of (aD.dD Tryz.func52 rfl ?_);have vR:=jf k s o l k' s' o' l';have z1:=pt _ hb;have z2:=pt _ ew;rw[bL]at z1 z2;rw[bL,bL];generalize bR (.mk k s o l) (.mk k' s' o' l')=R0 at vR ⊢;have e1:=ax l;have e2:=ax l';have b1:l.length<1000000000:=by have:=bq l;simp only[aE]at hb;omega
 have b2:l'.length<1000000000:=by have:=bq l';simp only[aE]at ew;omega
 have yQ:dy (aj l).length (aj l').length=0->l.length=l'.length:=λh=>by have:=fK h;omega
 rw[<-e1,<-e2]at vR;refine wB ?_;refine D.pL rfl rfl rfl rfl (by simp[au,aJ]) rfl rfl (by simpa[ba,cJ,bP]using z1) ?_;refine wB ?_;refine D.pL rfl rfl rfl rfl (by simp[au,aJ]) rfl rfl (by simpa[ba,cJ,bP]using z2) ?_;refine D.pL rfl rfl rfl rfl rfl rfl rfl (oc _ _) ?_;generalize dy (size (.mk k s o l)) (size (.mk k' s' o' l'))=X1 at vR ⊢
 (repeat' (first |refine ag.nil ?_ |(apply R.move;exact rfl)|(apply R.assign;exact rfl)|(apply R.gZ T6;exact rfl;exact rfl;exact rfl;exact rfl)|(apply R.fieldAddr T6;exact rfl;exact rfl;exact rfl;exact rfl)|(apply R.cmp;exact rfl;exact rfl;exact rfl;all_goals intro hc;all_goals(try(exfalso;omega)))|refine Ev.seq ?_ |refine Ev.region ?_ |refine bw.nil ?_ |(apply D.assign;exact rfl)|(apply Ev.ef;exact rfl)|refine Ev.skip ?_ |refine Ev.block ?_ |refine aA.normal ?_ |fail))
 all_goals try(refine R.call rfl rfl (ai.pure rfl rfl (oc k k') ?_);generalize dy k k'=X2 at vR ⊢;(repeat' (first |refine ag.nil ?_ |(apply R.move;exact rfl)|(apply R.assign;exact rfl)|(apply R.gZ T6;exact rfl;exact rfl;exact rfl;exact rfl)|(apply R.fieldAddr T6;exact rfl;exact rfl;exact rfl;exact rfl)|(apply R.cmp;exact rfl;exact rfl;exact rfl;all_goals intro hc;all_goals(try(exfalso;omega)))|refine Ev.seq ?_ |refine Ev.region ?_ |(apply Ev.ef;exact rfl)|refine Ev.skip ?_ |refine Ev.block ?_ |refine aA.normal ?_ |fail)))
 all_goals try(refine R.call rfl rfl (ai.pure rfl rfl (EL s s') ?_);generalize vP s s'=X3 at vR ⊢;(repeat' (first |refine ag.nil ?_ |(apply R.move;exact rfl)|(apply R.assign;exact rfl)|(apply R.gZ T6;exact rfl;exact rfl;exact rfl;exact rfl)|(apply R.fieldAddr T6;exact rfl;exact rfl;exact rfl;exact rfl)|(apply R.cmp;exact rfl;exact rfl;exact rfl;all_goals intro hc;all_goals(try(exfalso;omega)))|refine Ev.seq ?_ |refine Ev.region ?_ |(apply Ev.ef;exact rfl)|refine Ev.skip ?_ |refine Ev.block ?_ |refine aA.normal ?_ |fail)))
 all_goals try(refine R.call rfl rfl (ai.pure rfl rfl (oc o o') ?_);generalize dy o o'=X4 at vR ⊢;(repeat' (first |refine ag.nil ?_ |(apply R.move;exact rfl)|(apply R.assign;exact rfl)|(apply R.gZ T6;exact rfl;exact rfl;exact rfl;exact rfl)|(apply R.fieldAddr T6;exact rfl;exact rfl;exact rfl;exact rfl)|(apply R.cmp;exact rfl;exact rfl;exact rfl;all_goals intro hc;all_goals(try(exfalso;omega)))|(apply R.qc T6;exact rfl;exact rfl)|refine Ev.seq ?_ |refine Ev.region ?_ |(apply Ev.ef;exact rfl)|refine Ev.skip ?_ |refine Ev.block ?_ |refine aA.normal ?_ |fail)))
 all_goals try(refine R.call rfl rfl (ai.pure rfl rfl (oc (aj l).length (aj l').length) ?_);generalize dy (aj l).length (aj l').length=X5 at vR yQ ⊢;refine wC ?_)
 all_goals(
  refine Ev.loop (I:=λIt st=>∃(i:Nat) (c:Int) (V':Nat->PV),st=⟨al [(2,.ptr 0 0 0 0),(3,.ptr 1 0 0 0),(5,.int .i64 c),(6,.int .i64 i)] V',[⟨.m,0,4,[.agg [.int .i64 k,.str s,.int .i64 o,.ab false (aj l)]]⟩,⟨.m,0,4,[.agg [.int .i64 k',.str s',.int .i64 o',.ab false (aj l')]]⟩]⟩/\It+i=l.length/\R0=je c (jl (l.drop i) (l'.drop i))/\(c=0->l.length=l'.length)) l.length ?_ ?_
  ·refine⟨0,_,_,St.aB ⟨rfl,rfl,rfl,rfl,trivial⟩,rfl,?_,?_⟩
   ·rw[vR];unfold je;simp only[U'];(repeat' split) <;>first |rfl |omega
   ·first |exact yQ |(intro h;exfalso;omega)
  ·clear vR yQ;rintro It _ ⟨i,c,V',rfl,hk,qo,yQ⟩
   (repeat' (first |refine ag.nil ?_ |(apply R.ve;exact rfl;exact rfl;exact rfl)|(apply R.mU;exact rfl;exact rfl;exact rfl)|(apply R.move;exact rfl)|(apply R.assign;exact rfl)|(apply R.gx;exact rfl;exact rfl)|(apply R.ir;exact rfl;exact rfl)|(apply R.gZ T6;exact rfl;exact rfl;exact rfl;exact rfl)|(apply R.fieldAddr T6;exact rfl;exact rfl;exact rfl;exact rfl)|(apply R.cmp;exact rfl;exact rfl;exact rfl;all_goals intro hc;all_goals(try(exfalso;omega)))|(apply R.qc T6;exact rfl;exact rfl)|refine Ev.seq ?_ |refine Ev.region ?_ |refine Ev.js ?_ |(apply D.move;exact rfl)|(apply D.fieldAddr T6;exact rfl;exact rfl;exact rfl;exact rfl)|(apply D.gZ T6;exact(by first |exact rfl |assumption);exact rfl;exact rfl;exact rfl;exact rfl;exact rfl)|(apply Ev.ef;exact rfl)|refine Ev.ret ?_ |refine Ev.skip ?_ |refine Ev.exit ?_ |refine Ev.block ?_ |refine aA.normal ?_ |refine aA.exit ?_ |refine az.KE ?_ |refine aH.exit ?_ |(apply aF.ret;exact rfl)|fail))
   ·have yQ:=yQ (by assumption);obtain⟨k1,s1,o1,l1,ib,dL,hd,mV,_⟩:=fX hc;obtain⟨k2,s2,o2,l2,Dl,Iu,CD,Oj,_⟩:=fX (l:=l') (i:=i) (by omega);have Ar:=ih _ ib _ Dl;rw[bL,bL]at Ar;refine D.ic T6 rfl rfl rfl rfl rfl dL rfl rfl ?_;refine wB ?_;refine D.ic T6 rfl rfl rfl rfl rfl Iu rfl rfl ?_;refine wB ?_;refine D.pL rfl rfl rfl rfl (by simp[au,aJ]) rfl rfl (by simpa[ba,cJ,bP]using Ar) ?_;refine wB ?_;refine⟨It - 1,by omega,i+1,_,_,St.aB ⟨rfl,rfl,rfl,rfl,trivial⟩,by omega,?_,λ_=>yQ⟩;have um:c=0:=by assumption
    rw[qo,um,hd,CD,jg];rfl
   ·refine⟨_,rfl,congrArg (PV.int .i64) ?_⟩;have um:c=0:=by assumption
    rw[qo,um,gX hc,jl];rfl
   ·refine⟨_,rfl,congrArg (PV.int .i64) ?_⟩;rw[qo,je,if_pos (by assumption)])
theorem sj(t t':Tm)(hb:aE t<1000000000)(ew:aE t'<1000000000):aW C 52 [enc t,enc t'] (.int .i64 (bR t t')):=by
 induction t using Tm.ind generalizing t' with
 |h k s o l ih=>
  obtain⟨k',s',o',l'⟩:=t';refine GD k s o l k' s' o' l' hb ew (λt ht t' O7=>ih t ht t' ?_ ?_);have:=bF ht;simp only[aE]at hb;omega;have:=bF O7;simp only[aE]at ew;omega
theorem Fv(k s o l n):yq (.mk k s o l,n)=.agg [.int .i64 k,.str s,.int .i64 o,.ab false (aj l),.int .i64 n]:=rfl
theorem A8(l:List Pw):(kC l).length=l.length:=by simp[kC]
theorem yr(l:List Pw):au (kC l)=true:=by
 induction l with
 |nil=>rfl
 |cons p l ih=>
  obtain⟨⟨k,s,o,l'⟩,n⟩:=p;simp only[kC,TT,au]at *;rw[ih];rfl
theorem yu(l:List Pw):ba (kC l)=kC l:=by
 induction l with
 |nil=>rfl
 |cons p l ih=>
  obtain⟨⟨k,s,o,l'⟩,n⟩:=p;simp only[kC,TT,ba]at *;rw[ih,Fv];simp[cJ,ba,bP]
theorem FX(l:List Tm):((aj l).all λv=>decide ((cells v).length=4)&& (cells v).all aZ)=true:=by
 rw[TH]
 intro v hv
 rw[cQ]at hv;obtain⟨⟨k,s,o,l'⟩,_,rfl⟩:=U1.1 hv;rw[bL];rfl
structure sM(H:aa)(n d:Int):Prop where
 f1:H[1]?=some ⟨.m,0,1,[.int .i64 n]⟩
 f2:H[2]?=some ⟨.m,0,1,[.int .i64 d]⟩
 hv:HV H
 len:3<=H.length
def Ni(H:aa)(t:Tm)(qw n d:Int)(r:PV)(h':aa):Prop:=r=.int .i64 (nodes t)/\∃n' d',sM h' n' d'/\H.length<=h'.length/\(∀j,j≠1->j≠2->j<H.length->h'[j]?=H[j]?)/\(nodes t=0->n'=n+size t/\d'=max d (qw - 1+depth t))
theorem sM.gr{H:aa}{n d:Int}(c:sM H n d){K:aa}(hK:HV K):sM (H++K) n d:=by
 have:=c.len;exact⟨by rw[TG (by omega)];exact c.f1,by rw[TG (by omega)];exact c.f2,c.hv.gr hK,by simp;omega⟩
theorem sM.N1{H:aa}{n d:Int}(c:sM H n d)(n':Int):sM (H.set 1 ⟨.m,0,1,[.int .i64 n']⟩) n' d:=by
 have:=c.len;exact⟨TM (by omega),by rw[TN (by omega)];exact c.f2,c.hv.set 1 (by simp) rfl,by simp;omega⟩
theorem sM.N2{H:aa}{n d:Int}(c:sM H n d)(d':Int):sM (H.set 2 ⟨.m,0,1,[.int .i64 d']⟩) n d':=by
 have:=c.len;exact⟨by rw[TN (by omega)];exact c.f1,TM (by omega),c.hv.set 2 (by simp) rfl,by simp;omega⟩
theorem sM.take{H:aa}{n d:Int}(c:sM H n d)(m:Nat)(hm:3<=m):sM (H.take m) n d:=by
 have:=c.len;exact⟨by rw[Ux (by omega)];exact c.f1,by rw[Ux (by omega)];exact c.f2,λo ho=>c.hv o (Un ho),by simp;omega⟩
theorem Db(k s o l)(hb:aE (.mk k s o l)<1000000000)
  (ih:∀t∈l,∀(H:aa) (qw n d:Int),sM H n d->0<=n->n+size t<=1000000000->0<=d->d<=1000000000->0<=qw->qw+depth t<=1000000000->aD C 152 [enc t,.int .i64 qw,.ptr 1 0 0 0,.ptr 2 0 0 0] H (Ni H t qw n d))
  (H:aa) (qw n d:Int) (hH:sM H n d) (n0:0<=n) (n1:n+size (.mk k s o l)<=1000000000) (d0:0<=d) (d1:d<=1000000000) (l0:0<=qw) (l1:qw+depth (.mk k s o l)<=1000000000):
  aD C 152 [enc (.mk k s o l),.int .i64 qw,.ptr 1 0 0 0,.ptr 2 0 0 0] H (Ni H (.mk k s o l) qw n d):=by
 refine aD.dD Tryz.func152 rfl ?_;rw[bL];have hlen:=bq l;have eE:=ax l;have ez:=dT l;have N0:=fW l;have Fi:s.size<1000000000:=by simp only[aE]at hb;omega
 have Ii:bg l<1000000000:=by simp only[aE]at hb;omega
 simp only[size]at n1;simp only[depth]at l1;have Tf:=hH.len;refine wB ?_;obtain⟨H1,Ki⟩:∃x,x=H++[⟨.m,0,4,[.agg [.int .i64 k,.str s,.int .i64 o,.ab false (aj l)]]⟩]:=⟨_,rfl⟩;have c1:sM H1 n d:=by rw[Ki];exact hH.gr (HV.one rfl)
 have b1:H1[H.length]?=some ⟨.m,0,4,[.agg [.int .i64 k,.str s,.int .i64 o,.ab false (aj l)]]⟩:=by rw[Ki];simp
 have g1:H1.length=H.length+1:=by rw[Ki];simp
 have p1:∀j,j<H.length->H1[j]?=H[j]?:=λj hj=>by rw[Ki,TG hj]
 refine ag.heap Ki.symm ?_;clear Ki;have u1:=c1.f1;have u2:=c1.f2;refine wB ?_;refine R.vd T6 (n:=0) (o:=⟨.m,0,1,[.int .i64 n]⟩) (i:=0) (e:=.int .i64 n) rfl rfl rfl (bo u1 rfl (by simp)) rfl rfl rfl rfl (TI 1) ?_;obtain⟨H2,wM⟩:∃x,x=H1.set 1 ⟨.m,0,1,[.int .i64 (n+1)]⟩:=⟨_,rfl⟩;have c2:sM H2 (n+1) d:=by rw[wM];exact c1.N1 _
 have b2:H2[H.length]?=some ⟨.m,0,4,[.agg [.int .i64 k,.str s,.int .i64 o,.ab false (aj l)]]⟩:=by rw[wM,TN (by omega)];exact b1
 have g2:H2.length=H.length+1:=by rw[wM];simp[g1]
 have p2:∀j,j≠1->j<H.length->H2[j]?=H[j]?:=λj h1 hj=>by rw[wM,TN (by omega)];exact p1 j hj
 refine ag.heap wM.symm ?_;clear wM c1 b1 g1 p1 u1 u2;have u1:=c2.f1;have u2:=c2.f2;refine wB ?_;refine R.vd T6 (n:=0) (o:=⟨.m,0,1,[.int .i64 d]⟩) (i:=0) (e:=.int .i64 d) rfl rfl rfl (bo u2 rfl (by simp)) rfl rfl rfl rfl (TI 1) ?_;obtain⟨H3,Kj⟩:∃x,x=H2.set 2 ⟨.m,0,1,[.int .i64 (max d qw)]⟩:=⟨_,rfl⟩;have c3:sM H3 (n+1) (max d qw):=by rw[Kj];exact c2.N2 _
 have b3:H3[H.length]?=some ⟨.m,0,4,[.agg [.int .i64 k,.str s,.int .i64 o,.ab false (aj l)]]⟩:=by rw[Kj,TN (by omega)];exact b2
 have g3:H3.length=H.length+1:=by rw[Kj];simp[g2]
 have p3:∀j,j≠1->j≠2->j<H.length->H3[j]?=H[j]?:=λj h1 h2 hj=>by rw[Kj,TN (by omega)];exact p2 j h1 hj
 refine ag.heap Kj.symm ?_;clear Kj c2 b2 g2 p2 u1 u2
 have bad:∀e:Int,node (.mk k s o l)=e->e≠0->Ni H (.mk k s o l) qw n d (.int .i64 e) H3:=λe h1 h2=>by
  have:nodes (.mk k s o l)=e:=by rw[nodes,if_pos (by rw[h1];exact h2),h1]
  exact⟨by rw[this],_,_,c3,by omega,p3,λh=>absurd (this▸h) h2⟩
 (repeat' (first |refine ag.nil ?_ |(apply R.ve;exact rfl;exact rfl;exact rfl)|(apply R.mU;exact rfl;exact rfl;exact rfl)|(apply R.move;exact rfl)|(apply R.assign;exact rfl)|(apply R.gx;exact rfl;exact rfl)|(apply R.ir;exact rfl;exact rfl)|(apply R.fieldAddr T6;exact rfl;exact rfl;exact rfl;exact rfl)|(apply R.cmp;exact rfl;exact rfl;exact rfl;all_goals intro hc;all_goals(try(exfalso;omega)))|(apply R.qc T6;exact rfl;exact rfl)|(apply R.oH T6;exact rfl;exact rfl;exact rfl;exact(by assumption);exact rfl)|refine Ev.seq ?_ |refine Ev.region ?_ |(apply Ev.ef;exact rfl)|refine Ev.ret ?_ |refine Ev.skip ?_ |refine Ev.block ?_ |refine aA.normal ?_ |refine aA.ret ?_ |refine az.normal ?_ |refine az.ret ?_ |(apply aF.ret;exact rfl)|fail))
 all_goals try(refine bad 1 ?_ (by decide);rw[node,if_pos (by omega)])
 all_goals(refine R.call rfl rfl (ai.pure rfl rfl (yI s Fi) ?_);cases hN:dx s <;>(repeat' (first |refine ag.nil ?_ |(apply R.move;exact rfl)|(apply R.assign;exact rfl)|(apply R.fieldAddr T6;exact rfl;exact rfl;exact rfl;exact rfl)|(apply R.cmp;exact rfl;exact rfl;exact rfl;all_goals intro hc;all_goals(try(exfalso;omega)))|(apply R.not;exact rfl;exact rfl)|(apply R.qc T6;exact rfl;exact rfl)|(apply R.oH T6;exact rfl;exact rfl;exact rfl;exact(by assumption);exact rfl)|refine Ev.seq ?_ |refine Ev.region ?_ |(apply Ev.ef;exact rfl)|refine Ev.ret ?_ |refine Ev.skip ?_ |refine Ev.block ?_ |refine aA.normal ?_ |refine aA.ret ?_ |(apply aF.ret;exact rfl)|fail)))
 all_goals try(refine bad 2 ?_ (by decide);rw[node,if_neg (by omega),if_pos hN])
 all_goals try(refine bad 3 ?_ (by decide);rw[node,if_neg (by omega),if_neg (by rw[hN];simp),if_pos (by omega)])
 all_goals(
  have wP:node (.mk k s o l)=0:=by rw[node,if_neg (by omega),if_neg (by rw[hN];simp),if_neg (by omega)]
  have h0:nodes (.mk k s o l)=eX l:=by rw[nodes,if_neg (by rw[wP];simp)]
  clear bad hc
  refine Ev.loop (I:=λk' st=>∃(i:Nat) (Hc:aa) (nc dc:Int) (V':Nat->PV),st=⟨al [(1,.int .i64 qw),(2,.ptr 1 0 0 0),(3,.ptr 2 0 0 0),(4,.ptr H.length 0 0 0),(57,.ab false (aj l)),(58,.int .i64 (aj l).length),(59,.int .i64 i)] V',Hc⟩/\k'+i=l.length/\
   sM Hc nc dc/\Hc[H.length]?=some ⟨.m,0,4,[.agg [.int .i64 k,.str s,.int .i64 o,.ab false (aj l)]]⟩/\H.length<Hc.length/\(∀j,j≠1->j≠2->j<H.length->Hc[j]?=H[j]?)/\0<=nc/\nc+eC (l.drop i)=n+1+eC l/\qw<=dc/\dc<=1000000000/\max dc (qw+eY (l.drop i))=max d (qw+eY l)/\eX l=eX (l.drop i)) l.length ?_ ?_
  exact⟨0,H3,_,_,_,St.aB ⟨rfl,rfl,rfl,rfl,rfl,rfl,rfl,trivial⟩,rfl,c3,b3,by omega,p3,by omega,rfl,by omega,by omega,by simp only[U'];omega,rfl⟩
  ·clear c3 b3 g3 p3;rintro k' _ ⟨i,Hc,nc,dc,V',rfl,hk,c4,b4,g4,p4,m0,m1,m2,m3,m4,ew⟩;refine wE (λhc=>?_) λhc=>?_
   ·obtain⟨k1,s1,o1,N3,ib,dL,hd,mV,_⟩:=fX hc;refine R.ic T6 rfl rfl rfl rfl dL rfl rfl ?_;have Nj:=dT (l.drop (i+1));have Rj:=fW (l.drop (i+1));have Tg:=qQ _ ib;have PN:=jR (.mk k1 s1 o1 N3);have Nk:=kj (.mk k1 s1 o1 N3);rw[hd,eC]at m1;rw[hd,eY]at m4;rw[hd,eX]at ew;refine wB ?_;obtain⟨H5,Le⟩:∃x,x=Hc++[⟨.m,0,4,[.agg [.int .i64 k1,.str s1,.int .i64 o1,.ab false (aj N3)]]⟩]:=⟨_,rfl⟩;have c5:sM H5 nc dc:=by rw[Le];exact c4.gr (HV.one rfl)
    have b5:H5[H.length]?=some ⟨.m,0,4,[.agg [.int .i64 k,.str s,.int .i64 o,.ab false (aj l)]]⟩:=by rw[Le,TG (by omega)];exact b4
    have g5:H5.length=Hc.length+1:=by rw[Le];simp
    have p5:∀j,j≠1->j≠2->j<H.length->H5[j]?=H[j]?:=λj h1 h2 hj=>by rw[Le,TG (by omega)];exact p4 j h1 h2 hj
    have Ar:=ih _ ib H5 (qw+1) nc dc c5 m0 (by omega) (by omega) m3 (by omega) (by omega);rw[bL]at Ar;refine R.call rfl rfl (ai.As rfl Le.symm rfl rfl Ar ?_);rintro r h' ⟨rfl,n',d',c6,g6,p6,e6⟩;refine⟨c6.hv,λ_=>?_,λhf=>Bool.noConfusion hf⟩;have c7:=c6.take H5.length (by omega);have b7:(h'.take H5.length)[H.length]?=some ⟨.m,0,4,[.agg [.int .i64 k,.str s,.int .i64 o,.ab false (aj l)]]⟩:=by rw[Ux (by omega),p6 _ (by omega) (by omega) (by omega)];exact b5
    have g7:(h'.take H5.length).length=H5.length:=by simp;omega
    have p7:∀j,j≠1->j≠2->j<H.length->(h'.take H5.length)[j]?=H[j]?:=λj h1 h2 hj=>by rw[Ux (by omega),p6 j h1 h2 (by omega)];exact p5 j h1 h2 hj
    generalize h'.take H5.length=H7 at c7 b7 g7 p7 ⊢;clear c6 p6;refine wE (λhc=>?_) λhc=>?_
    ·have aU:=hc;rw[if_pos aU]at ew;exact⟨by rw[h0,ew];rfl,_,_,c7,by omega,p7,λh=>absurd (by rw[<-ew,<-h0];exact h) aU⟩
    ·rw[if_neg (by assumption)]at ew;obtain⟨e7,e8⟩:=e6 (by omega);exact⟨k' - 1,by omega,i+1,H7,n',d',_,St.aB ⟨rfl,rfl,rfl,rfl,rfl,rfl,rfl,trivial⟩,by omega,c7,b7,by omega,p7,by omega,by omega,by omega,by omega,by omega,ew⟩
   ·rw[gX hc]at ew m1 m4;simp only[eC,eY,eX]at ew m1 m4;refine⟨by rw[h0,ew];rfl,_,_,c4,by omega,p4,λ_=>⟨?_,?_⟩⟩;simp only[size];omega;simp only[depth];omega)
theorem Bl(t:Tm)(hb:aE t<1000000000):∀(H:aa) (qw n d:Int),sM H n d->0<=n->n+size t<=1000000000->0<=d->d<=1000000000->0<=qw->qw+depth t<=1000000000->aD C 152 [enc t,.int .i64 qw,.ptr 1 0 0 0,.ptr 2 0 0 0] H (Ni H t qw n d):=by
 induction t using Tm.ind with
 |h k s o l ih=>exact Db k s o l hb (λt ht=>ih t ht (by have:=bF ht;simp only[aE]at hb;omega))
theorem tL(t:Tm)(hb:aE t<100000000):aW C 98 [enc t] (.int .i64 (valid t)):=by
 have N4:=Bl t (by omega);have ez:=jR t;have Th:=kj t;obtain⟨k,s,o,l⟩:=t;refine aW.of (aD.dD Tryz.func98 rfl ?_);rw[bL]at N4 ⊢;refine wB ?_;refine R.vd T6 (n:=0) (o:=⟨.m,0,1,[.int .i64 0]⟩) (i:=0) (e:=.int .i64 0) rfl rfl rfl rfl rfl rfl rfl rfl (TI 1) ?_
 skip
 refine R.vd T6 (n:=0) (o:=⟨.m,0,1,[.int .i64 0]⟩) (i:=0) (e:=.int .i64 0) rfl rfl rfl rfl rfl rfl rfl rfl (TI 1) ?_;refine ag.heap (h':=[⟨.m,0,4,[.agg [.int .i64 k,.str s,.int .i64 o,.ab false (aj l)]]⟩,⟨.m,0,1,[.int .i64 0]⟩,⟨.m,0,1,[.int .i64 0]⟩]) rfl ?_;refine wB ?_
 have c0:sM [⟨.m,0,4,[.agg [.int .i64 k,.str s,.int .i64 o,.ab false (aj l)]]⟩,⟨.m,0,1,[.int .i64 0]⟩,⟨.m,0,1,[.int .i64 0]⟩] 0 0:=⟨rfl,rfl,λo ho=>by
  simp at ho;rcases ho with rfl |rfl <;>exact⟨by simp,rfl⟩,by simp⟩
 refine R.call rfl rfl (ai.As rfl rfl rfl rfl (N4 _ 1 0 0 c0 (by omega) (by omega) (by omega) (by omega) (by omega) (by omega)) ?_);rintro r h' ⟨rfl,n',d',c6,g6,p6,e6⟩;refine⟨c6.hv,λ_=>?_,λhf=>Bool.noConfusion hf⟩;have c7:=c6.take 3 (TI 3);refine ag.heap (h':=h'.take 3) rfl ?_;generalize h'.take 3=H7 at c7 ⊢;have u1:=c7.f1;have u2:=c7.f2;clear c6 p6 g6 N4;have hv:nodes (.mk k s o l)≠0->valid (.mk k s o l)=nodes (.mk k s o l):=λh=>by rw[valid,if_pos h]
 have yy:nodes (.mk k s o l)=0->valid (.mk k s o l)=if 400<size (.mk k s o l)\/40<depth (.mk k s o l)then 3 else 0:=λh=>by rw[valid,if_neg (by omega)]
 (repeat' (first |refine ag.nil ?_ |(apply R.ve;exact rfl;exact rfl;exact rfl)|(apply R.mU;exact rfl;exact rfl;exact rfl)|(apply R.move;exact rfl)|(apply R.assign;exact rfl)|(apply R.gx;exact rfl;exact rfl)|(apply R.ir;exact rfl;exact rfl)|(apply R.cmp;exact rfl;exact rfl;exact rfl;all_goals intro hc)|(apply R.oH T6;exact rfl;exact rfl;exact rfl;exact(by assumption);exact rfl)|refine Ev.seq ?_ |refine Ev.region ?_ |(apply Ev.ef;exact rfl)|refine Ev.ret ?_ |refine Ev.skip ?_ |refine aA.normal ?_ |refine aA.ret ?_ |(apply aF.ret;exact rfl)|fail))
 exact⟨_,rfl,by rw[hv (by assumption)];rfl⟩
 ·have h0:nodes (.mk k s o l)=0:=by omega
  obtain⟨e7,e8⟩:=e6 h0;exact⟨_,rfl,by rw[yy h0,if_pos (by omega)];rfl⟩
 ·have h0:nodes (.mk k s o l)=0:=by omega
  obtain⟨e7,e8⟩:=e6 h0;exact⟨_,rfl,by rw[yy h0,if_pos (by omega)];rfl⟩
 ·have h0:nodes (.mk k s o l)=0:=by omega
  obtain⟨e7,e8⟩:=e6 h0;exact⟨_,rfl,by rw[yy h0,if_neg (by omega)];rfl⟩
theorem Out.ot{sz:Nat}{h:aa}{v:PV}{es:List PV}(o:Out sz h v es)(hv:au es=true):∃r1,ot h v=some r1/\cJ r1=.ab false (ba es):=by
 rcases o with⟨rfl,rfl⟩|⟨id,ep,rfl,e2⟩;exact⟨_,rfl,rfl⟩;exact⟨.ab false es,by simp[Pm.ot,sP,getM,e2,hv],by simp[cJ]⟩
end Go.Pm
namespace Go.Pm
open Go.Proofs
section
variable{C:bZ}(T:kM C.P)
variable{ops:Array Oper}{d:Nat}{ty:TypeId}{pos:String}{af:Array Edge}{r:List Oper}{V:Nat->PV}{L:List (Nat×PV)}{h:aa}{Q:St->Prop}
set_option maxRecDepth 4000
set_option maxHeartbeats 4000000
theorem Out.bC{sz:Nat}{h:aa}{v:PV}{es:List PV}(o:Out sz h v es):bC h v=some es:=by
 rcases o with⟨rfl,rfl⟩|⟨id,ep,rfl,e2⟩
 rfl
 simp[Pm.bC,getM,e2]
def Ls(sz:Nat)(h:aa)(v:PV)(es:List PV):Prop:=Out sz h v es\/∃f,v=.ab f es
theorem Ls.bC{sz:Nat}{h:aa}{v:PV}{es:List PV}(o:Ls sz h v es):bC h v=some es:=by
 rcases o with o |⟨f,rfl⟩;exact o.bC
 rfl
end
section
variable{C:bZ}(T:kM C.P)
set_option maxRecDepth 4000
set_option maxHeartbeats 4000000
theorem Out.cells{sz:Nat}{h:aa}{v:PV}{es:List PV}(o:Out sz h v es):cells v=[v]:=by
 rcases o with⟨rfl,rfl⟩|⟨id,ep,rfl,e2⟩ <;>rfl
theorem Ls.cells{sz:Nat}{h:aa}{v:PV}{es:List PV}(o:Ls sz h v es):Pm.cells v=[v]:=by
 rcases o with o |⟨f,rfl⟩;exact o.cells
 rfl
end
attribute [local irreducible] aA az aH aF Ev ag ai aD bw
set_option maxRecDepth 4000
set_option maxHeartbeats 4000000
theorem du(a b:List Tm):aj (a++b)=aj a++aj b:=by rw[cQ,cQ,cQ,VK]
end Go.Pm
namespace Go.Pm
open Go.Proofs
set_option maxRecDepth 4000
set_option maxHeartbeats 4000000
def xL:Tm:=.mk 0 ByteArray.empty 0 []
theorem Out.lt{sz:Nat}{h:aa}{v:PV}{es:List PV}(o:Out sz h v es){j ep n:Nat}(hv:v=.an j ep 0 n):j<h.length:=by
 rcases o with⟨rfl,_⟩|⟨id,hY,rfl,e2⟩
 cases hv
 cases hv;exact ae e2
theorem LP.obj{H:aa}{v:PV}{sz:Nat}{es:List PV}{r:PV}{h':aa}(a:LP H v sz es r h'){b:Nat}{o:aC}(e:H[b]?=some o)(hb:∀ep n,v≠.an b ep 0 n):h'[b]?=some o/\∀ep n,r≠.an b ep 0 n:=by
 refine⟨by rw[a.fr b (ae e) hb];exact e,λep n hh=>?_⟩;rcases a.ref b ep n hh with⟨hY,n',h3⟩|h3;exact hb hY n' h3;have:=ae e;omega
end Go.Pm
namespace Go.Pm
abbrev Al:=List (Nat×PV)
inductive Rn(p:Prop):Prop
 |go (k:p)
theorem Rn.out{p:Prop}(h:Rn p):p:=h.casesOn id
inductive ns(p a b:Prop):Prop
 |tt (k:Rn a) (h:p:=by first |assumption |omega |decide)
 |ff (k:Rn b) (h:¬p:=by first |assumption |omega |decide)
 |mk (t:p->Rn a) (f:¬p->Rn b)
theorem ns.out{p a b:Prop}(h:ns p a b):(p/\a)\/(¬p/\b):=by
 cases h with
 |tt k h=>exact .inl ⟨h,k.out⟩
 |ff k h=>exact .inr ⟨h,k.out⟩
 |mk t f=>
  by_cases hp:p
  exact .inl ⟨hp,(t hp).out⟩;exact .inr ⟨hp,(f hp).out⟩
inductive Wr(k:IntKind)(c:Int)(K:Int->Prop):Prop
 |mk (kk:Rn (K c)) (h:k.wrap c=c:=by first |exact mE (by omega) (by omega)|exact QJ (by omega) (by omega))
 |raw (c':Int) (h:k.wrap c=c') (kk:Rn (K c'))
theorem Wr.out{k:IntKind}{c:Int}{K:Int->Prop}(h:Wr k c K):K (k.wrap c):=by
 cases h with
 |mk kk h=>rw[h];exact kk.out
 |raw c' h kk=>rw[h];exact kk.out
inductive Sd(p a:Prop):Prop
 |mk (k:Rn a) (h:p:=by first |assumption |omega |decide |rfl |(dsimp only;omega)|(simp;done)|(simp;omega))
theorem Sd.out{p a:Prop}(h:Sd p a):p/\a:=by cases h with |mk k h=>exact⟨h,k.out⟩
theorem l6{h J:aa}{id ep:Nat}{o:aC}(e:getM h id ep=some o):getM (h++J) id ep=some o:=by
 obtain⟨h1,h2,h3⟩:=getM_some e;exact bo (by rw[TG (ae h1)];exact h1) h2 h3
inductive yd(h:aa)(id ep:Nat)(K:aC->Prop):Prop
 |mk {o:aC} (kk:Rn (K o)) (ho:getM h id ep=some o:=by first |exact bo (by assumption) rfl (by first |assumption |simp)|rfl |exact lR |exact l6 (bo (by assumption) rfl (by first |assumption |simp))|exact l6 lR |exact l6 (l6 (bo (by assumption) rfl (by first |assumption |simp))))
theorem yd.out{h:aa}{id ep:Nat}{K:aC->Prop}(x:yd h id ep K):∃o,getM h id ep=some o/\K o:=by cases x with |mk kk ho=>exact⟨_,ho,kk.out⟩
inductive GQ(es:List PV)(i:Int)(sz:Nat)(K:List PV->Prop):Prop
 |mk {n:Nat} {v:PV} (kk:Rn (K (cells v))) (hi:i=(n:Int):=by first |rfl |exact(Int.natCast_succ _).symm |exact(VS (by omega)).symm) (hv:es[n]?=some v:=by first |assumption |rfl) (hl:(cells v).length=sz:=by rfl)
theorem GQ.out{es:List PV}{i:Int}{sz:Nat}{K:List PV->Prop}(x:GQ es i sz K):∃(n:Nat) (v:PV),i=n/\es[n]?=some v/\(cells v).length=sz/\K (cells v):=by
 cases x with |mk kk h1 h2 h3=>exact⟨_,_,h1,h2,h3,kk.out⟩
inductive NG(s:ByteArray)(i:Int)(K:UInt8->Prop):Prop
 |mk {n:Nat} {b:UInt8} (kk:Rn (K b)) (hi:i=(n:Int):=by first |rfl |exact(Int.natCast_succ _).symm |exact(VS (by omega)).symm) (hv:s[n]?=some b:=by first |assumption |rfl)
theorem NG.out{s:ByteArray}{i:Int}{K:UInt8->Prop}(x:NG s i K):∃(n:Nat) (b:UInt8),i=n/\s[n]?=some b/\K b:=by cases x with |mk kk h1 h2=>exact⟨_,_,h1,h2,kk.out⟩
inductive Fq(o:aC):aa->aa->Nat->Prop
 |nil:Fq o [] [o] 0
 |cons {x:aC} {l l':aa} {n:Nat}:Fq o l l' n->Fq o (x::l) (x::l') (n+1)
 |gen {l:aa}:Fq o l (l++[o]) l.length
theorem Fq.eq{o:aC}{l l':aa}{n:Nat}(a:Fq o l l' n):l'=l++[o]/\n=l.length:=by
 induction a with
 |nil=>exact⟨rfl,rfl⟩
 |cons _ ih=>obtain⟨rfl,rfl⟩:=ih;exact⟨rfl,rfl⟩
 |gen=>exact⟨rfl,rfl⟩
inductive ql(h:aa)(o:aC)(K:Nat->aa->Prop):Prop
 |mk {n:Nat} {h':aa} (kk:Rn (K n h')) (ha:Fq o h h' n:=by repeat(first |exact .nil |apply Fq.cons |exact .gen))
theorem ql.out{h:aa}{o:aC}{K:Nat->aa->Prop}(x:ql h o K):K h.length (h++[o]):=by
 cases x with |mk kk ha=>obtain⟨rfl,rfl⟩:=ha.eq;exact kk.out
def HR(h:aa):Prop:=∀o∈h,o.mu≠.x/\bM (λi=>decide (i<h.length)) o.es=true
mutual
theorem E0{f g:Nat->Bool}(hi:∀i,f i=true->g i=true):∀p,br f p=true->br g p=true
 | .int ..,_ | .bool _,_ | .str _,_ | .c9,_ | .ay,_ | .eK,_ | .ab ..,_ | .cU _,_ | .undef,_ | .any,_=>rfl
 | .an ..,h=>by simp only[br]at h ⊢;exact hi _ h
 | .ptr ..,h=>by simp only[br]at h ⊢;exact hi _ h
 | .fe _,h=>by simp only[br]at h ⊢;exact hi _ h
 | .agg cs,h=>by simp only[br]at h ⊢;exact eT hi cs h
 | .cT cs,h=>by simp only[br]at h ⊢;exact eT hi cs h
 | .fn _ cs,h=>by simp only[br]at h ⊢;exact eT hi cs h
 | .j4 _ _ cs,h=>by simp only[br]at h ⊢;exact eT hi cs h
theorem eT{f g:Nat->Bool}(hi:∀i,f i=true->g i=true):∀cs,bM f cs=true->bM g cs=true
 |[],_=>rfl
 |c::r,h=>by
  simp only[bM,TK]at h ⊢;exact⟨E0 hi c h.1,eT hi r h.2⟩
end
theorem HR.SX{h:aa}(H:HR h){i:Nat}(hi:i<h.length):aI h i=true:=by
 unfold aI;rw[TJ hi];simpa using(H _ (Up hi)).1
theorem HR.closed{h:aa}(H:HR h):aL h=true:=by
 unfold aL;rw[TH]
 intro o ho
 rw[eT (λi hi=>H.SX (of_decide_eq_true hi)) _ (H o ho).2];simp
theorem HV.hr{h:aa}(H:HV h):HR h:=λo ho=>⟨(H o ho).1,cf _ _ (H o ho).2⟩
theorem HR.gr{h J:aa}(H:HR h)(hJ:∀o∈J,o.mu≠.x/\bM (λi=>decide (i<h.length+J.length)) o.es=true):HR (h++J):=by
 intro o ho
 rw[T0];rcases TP.1 ho with ho |ho;exact⟨(H o ho).1,eT (λi hi=>by have:=of_decide_eq_true hi;exact decide_eq_true (by omega)) _ (H o ho).2⟩;exact hJ o ho
theorem HR.jk{h J:aa}(H:HR h)(hJ:HV J):HR (h++J):=H.gr λo ho=>⟨(hJ o ho).1,cf _ _ (hJ o ho).2⟩
theorem HR.Px{h:aa}(H:HR h){o:aC}(h1:o.mu≠.x:=by simp)(h2:bM (λi=>decide (i<h.length+1)) o.es=true:=by simp[bM,br];omega):HR (h++[o]):=H.gr λo' ho=>by
 obtain rfl:=Ua.1 ho;exact⟨h1,h2⟩
theorem HR.set{h:aa}(H:HR h)(id:Nat){o:aC}(h1:o.mu≠.x:=by simp)(h2:bM (λi=>decide (i<h.length)) o.es=true:=by simp[bM,br];omega):HR (h.set id o):=by
 intro o' ho
 rw[List.length_set];rcases U9 ho with ho |rfl;exact H o' ho;exact⟨h1,h2⟩
structure LR(H:aa)(v:PV)(sz:Nat)(eD:List PV)(r:PV)(h':aa):Prop where
 out:Out sz h' r eD
 hr:HR h'
 len:H.length<=h'.length
 fr:∀j,j<H.length->(∀ep n,v≠.an j ep 0 n)->h'[j]?=H[j]?
 ref:∀j ep n,r=.an j ep 0 n->(∃hY n',v=.an j hY 0 n')\/H.length<=j
 mu:∀(j:Nat) (o:aC),h'[j]?=some o->H[j]?=some o\/o.mu=.m
theorem JZ{h:aa}{x:aC}(hx:x.mu=.m)(j:Nat)(o:aC)(e:(h++[x])[j]?=some o):h[j]?=some o\/o.mu=.m:=by
 by_cases hj:j<h.length
 rw[TG hj]at e;exact .inl e
 ·rw[TQ (by omega)]at e;have:=TU e;simp at this;subst this;exact .inr hx
theorem J0{h:aa}{id:Nat}{x:aC}(hx:x.mu=.m)(j:Nat)(o:aC)(e:(h.set id x)[j]?=some o):h[j]?=some o\/o.mu=.m:=by
 by_cases hj:id=j
 ·subst hj;have hl:=ae e;rw[TM (by simpa using hl)]at e;obtain rfl:=TF e;exact .inr hx
 rw[TN hj]at e;exact .inl e
inductive GR(h:aa)(sz:Nat)(v:PV)(ys:List PV)(K:PV->aa->Prop):Prop
 |lp {es:List PV} (kk:∀v' h',LP h v sz (es++ys) v' h'->Rn (K v' h')) (ho:Out sz h v es:=by first |assumption |exact .inl ⟨rfl,rfl⟩) (yi:dw sz ys:=by first |rfl |(simp;done)) (hn:es.length+ys.length<1000000000:=by first |omega |(simp only[T2,Ut];omega))
   (hvs:au (es++ys)=true:=by simp) (hH:HV h:=by first |assumption |exact HV.nil)
 |lr {es:List PV} (kk:∀v' h',LR h v sz (es++ys) v' h'->Rn (K v' h')) (ho:Out sz h v es:=by first |assumption |exact .inl ⟨rfl,rfl⟩) (yi:dw sz ys:=by first |rfl |(simp;done)) (hn:es.length+ys.length<1000000000:=by first |omega |(simp only[T2,Ut];omega))
   (hvs:bM (λi=>decide (i<h.length)) (es++ys)=true:=by first |exact cf _ _ (by simp)|(simp[bM,br];done)) (hH:HR h:=by assumption)
 |nn {full:Bool} {es:List PV} (kk:Rn (K (.ab full es) h)) (ms:ys=[]) (hv:v=.ab full es:=by rfl)
 |sn {es:List PV} (kk:Rn (K (.an h.length 0 0 (es.length+ys.length)) (h++[⟨.m,0,sz,es++ys⟩]))) (aU:ys.isEmpty=false) (hn:es.length+ys.length<1000000000) (hv:v=.ab true es:=by rfl) (yi:dw sz ys:=by first |rfl |(simp;done)) (Py:dw sz es:=by first |rfl |(simp;done))
inductive xd(C:bZ)(op:Op)(L:Al)(h:aa)(K:PV->aa->Prop):Prop
 |mk {v:PV} {h':aa} (hc:∀run V,ak C run 2 op (al L V) h=some (v,h')) (kk:Rn (K v h'))
theorem xd.out{C:bZ}{op:Op}{L:Al}{h:aa}{K:PV->aa->Prop}(x:xd C op L h K):∃v h',(∀run V,ak C run 2 op (al L V) h=some (v,h'))/\K v h':=by cases x with |mk hc kk=>exact⟨_,_,hc,kk.out⟩
inductive vT(C:bZ)(op:Op)(L:Al)(K:PV->Prop):Prop
 |mk {v:PV} (hc:∀run lv V h,ak C run lv op (al L V) h=some (v,h)) (kk:Rn (K v))
theorem vT.out{C:bZ}{op:Op}{L:Al}{K:PV->Prop}(x:vT C op L K):∃v,(∀run lv V h,ak C run lv op (al L V) h=some (v,h))/\K v:=by cases x with |mk hc kk=>exact⟨_,hc,kk.out⟩
inductive lC(C:bZ)(op:Op)(L:Al)(h:aa)(K:PV->Prop):Prop
 |mk {v:PV} (hc:∀run lv V,ak C run lv op (al L V) h=some (v,h)) (kk:Rn (K v))
theorem lC.out{C:bZ}{op:Op}{L:Al}{h:aa}{K:PV->Prop}(x:lC C op L h K):∃v,(∀run lv V,ak C run lv op (al L V) h=some (v,h))/\K v:=by cases x with |mk hc kk=>exact⟨_,hc,kk.out⟩
def tg{α:Type}:List α->Nat->Option α
 |[],_=>none
 |a::_,0=>some a
 |_::l,n+1=>tg l n
theorem mq{α:Type}:∀(l:List α) (n:Nat),tg l n=l[n]?
 |[],n=>by simp[tg]
 |a::l,0=>by simp[tg]
 |a::l,n+1=>by simp[tg,mq l n]
def mK:Nat->List PV->(List PV->Prop)->Prop
 |0,l,k=>k l
 |n+1,_::l,k=>mK n l k
 |_+1,[],_=>False
theorem fM:∀{n:Nat} {l:List PV} {k:List PV->Prop},mK n l k->n<=l.length/\k (l.drop n)
 |0,l,k,h=>⟨by omega,h⟩
 |n+1,_::l,k,h=>by obtain⟨h1,h2⟩:=fM (n:=n) h;exact⟨by simp;omega,h2⟩
 |_+1,[],_,h=>h.elim
def sE:Nat->List PV->(List PV->Prop)->Prop
 |0,_,k=>k []
 |n+1,c::l,k=>sE n l λr=>k (c::r)
 |_+1,[],_=>False
theorem jZ:∀{n:Nat} {l:List PV} {k:List PV->Prop},sE n l k->n<=l.length/\k (l.take n)
 |0,l,k,h=>⟨by omega,h⟩
 |n+1,c::l,k,h=>by obtain⟨h1,h2⟩:=jZ (n:=n) h;exact⟨by simp;omega,h2⟩
 |_+1,[],_,h=>h.elim
def Ct:Nat->List PV->List PV->(List PV->Prop)->Prop
 |0,cs,[],k=>k cs
 |0,_::cs,v::vs,k=>Ct 0 cs vs λr=>k (v::r)
 |n+1,c::cs,vs,k=>Ct n cs vs λr=>k (c::r)
 |0,[],_::_,_=>False
 |_+1,[],_,_=>False
theorem oh:∀{n:Nat} {cs vs:List PV} {k:List PV->Prop},Ct n cs vs k->n+vs.length<=cs.length/\k (cs.take n++vs++cs.drop (n+vs.length))
 |0,cs,[],k,h=>⟨by simp,by simpa[Ct]using h⟩
 |0,_::cs,v::vs,k,h=>by obtain⟨h1,h2⟩:=oh (n:=0) (cs:=cs) h;exact⟨by simp at h1 ⊢;omega,by simpa using h2⟩
 |n+1,c::cs,vs,k,h=>by
  obtain⟨h1,h2⟩:=oh (n:=n) h;exact⟨by simp;omega,by rw[show n+1+vs.length=(n+vs.length)+1 by omega];simpa using h2⟩
 |0,[],_::_,_,h=>h.elim
 |_+1,[],_,_,h=>h.elim
def kK(L:Al):List Operand->(List PV->Prop)->Prop
 |[],k=>k []
 |x::xs,k=>match dn L x with
  |some v=>kK L xs λr=>k (v::r)
  |none=>False
theorem fN{L:Al}:∀{xs:List Operand} {k:List PV->Prop},kK L xs k->∃vs,vL L xs=some vs/\k vs
 |[],k,h=>⟨[],rfl,h⟩
 |x::xs,k,h=>by
  unfold kK at h
  split at h
  ·rename_i v hv
   obtain⟨vs,e,hk⟩:=fN h;exact⟨v::vs,by simp[vL,hv,e],hk⟩
  exact h.elim
def qm:List PV->List PV->(List PV->Prop)->Prop
 |[],b,k=>k b
 |a::l,b,k=>qm l b λr=>k (a::r)
theorem hU:∀{a b:List PV} {k:List PV->Prop},qm a b k->k (a++b)
 |[],_,_,h=>h
 |_::l,b,k,h=>hU (a:=l) h
variable{C:bZ}(T:kM C.P)
section
variable{V:Nat->PV}{L:Al}{h:aa}
inductive GU(a b:Int)(bits:Nat)(K:Int->Prop):Prop
 |mk {c:Int} (kk:Rn (K c)) (h:a.fdiv (2^ (min b.toNat bits))=c:=by first |exact NH _ |rfl) (h0:0<=b:=by omega)
theorem GU.out{a b:Int}{bits:Nat}{K:Int->Prop}(x:GU a b bits K):0<=b/\K (a.fdiv (2^ (min b.toNat bits))):=by
 cases x with |mk kk h h0=>rw[h];exact⟨h0,kk.out⟩
inductive HJ(k:IntKind)(c:Int)(K:Int->Prop):Prop
 |mk (c':Int) (h:k.wrap c=c') (kk:Rn (K c'))
theorem HJ.out{k:IntKind}{c:Int}{K:Int->Prop}(h:HJ k c K):K (k.wrap c):=by
 cases h with
 |mk c' h kk=>rw[h];exact kk.out
inductive GV(k:IntKind)(a b:Int)(K:Int->Prop):Prop
 |mk (c:Int) (h:k.wrap (a * 2^ (min b.toNat k.bits))=c) (h0:0<=b) (kk:Rn (K c))
theorem GV.out{k:IntKind}{a b:Int}{K:Int->Prop}(x:GV k a b K):0<=b/\K (k.wrap (a * 2^ (min b.toNat k.bits))):=by
 cases x with |mk c h h0 kk=>rw[h];exact⟨h0,kk.out⟩
def MW(k:IntKind)(op:BinOp)(a b:Int)(K:PV->Prop):Prop:=
 match op with
 | .eql=>ns (a=b) (K (.bool true)) (K (.bool false))
 | .neq=>ns (a=b) (K (.bool false)) (K (.bool true))
 | .lss=>ns (a<b) (K (.bool true)) (K (.bool false))
 | .leq=>ns (a<=b) (K (.bool true)) (K (.bool false))
 | .gtr=>ns (b<a) (K (.bool true)) (K (.bool false))
 | .geq=>ns (b<=a) (K (.bool true)) (K (.bool false))
 | .add=>Wr k (a+b) λc=>K (.int k c)
 | .sub=>Wr k (a - b) λc=>K (.int k c)
 | .mul=>Wr k (a * b) λc=>K (.int k c)
 | .quo=>Sd (b≠0) (Wr k (a.tdiv b) λc=>K (.int k c))
 | .rem=>Sd (b≠0) (K (.int k (a.tmod b)))
 | .and=>HJ k (BitVec.ofInt k.bits a&&&BitVec.ofInt k.bits b).toNat λc=>K (.int k c)
 | .or=>HJ k (BitVec.ofInt k.bits a |||BitVec.ofInt k.bits b).toNat λc=>K (.int k c)
 | .xor=>HJ k (BitVec.ofInt k.bits a^^^BitVec.ofInt k.bits b).toNat λc=>K (.int k c)
 |_=>False
theorem il{p:Prop}{x:PV->Prop}{u v c:Bool}(h:ns p (x (.bool u)) (x (.bool v)))(h1:p->c=u)(h2:¬p->c=v):x (.bool c):=by
 rcases h.out with⟨h3,h4⟩|⟨h3,h4⟩;rw[h1 h3];exact h4;rw[h2 h3];exact h4
theorem E1{k:IntKind}{op:BinOp}{a b:Int}{K:PV->Prop}(h:MW k op a b K):∃v,(∀t,dY C.P op t (.int k a) (.int k b)=some v)/\K v:=by
 cases op with
 |eql=>exact⟨_,λt=>by simp only[dY,fE];rfl,il h (λh=>by simp[h]) (λh=>by simp[h])⟩
 |neq=>exact⟨_,λt=>by simp only[dY,fE];rfl,il h (λh=>by simp[h]) (λh=>by simp[h])⟩
 |lss=>exact⟨_,λt=>by simp only[dY,fE];rfl,il h (λh=>by simp[h]) (λh=>by simp[h])⟩
 |leq=>exact⟨_,λt=>by simp only[dY,fE];rfl,il h (λh=>by simp[h]) (λh=>by simp[h])⟩
 |gtr=>exact⟨_,λt=>by simp only[dY,fE];rfl,il h (λh=>by simp[h]) (λh=>by simp[h])⟩
 |geq=>exact⟨_,λt=>by simp only[dY,fE];rfl,il h (λh=>by simp[h]) (λh=>by simp[h])⟩
 |add=>exact⟨_,λt=>by simp only[dY,fE];rfl,Wr.out h⟩
 |sub=>exact⟨_,λt=>by simp only[dY,fE];rfl,Wr.out h⟩
 |mul=>exact⟨_,λt=>by simp only[dY,fE];rfl,Wr.out h⟩
 |quo=>obtain⟨h1,h2⟩:=Sd.out h;exact⟨_,λt=>by simp only[dY,fE,if_true,if_neg h1],Wr.out h2⟩
 |rem=>obtain⟨h1,h2⟩:=Sd.out h;exact⟨_,λt=>by simp only[dY,fE,if_true,if_neg h1],h2⟩
 |and=>exact⟨_,λt=>by simp only[dY,fE];rfl,HJ.out h⟩
 |or=>exact⟨_,λt=>by simp only[dY,fE];rfl,HJ.out h⟩
 |xor=>exact⟨_,λt=>by simp only[dY,fE];rfl,HJ.out h⟩
 |_=>exact False.elim h
def MX(op:BinOp)(a b:ByteArray)(K:PV->Prop):Prop:=
 match op with
 | .eql=>ns (a.toList=b.toList) (K (.bool true)) (K (.bool false))
 | .neq=>ns (a.toList=b.toList) (K (.bool false)) (K (.bool true))
 | .lss=>ns (Op.bytesLess a.toList b.toList=true) (K (.bool true)) (K (.bool false))
 | .gtr=>ns ((!(Op.bytesLess a.toList b.toList ||a.toList==b.toList))=true) (K (.bool true)) (K (.bool false))
 | .leq=>ns ((Op.bytesLess a.toList b.toList ||a.toList==b.toList)=true) (K (.bool true)) (K (.bool false))
 | .geq=>ns (Op.bytesLess a.toList b.toList=true) (K (.bool false)) (K (.bool true))
 | .add=>Sd (a.size+b.size<1000000000) (K (.str (a++b)))
 |_=>False
theorem E2{op:BinOp}{a b:ByteArray}{K:PV->Prop}(h:MX op a b K):∃v,(∀t,dY C.P op t (.str a) (.str b)=some v)/\K v:=by
 cases op with
 |eql=>exact⟨_,λt=>by simp only[dY,jJ];rfl,il h (λh=>by simp[h]) (λh=>by simp[h])⟩
 |neq=>exact⟨_,λt=>by simp only[dY,jJ];rfl,il h (λh=>by simp[h]) (λh=>by simp[h])⟩
 |lss=>exact⟨_,λt=>by simp only[dY,jJ],il h (λh=>h) (λh=>by simpa using h)⟩
 |gtr=>exact⟨_,λt=>by simp only[dY,jJ],il h (λh=>h) (λh=>by simpa using h)⟩
 |leq=>exact⟨_,λt=>by simp only[dY,jJ],il h (λh=>h) (λh=>by simpa using h)⟩
 |geq=>exact⟨_,λt=>by simp only[dY,jJ];rfl,il h (λh=>by simp[h]) (λh=>by simpa using h)⟩
 |add=>
  obtain⟨h1,h2⟩:=Sd.out h;exact⟨_,λt=>by simp only[dY,jJ];rw[if_neg (by show¬((a.size+b.size:Nat):Int)>9223372036854775807;omega)],h2⟩
 |_=>exact False.elim h
def iy(L:Al)(x:Operand)(K:PV->Prop):Prop:=match dn L x with |some v=>K v |none=>False
theorem aM{x:Operand}{K:PV->Prop}(h:iy L x K):∃v,dn L x=some v/\K v:=by
 unfold iy at h
 split at h
 exact⟨_,by assumption,h⟩;exact h.elim
def E3(t:TypeId)(cs:List PV)(off:Nat)(K:PV->Prop):Prop:=
 match T.ta t,T.ts t with
 |some false,some _=>mK off cs λr=>match r with |c::_=>K c |[]=>False
 |some true,some sz=>mK off cs λr=>sE sz r λl=>K (.agg l)
 |_,_=>False
theorem Cu{t:TypeId}{cs:List PV}{off:Nat}{K:PV->Prop}(h:E3 T t cs off K):∃v,qK C.P t cs off=some v/\K v:=by
 unfold E3 at h
 split at h
 ·rename_i h1 h2
  obtain⟨h3,h4⟩:=fM h
  cases hd:cs.drop off with
  |nil=>rw[hd]at h4;exact h4.elim
  |cons c r=>
   rw[hd]at h4;refine⟨c,?_,h4⟩
   have:cs[off]?=some c:=by
    have:=congrArg List.head? hd;simpa[List.head?_drop]using this
   simp[qK,T.En _ _ h1,T.dF _ _ h2,this]
 ·rename_i sz h1 h2
  obtain⟨h3,h4⟩:=fM h;obtain⟨h5,h6⟩:=jZ h4;refine⟨_,?_,h6⟩;simp only[qK,T.En _ _ h1,T.dF _ _ h2];rw[if_pos];simp at h5;omega
 exact h.elim
def E4(os:List (Nat×TypeId)):List (Nat×Operand)->List PV->Al->(List PV->Prop)->Prop
 |[],cs,_,K=>K cs
 |(i,x)::r,cs,L,K=>iy L x λv=>match tg os i with
  |some (off,ty)=>match T.ts ty with
   |some sz=>match Nat.beq (cells v).length sz,(cells v).all aZ with
    |true,true=>Ct off cs (cells v) λiw=>E4 os r iw L K
    |_,_=>False
   |none=>False
  |none=>False
theorem uO{os:List (Nat×TypeId)}:∀{ps:List (Nat×Operand)} {cs:List PV} {K:List PV->Prop},E4 T os ps cs L K->∃vs iw,ky L ps=some vs/\iF (qD T.ts os) cs vs=some iw/\K iw
 |[],cs,K,h=>⟨[],cs,rfl,rfl,h⟩
 |(i,x)::r,cs,K,h=>by
  obtain⟨v,h1,h2⟩:=aM h
  split at h2
  ·rename_i off ty h3
   split at h2
   ·rename_i sz h4
    split at h2
    ·rename_i h5 h6
     obtain⟨h7,h8⟩:=oh h2;obtain⟨vs,iw,e1,e2,e3⟩:=uO h8;have h5:=Ud h5;refine⟨(i,v)::vs,iw,by simp[ky,h1,e1],?_,e3⟩;rw[mq]at h3;simp only[iF,qD,h3,h4,TO];rw[if_pos ⟨h5,h6,by omega⟩];exact e2
    exact h2.elim
   exact h2.elim
  exact h2.elim
def MY(os:List (Nat×TypeId)):Bool:=os.all λo=>(T.ts o.2).isSome
theorem GW{n:Nat}{cs l:List PV}{c:PV}(h:cs.drop n=c::l):n<cs.length:=by
 rcases T8 n cs.length with h1 |h1;exact h1;rw[Uf h1]at h;cases h
theorem J1{fs:Array Field}{f off:Nat}{ft:TypeId}(h:(fs.toList.map λf=>(f.offset,f.type))[f]?=some (off,ft)):∃fl,fs[f]?=some fl/\fl.offset=off/\fl.type=ft:=by
 rw[TS]at h
 cases JM:fs.toList[f]? with
 |none=>rw[JM]at h;cases h
 |some fl=>
  rw[JM]at h;simp at h;exact⟨fl,by simpa using JM,h.1,h.2⟩
def tU(op:Op)(L:Al)(K:PV->Prop):Prop:=
 match op with
 | .move x | .assign x=>iy L x K
 | .pick c a b=>iy L c λv=>match v with
  | .bool true=>iy L a K
  | .bool false=>iy L b K
  |_=>False
 | .binOp op t x y _=>iy L x λv=>iy L y λu=>match v,u with
  | .int k a,.int k' b=>match op with
   | .shr=>GU a b k.bits λc=>K (.int k c)
   | .shl=>GV k a b λc=>K (.int k c)
   |op=>match decide (k=k')with
    |true=>MW k op a b K
    |false=>False
  | .str a,.str b=>MX op a b K
  | .bool a,.bool b=>match T.kd t with
   |some .bool=>match op with
    | .eql=>K (.bool (a==b))
    | .neq=>K (.bool !(a==b))
    |_=>False
   |_=>False
  |_,_=>False
 | .unOp .neg _ x=>iy L x λv=>match v with
  | .int k n=>Wr k (0 - n) λc=>K (.int k c)
  |_=>False
 | .unOp .not _ x=>iy L x λv=>match v with
  | .bool true=>K (.bool false)
  | .bool false=>K (.bool true)
  |_=>False
 | .convert s d x=>iy L x λv=>match v,T.kd s,T.kd d with
  | .int _ n,some _,some (.int k)=>Wr k n λc=>K (.int k c)
  | .str s,some _,some .str=>K (.str s)
  | .ab _ es,some (.sl e),some .str=>match T.kd e,j8 es with
   |some (.int .u8),some l=>K (.str (HO l))
   |_,_=>False
  |_,_,_=>False
 | .extract x i=>iy L x λv=>match v with
  | .cT vs=>match tg vs i with
   |some u=>K u
   |none=>False
  |_=>False
 | .makeFunc (.func f) first cA=>match first.toList with
  |[]=>kK L cA.toList λl=>K (.fn f l)
  |x::r=>kK L (x::r) λl=>kK L cA.toList λl2=>qm l l2 λl3=>K (.j4 f l.length l3)
 | .nilCheck x=>iy L x λv=>match v with
  | .ptr id ep i o=>K (.ptr id ep i o)
  | .cU cs=>K (.cU cs)
  | .fn f cs=>K (.fn f cs)
  |_=>False
 | .field s x f=>iy L x λv=>match v,T.kd s with
  | .agg cs,some (.st os)=>match tg os f with
   |some (off,ft)=>E3 T ft cs off K
   |none=>False
  |_,_=>False
 | .fieldAddr s x f=>iy L x λv=>match T.kd s with
  |some (.st os)=>match tg os f with
   |some (off,ft)=>match T.ts ft with
    |some (_+1)=>match v with
     | .cU cs=>mK off cs λr=>match r with |c::l=>K (.cU (c::l))|[]=>False
     | .ptr id ep i o=>K (.ptr id ep i (o+off))
     |_=>False
    |_=>False
   |none=>False
  |_=>False
 | .index t x ix=>iy L x λv=>iy L ix λu=>match v,u,T.kd t with
  | .str s,.int _ i,some .str=>NG s i λb=>K (.int .u8 b.toNat)
  |_,_,_=>False
 | .build t parts=>match T.tz t,T.kd t with
  |some z,some (.st os)=>match MY T os,(cells z).all aZ with
   |true,true=>E4 T os parts.toList (cells z) L λcs=>K (.agg cs)
   |_,_=>False
  |some _,some (.arr _ _)=>vT C op L K
  |_,_=>False
 |_=>False
theorem oJ{op:Op}{K:PV->Prop}(hs:tU T op L K):cw op=false/\∃v,(∀run lv V h,ak C run lv op (al L V) h=some (v,h))/\K v:=by
 unfold tU at hs
 split at hs
 ·obtain⟨v,e,k⟩:=aM hs;exact⟨rfl,v,λrun lv V h=>by simp only[ak,aw,ah e],k⟩
 ·obtain⟨v,e,k⟩:=aM hs;exact⟨rfl,v,λrun lv V h=>by simp only[ak,aw,ah e],k⟩
 ·obtain⟨v,e,k⟩:=aM hs
  split at k
  ·obtain⟨u,e2,k⟩:=aM k;exact⟨rfl,u,λrun lv V h=>by simp only[ak,aw,ah e,ah e2,if_true],k⟩
  ·obtain⟨u,e2,k⟩:=aM k;exact⟨rfl,u,λrun lv V h=>by simp only[ak,aw,ah e,ah e2,TR,if_false],k⟩
  exact k.elim
 ·obtain⟨v,e,k⟩:=aM hs;obtain⟨u,e2,k⟩:=aM k
  split at k
  ·split at k
   ·obtain⟨h0,k⟩:=GU.out k;exact⟨rfl,_,λrun lv V h=>by simp only[ak,aw,ah e,ah e2,dY,nu];rw[if_neg (by omega)];rfl,k⟩
   ·obtain⟨h0,k⟩:=GV.out k;exact⟨rfl,_,λrun lv V h=>by simp only[ak,aw,ah e,ah e2,dY,nu];rw[if_neg (by omega)];rfl,k⟩
   ·split at k
    ·rename_i hk
     obtain rfl:=of_decide_eq_true hk;obtain⟨w,e3,k⟩:=E1 (C:=C) k;exact⟨rfl,w,λrun lv V h=>by simp only[ak,aw,ah e,ah e2,e3,TO],k⟩
    ·exact k.elim
  ·obtain⟨w,e3,k⟩:=E2 (C:=C) k;exact⟨rfl,w,λrun lv V h=>by simp only[ak,aw,ah e,ah e2,e3,TO],k⟩
  ·split at k
   ·rename_i hk
    have hu:=vw (T.cI _ _ hk)
    split at k
    exact⟨rfl,_,λrun lv V h=>by simp only[ak,aw,ah e,ah e2,dY,hu,TO],k⟩;exact⟨rfl,_,λrun lv V h=>by simp only[ak,aw,ah e,ah e2,dY,hu,TO],k⟩;exact k.elim
   ·exact k.elim
  exact k.elim
 ·obtain⟨v,e,k⟩:=aM hs
  split at k
  exact⟨rfl,_,λrun lv V h=>by simp only[ak,aw,ah e,HN,TO],k.out⟩;exact k.elim
 ·obtain⟨v,e,k⟩:=aM hs
  split at k
  exact⟨rfl,_,λrun lv V h=>by simp only[ak,aw,ah e,HN,TO,Vl],k⟩;exact⟨rfl,_,λrun lv V h=>by simp only[ak,aw,ah e,HN,TO,Vx],k⟩;exact k.elim
 ·obtain⟨v,e,k⟩:=aM hs
  split at k
  ·rename_i h1 h2
   obtain⟨u,h3,_⟩:=kx (T.cI _ _ h1);exact⟨rfl,_,λrun lv V h=>by simp only[ak,aw,ah e,th,h3,nb (T.cI _ _ h2),TO],k.out⟩
  ·rename_i h1 h2
   obtain⟨u,h3,_⟩:=kx (T.cI _ _ h1);exact⟨rfl,_,λrun lv V h=>by simp only[ak,aw,ah e,th,h3,jE (T.cI _ _ h2),TO],k⟩
  ·rename_i h1 h2
   split at k
   ·rename_i h3 h4
    exact⟨rfl,_,λrun lv V h=>by simp only[ak,aw,ah e,th,aY (T.cI _ _ h1),jE (T.cI _ _ h2),nb (T.cI _ _ h3),h4,TO],k⟩
   exact k.elim
  exact k.elim
 ·obtain⟨v,e,k⟩:=aM hs
  split at k
  ·split at k
   ·rename_i h1
    rw[mq]at h1;exact⟨rfl,_,λrun lv V h=>by simp only[ak,aw,ah e,h1],k⟩
   ·exact k.elim
  exact k.elim
 ·split at hs
  ·rename_i hf
   obtain⟨vs,e,k⟩:=fN hs;refine⟨rfl,_,λrun lv V h=>?_,k⟩;have hf:=Array.isEmpty_iff.2 (Array.toList_eq_nil_iff.1 hf);simp only[ak,aw,hf,if_true,gn e]
  ·rename_i first _ _ x r hf
   obtain⟨vs,e,k⟩:=fN hs;obtain⟨us,e2,k⟩:=fN k;have k:=hU k;refine⟨rfl,_,λrun lv V h=>?_,k⟩;have h1:=gn (V:=V) e;have h2:=gn (V:=V) e2;rw[<-hf]at h1
   have aU:¬first.isEmpty=true:=λhh=>by
    have:=Array.isEmpty_iff.1 hh;rw[this]at hf;cases hf
   have hl:first.size=vs.length:=by rw[<-h1];simp
   simp only[ak,aw,if_neg aU,VK,h1,h2,hl]
 ·obtain⟨v,e,k⟩:=aM hs
  split at k
  exact⟨rfl,_,λrun lv V h=>by simp only[ak,aw,ah e],k⟩;exact⟨rfl,_,λrun lv V h=>by simp only[ak,aw,ah e],k⟩;exact⟨rfl,_,λrun lv V h=>by simp only[ak,aw,ah e],k⟩;exact k.elim
 ·obtain⟨v,e,k⟩:=aM hs
  split at k
  ·rename_i cs os h1
   split at k
   ·rename_i off ft h2
    obtain⟨u,e2,k⟩:=Cu T k;obtain⟨fs,h3,h4⟩:=xK (T.cI _ _ h1);rw[mq,<-h4]at h2;refine⟨rfl,u,λrun lv V h=>?_,k⟩;obtain⟨fl,h5,rfl,rfl⟩:=J1 h2;simp only[ak,aw,ah e,uS,h3,h5,e2,TO]
   exact k.elim
  exact k.elim
 ·obtain⟨v,e,k⟩:=aM hs
  split at k
  ·rename_i os h1
   split at k
   ·rename_i off ft h2
    split at k
    ·rename_i sz h3
     rw[mq]at h2;have hf:=lQ T h1 h2 h3
     split at k
     ·obtain⟨h4,k2⟩:=fM k;clear k
      split at k2
      ·rename_i h5
       exact⟨rfl,_,λrun lv V h=>by simp only[ak,aw,ah e,fu,hf,if_pos (GW h5),h5,TO],k2⟩
      exact k2.elim
     exact⟨rfl,_,λrun lv V h=>by simp only[ak,aw,ah e,fu,hf,TO],k⟩;exact k.elim
    exact k.elim
   exact k.elim
  exact k.elim
 ·obtain⟨v,e,k0⟩:=aM hs;obtain⟨u,e2,k⟩:=aM k0;clear k0
  split at k
  ·rename_i h1
   obtain⟨n,b,rfl,h2,k⟩:=NG.out k;exact⟨rfl,_,λrun lv V h=>by simp[ak,aw,ah e,ah e2,qL,jE (T.cI _ _ h1),h2],k⟩
  exact k.elim
 ·split at hs
  ·rename_i h1 h2
   split at hs
   ·rename_i h3 h4
    obtain⟨vs,iw,e1,e2,k⟩:=uO T hs;refine⟨rfl,_,λrun lv V h=>?_,k⟩;have:=B4 T h1 h2 h3 h4 e2;have e:=mj (V:=V) e1;simp only[ak,aw,e,this,TO]
   exact hs.elim
  ·obtain⟨v,h1,k⟩:=vT.out hs;exact⟨rfl,v,h1,k⟩
  ·exact hs.elim
 exact hs.elim
def GX:Option Kd->PV->Bool
 |some (.int k),.int k' _=>decide (k'=k)
 |some .str,.str _ |some .bool,.bool _=>true
 |_,_=>false
theorem sF{t:TypeId}{u:PV}(e:GX (T.kd t) u=true):sO C.P t u=true:=by
 unfold GX at e
 split at e
 ·rename_i k k' n hk
  simp only[sO,nb (T.cI _ _ hk)];exact e
 ·rename_i s hk
  simp only[sO,jE (T.cI _ _ hk)]
 ·rename_i s hk
  simp only[sO,vw (T.cI _ _ hk)]
 cases e
theorem vU{h:aa}{id:Nat}{mu:Mu}{es:List PV}(e:h[id]?=some ⟨mu,0,0,es⟩)(hm:mu≠.x):wg h id=some ⟨mu,0,0,es⟩:=by
 simp[wg,getM,e,hm]
inductive NI(h:aa)(v u:PV)(K:Option PV->Prop):Prop
 |nil (kk:Rn (K none)) (hv:v=.eK:=by rfl)
 |KE {id i:Nat} {mu:Mu} {es:List PV} {p:PV} (hf:pF u es 0=some (some (i,p))) (kk:Rn (K (some p))) (ho:h[id]?=some ⟨mu,0,0,es⟩:=by first |assumption |rfl) (hm:mu≠.x:=by simp) (hv:v=.fe id:=by rfl)
 |JN {id:Nat} {mu:Mu} {es:List PV} (hf:pF u es 0=some none) (kk:Rn (K none)) (ho:h[id]?=some ⟨mu,0,0,es⟩:=by first |assumption |rfl) (hm:mu≠.x:=by simp) (hv:v=.fe id:=by rfl)
theorem NI.out{v u:PV}{K:Option PV->Prop}(x:NI h v u K){t kt et:TypeId}{z:PV}(ht:C.P.underlying t=some (.map kt et))(hz:gv C.P et=some z)(hk:sO C.P kt u=true)(ok:Bool):
  ∃r:Option PV,j9 C.P h t v u ok=some (match r with |some p=>eL ok p true |none=>eL ok z false)/\K r:=by
 cases x with
 |nil kk hv=>subst hv;exact⟨none,by simp only[j9,ht,hz,hk,if_true],kk.out⟩
 |KE hf kk ho hm hv=>subst hv;exact⟨some _,by simp only[j9,ht,hz,hk,if_true,vU ho hm,hf],kk.out⟩
 |JN hf kk ho hm hv=>subst hv;exact⟨none,by simp only[j9,ht,hz,hk,if_true,vU ho hm,hf],kk.out⟩
inductive CK(i:Int)(K:Nat->Prop):Prop
 |mk {n:Nat} (kk:Rn (K n)) (hi:i=(n:Int):=by first |rfl |exact(Int.natCast_succ _).symm |exact(VS (by omega)).symm)
theorem CK.out{i:Int}{K:Nat->Prop}(x:CK i K):∃n:Nat,i=n/\K n:=by cases x with |mk kk h=>exact⟨_,h,kk.out⟩
inductive Cw(es:List PV)(i:Nat)(K:PV->Prop):Prop
 |mk {e:PV} (kk:Rn (K e)) (h:es[i]?=some e:=by first |assumption |rfl)
theorem Cw.out{es:List PV}{i:Nat}{K:PV->Prop}(x:Cw es i K):∃e,es[i]?=some e/\K e:=by cases x with |mk kk h=>exact⟨_,h,kk.out⟩
inductive GY(h:aa)(v:PV)(K:Int->Prop):Prop
 |mk {full:Bool} {es:List PV} (kk:Rn (K (es.length:Int))) (hv:v=.ab full es:=by rfl)
 |m2 {sz:Nat} {es:List PV} (kk:Rn (K (es.length:Int))) (ho:Out sz h v es:=by assumption)
 |m3 {id ep off len:Nat} {o:aC} (kk:Rn (K (len:Int))) (hv:v=.an id ep off len:=by rfl) (ho:getM h id ep=some o:=by first |exact bo (by assumption) rfl (by first |assumption |simp)|rfl |exact lR |exact l6 (bo (by assumption) rfl (by first |assumption |simp))) (hl:off+len<=o.es.length:=by first |omega |(simp;done)|(simp;omega))
theorem GY.out{v:PV}{K:Int->Prop}{t el:TypeId}(x:GY h v K)(hk:C.P.underlying t=some (.slice el)):∃n:Int,mL C.P h t v=some (.int .i64 n)/\K n:=by
 cases x with
 |mk kk hv=>subst hv;exact⟨_,by simp only[mL,hk],kk.out⟩
 |m2 kk ho=>
  rcases ho with⟨rfl,rfl⟩|⟨id,ep,rfl,e2⟩;exact⟨_,by simp only[mL,hk],kk.out⟩;exact⟨_,by simp only[mL,hk,bo e2 rfl (by simp:Mu.m≠Mu.x)];rw[if_pos (by simp)],kk.out⟩
 |m3 kk hv ho hl=>subst hv;exact⟨_,by simp only[mL,hk,ho];rw[if_pos hl],kk.out⟩
def vV(t:TypeId)(cs:List PV)(K:PV->Prop):Prop:=
 match T.ta t,T.ts t with
 |some false,some _=>match cs with |c::_=>K c |[]=>False
 |some true,some (sz+1)=>sE (sz+1) cs λl=>K (.agg l)
 |_,_=>False
theorem sG{t:TypeId}{p:PV}{cs:List PV}{K:PV->Prop}(hp:cV h p=some cs)(x:vV T t cs K):∃v,fC C.P h t p=some v/\K v:=by
 unfold vV at x
 split at x
 ·rename_i h1 h2
  split at x
  exact⟨_,by simp only[fC,T.En _ _ h1,T.dF _ _ h2,hp],x⟩;exact x.elim
 ·rename_i sz h1 h2
  obtain⟨h5,h6⟩:=jZ x;exact⟨_,by simp only[fC,T.En _ _ h1,T.dF _ _ h2,hp];rw[if_pos ⟨by omega,h5⟩],h6⟩
 exact x.elim
def KJ(L:Al)(x:Option Operand)(dflt:Nat)(K:Nat->Prop):Prop:=
 match x with
 |none=>K dflt
 |some x=>iy L x λv=>match v with
  | .int _ i=>CK i K
  |_=>False
theorem qF{x:Option Operand}{dflt:Nat}{K:Nat->Prop}(hh:KJ L x dflt K):∃n:Nat,K n/\∀(V:Nat->PV) top,(n<=top->ck (x.map (ev (al L V))) dflt top=some n):=by
 unfold KJ at hh
 split at hh
 exact⟨_,hh,λ_ _ _=>rfl⟩
 ·obtain⟨v,e,k⟩:=aM hh
  split at k
  ·obtain⟨n,hi,k2⟩:=CK.out k;clear k;subst hi;refine⟨n,k2,λV top ht=>?_⟩;simp only[TO,ah e,ck];rw[if_pos ⟨by omega,by omega⟩];simp
  exact k.elim
theorem MZ{id ep i off:Nat}{o:aC}{e:PV}(h1:getM h id ep=some o)(h2:o.es[i]?=some e):cV h (.ptr id ep i off)=some ((cells e).drop off):=by simp only[cV,h1,h2]
def tV(op:Op)(L:Al)(h:aa)(K:PV->Prop):Prop:=
 match op with
 | .load t x=>iy L x λp=>match p with
  | .cU cs=>vV T t cs K
  | .ptr id ep i off=>yd h id ep λo=>Cw o.es i λe=>mK off (cells e) λcs=>vV T t cs K
  |_=>False
 | .indexAddr t x ix=>iy L x λv=>iy L ix λu=>match T.kd t,v,u with
  |some (.sl el),.ab _ es,.int _ i=>match T.ts el with
   |some (sz+1)=>GQ es i (sz+1) λcs=>K (.cU cs)
   |_=>False
  |some (.sl el),.an id ep off len,.int _ i=>match T.ts el with
   |some sz=>yd h id ep λo=>CK i λn=>Sd (n<len/\off+len<=o.es.length/\sz=o.aP) (K (.ptr id ep (off+n) 0))
   |_=>False
  |some (.arr m el),.cU cs,.int _ i=>match T.ts el with
   |some sz=>CK i λn=>Sd (n<m/\n * sz<cs.length) (mK (n * sz) cs λr=>K (.cU r))
   |_=>False
  |some (.arr m el),.ptr id ep j off,.int _ i=>match T.ts el with
   |some sz=>CK i λn=>Sd (n<m) (K (.ptr id ep j (off+n * sz)))
   |_=>False
  |_,_,_=>False
 | .call ⟨.builtin b,args,DQ⟩=>match b,args.toList,DQ.toList with
  | .len,x::_,t::_=>iy L x λv=>match T.kd t with
   |some .str=>match v with
    | .str s=>K (.int .i64 s.size)
    |_=>False
   |some (.sl _)=>GY h v λn=>K (.int .i64 n)
   |_=>False
  | .max,[x,y],_=>iy L x λv=>iy L y λu=>match v,u with
   | .int k a,.int _ b=>K (.int k (max a b))
   |_,_=>False
  | .min,[x,y],_=>iy L x λv=>iy L y λu=>match v,u with
   | .int k a,.int _ b=>K (.int k (min a b))
   |_,_=>False
  |_,_,_=>False
 | .slice t x lo hi none=>iy L x λv=>match T.kd t,v with
  |some .str,.str s=>KJ L hi s.size λb=>KJ L lo 0 λa=>Sd (a<=b/\b<=s.size) (K (.str (s.extract a b)))
  |some (.sl el),.ab full es=>match T.ts el with
   |some sz=>KJ L hi es.length λb=>KJ L lo 0 λa=>Sd ((a<=b/\b<=es.length)/\(es[a]?).all (λv=>(cells v).length==sz)=true) (K (.ab (full&&b==es.length) ((es.drop a).take (b - a))))
   |_=>False
  |some (.sl _),.an _ _ _ _=>lC C op L h K
  |_,_=>False
 | .lookup t m k ok=>iy L m λv=>iy L k λu=>match T.kd t with
  |some (.mp kt et)=>match T.tz et,GX (T.kd kt) u with
   |some z,true=>NI h v u λr=>match r with
    |some p=>K (eL ok p true)
    |none=>K (eL ok z false)
   |_,_=>False
  |_=>False
 |_=>False
theorem mf{op:Op}{K:PV->Prop}(hs:tV T op L h K):cw op=true/\∃v,(∀run lv V,ak C run lv op (al L V) h=some (v,h))/\K v:=by
 unfold tV at hs
 split at hs
 ·obtain⟨p,e,k⟩:=aM hs
  split at k
  ·obtain⟨v,e2,k⟩:=sG T (h:=h) (p:=.cU _) rfl k;exact⟨rfl,v,λrun lv V=>by simp only[ak,aw,ah e,e2,TO],k⟩
  ·obtain⟨o,e3,k⟩:=yd.out k;obtain⟨el,e4,k⟩:=Cw.out k;obtain⟨_,k⟩:=fM k;obtain⟨v,e2,k⟩:=sG T (h:=h) (MZ e3 e4) k;exact⟨rfl,v,λrun lv V=>by simp only[ak,aw,ah e,e2,TO],k⟩
  exact k.elim
 ·obtain⟨v,e,k0⟩:=aM hs;obtain⟨u,e2,k⟩:=aM k0;clear k0
  split at k
  ·rename_i hk
   split at k
   ·rename_i sz dF
    obtain⟨n,w,rfl,h2,h3,k⟩:=GQ.out k;refine⟨rfl,_,λrun lv V=>?_,k⟩;have cx:=ae h2;simp only[ak,aw,ah e,ah e2,bT,aY (T.cI _ _ hk),T.dF _ _ dF];rw[if_pos ⟨by omega,by omega⟩];simp only[Vf,h2];rw[if_pos ⟨by omega,h3⟩];rfl
   exact k.elim
  ·rename_i hk
   split at k
   ·rename_i sz dF
    obtain⟨o,e3,k⟩:=yd.out k;obtain⟨n,hi,k2⟩:=CK.out k;clear k;subst hi;obtain⟨⟨h1,h2,h3⟩,k⟩:=Sd.out k2;refine⟨rfl,_,λrun lv V=>?_,k⟩;simp only[ak,aw,ah e,ah e2,bT,aY (T.cI _ _ hk),T.dF _ _ dF,e3];rw[if_pos ⟨by omega,by omega,h3,h2⟩];rfl
   exact k.elim
  ·rename_i hk
   split at k
   ·rename_i sz dF
    obtain⟨n,hi,k2⟩:=CK.out k;clear k;subst hi;obtain⟨⟨h1,h2⟩,k⟩:=Sd.out k2;obtain⟨_,k⟩:=fM k;refine⟨rfl,_,λrun lv V=>?_,k⟩;simp only[ak,aw,ah e,ah e2,bT,Eo (T.cI _ _ hk),T.dF _ _ dF];rw[if_pos ⟨by omega,by omega,by simpa using h2⟩];rfl
   exact k.elim
  ·rename_i hk
   split at k
   ·rename_i sz dF
    obtain⟨n,hi,k2⟩:=CK.out k;clear k;subst hi;obtain⟨h1,k⟩:=Sd.out k2;refine⟨rfl,_,λrun lv V=>?_,k⟩;simp only[ak,aw,ah e,ah e2,bT,Eo (T.cI _ _ hk),T.dF _ _ dF];rw[if_pos ⟨by omega,by omega⟩];rfl
   exact k.elim
  exact k.elim
 ·split at hs
  ·rename_i ha ht
   obtain⟨v,e,k⟩:=aM hs
   split at k
   ·rename_i hk
    split at k
    ·refine⟨rfl,_,λrun lv V=>?_,k⟩;simp only[ak,ha,ht,TT,ah e,aT,mL,jE (T.cI _ _ hk),TO]
    exact k.elim
   ·rename_i hk
    obtain⟨n,h1,k⟩:=GY.out k (aY (T.cI _ _ hk));refine⟨rfl,_,λrun lv V=>?_,k⟩;simp only[ak,ha,ht,TT,ah e,aT,h1,TO]
   exact k.elim
  ·rename_i ha
   obtain⟨v,e,k0⟩:=aM hs;obtain⟨u,e2,k⟩:=aM k0;clear k0
   split at k
   ·rename_i a _ b
    refine⟨rfl,_,λrun lv V=>?_,k⟩;have:(if b>a then b else a)=Max.max a b:=by split <;>omega
    simp only[ak,ha,TT,T5,ah e,ah e2,aT,CM,this,TO]
   exact k.elim
  ·rename_i ha
   obtain⟨v,e,k0⟩:=aM hs;obtain⟨u,e2,k⟩:=aM k0;clear k0
   split at k
   ·rename_i a _ b
    refine⟨rfl,_,λrun lv V=>?_,k⟩;have:(if b<a then b else a)=Min.min a b:=by split <;>omega
    simp only[ak,ha,TT,T5,ah e,ah e2,aT,Fs,this,TO]
   exact k.elim
  ·exact hs.elim
 ·obtain⟨v,e,k⟩:=aM hs
  split at k
  ·rename_i hk
   obtain⟨b,k,hb⟩:=qF k;obtain⟨a,k,ha⟩:=qF k;obtain⟨⟨h1,h2⟩,k⟩:=Sd.out k;refine⟨rfl,_,λrun lv V=>?_,k⟩;simp only[ak,aw,ah e,bO,jE (T.cI _ _ hk),Vr,hb V _ h2,ha V _ h1]
   rfl
  ·rename_i hk
   split at k
   ·rename_i sz dF
    obtain⟨b,k,hb⟩:=qF k;obtain⟨a,k,ha⟩:=qF k;obtain⟨⟨⟨h1,h2⟩,h3⟩,k⟩:=Sd.out k;refine⟨rfl,_,λrun lv V=>?_,k⟩;simp only[ak,aw,ah e,bO,aY (T.cI _ _ hk),T.dF _ _ dF,Vr];rw[show∀n:Nat,ck none n n=some n from λ_=>rfl];simp only[hb V _ h2,ha V _ h1];rw[if_pos ⟨rfl,h3⟩]
    rfl
   exact k.elim
  ·obtain⟨w,h1,k⟩:=lC.out k;exact⟨rfl,w,h1,k⟩
  exact k.elim
 ·rename_i ok
  obtain⟨v,e,k0⟩:=aM hs;obtain⟨u,e2,k⟩:=aM k0;clear k0
  split at k
  ·rename_i hk
   split at k
   ·rename_i hz M3
    obtain⟨r,h1,k2⟩:=NI.out (C:=C) k (AW (T.cI _ _ hk)) (T.mC _ _ hz) (sF T M3) ok
    cases r with
    |none=>exact⟨rfl,_,λrun lv V=>by simp only[ak,aw,ah e,ah e2,h1,TO],k2⟩
    |some p=>exact⟨rfl,_,λrun lv V=>by simp only[ak,aw,ah e,ah e2,h1,TO],k2⟩
   exact k.elim
  exact k.elim
 exact hs.elim
inductive sH{α:Type}:List α->Nat->α->List α->Prop
 |zero {x y:α} {l:List α}:sH (x::l) 0 y (y::l)
 |succ {x y:α} {l l':List α} {n:Nat}:sH l n y l'->sH (x::l) (n+1) y (x::l')
 |last {x y:α} {l:List α}:sH (l++[x]) l.length y (l++[y])
 |gen {l:List α} {n:Nat} {y:α}:sH l n y (l.set n y)
theorem sH.eq{α:Type}{l l':List α}{n:Nat}{y:α}(a:sH l n y l'):l'=l.set n y:=by
 induction a with
 |zero=>rfl
 |succ _ ih=>rw[ih];rfl
 |last=>simp
 |gen=>rfl
inductive GZ(h:aa)(id ep aP:Nat)(es:List PV)(i:Nat)(e':PV)(K:aa->Prop):Prop
 |mk {eD:List PV} {h':aa} (kk:Rn (K h')) (h1:sH es i e' eD:=by repeat(first |exact .zero |apply sH.succ |exact .last |exact .gen)) (h2:sH h id ⟨.m,ep,aP,eD⟩ h':=by repeat(first |exact .zero |apply sH.succ |exact .last |exact .gen))
theorem GZ.out{id i ep aP:Nat}{es:List PV}{e':PV}{K:aa->Prop}(x:GZ h id ep aP es i e' K):K (h.set id ⟨.m,ep,aP,es.set i e'⟩):=by
 cases x with |mk kk h1 h2=>obtain rfl:=h1.eq;obtain rfl:=h2.eq;exact kk.out
def NJ(off sz:Nat)(e v:PV)(K:PV->Prop):Prop:=
 match off,Nat.beq sz (cells e).length with
 |0,true=>K v
 |_,_=>Ct off (cells e) (cells v) λcs=>K (.agg cs)
theorem G6{off sz:Nat}{e v:PV}{K:PV->Prop}(hl:(cells v).length=sz)(x:NJ off sz e v K):off+sz<=(cells e).length/\(K (eF off sz e v)\/(∃cs,K (.agg cs)/\cs=(cells e).take off++cells v++(cells e).drop (off+sz)/\¬(off=0/\sz=(cells e).length))):=by
 unfold NJ at x
 split at x
 ·rename_i h2
  have:=Ud h2;refine⟨by omega,.inl ?_⟩;rw[eF,if_pos ⟨rfl,this⟩];exact x
 ·rename_i hn
  obtain⟨h1,h2⟩:=oh x;rw[hl]at h1 h2;refine⟨h1,.inr ⟨_,h2,rfl,λhh=>?_⟩⟩;obtain⟨rfl,h3⟩:=hh;exact hn rfl (by rw[<-h3];exact Nat.beq_refl _)
theorem E5{off sz:Nat}{e v:PV}{K:PV->Prop}(hl:(cells v).length=sz)(x:NJ off sz e v K):off+sz<=(cells e).length/\K (eF off sz e v):=by
 obtain⟨h1,h2 |⟨cs,h3,rfl,h4⟩⟩:=G6 hl x;exact⟨h1,h2⟩;exact⟨h1,by rw[eF,if_neg h4];exact h3⟩
def vW(n sz:Nat):List (Nat×Operand)->List PV->Al->(List PV->Prop)->Prop
 |[],es,_,K=>K es
 |(i,x)::r,es,L,K=>iy L x λv=>match Nat.beq (cells v).length sz,(cells v).all aZ,Nat.ble (i+1) n with
  |true,true,true=>E6 es i v λeD=>vW n sz r eD L K
  |_,_,_=>False
 where E6:List PV->Nat->PV->(List PV->Prop)->Prop
 |[],_,_,_=>False
 |_::l,0,v,k=>k (v::l)
 |e::l,i+1,v,k=>E6 l i v λr=>k (e::r)
theorem uP:∀{es:List PV} {i:Nat} {v:PV} {k:List PV->Prop},vW.E6 es i v k->k (es.set i v)
 |[],_,_,_,h=>h.elim
 |_::l,0,v,k,h=>h
 |e::l,i+1,v,k,h=>uP (es:=l) h
theorem sI{n sz:Nat}:∀{ps:List (Nat×Operand)} {es:List PV} {K:List PV->Prop},vW n sz ps es L K->∃vs,ky L ps=some vs/\vs.all (vM sz n)=true/\K (vs.foldl (λes x=>es.set x.1 x.2) es)
 |[],es,K,h=>⟨[],rfl,rfl,h⟩
 |(i,x)::r,es,K,h=>by
  obtain⟨v,h1,h2⟩:=aM h
  split at h2
  ·rename_i h3 h4 h5
   obtain⟨vs,e1,e2,e3⟩:=sI (uP h2);refine⟨(i,v)::vs,by simp[ky,h1,e1],?_,e3⟩;rw[U6,e2,VW];simp only[vM,h4,VW,TK,decide_eq_true_eq];exact⟨Ud h3,UD h5⟩
  exact h2.elim
def J3:Nat->PV->(List PV->Prop)->Prop
 |0,_,k=>k []
 |n+1,z,k=>J3 n z λl=>k (z::l)
theorem ye:∀{n:Nat} {z:PV} {k:List PV->Prop},J3 n z k->k (List.replicate n z)
 |0,_,_,h=>h
 |n+1,z,k,h=>ye (n:=n) h
inductive SY(h:aa)(sz:Nat)(es:List PV)(K:PV->aa->Prop):Prop
 |mk (kk:Rn (K (.ab true es) h)) (hv:au es=true:=by first |rfl |(simp <;>fail))
 |m2 {n:Nat} {h':aa} (kk:Rn (K (.an n 0 0 es.length) h')) (hv:au es=false:=by first |rfl |(simp <;>fail)) (ha:Fq ⟨.m,0,sz,es⟩ h h' n:=by repeat(first |exact .nil |apply Fq.cons |exact .gen))
def vj(t:TypeId)(n:Nat)(ps:List (Nat×Operand))(L:Al)(K:Nat->List PV->Prop):Prop:=
 match T.kd t with
 |some (.sl el)=>match T.ts el,T.tz el with
  |some (sz+1),some z=>match Nat.ble (n * (sz+1)) 16777216,Nat.beq (cells z).length (sz+1),(cells z).all aZ with
   |true,true,true=>J3 n z λes=>vW n (sz+1) ps es L λeD=>K (sz+1) eD
   |_,_,_=>False
  |_,_=>False
 |_=>False
theorem lB{t:TypeId}{n:Nat}{ps:List (Nat×Operand)}{K:Nat->List PV->Prop}(x:vj T t n ps L K):∃sz es,K sz es/\∀(V:Nat->PV) (h:aa) (lv:Nat),
  cu C.P lv h t n (ps.map λ(i,x)=>(i,ev (al L V) x))=if au es=true then some (.ab true es,h)else if 2<=lv then some (.an h.length 0 0 n,newObj h sz es)else none:=by
 unfold vj at x
 split at x
 ·rename_i el hk
  split at x
  ·rename_i sz z dF mC
   split at x
   ·rename_i h1 h2 h3
    obtain⟨vs,e1,e2,e3⟩:=sI (ye x);refine⟨_,_,e3,λV h lv=>?_⟩;rw[mj e1];simp only[cu,aY (T.cI _ _ hk),T.dF _ _ dF,T.mC _ _ mC];rw[if_pos ⟨by omega,UD h1,Ud h2,h3,e2⟩]
    rfl
   exact x.elim
  exact x.elim
 exact x.elim
inductive M4(h:aa)(id:Nat)(u y:PV)(K:aa->Prop):Prop
 |mk {es eD:List PV} (hp:HP u y es=some eD) (kk:Rn (K (h.set id ⟨.m,0,0,eD⟩))) (ho:h[id]?=some ⟨.m,0,0,es⟩:=by first |assumption |rfl)
theorem M4.out{id:Nat}{u y:PV}{K:aa->Prop}(x:M4 h id u y K){t kt et:TypeId}(ht:C.P.underlying t=some (.map kt et))(hk:sO C.P kt u=true):∃h',j' C.P h t (.fe id) u y=some h'/\K h':=by
 cases x with
 |mk hp kk ho=>exact⟨_,by simp only[j',ht,vU ho (by simp:Mu.m≠Mu.x),hk,hp,and_self,if_true],kk.out⟩
def sJ(op:Op)(L:Al)(h:aa)(K:PV->aa->Prop):Prop:=
 match op with
 | .store t a x=>iy L a λp=>iy L x λv=>match p,T.ts t with
  | .ptr id ep i off,some sz=>match Nat.beq (cells v).length sz,(cells v).all aZ with
   |true,true=>yd h id ep λo=>match o with
    |⟨.m,ep,aP,es⟩=>Cw es i λe=>NJ off sz e v λe'=>GZ h id ep aP es i e' λh'=>K .undef h'
    |_=>False
   |_,_=>False
  |_,_=>False
 | .alloc t=>match T.tz t,T.ts t with
  |some z,some sz=>match(cells z).all aZ,Nat.beq (cells z).length sz,Nat.ble 1 sz with
   |true,true,true=>ql h ⟨.m,0,sz,[z]⟩ λn h'=>K (.ptr n 0 0 0) h'
   |_,_,_=>False
  |_,_=>xd C (.alloc t) L h K
 | .box t x=>iy L x λz=>match T.ts t with
  |some sz=>match(cells z).all aZ,Nat.beq (cells z).length sz,Nat.ble 1 sz with
   |true,true,true=>ql h ⟨.m,0,sz,[z]⟩ λn h'=>K (.ptr n 0 0 0) h'
   |_,_,_=>False
  |_=>False
 | .makeSlice t l c=>iy L l λu=>iy L c λv=>match T.kd t,u,v with
  |some (.sl el),.int _ a,.int _ b=>match T.ts el,T.tb el,T.tz el with
   |some (sz+1),some iU,some z=>match Nat.ble iU 1000,Nat.beq (cells z).length (sz+1),(cells z).all aZ with
    |true,true,true=>CK a λn=>Sd (a<=b/\b<=1073741824) (ql h ⟨.m,0,sz+1,List.replicate n z⟩ λm h'=>K (.an m 0 0 n) h')
    |_,_,_=>False
   |_,_,_=>False
  |_,_,_=>False
 | .call ⟨.builtin .append,args,DQ⟩=>match args.toList,DQ.toList with
  |[x,y],[st,xt]=>iy L y λu=>match u with
   | .ab full ys=>match T.kd st,T.kd xt with
    |some (.sl el),some (.sl _)=>match T.ts el,T.tb el,T.tz el with
     |some (sz+1),some iU,some z=>match Nat.ble iU 1000,Nat.beq (cells z).length (sz+1),(cells z).all aZ with
      |true,true,true=>iy L x λv=>GR h (sz+1) v ys K
      |_,_,_=>False
     |_,_,_=>False
    |_,_=>False
   |_=>xd C op L h K
  |_,_=>xd C op L h K
 | .buildSlice t n ps=>vj T t n ps.toList L λsz es=>match Nat.beq es.length n with
  |true=>SY h sz es K
  |false=>False
 | .makeMap t none=>ql h ⟨.m,0,0,[]⟩ λn h'=>K (.fe n) h'
 | .makeMap t (some x)=>iy L x λv=>match v,T.kd t with
  | .int _ _,some (.mp _ _)=>ql h ⟨.m,0,0,[]⟩ λn h'=>K (.fe n) h'
  |_,_=>False
 | .mapUpdate t m k x | .insert t m k x=>iy L m λv=>iy L k λu=>iy L x λy=>match v,T.kd t with
  | .fe id,some (.mp kt _)=>match GX (T.kd kt) u with
   |true=>M4 h id u y λh'=>K .undef h'
   |false=>False
  |_,_=>False
 |op=>xd C op L h K
theorem GR.out{st xt el qf:TypeId}{sz iU:Nat}{z:PV}{full:Bool}{ys:List PV}{x y:Operand}{v:PV}{K:PV->aa->Prop}(a:GR h (sz+1) v ys K)(hx:dn L x=some v)(hy:dn L y=some (.ab full ys))(hk:T.kd st=some (.sl el))(fv:T.kd xt=some (.sl qf))(hs:T.ts el=some (sz+1))(hb:T.tb el=some iU)(hz:T.tz el=some z)
  (fS:iU<=1000) (hl:(cells z).length=sz+1) (ho:(cells z).all aZ=true):
  ∃v' h',(∀run V,ak C run 2 (.call ⟨.builtin .append,#[x,y],#[st,xt]⟩) (al L V) h=some (v',h'))/\K v' h':=by
 cases a with
 | @nn fl es kk ms hv=>
  subst hv ms;refine⟨_,_,λrun V=>?_,kk.out⟩;simp only[ak,aT,TT,T5,ah hx,ah hy,cg,aY (T.cI _ _ hk),aY (T.cI _ _ fv),T.dF _ _ hs,T.tT _ _ hb,T.mC _ _ hz,cL,bC];rw[if_pos ⟨by omega,by omega,⟨hl,ho⟩,rfl⟩]
  rfl
 | @sn es kk aU hn hv yi Py=>
  subst hv;refine⟨_,_,λrun V=>?_,kk.out⟩;unfold dw at yi Py;simp only[ak,aT,TT,T5,ah hx,ah hy,cg,aY (T.cI _ _ hk),aY (T.cI _ _ fv),T.dF _ _ hs,T.tT _ _ hb,T.mC _ _ hz,cL,bC];rw[if_pos ⟨by omega,by omega,⟨hl,ho⟩,yi⟩,if_neg (by rw[aU];simp),if_pos ⟨trivial,by omega,nI hn fS,Py⟩]
  rfl
 | @lp es kk o yi hn hvs hH=>
  by_cases aU:ys.isEmpty=true
  ·have ms:ys=[]:=by simpa using aU
   subst ms;refine⟨v,h,λrun V=>?_,(kk v h ⟨by simpa using o,hH,TI _,λj _ _=>rfl,λj ep n hh=>.inl ⟨ep,n,hh⟩⟩).out⟩;rcases o with⟨rfl,rfl⟩|⟨id,ep,rfl,e2⟩
   ·simp only[ak,aT,TT,T5,ah hx,ah hy,cg,aY (T.cI _ _ hk),aY (T.cI _ _ fv),T.dF _ _ hs,T.tT _ _ hb,T.mC _ _ hz,cL,bC];rw[if_pos ⟨by omega,by omega,⟨hl,ho⟩,rfl⟩];rfl
   ·simp only[ak,aT,TT,T5,ah hx,ah hy,cg,aY (T.cI _ _ hk),aY (T.cI _ _ fv),T.dF _ _ hs,T.tT _ _ hb,T.mC _ _ hz,cL,bC,bo e2 rfl (by simp:Mu.m≠Mu.x)];rw[if_pos ⟨by omega,by omega,⟨hl,ho⟩,rfl⟩,if_pos ⟨by simp,trivial⟩];rfl
  have aU:ys.isEmpty=false:=by simpa using aU
  rcases o with⟨rfl,rfl⟩|⟨id,ep,rfl,e2⟩
  ·refine⟨.an h.length 0 0 ys.length,h++[⟨.m,0,sz+1,ys⟩],λrun V=>?_,(kk (.an h.length 0 0 ys.length) (h++[⟨.m,0,sz+1,ys⟩]) ⟨.inr ⟨h.length,0,by simp,by simp⟩,hH.gr (HV.one (by simpa using hvs)),by simp,λj hj _=>TG hj,λj ep n hh=>?_⟩).out⟩
   ·have:=fH T (h:=h) (lv:=2) (full:=full) (by omega) hk fv hs hb hz fS hl ho yi aU (by simpa using hn);simp only[ak,aT,TT,T5,ah hx,ah hy,this]
   ·cases hh;exact .inr (TI _)
  ·have cx:=ae e2;refine⟨.an id (ep+1) 0 (es.length+ys.length),h.set id ⟨.m,ep+1,sz+1,es++ys⟩,λrun V=>?_,(kk (.an id (ep+1) 0 (es.length+ys.length)) (h.set id ⟨.m,ep+1,sz+1,es++ys⟩) ⟨.inr ⟨id,ep+1,by simp,TM cx⟩,hH.set id (by simp) hvs,by simp,λj hj aU=>TN (λhh=>aU ep es.length (by rw[hh])),λj hY n hh=>?_⟩).out⟩
   ·have:=iB T (h:=h) (full:=full) (len:=es.length) hk fv hs hb hz fS hl ho yi aU hn (bo e2 rfl (by simp)) rfl rfl (TI _);simp only[ak,aT,TT,T5,ah hx,ah hy,this,List.take_length]
   cases hh;exact .inl ⟨ep,es.length,rfl⟩
 | @lr es kk o yi hn hvs hH=>
  by_cases aU:ys.isEmpty=true
  ·have ms:ys=[]:=by simpa using aU
   subst ms;refine⟨v,h,λrun V=>?_,(kk v h ⟨by simpa using o,hH,TI _,λj _ _=>rfl,λj ep n hh=>.inl ⟨ep,n,hh⟩,λj o e=>.inl e⟩).out⟩;rcases o with⟨rfl,rfl⟩|⟨id,ep,rfl,e2⟩
   ·simp only[ak,aT,TT,T5,ah hx,ah hy,cg,aY (T.cI _ _ hk),aY (T.cI _ _ fv),T.dF _ _ hs,T.tT _ _ hb,T.mC _ _ hz,cL,bC];rw[if_pos ⟨by omega,by omega,⟨hl,ho⟩,rfl⟩];rfl
   ·simp only[ak,aT,TT,T5,ah hx,ah hy,cg,aY (T.cI _ _ hk),aY (T.cI _ _ fv),T.dF _ _ hs,T.tT _ _ hb,T.mC _ _ hz,cL,bC,bo e2 rfl (by simp:Mu.m≠Mu.x)];rw[if_pos ⟨by omega,by omega,⟨hl,ho⟩,rfl⟩,if_pos ⟨by simp,trivial⟩];rfl
  have aU:ys.isEmpty=false:=by simpa using aU
  rcases o with⟨rfl,rfl⟩|⟨id,ep,rfl,e2⟩
  ·refine⟨.an h.length 0 0 ys.length,h++[⟨.m,0,sz+1,ys⟩],λrun V=>?_,(kk (.an h.length 0 0 ys.length) (h++[⟨.m,0,sz+1,ys⟩]) ⟨.inr ⟨h.length,0,by simp,by simp⟩,hH.Px (by simp) (eT (f:=λi=>decide (i<h.length)) (λi hi=>by have:=of_decide_eq_true hi;exact decide_eq_true (by omega)) _ (by simpa using hvs)),by simp,λj hj _=>TG hj,λj ep n hh=>?_,JZ rfl⟩).out⟩
   ·have:=fH T (h:=h) (lv:=2) (full:=full) (by omega) hk fv hs hb hz fS hl ho yi aU (by simpa using hn);simp only[ak,aT,TT,T5,ah hx,ah hy,this]
   ·cases hh;exact .inr (TI _)
  ·have cx:=ae e2;refine⟨.an id (ep+1) 0 (es.length+ys.length),h.set id ⟨.m,ep+1,sz+1,es++ys⟩,λrun V=>?_,(kk (.an id (ep+1) 0 (es.length+ys.length)) (h.set id ⟨.m,ep+1,sz+1,es++ys⟩) ⟨.inr ⟨id,ep+1,by simp,TM cx⟩,hH.set id (by simp) hvs,by simp,λj hj aU=>TN (λhh=>aU ep es.length (by rw[hh])),λj hY n hh=>?_,J0 rfl⟩).out⟩
   ·have:=iB T (h:=h) (full:=full) (len:=es.length) hk fv hs hb hz fS hl ho yi aU hn (bo e2 rfl (by simp)) rfl rfl (TI _);simp only[ak,aT,TT,T5,ah hx,ah hy,this,List.take_length]
   cases hh;exact .inl ⟨ep,es.length,rfl⟩
theorem pE{op:Op}{K:PV->aa->Prop}(hs:sJ T op L h K):∃v h',(∀run V,ak C run 2 op (al L V) h=some (v,h'))/\K v h':=by
 unfold sJ at hs
 split at hs
 ·obtain⟨p,e,k0⟩:=aM hs;obtain⟨v,e2,k⟩:=aM k0;clear k0
  split at k
  ·rename_i dF
   split at k
   ·rename_i hl h1
    obtain⟨o,e3,k⟩:=yd.out k
    split at k
    ·obtain⟨el,e4,k⟩:=Cw.out k;have hl:=Ud hl;obtain⟨h5,k⟩:=E5 hl k;refine⟨_,_,λrun V=>?_,GZ.out k⟩;simp only[ak,aw,ah e,ah e2,fq,T.dF _ _ dF,e3,e4,TI,if_true];rw[if_pos ⟨trivial,hl,h1,h5⟩];rfl
    exact k.elim
   exact k.elim
  exact k.elim
 ·split at hs
  ·rename_i hz dF
   split at hs
   ·rename_i h1 h2 h3
    have h2:=Ud h2;have h3:=UD h3;refine⟨_,_,λrun V=>?_,ql.out hs⟩;simp only[ak,aw,T.mC _ _ hz];rw[if_pos ⟨by omega,h1,by omega⟩,newObj,h2]
   exact hs.elim
  ·exact hs.out
 ·obtain⟨z,e,k⟩:=aM hs
  split at k
  ·rename_i dF
   split at k
   ·rename_i h1 h2 h3
    have h2:=Ud h2;have h3:=UD h3;refine⟨_,_,λrun V=>?_,ql.out k⟩;simp only[ak,aw,ah e];rw[if_pos ⟨by omega,h1,by omega⟩,newObj,h2]
   exact k.elim
  exact k.elim
 ·obtain⟨u,e,k0⟩:=aM hs;obtain⟨v,e2,k⟩:=aM k0;clear k0
  split at k
  ·rename_i hk
   split at k
   ·rename_i dF tT mC
    split at k
    ·rename_i h1 h2 h3
     obtain⟨n,hi,k2⟩:=CK.out k;clear k;subst hi;obtain⟨⟨h4,h5⟩,k⟩:=Sd.out k2;have h1:=UD h1;refine⟨_,_,λrun V=>?_,ql.out k⟩;simp only[ak,aw,ah e,ah e2,iG,aY (T.cI _ _ hk),T.dF _ _ dF,T.tT _ _ tT,T.mC _ _ mC];rw[if_pos ⟨by omega,by omega,h4,h5,by omega,by omega,Ud h2,h3⟩];simp[newObj]
    exact k.elim
   exact k.elim
  exact k.elim
 ·split at hs
  ·rename_i x y st xt ha ht
   obtain⟨u,e,k⟩:=aM hs
   split at k
   ·split at k
    ·rename_i hk fv
     split at k
     ·rename_i dF tT mC
      split at k
      ·rename_i h1 h2 h3
       obtain⟨v,e2,k⟩:=aM k;obtain⟨v',h',h5,h6⟩:=GR.out T k e2 e hk fv dF tT mC (UD h1) (Ud h2) h3;refine⟨v',h',λrun V=>?_,h6⟩;rw[<-h5 run V];simp only[ak,ha,ht]
      exact k.elim
     exact k.elim
    ·exact k.elim
   exact k.out.imp λv a=>a.imp λh' b=>b
  ·obtain⟨v,h',b⟩:=hs.out;exact⟨v,h',b⟩
 ·obtain⟨sz,es,k,hb⟩:=lB T hs
  split at k
  ·rename_i hn
   have hn:=Ud hn
   cases k with
   |mk kk hv=>exact⟨_,_,λrun V=>by simp only[ak,aw,hb];rw[if_pos hv],kk.out⟩
   |m2 kk hv ha=>
    obtain⟨rfl,rfl⟩:=ha.eq;refine⟨_,_,λrun V=>?_,kk.out⟩;simp only[ak,aw,hb];rw[if_neg (by rw[hv];simp),if_pos (TI 2),newObj,hn]
  exact k.elim
 exact⟨_,_,λrun V=>by simp only[ak,aw,jK,Vr];rw[if_pos (by omega)];rfl,ql.out hs⟩
 ·obtain⟨v,e,k⟩:=aM hs
  split at k
  ·rename_i hk
   exact⟨_,_,λrun V=>by simp only[ak,aw,jK,TO,ah e,AW (T.cI _ _ hk)];rw[if_pos (by omega)];rfl,ql.out k⟩
  exact k.elim
 ·obtain⟨v,e,k0⟩:=aM hs;obtain⟨u,e2,k1⟩:=aM k0;obtain⟨y,e3,k⟩:=aM k1;clear k0 k1
  split at k
  ·rename_i hk
   split at k
   ·rename_i M3
    obtain⟨h',h1,k2⟩:=M4.out (C:=C) k (AW (T.cI _ _ hk)) (sF T M3);exact⟨_,h',λrun V=>by simp only[ak,aw,ah e,ah e2,ah e3,h1,TI,if_true,TO],k2⟩
   exact k.elim
  exact k.elim
 ·obtain⟨v,e,k0⟩:=aM hs;obtain⟨u,e2,k1⟩:=aM k0;obtain⟨y,e3,k⟩:=aM k1;clear k0 k1
  split at k
  ·rename_i hk
   split at k
   ·rename_i M3
    obtain⟨h',h1,k2⟩:=M4.out (C:=C) k (AW (T.cI _ _ hk)) (sF T M3);exact⟨_,h',λrun V=>by simp only[ak,aw,ah e,ah e2,ah e3,h1,TI,if_true,TO],k2⟩
   exact k.elim
  exact k.elim
 obtain⟨v,h',b⟩:=hs.out;exact⟨v,h',b⟩
def push(d:Option Nat)(v:PV)(L:Al):Al:=match d with |some d=>(d,v)::L |none=>L
def dR(d:Option Nat)(v:PV)(L:Al)(K:Al->Prop):Prop:=match d with |some d=>K ((d,v)::L)|none=>K L
theorem eA{d:Option Nat}{v:PV}{K:Al->Prop}(h:dR d v L K):K (push d v L):=by
 unfold dR at h
 split at h <;>exact h
theorem gP(d:Option Nat)(v:PV):bh (al L V) d v=al (push d v L) V:=by
 cases d with
 |none=>rfl
 |some d=>exact bd d v L V
def KK(ops:List Oper)(g:Option (Nat×Bool))(L:Al):Option Bool:=
 match g with
 |none=>some true
 |some (j,want)=>match tg ops j with
  |some o=>match o.dst with
   |some d=>match lk L d with
    |some (.bool true)=>some want
    |some (.bool false)=>match want with |true=>some false |false=>some true
    |some .undef=>some false
    |_=>none
   |none=>some false
  |none=>some false
theorem qG{ops:Array Oper}{o:Oper}{b:Bool}(hh:KK ops.toList o.guard L=some b):aK ops o (al L V)=some b:=by
 unfold KK at hh;unfold aK
 split at hh
 ·rename_i hg;rw[hg];exact hh
 ·rename_i j want hg
  rw[hg];simp only;rw[mq]at hh
  cases ho:ops.toList[j]? with
  |none=>rw[ho]at hh;simpa using hh
  |some o'=>
   rw[ho]at hh;simp only[VG]at hh ⊢
   cases hd:o'.dst with
   |none=>rw[hd]at hh;simpa using hh
   |some d=>
    rw[hd]at hh;simp only at hh ⊢
    split at hh
    ·rename_i hl;rw[cC hl V];simp at hh;subst hh;cases want <;>rfl
    ·rename_i hl;rw[cC hl V];cases want <;>simp at hh <;>subst hh <;>rfl
    ·rename_i hl;rw[cC hl V];simpa using hh
    cases hh
def sK(op:Op):Option (Operand×List Operand):=match op with | .call ⟨.value f,args,_⟩=>some (f,args.toList)|_=>none
def J4(op:Op):Bool:=match op with | .load .. | .indexAddr .. | .slice .. | .lookup ..=>true | .call ⟨.builtin .len,_,_⟩| .call ⟨.builtin .max,_,_⟩| .call ⟨.builtin .min,_,_⟩=>true |_=>false
def E7(op:Op)(L:Al)(h:aa)(K:PV->aa->Prop):Prop:=
 match sK op with
 |some (f,args)=>iy L f λv=>match v with
  | .fn f cA=>kK L args λus=>qm us cA λus=>ai C 2 f us h λv h'=>Rn (K v h')
  | .j4 f k cs=>kK L args λus=>sE k cs λa=>mK k cs λb=>qm a us λus=>qm us b λus=>ai C 2 f us h λv h'=>Rn (K v h')
  |_=>False
 |none=>match cw op with
  |false=>tU T op L λv=>K v h
  |true=>match J4 op with
   |true=>tV T op L h λv=>K v h
   |false=>sJ T op L h K
def qh(ops:List Oper)(l:List Oper):Al->aa->(Al->aa->Prop)->Prop:=
 List.rec (motive:=λ_=>Al->aa->(Al->aa->Prop)->Prop) (λL h Q=>Q L h)
  (λo _ ih L h Q=>match KK ops o.guard L with
   |some true=>E7 T o.op L h λv h'=>dR o.dst v L λL=>ih L h' Q
   |some false=>dR o.dst .undef L λL=>ih L h Q
   |none=>False) l
theorem Cx{ops:List Oper}{o:Oper}{r:List Oper}{L:Al}{h:aa}{Q:Al->aa->Prop}:qh T ops (o::r) L h Q=match KK ops o.guard L with
  |some true=>E7 T o.op L h λv h'=>dR o.dst v L λL=>qh T ops r L h' Q
  |some false=>dR o.dst .undef L λL=>qh T ops r L h Q
  |none=>False:=rfl
theorem ai.mono{lv:Nat}{f:FuncId}{args:List PV}{h:aa}{Q Q':PV->aa->Prop}(a:ai C lv f args h Q)(hq:∀r h,Q r h->Q' r h):ai C lv f args h Q':=by
 obtain⟨r,h',q,e⟩:=a;exact⟨r,h',hq _ _ q,e⟩
theorem ag.M5{ops:Array Oper}{o:Oper}{r:List Oper}{s:St}{Q:St->Prop}{c:Call}{x:Operand}{f:FuncId}{k:Nat}{cs args:List PV}(hw:aK ops o s.V=some true)(ho:o.op=.call c)(hx:c.callee=.value x)(hf:ev s.V x=.j4 f k cs)
  (ha:cs.take k++c.args.toList.map (ev s.V)++cs.drop k=args) (hc:ai C 2 f args s.h (λv h'=>ag C ops r ⟨bh s.V o.dst v,h'⟩ Q)):ag C ops (o::r) s Q:=by
 obtain⟨v,h',⟨s',q,n1,zc⟩,n0,hn⟩:=hc;refine⟨s',q,max n0 n1,λn h1=>?_⟩
 have:ak C (cN C n) 2 o.op s.V s.h=some (v,h'):=by
  rw[ho];simp only[ak,hx,fQ,hf,ha];exact hn n (by omega)
 simp only[cy,dS,hw,this,zc n (by omega)]
theorem eG{ops:Array Oper}{Q:St->Prop}:∀{l:List Oper} {L:Al} {h:aa} {K:Al->aa->Prop},qh T ops.toList l L h K->(∀L' h',K L' h'->Q ⟨al L' V,h'⟩)->ag C ops l ⟨al L V,h⟩ Q
 |[],L,h,K,x,hq=>ag.nil (hq _ _ x)
 |o::r,L,h,K,x,hq=>by
  rw[Cx]at x
  split at x
  ·rename_i hg
   have hw:=qG (V:=V) hg
   have plain:∀{v:PV} {h':aa},(∀run V,ak C run 2 o.op (al L V) h=some (v,h'))->(dR o.dst v L λL=>qh T ops.toList r L h' K)->ag C ops (o::r) ⟨al L V,h⟩ Q:=λ{v h'} hv k=>
    ag.step (s1:=⟨bh (al L V) o.dst v,h'⟩) (λrun=>by simp only[dS,hw,hv run V]) (by rw[gP];exact eG (eA k) hq)
   unfold E7 at x
   split at x
   ·rename_i f args hc
    obtain⟨v,e,k⟩:=aM x
    split at k
    ·obtain⟨us,e2,k⟩:=fN k;have k:=hU k
     have ls:∃c:Call,o.op=.call c/\c.callee=.value f/\c.args.toList=args:=by
      unfold sK at hc
      split at hc
      ·rename_i h1
       obtain⟨rfl,rfl⟩:=TL (TF hc);exact⟨_,h1,rfl,rfl⟩
      cases hc
     obtain⟨c,c1,c2,c3⟩:=ls;refine ag.call hw c1 c2 (ah e V) (by rw[c3,gn e2]) (k.mono λv h' kk=>?_);rw[gP];exact eG (eA kk.out) hq
    ·obtain⟨us,e2,k⟩:=fN k;obtain⟨_,k⟩:=jZ k;obtain⟨_,k⟩:=fM k;have k:=hU (hU k)
     have ls:∃c:Call,o.op=.call c/\c.callee=.value f/\c.args.toList=args:=by
      unfold sK at hc
      split at hc
      ·rename_i h1
       obtain⟨rfl,rfl⟩:=TL (TF hc);exact⟨_,h1,rfl,rfl⟩
      cases hc
     obtain⟨c,c1,c2,c3⟩:=ls;refine ag.M5 hw c1 c2 (ah e V) (by rw[c3,gn e2]) (k.mono λv h' kk=>?_);rw[gP];exact eG (eA kk.out) hq
    exact k.elim
   ·split at x
    ·obtain⟨_,v,h1,k⟩:=oJ T x;exact plain (λrun V=>h1 run 2 V h) k
    ·split at x
     ·obtain⟨_,v,h1,k⟩:=mf T x;exact plain (λrun V=>h1 run 2 V) k
     ·obtain⟨v,h',h1,k⟩:=pE T x;exact plain h1 k
  ·rename_i hg
   have hw:=qG (V:=V) hg;exact ag.step (s1:=⟨bh (al L V) o.dst .undef,h⟩) (λrun=>by simp only[dS,hw]) (by rw[gP];exact eG (eA x) hq)
  exact x.elim
def M6(h:aa)(v:PV):Prop:=match v with
 | .ptr id _ _ _=>aI h id=true
 | .an id _ _ _=>aI h id=true
 |v=>br (aI h) v=true
def E8(L:Al)(h:aa):List Operand->Prop
 |[]=>True
 |y::r=>match dn L y with
  |some v=>M6 h v/\E8 L h r
  |none=>False
theorem Ag{id:Nat}{o:aC}(e:h[id]?=some o)(h1:o.mu≠.x):aI h id=true:=by simp[aI,e,h1]
theorem A1{o:aC}(h1:o.mu≠.x):aI (h++[o]) h.length=true:=by simp[aI,h1]
theorem qH{J:aa}{id:Nat}(e:aI h id=true):aI (h++J) id=true:=by
 unfold aI at e ⊢
 split at e
 ·rename_i o ho
  rw[TG (ae ho),ho];exact e
 cases e
theorem A3{V:Nat->PV}:∀{l:List Operand},E8 L h l->∀y∈l,br (aI h) (ev (al L V) y)=true
 |[],_,y,hy=>by cases hy
 |x::l,a,y,hy=>by
  unfold E8 at a
  split at a
  ·rename_i v hv
   rcases TW.1 hy with rfl |hy
   ·rw[ah hv];have a1:=a.1;unfold M6 at a1
    split at a1
    simpa only[br]using a1;simpa only[br]using a1;exact a1
   exact A3 a.2 y hy
  exact a.elim
inductive Pz(ops:Array Oper)(i:Nat)(op:Op)(L:Al)(h:aa)(a:Prop):Prop
 |mk (k:Rn a) (hc:aL h=true:=by first |exact HV.closed (by assumption)|exact HR.closed (by assumption)|assumption |rfl |((refine HV.closed ?_;repeat' (first |assumption |apply HV.gr |(refine HV.one ?_;simp <;>fail)|exact HV.nil)) <;>fail))
   (hv:E8 L h op.operands.toList:=by(repeat' (first |exact trivial |refine⟨?_,?_⟩|rfl |exact Ag (by assumption) (by first |assumption |simp)|exact A1 (by simp)|exact qH (Ag (by assumption) (by first |assumption |simp))|exact qH (A1 (by simp))|exact qH (qH (Ag (by assumption) (by first |assumption |simp))))) <;>fail)
 |m2 (k:Rn a) (hl:level ops (before ops) i=2:=by rfl)
inductive QK(ops:Array Oper)(i:Nat)(a:Prop):Prop
 |mk (k:Rn a) (hl:level ops (before ops) i=2:=by rfl)
inductive J5(C:bZ)(ops:Array Oper)(i:Nat)(L:Al)(f:FuncId)(xs:List Operand)(us:List PV)(h:aa)(K:PV->aa->Prop):Prop
 |m2 (k:ai C 2 f us h λv h'=>Rn (K v h')) (hl:level ops (before ops) i=2:=by rfl)
 |o1 (r:PV) (a:aD C f us (h.map bB) (λr' h'=>r'=r/\h'.length=h.length)) (kk:Rn (K r h)) (hv:bM (aI h) us=true) (hm:C.mode f=.opened:=by rfl) (hl:level ops (before ops) i=1:=by rfl)
   (hc:aL h=true:=by first |exact HV.closed (by assumption)|exact HR.closed (by assumption)|assumption)
 |mk (r:PV) (a:aW C f (ba us) r) (kk:Rn (K r h)) (hm:C.mode f=.pure:=by rfl) (hv:au us=true:=by simp) (hc:aL h=true:=by first |exact HV.closed (by assumption)|exact HR.closed (by assumption)|assumption |rfl |((refine HV.closed ?_;repeat' (first |assumption |apply HV.gr |(refine HV.one ?_;simp <;>fail)|exact HV.nil)) <;>fail))
inductive QL(ops:Array Oper)(i:Nat)(op:Op)(L:Al)(h:aa)(es:List PV)(p q:Prop):Prop
 |mk (k:Rn q) (hv:au es=false:=by rfl) (hl:level ops (before ops) i=2:=by rfl)
 |m2 (k:Pz ops i op L h p) (hv:au es=true:=by first |rfl |(simp <;>fail))
theorem E9{op:Op}(hv:E8 L h op.operands.toList):(op.operands.toList.all λy=>br (aI h) (ev (al L V) y))=true:=by
 rw[TH];exact A3 hv
def dX(ops:Array Oper)(i:Nat)(l:List Oper):Al->aa->(Al->aa->Prop)->Prop:=
 List.rec (motive:=λ_=>Nat->Al->aa->(Al->aa->Prop)->Prop) (λ_ L h Q=>Q L h)
  (λo _ ih i L h Q=>match KK ops.toList o.guard L with
  |some true=>match sK o.op with
   |some (f,args)=>iy L f λv=>match v with
    | .fn f cA=>kK L args λus=>qm us cA λus=>J5 C ops i L f args us h λv h'=>dR o.dst v L λL=>ih (i+1) L h' Q
    | .j4 f k cs=>kK L args λus=>sE k cs λa=>mK k cs λb=>qm a us λus=>qm us b λus=>J5 C ops i L f args us h λv h'=>dR o.dst v L λL=>ih (i+1) L h' Q
    |_=>False
   |none=>match cw o.op with
    |false=>tU T o.op L λv=>dR o.dst v L λL=>ih (i+1) L h Q
    |true=>match J4 o.op with
     |true=>Pz ops i o.op L h (tV T o.op L h λv=>dR o.dst v L λL=>ih (i+1) L h Q)
     |false=>match o.op with
      | .buildSlice t n ps=>vj T t n ps.toList L λsz es=>match Nat.beq es.length n with
       |true=>QL ops i o.op L h es (dR o.dst (.ab true es) L λL=>ih (i+1) L h Q) (sJ T o.op L h λv h'=>dR o.dst v L λL=>ih (i+1) L h' Q)
       |false=>False
      |op=>QK ops i (sJ T op L h λv h'=>dR o.dst v L λL=>ih (i+1) L h' Q)
  |some false=>dR o.dst .undef L λL=>ih (i+1) L h Q
  |none=>False) l i
theorem G7{ops:Array Oper}{i:Nat}{o:Oper}{r:List Oper}{L:Al}{h:aa}{Q:Al->aa->Prop}:dX T ops i (o::r) L h Q=(
  match KK ops.toList o.guard L with
  |some true=>match sK o.op with
   |some (f,args)=>iy L f λv=>match v with
    | .fn f cA=>kK L args λus=>qm us cA λus=>J5 C ops i L f args us h λv h'=>dR o.dst v L λL=>dX T ops (i+1) r L h' Q
    | .j4 f k cs=>kK L args λus=>sE k cs λa=>mK k cs λb=>qm a us λus=>qm us b λus=>J5 C ops i L f args us h λv h'=>dR o.dst v L λL=>dX T ops (i+1) r L h' Q
    |_=>False
   |none=>match cw o.op with
    |false=>tU T o.op L λv=>dR o.dst v L λL=>dX T ops (i+1) r L h Q
    |true=>match J4 o.op with
     |true=>Pz ops i o.op L h (tV T o.op L h λv=>dR o.dst v L λL=>dX T ops (i+1) r L h Q)
     |false=>match o.op with
      | .buildSlice t n ps=>vj T t n ps.toList L λsz es=>match Nat.beq es.length n with
       |true=>QL ops i o.op L h es (dR o.dst (.ab true es) L λL=>dX T ops (i+1) r L h Q) (sJ T o.op L h λv h'=>dR o.dst v L λL=>dX T ops (i+1) r L h' Q)
       |false=>False
      |op=>QK ops i (sJ T op L h λv h'=>dR o.dst v L λL=>dX T ops (i+1) r L h' Q)
  |some false=>dR o.dst .undef L λL=>dX T ops (i+1) r L h Q
  |none=>False):=rfl
theorem A4{ops:Array Oper}{i:Nat}{o:Oper}{r:List Oper}{c:Call}{f:Operand}{g:FuncId}{us us0 fvs:List PV}{Q:St->Prop}{K:PV->aa->Prop}(hw:aK ops o (al L V)=some true)(c1:o.op=.call c)(c2:c.callee=.value f)
  (OL:∀F:Nat->Bool,br F (ev (al L V) f)=bM F fvs) (e2:vL L c.args.toList=some us0) (M7:∀y,y∈us0\/y∈fvs->y∈us) (gC:∀run lv,ak C run lv o.op (al L V) h=cM C run lv g us h) {xs:List Operand} (k:J5 C ops i L g xs us h K)
  (hk:∀v h',K v h'->bw C ops (i+1) r ⟨⟨bh (al L V) o.dst v,h'⟩,h'.length,[]⟩ Q):bw C ops i (o::r) ⟨⟨al L V,h⟩,h.length,[]⟩ Q:=by
 have hh:cw o.op=true:=by rw[c1];rfl
 have hM:bX ((before ops).getD i 0).testBit h.length [] h=h:=by simp[bX]
 have ls:bM (aI h) us=true->(o.op.operands.toList.all λy=>br (aI h) (ev (al L V) y))=true:=λhv=>by
  rw[jU,TH]at hv;rw[c1,TH]
  intro y hy
  simp[Op.operands,Call.operands,c2]at hy;rcases hy with rfl |hy
  ·rw[OL,jU,TH];exact λx hx=>hv x (M7 x (.inr hx))
  ·refine hv _ (M7 _ (.inl ?_));rw[<-gn (V:=V) e2];exact U1.2 ⟨y,by simpa using hy,rfl⟩
 cases k with
 |m2 k hl=>
  obtain⟨v,h',kk,n0,hn⟩:=k;exact bw.step (x1:=⟨⟨bh (al L V) o.dst v,h'⟩,h'.length,[]⟩) ⟨n0,λn h1=>by simp only[bS,hw,hh,Uk,if_false,hl,if_true,gC,hn n h1]⟩ (hk _ _ kk.out)
 |o1 v a kk hv hm hl hc=>
  obtain⟨v',h',⟨rfl,hd⟩,n0,hn⟩:=a;have hd:h'.drop h.length=[]:=Uf (by omega);refine bw.step (x1:=⟨⟨bh (al L V) o.dst v',h⟩,h.length,[]⟩) ⟨n0,λn h1=>?_⟩ (hk _ _ kk.out)
  have Fa:cM C (cN C n) 1 g us h=some (v',h):=by
   unfold cM;simp[hm,fP,da,hn n h1,hd]
  simp only[bS,hw,hh,Uk,if_false,hl,hM,hc,ls hv,and_self,if_true,gC,Fa];simp
 |mk r' a kk hm hv hc=>
  have Fa:∃n0,∀n lv,n0<=n->1<=lv->cM C (cN C n) lv g us h=some (r',h):=by
   obtain⟨n0,hn⟩:=a;refine⟨n0,λn lv h1 _=>?_⟩;obtain⟨r0,hc,r1,e1,e2,e3⟩:=hn n h1;unfold cM;rw[hm];simp only[dp,hv,if_true,e1,e2,e3]
  obtain⟨n0,hn⟩:=Fa;refine bw.step (x1:=⟨⟨bh (al L V) o.dst r',h⟩,h.length,[]⟩) ⟨n0,λn h1=>?_⟩ (hk _ _ kk.out)
  by_cases hl:level ops (before ops) i=2
  simp only[bS,hw,hh,Uk,if_false,hl,if_true,gC,hn n 2 h1 (by omega)]
  ·simp only[bS,hw,hh,Uk,if_false,hl,hM,hc,ls (cf _ _ hv),and_self,if_true,gC,hn n 1 h1 (TI _)];simp
theorem lI{ops:Array Oper}{Q:St->Prop}:∀{l:List Oper} {i:Nat} {L:Al} {h:aa} {K:Al->aa->Prop},dX T ops i l L h K->(∀L' h',K L' h'->Q ⟨al L' V,h'⟩)->bw C ops i l ⟨⟨al L V,h⟩,h.length,[]⟩ Q
 |[],i,L,h,K,x,hq=>bw.nil (hq _ _ x)
 |o::r,i,L,h,K,x,hq=>by
  rw[G7]at x
  split at x
  ·rename_i hg
   have hw:=qG (V:=V) hg
   have plain:∀{v:PV},cw o.op=false->(∀run,ak C run 1 o.op (al L V) h=some (v,h))->(dR o.dst v L λL=>dX T ops (i+1) r L h K)->bw C ops i (o::r) ⟨⟨al L V,h⟩,h.length,[]⟩ Q:=λ{v} hh hv k=>
    bw.step (x1:=⟨⟨bh (al L V) o.dst v,h⟩,h.length,[]⟩) ⟨0,λn _=>by simp only[bS,hw,hh,if_true,hv]⟩ (by rw[gP];exact lI (eA k) hq)
   have two:∀{v:PV} {h':aa},cw o.op=true->level ops (before ops) i=2->(∃n0,∀n,n0<=n->ak C (cN C n) 2 o.op (al L V) h=some (v,h'))->(dR o.dst v L λL=>dX T ops (i+1) r L h' K)->bw C ops i (o::r) ⟨⟨al L V,h⟩,h.length,[]⟩ Q:=λ{v h'} hh hl hv k=>by
    obtain⟨n0,hn⟩:=hv;refine bw.step (x1:=⟨⟨bh (al L V) o.dst v,h'⟩,h'.length,[]⟩) ⟨n0,λn h1=>?_⟩ (by rw[gP];exact lI (eA k) hq);simp only[bS,hw,hh,Uk,if_false,hl,if_true,hn n h1]
   have one:∀{v:PV},cw o.op=true->aL h=true->(o.op.operands.toList.all λy=>br (aI h) (ev (al L V) y))=true->(∃n0,∀n lv,n0<=n->1<=lv->ak C (cN C n) lv o.op (al L V) h=some (v,h))->(dR o.dst v L λL=>dX T ops (i+1) r L h K)->bw C ops i (o::r) ⟨⟨al L V,h⟩,h.length,[]⟩ Q:=λ{v} hh eJ ls hv k=>by
    by_cases hl:level ops (before ops) i=2
    ·obtain⟨n0,hn⟩:=hv;exact two hh hl ⟨n0,λn h1=>hn n 2 h1 (by omega)⟩ k
    ·obtain⟨n0,hn⟩:=hv;refine bw.step (x1:=⟨⟨bh (al L V) o.dst v,h⟩,h.length,[]⟩) ⟨n0,λn h1=>?_⟩ (by rw[gP];exact lI (eA k) hq);have hM:bX ((before ops).getD i 0).testBit h.length [] h=h:=by simp[bX]
     simp only[bS,hw,hh,Uk,if_false,hl,hM,eJ,ls,and_self,if_true,hn n 1 h1 (TI _)];simp
   split at x
   ·rename_i f args hc
    obtain⟨v,e,k⟩:=aM x
    split at k
    ·rename_i cA
     obtain⟨us,e2,k⟩:=fN k;have k:=hU k
     have ls:∃c:Call,o.op=.call c/\c.callee=.value f/\c.args.toList=args:=by
      unfold sK at hc
      split at hc
      ·rename_i h1
       obtain⟨rfl,rfl⟩:=TL (TF hc);exact⟨_,h1,rfl,rfl⟩
      cases hc
     obtain⟨c,c1,c2,c3⟩:=ls
     refine A4 hw c1 c2 (fvs:=cA) (λF=>by rw[ah e];rfl) (us0:=us) (by rw[c3];exact e2) (λy hy=>TP.2 hy) (λrun lv=>by
      rw[c1];simp only[ak,c2,fQ,ah e,c3,gn e2]) k (λv h' kk=>?_)
     rw[gP];exact lI (eA kk) hq
    ·rename_i kk cs
     obtain⟨us,e2,k⟩:=fN k;obtain⟨_,k⟩:=jZ k;obtain⟨_,k⟩:=fM k;have k:=hU (hU k)
     have ls:∃c:Call,o.op=.call c/\c.callee=.value f/\c.args.toList=args:=by
      unfold sK at hc
      split at hc
      ·rename_i h1
       obtain⟨rfl,rfl⟩:=TL (TF hc);exact⟨_,h1,rfl,rfl⟩
      cases hc
     obtain⟨c,c1,c2,c3⟩:=ls
     refine A4 hw c1 c2 (fvs:=cs) (λF=>by rw[ah e];rfl) (us0:=us) (by rw[c3];exact e2) (λy hy=>by
      rcases hy with hy |hy;simp[hy]
      ·have:y∈cs.take kk++cs.drop kk:=by rw[VI];exact hy
       rcases TP.1 this with h |h;exact TP.2 (.inl (TP.2 (.inl h)))
       ·exact TP.2 (.inr h)) (λrun lv=>by
      rw[c1];simp only[ak,c2,fQ,ah e,c3,gn e2]) k (λv h' kk=>?_)
     rw[gP];exact lI (eA kk) hq
    exact k.elim
   ·split at x
    ·obtain⟨hh,v,h1,k⟩:=oJ T x;exact plain hh (λrun=>h1 run 1 V h) k
    ·split at x
     ·rename_i hh _ _
      cases x with
      |mk k hc hv=>
       obtain⟨_,v,h1,k⟩:=mf T k.out;exact one hh hc (E9 hv) ⟨0,λn lv _ _=>h1 _ lv V⟩ k
      |m2 k hl=>
       obtain⟨_,v,h1,k⟩:=mf T k.out;exact two hh hl ⟨0,λn _=>h1 _ 2 V⟩ k
     ·rename_i hh _ _
      split at x
      ·rename_i ls
       obtain⟨sz,es,k,hb⟩:=lB T x
       split at k
       ·have hb:∀run lv,au es=true->ak C run lv o.op (al L V) h=some (.ab true es,h):=λrun lv hv=>by
         rw[ls];simp only[ak,aw,hb];rw[if_pos hv]
        cases k with
        |m2 k hvs=>
         cases k with
         |mk k hc hv=>exact one hh hc (E9 hv) ⟨0,λn lv _ _=>hb _ lv hvs⟩ k.out
         |m2 k hl=>exact two hh hl ⟨0,λn _=>hb _ 2 hvs⟩ k.out
        |mk k _ hl=>
         obtain⟨v,h',h1,k⟩:=pE T k.out;exact two hh hl ⟨0,λn _=>h1 _ V⟩ k
       exact k.elim
      ·cases x with
       |mk k hl=>
        obtain⟨v,h',h1,k⟩:=pE T k.out;exact two hh hl ⟨0,λn _=>h1 _ V⟩ k
  ·rename_i hg
   have hw:=qG (V:=V) hg;refine bw.step (x1:=⟨⟨bh (al L V) o.dst .undef,h⟩,h.length,[]⟩) ⟨0,λn _=>by simp only[bS,hw]⟩ (by rw[gP];exact lI (eA x) hq)
  exact x.elim
inductive Ir(ops:Array Oper)(L:Al)(h:aa)(Q:Al->aa->Prop):Prop
 |mk (k:Rn (dX T ops 0 ops.toList L h Q)) (hk:kY ops=false:=by rfl)
 |raw (k:∀V,bw C ops 0 ops.toList ⟨⟨al L V,h⟩,h.length,[]⟩ (λs=>∃L' h',s=⟨al L' V,h'⟩/\Q L' h')) (hk:kY ops=false:=by rfl)
 |calm (L':Al) (h':aa) (e:∀run V,gR C run ops ⟨al L V,h⟩=some ⟨al L' V,h'⟩) (kk:Rn (Q L' h')) (hk:kY ops=true:=by rfl)
inductive qn(C:bZ) where
 |top (Q:Ex->St->Prop)
 |fn (f:Func) (Q:PV->aa->Prop)
 |seq (b:Code) (k:qn C)
 |block (id:Nat) (k:qn C)
 |loop (I:Al->aa->Prop) (k:qn C)
theorem kI{k:IntKind}{a b:Int}(h:a=b):some (PV.int k a)=some (PV.int k b):=by rw[h]
inductive Nx(I:Al->aa->Prop)(L:Al)(h:aa):Prop
 |nx {L':Al} (a:I L' h) (hk:BA L L':=by repeat(first |exact trivial |refine⟨?_,?_⟩|rfl |exact kI (by first |(simp;done)|(simp;omega)|omega)))
def PA(I:Al->aa->Prop)(s:St):Prop:=∃L V,s.V=al L V/\I L s.h
theorem Nx.out{I:Al->aa->Prop}{L:Al}{h:aa}(x:Nx I L h)(V:Nat->PV):PA I ⟨al L V,h⟩:=by
 cases x with |nx a hk=>exact⟨_,al L V,congrArg St.V (St.aB (h:=h) hk),a⟩
def qn.den:qn C->Ex->St->Prop
 | .top Q=>Q
 | .fn f Q=>aF C f Q
 | .seq b k=>aA C b k.den
 | .block id k=>az id k.den
 | .loop I k=>aH (PA I) k.den
inductive J6(L:Al)(h:aa)(l:List ResultVar)(Q:PV->aa->Prop):Prop
 |mk {vs:List PV} (kk:Rn (Q (aQ vs) h)) (hr:tc T L h l=some vs:=by rfl)
def Ah(L:Al):List ResultVar->(List PV->Prop)->Option Prop
 |[],k=>some (k [])
 | .tmp t::r,k=>match lk L t with
  |some v=>Ah L r λl=>k (v::l)
  |none=>none
 | .cell _ _::_,_=>none
theorem yf{L:Al}{V:Nat->PV}{h:aa}:∀{l:List ResultVar} {k:List PV->Prop} {p:Prop},Ah L l k=some p->p->∃vs,cd C.P h (al L V) l=some vs/\k vs
 |[],k,p,e,x=>⟨[],rfl,by rw[<-TF e]at x;exact x⟩
 | .tmp t::r,k,p,e,x=>by
  simp only[Ah]at e
  split at e
  ·rename_i v hv
   obtain⟨vs,h1,h2⟩:=yf (V:=V) (h:=h) e x;exact⟨v::vs,by simp[cd,cC hv,h1],h2⟩
  cases e
 | .cell _ _::_,k,p,e,x=>by simp[Ah]at e
inductive ie(c:Code)(L:Al)(V:Nat->PV)(h:aa)(k:qn C):Prop
 |SZ (e:Ev C (.loop c) ⟨al L V,h⟩ k.den)
inductive Tk where
 |c (c:Code)
 |e (e:Ex)
def gu(n:Nat):Tk->qn C->Al->(Nat->PV)->aa->Prop:=
 Nat.rec (motive:=λ_=>Tk->qn C->Al->(Nat->PV)->aa->Prop) (λ_ _ _ _ _=>False)
  (λn ih tk k L V h=>match tk with
   | .c c=>match c with
    | .skip=>ih (.e .normal) k L V h
    | .label _=>ih (.e .normal) k L V h
    | .region _ ops false=>qh T ops.toList ops.toList L h λL' h'=>ih (.e .normal) k L' V h'
    | .region _ ops true=>Ir T ops L h λL' h'=>ih (.e .normal) k L' V h'
    | .seq a b=>ih (.c a) (.seq b k) L V h
    | .cond c a b=>iy L c λv=>match v with
     | .bool true=>ih (.c a) k L V h
     | .bool false=>ih (.c b) k L V h
     |_=>False
    | .block id c=>ih (.c c) (.block id k) L V h
    | .loop c=>ie c L V h k
    | .scope c=>ih (.c c) k L V h
    | .exit id=>ih (.e (.exit id)) k L V h
    | .ret=>ih (.e .ret) k L V h
    |_=>False
   | .e ex=>match k with
    | .top Q=>Q ex ⟨al L V,h⟩
    | .fn f Q=>match ex with
     | .exit _=>False
     |_=>match Ah L f.results.toList λvs=>Q (aQ vs) h with
      |some p=>p
      |none=>J6 T L h f.results.toList Q
    | .seq b k=>match ex with
     | .normal=>ih (.c b) k L V h
     |ex=>ih (.e ex) k L V h
    | .block id k=>match ex with
     | .exit cz=>match Nat.beq cz id with
      |true=>ih (.e .normal) k L V h
      |false=>ih (.e (.exit cz)) k L V h
     |ex=>ih (.e ex) k L V h
    | .loop I k=>match ex with
     | .normal=>Nx I L h
     |ex=>ih (.e ex) k L V h) n
theorem J7{n:Nat}{c:Code}{k:qn C}{L:Al}{V:Nat->PV}{h:aa}:gu T (n+1) (.c c) k L V h=(match c with
  | .skip=>gu T n (.e .normal) k L V h
  | .label _=>gu T n (.e .normal) k L V h
  | .region _ ops false=>qh T ops.toList ops.toList L h λL' h'=>gu T n (.e .normal) k L' V h'
  | .region _ ops true=>Ir T ops L h λL' h'=>gu T n (.e .normal) k L' V h'
  | .seq a b=>gu T n (.c a) (.seq b k) L V h
  | .cond c a b=>iy L c λv=>match v with
   | .bool true=>gu T n (.c a) k L V h
   | .bool false=>gu T n (.c b) k L V h
   |_=>False
  | .block id c=>gu T n (.c c) (.block id k) L V h
  | .loop c=>ie c L V h k
  | .scope c=>gu T n (.c c) k L V h
  | .exit id=>gu T n (.e (.exit id)) k L V h
  | .ret=>gu T n (.e .ret) k L V h
  |_=>False):=rfl
theorem J8{n:Nat}{ex:Ex}{k:qn C}{L:Al}{V:Nat->PV}{h:aa}:gu T (n+1) (.e ex) k L V h=(match k with
  | .top Q=>Q ex ⟨al L V,h⟩
  | .fn f Q=>match ex with
   | .exit _=>False
   |_=>match Ah L f.results.toList λvs=>Q (aQ vs) h with
    |some p=>p
    |none=>J6 T L h f.results.toList Q
  | .seq b k=>match ex with
   | .normal=>gu T n (.c b) k L V h
   |ex=>gu T n (.e ex) k L V h
  | .block id k=>match ex with
   | .exit cz=>match Nat.beq cz id with
    |true=>gu T n (.e .normal) k L V h
    |false=>gu T n (.e (.exit cz)) k L V h
   |ex=>gu T n (.e ex) k L V h
  | .loop I k=>match ex with
   | .normal=>Nx I L h
   |ex=>gu T n (.e ex) k L V h):=rfl
theorem cF:∀{n:Nat} {t:Tk} {k:qn C} {L:Al} {V:Nat->PV} {h:aa},gu T n t k L V h->match t with | .c c=>Ev C c ⟨al L V,h⟩ k.den | .e ex=>k.den ex ⟨al L V,h⟩
 |0,_,_,_,_,_,x=>x.elim
 |n+1,.c c,k,L,V,h,x=>by
  have nx:∀{L':Al} {h':aa},gu T n (.e .normal) k L' V h'->k.den .normal ⟨al L' V,h'⟩:=λy=>cF (n:=n) (t:=.e .normal) y
  show Ev C c ⟨al L V,h⟩ k.den;rw[J7]at x
  split at x
  exact Ev.skip (nx x);exact Ev.label (nx x);exact Ev.region (eG T x λ_ _ y=>nx y)
  ·cases x with
   |mk x hk=>exact Ev.js (lI T x.out λ_ _ y=>nx y) hk
   |raw x hk=>
    obtain⟨y,⟨L',h',e,q⟩,n0,hn⟩:=x V;exact Ev.js ⟨y,by rw[e];exact nx q,n0,hn⟩ hk
   |calm L' h' e kk hk=>exact⟨.normal,⟨al L' V,h'⟩,nx kk.out,0,λn m _ _=>by simp only[aV,if_true,hk,e]⟩
  exact Ev.seq (cF (n:=n) (t:=.c _) (k:=.seq _ k) x)
  ·obtain⟨v,e,k⟩:=aM x
   split at k
   exact Ev.AG (ah e V) (cF (n:=n) (t:=.c _) k);exact Ev.AH (ah e V) (cF (n:=n) (t:=.c _) k);exact k.elim
  exact Ev.block (cF (n:=n) (t:=.c _) (k:=.block _ k) x)
  cases x with |SZ e=>exact e
  exact Ev.scope (cF (n:=n) (t:=.c _) x);exact Ev.exit (cF (n:=n) (t:=.e _) x);exact Ev.ret (cF (n:=n) (t:=.e _) x);exact x.elim
 |n+1,.e ex,k,L,V,h,x=>by
  show k.den ex ⟨al L V,h⟩;rw[J8]at x
  split at x
  exact x
  ·have fin:∀{ex:Ex} {f:Func} {Q:PV->aa->Prop},(ex=.normal\/ex=.ret)->(match Ah L f.results.toList λvs=>Q (aQ vs) h with |some p=>p |none=>J6 T L h f.results.toList Q)->aF C f Q ex ⟨al L V,h⟩:=λ{ex f Q} hex y=>by
    split at y
    ·rename_i p hp
     obtain⟨vs,h1,h2⟩:=yf (C:=C) (V:=V) (h:=h) hp y;exact⟨hex,vs,h1,h2⟩
    cases y with |mk kk hr=>exact⟨hex,_,vN T hr,kk.out⟩
   split at x
   exact x.elim
   ·rename_i aU
    refine fin ?_ x
    cases ex with
    |normal=>exact .inl rfl
    |ret=>exact .inr rfl
    |exit id=>exact absurd rfl (aU id)
  ·split at x
   ·exact aA.normal (cF (n:=n) (t:=.c _) x)
   ·have:=cF (n:=n) (t:=.e _) x
    cases ex with
    |normal=>simp_all
    |ret=>exact aA.ret this
    |exit id=>exact aA.exit this
  ·split at x
   ·split at x
    ·rename_i hb
     have:=Ud hb;subst this;exact az.KE (cF (n:=n) (t:=.e _) x)
    ·rename_i hb
     exact az.JN (by rw[beq_eq_false_iff_ne];rintro rfl;rw[Nat.beq_refl]at hb;cases hb) (cF (n:=n) (t:=.e _) x)
   ·have:=cF (n:=n) (t:=.e _) x
    cases ex with
    |normal=>exact az.normal this
    |ret=>exact az.ret this
    |exit id=>simp_all
  ·split at x
   ·exact x.out V
   ·have:=cF (n:=n) (t:=.e _) x
    cases ex with
    |normal=>simp_all
    |ret=>exact aH.ret this
    |exit id=>exact aH.exit this
theorem ai.p{lv:Nat}{f:FuncId}{args args':List PV}{r:PV}{h:aa}{Q:PV->aa->Prop}(a:aW C f args' r)(q:Q r h)(hm:C.mode f=.pure:=by rfl)(hv:au args=true:=by simp)(hn:ba args=args':=by simp):ai C lv f args h Q:=
 ai.pure hm hv (hn▸a) q
theorem J5.p{ops:Array Oper}{i:Nat}{L:Al}{f:FuncId}{xs:List Operand}{us QM:List PV}{h:aa}{K:PV->aa->Prop}{r:PV}(a:aW C f QM r)(kk:Rn (K r h))(hm:C.mode f=.pure:=by rfl)(hv:au us=true:=by simp)(hn:ba us=QM:=by simp)
  (hc:aL h=true:=by first |exact HV.closed (by assumption)|exact HR.closed (by assumption)|assumption |rfl |((refine HV.closed ?_;repeat' (first |assumption |apply HV.gr |(refine HV.one ?_;simp <;>fail)|exact HV.nil)) <;>fail)):J5 C ops i L f xs us h K:=.mk r (hn▸a) kk hm hv hc
theorem aD.x{f:FuncId}{fn:Func}{c:Code}{args:List PV}{h:aa}{Q:PV->aa->Prop}(hf:C.P.funcs[f]?=some fn)(hb:fn.body=some c)
  (k:Rn (gu T 10000 (.c c) (.fn fn Q) (s9 0 args) (λ_=>.undef) h)):aD C f args h Q:=aD.dD hf hb (cF T k.out)
theorem aW.x{f:FuncId}{fn:Func}{c:Code}{args:List PV}{r:PV}(hf:C.P.funcs[f]?=some fn)(hb:fn.body=some c)
  (k:Rn (gu T 10000 (.c c) (.fn fn λr0 hc=>∃r1,rb hc r0=some r1/\cJ r1=r) (s9 0 args) (λ_=>.undef) [])):aW C f args r:=aW.of (aD.x T hf hb k)
theorem uQ{h:aa}:∀{l:List PV},au l=true->kL h l=some l:=by
 have one:∀{c:PV},aJ c=true->sP h c=some c:=λ{c} hc=>by
  unfold sP
  split
  simp[aJ]at hc;rw[if_pos hc]
 have key:∀cs:List PV,au cs=true->qM h cs=some cs:=by
  intro cs
  induction cs with
  |nil=>intro _;rfl
  |cons c cs ih=>
   intro hh
   simp only[au,TK]at hh;simp only[qM,one hh.1,ih hh.2]
 intro l
 induction l with
 |nil=>intro _;rfl
 |cons c l ih=>
  intro hl
  simp only[au,TK]at hl
  have:ot h c=some c:=by
   unfold ot
   split
   rw[key _ (by simpa[aJ]using hl.1)];rfl;exact one hl.1
  simp only[kL,ih hl.2,this]
theorem ai.po{f:FuncId}{sz:Nat}{v:PV}{h:aa}{es eD rest p8:List PV}{rv:PV}{Q:PV->aa->Prop}(o:Out sz h v es)(a:aW C f (.ab false eD::p8) rv)(q:∀h',(h'=h\/∃id ep,v=.an id ep 0 es.length/\h'=h.set id ⟨.f,ep,sz,es⟩)->Q rv h')
  (hm:C.mode f=.pure:=by rfl) (hv:au es=true:=by simp) (hr:au rest=true:=by simp) (hn:ba es=eD:=by simp) (HK:ba rest=p8:=by simp):ai C 2 f (v::rest) h Q:=by
 subst hn HK;rcases o with⟨rfl,rfl⟩|⟨id,ep,rfl,e2⟩;exact ai.pure hm (by simp[au,aJ,hr]) (by simpa[ba,cJ]using a) (q h (.inl rfl))
 ·obtain⟨n0,hn⟩:=a
  by_cases hs:dI rv=true
  ·refine⟨rv,h,q h (.inl rfl),n0,λn h1=>?_⟩;obtain⟨r0,hc,r1,e1,e3,e4⟩:=hn n h1;have An:dI r1=true:=by have:=ml r1;rw[e4]at this;rw[<-this];exact hs
   have hb:kL h (.an id ep 0 es.length::rest)=some (.ab false es::rest):=by
    simp[kL,ot,sP,getM,e2,hv,uQ hr]
   unfold cM;rw[hm];have Dm:au (.an id ep 0 es.length::rest)=false:=rfl;have PB:ba (PV.ab false es::rest)=.ab false (ba es)::ba rest:=rfl;simp only[dp,Dm,TR,if_false,hb,PB,e1,e3,An,Bool.true_or,if_true,e4]
  ·have hs:dI rv=false:=by simpa using hs
   refine⟨rv,h.set id ⟨.f,ep,sz,es⟩,q _ (.inr ⟨id,ep,rfl,rfl⟩),n0,λn h1=>?_⟩;obtain⟨r0,hc,r1,e1,e3,e4⟩:=hn n h1;have An:dI r1=false:=by have:=ml r1;rw[e4]at this;rw[<-this];exact hs
   have hb:kL h (.an id ep 0 es.length::rest)=some (.ab false es::rest):=by
    simp[kL,ot,sP,getM,e2,hv,uQ hr]
   have PB:ba (PV.ab false es::rest)=.ab false (ba es)::ba rest:=rfl
   have i0:∀l:List PV,au l=true->my l=[]:=by
    have i1:∀c:PV,aJ c=true->A6 c=[]:=λc hc=>by cases c <;>first |rfl |simp[aJ]at hc
    intro l
    induction l with
    |nil=>intro _;rfl
    |cons c l ih=>
     intro hh
     simp only[au,TK]at hh
     have:(cells c).flatMap A6=[]:=by
      rw[List.flatMap_eq_nil_iff]
      intro x hx
      cases c with
      |agg cs=>
       refine i1 x ?_;have h2:au cs=true:=by simpa[aJ]using hh.1
       rw[bp,TH]at h2;exact h2 x hx
      |_=>simp[cells]at hx;subst hx;exact i1 _ hh.1
     simp only[my,Vg]at ih ⊢;rw[this,ih hh.2];rfl
   have La:my (PV.an id ep 0 es.length::rest)=[id]:=by
    have:=i0 rest hr;simp only[my,Vg]at this ⊢;rw[this];rfl
   have Kb:ou h [id]=false:=by simp[ou,e2]
   have Ta:fO h [id]=some (h.set id ⟨.f,ep,sz,es⟩):=by simp[fO,l8,e2,hv]
   unfold cM;rw[hm];have Dm:au (.an id ep 0 es.length::rest)=false:=rfl;simp only[dp,Dm,TR,if_false,hb,PB,e1,e3,La,An,Kb,Bool.or_self,TI,if_true,Ta,TO,e4]
def kJ(H h':aa):Prop:=∃J,HV J/\h'=H++J
theorem aW.ex{C:bZ}{f:FuncId}{args:List PV}{Q:PV->Prop}{F:PV->PV}(a:aD C f args [] (λr0 hc=>∃x,Q x/\∃r1,rb hc r0=some r1/\cJ r1=F x)):∃x,Q x/\aW C f args (F x):=by
 obtain⟨r,h,⟨x,q,r1,e1,e2⟩,e⟩:=a;exact⟨x,q,aW.of ⟨r,h,⟨r1,e1,e2⟩,e⟩⟩
theorem kJ.refl(H:aa):kJ H H:=⟨[],HV.nil,by simp⟩
theorem kJ.trans{a b c:aa}(x:kJ a b)(y:kJ b c):kJ a c:=by
 obtain⟨J,hJ,rfl⟩:=x;obtain⟨K,hK,rfl⟩:=y;exact⟨J++K,hJ.gr hK,by rw[UB]⟩
theorem kJ.gr{H h:aa}(x:kJ H h){J:aa}(hJ:HV J):kJ H (h++J):=x.trans ⟨J,hJ,rfl⟩
theorem kJ.at{H h:aa}(x:kJ H h){i:Nat}{o:aC}(e:H[i]?=some o):h[i]?=some o:=by
 obtain⟨J,_,rfl⟩:=x;rw[TG (ae e)];exact e
theorem kJ.hv{H h:aa}(x:kJ H h)(hH:HV H):HV h:=by
 obtain⟨J,hJ,rfl⟩:=x;exact hH.gr hJ
theorem ai.ex{f:FuncId}{args:List PV}{H:aa}{v:PV}{Q:PV->aa->Prop}(a:aD C f args H (λr h'=>r=v/\kJ H h'))(q:∀h',kJ H h'->Q v h')(hm:C.mode f=.opened:=by rfl):ai C 2 f args H Q:=by
 refine ai.opened hm (a.mono λr k hr=>?_);obtain⟨rfl,J,hJ,rfl⟩:=hr
 split
 ·rw[List.take_left];exact q _ (kJ.refl _)
 exact q _ ⟨J,hJ,rfl⟩
def Fz(sz:Nat)(h:aa)(v:PV)(es:List PV)(h':aa):Prop:=h'=h\/∃id ep,v=.an id ep 0 es.length/\h'=h.set id ⟨.f,ep,sz,es⟩
theorem Fz.hv{sz:Nat}{h h':aa}{v:PV}{es:List PV}(z:Fz sz h v es h')(H:HV h)(hv:au es=true):HV h':=by
 rcases z with rfl |⟨id,ep,_,rfl⟩;exact H;exact H.set id (by simp) hv
theorem ai.pl{f:FuncId}{sz:Nat}{v:PV}{h:aa}{es eD rest p8:List PV}{rv:PV}{Q:PV->aa->Prop}(o:Ls sz h v es)(a:aW C f (.ab false eD::p8) rv)(q:∀h',Fz sz h v es h'->Q rv h')
  (hm:C.mode f=.pure:=by rfl) (hv:au es=true:=by simp) (hr:au rest=true:=by simp) (hn:ba es=eD:=by simp) (HK:ba rest=p8:=by simp):ai C 2 f (v::rest) h Q:=by
 rcases o with o |⟨fl,rfl⟩;exact ai.po o a q hm hv hr hn HK
 ·subst hn HK;exact ai.pure hm (by simp[au,aJ,hv,hr]) (by simpa[ba,cJ]using a) (q h (.inl rfl))
theorem ai.Ky{f:FuncId}{sz:Nat}{v:PV}{h:aa}{es eD rest p8:List PV}{rv:PV}{Q:PV->aa->Prop}(o:Ls sz h v es)(a:aW C f (.ab false eD::p8) rv)(q:Q rv h)(hs:dI rv=true:=by rfl)
  (hm:C.mode f=.pure:=by rfl) (hv:au es=true:=by simp) (hr:au rest=true:=by simp) (hn:ba es=eD:=by simp) (HK:ba rest=p8:=by simp):ai C 2 f (v::rest) h Q:=by
 subst hn HK;rcases o with o |⟨fl,rfl⟩;exact ai.out hm o hv hr a hs q;exact ai.pure hm (by simp[au,aJ,hv,hr]) (by simpa[ba,cJ]using a) q
theorem Ls.ot{sz:Nat}{h:aa}{v:PV}{es:List PV}(o:Ls sz h v es)(hv:au es=true):∃r1,Pm.ot h v=some r1/\cJ r1=.ab false (ba es):=by
 rcases o with o |⟨f,rfl⟩;exact o.ot hv;exact⟨.ab f es,by simp[Pm.ot,sP,aJ,hv],rfl⟩
theorem Ls.MJ{sz:Nat}{h:aa}{v:PV}{es eD:List PV}(o:Ls sz h v es)(hv:au es=true:=by simp)(hn:ba es=eD:=by simp):∃r1,rb h (aQ [v])=some r1/\cJ r1=.ab false eD:=by
 obtain⟨r1,h1,h2⟩:=o.ot hv;rw[hn]at h2;rcases o with(⟨rfl,rfl⟩|⟨id,ep,rfl,e⟩)|⟨f,rfl⟩ <;>exact⟨r1,h1,h2⟩
theorem ie.zip{α:Type}{c:Code}{L:Al}{V:Nat->PV}{h:aa}{k:qn C}(l:List α)(I:List α->List α->Al->aa->Prop)(h0:Nx (I [] l) L h)
  (step:∀p a q L h V,l=p++a::q->I p (a::q) L h->Rn (gu T 10000 (.c c) (.loop (I (p++[a]) q) k) L V h))
  (last:∀L h V,I l [] L h->Rn (gu T 10000 (.c c) (.loop (λ_ _=>False) k) L V h)):ie c L V h k:=by
 refine⟨Ev.loop (λn s=>∃p q,l=p++q/\q.length=n/\PA (I p q) s) l.length ⟨[],l,rfl,rfl,h0.out V⟩ ?_⟩;rintro n ⟨Vs,hs⟩ ⟨p,q,e,hn,L,V,e2,hI⟩;have e2:Vs=al L V:=e2;subst e2
 cases q with
 |nil=>
  rw[Uc]at e;subst e;obtain⟨ex,s',q,hn⟩:=cF T (last L hs V hI).out;refine⟨ex,s',?_,hn⟩
  cases ex with
  |normal=>obtain⟨_,_,_,hf⟩:=q;exact hf.elim
  |ret=>exact q
  |exit id=>exact q
 |cons a q=>
  obtain⟨ex,s',qq,HK⟩:=cF T (step p a q L hs V e hI).out;refine⟨ex,s',?_,HK⟩
  cases ex with
  |normal=>exact⟨q.length,by simp at hn;omega,p++[a],q,by simp[e],rfl,qq⟩
  |ret=>exact qq
  |exit id=>exact qq
end
end Go.Pm
namespace Go.Pm
open Go.Proofs
attribute [local irreducible] aA az aH aF Ev ag ai aD bw
set_option maxRecDepth 4000
set_option maxHeartbeats 4000000
theorem tM(l:List Tm)(t:Tm):aj l++[enc t]=aj (l++[t]):=by rw[cQ,cQ];simp
end Go.Pm
