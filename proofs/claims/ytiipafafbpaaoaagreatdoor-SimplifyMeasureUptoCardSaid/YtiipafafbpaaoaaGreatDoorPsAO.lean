/-
  Pm, a part. Conditions: none.
-/
import Derived.Test.YtiipafafbpaaoaaGreatDoorPsAN
set_option linter.unusedVariables false
set_option linter.unusedSimpArgs false
set_option linter.unnecessarySimpa false
set_option linter.unusedSectionVars false
section
open Go.MapKept
namespace Go.Pm
def ixT:List Tm->Tm->Nat
 |[],_=>0
 |u::l,t=>if aZ u t=0 then 0 else ixT l t+1
def ixs(u l:List Tm):List PV:=l.map λt=>.int .i64 (ixT u t)
end Go.Pm
end
namespace Go.Pm
open Go.Proofs
section
variable{C:cA}(T:li C.P){h:ab}
set_option maxRecDepth 4000
theorem yP.apN{sz:Nat}{L:Al}{t el:TypeId}{x y:Operand}{v e z:PV}{es:List PV}{iy G:Nat}{K:PV->ab->Prop}(o:Out (sz+1) h v es)(D:h[iy]?=some ⟨.m,0,sz+1,[e]⟩)(hv:∀ep n,v≠.an iy ep 0 n)(hn:es.length<1000000)(w:HR h)(b:bB (λi=>decide (i<h.length)) (es++[e])=true)(he:(cells e).length=sz+1/\(cells e).all bP=true)
  (J:∀O h',LR h v (sz+1) (es++[e]) O h'->Rn (K O h')) (U:cW L x=some v:=by rfl) (F:cW L y=some (.an iy 0 0 1):=by rfl) (g:T.kd t=some (.sl el):=by rfl) (S:T.ts el=some (sz+1):=by rfl) (W:T.tb el=some G:=by rfl) (B:T.tz el=some z:=by rfl) (ir:G<=1000:=by decide) (A:(cells z).length=sz+1:=by rfl) (q:(cells z).all bP=true:=by rfl):
  yP C (.call ⟨.builtin .append,#[x,y],#[t,t]⟩) L h K:=by
 have u:getM h iy 0=some ⟨.m,0,sz+1,[e]⟩:=bw D rfl yxb
 have H:∀m,m<1000002->roomy m G=true:=λm hm=>by
  unfold roomy;rw[age,decide_eq_true_eq,decide_eq_true_eq];have:m * G<=1000002 * 1000:=aih yxa ir
  omega
 have Z:cr h (.an iy 0 0 1)=some [e]:=by simp[cr,u]
 have d:([e].all λv=>decide ((cells v).length=sz+1)&& (cells v).all bP)=true:=by simp only[ahh,ahG,ahO,age,decide_eq_true_eq];exact he
 rcases o with⟨rfl,rfl⟩|⟨V,ep,rfl,N⟩
 ·refine .mk (v:=.an h.length 0 0 1) (h':=h++[⟨.m,0,sz+1,[e]⟩]) (λX Y=>?_) (J _ _ ⟨.inr ⟨h.length,0,rfl,by simp⟩,w.Gt yxb (eK (f:=λi=>decide (i<h.length)) (λi hi=>by have:=of_decide_eq_true hi;exact decide_eq_true yxa) _ (by simpa using b)),by simp,λj M _=>af8 M,λj ep n R=>(by cases R;exact .inr (agb _)),Tq rfl⟩);simp only[ar,bA,agp,agF,ak U,ak F,bR,bG (T.dA _ _ g),T.eT _ _ S,T.vg _ _ W,T.pJ _ _ B,cH,Z];rw[if_pos ⟨by omega,by omega,⟨A,q⟩,d⟩];simp[H 1 yxa,newObj]
 ·have Q:V≠iy:=λR=>hv ep es.length (by rw[R])
  have hg:getM h V ep=some ⟨.m,ep,sz+1,es⟩:=bw N rfl yxb;refine .mk (v:=.an V (ep+1) 0 (es.length+1)) (h':=h.set V ⟨.m,ep+1,sz+1,es++[e]⟩) (λX Y=>?_) (J _ _ ⟨.inr ⟨V,ep+1,by simp,agc (ag N)⟩,w.set V yxb b,by simp,λj M a=>aga (λR=>a ep es.length (by rw[R])),λj jy n R=>(by cases R;exact .inl ⟨ep,es.length,rfl⟩),Tr rfl⟩);simp only[ar,bA,agp,agF,ak U,ak F,bR,bG (T.dA _ _ g),T.eT _ _ S,T.vg _ _ W,T.pJ _ _ B,cH,Z,hg];rw[if_pos ⟨by omega,by omega,⟨A,q⟩,d⟩,if_pos ⟨by simp,trivial⟩];have P:mN V (.an iy 0 0 1)=false:=by simp[mN];exact λR=>Q R.symm
  simp[P,H (es.length+1) yxa]
end
end Go.Pm
namespace Go.Pm
variable{c:Nat}{l:List cg}{k:fC}{H:ab}
namespace aI
open Go.Proofs
attribute [local irreducible] aE az aO aL Ev ai ah ay bh bH
set_option maxRecDepth 4000
@[simp] theorem YO(v:PV)(b:Bool):fQ false v b=v:=rfl
@[simp] theorem abu(u l:List Tm):aw (ixs u l)=true:=by rw[bz,af9];intro y F;obtain⟨t,_,rfl⟩:=agv.1 F;rfl
end aI
namespace tW
open Go.Proofs
variable[iD:Inhabited Prop]
attribute [local irreducible] aE az aO aL Ev ai ah ay bh
set_option maxRecDepth 4000
theorem O6(c m:Nat)(l:List cg)(k:fC)(H:ab)(hH:HR H)(hs:Bs H c l k)(ho:xg m k)(hm:m<10000000)(hD:rE k):
  ay C 22 [.ptr c 0 0 0] H (λr h'=>HR h'/\H.length<=h'.length/\∃R,r=.b8 [R,.I (rF k).2]/\((∃f es,R=.aa f es)\/∃V ep len,R=.an V ep 0 len)/\bq (λi=>decide (i<H.length)) R=true/\∃r1,W0 h' R r1/\b9 r1=.aa false (gD (rF k).1)):=by
 obtain⟨R,of,h1,h2,h3,h4⟩:=hs;have Ct:of.length<10000000:=by have:=ho.len;have:=congrArg List.length h3;rw[agY]at this;omega
 have CW:=oh of;have vf:=h2.bq;unfold pH at h1;refine ay.x T6 Tryz.func22 rfl ?_
 by_cases he:k.e=0
 ·refine wA ?_;refine dU.zip T6 of (λp q L K=>∃D es,L=[(0,.ptr c 0 0 0),(24,R),(25,.I (bY of).length),(26,.I p.length)]/\HR K/\H.length<=K.length/\Out 3 K R (es++bY q)/\oM K D es (p.map Prod.fst)/\(∀i∈D,H.length<=i)/\K[c]?=some ⟨.m,0,3,[.agg [.aa false (aR l),R,.I k.e]]⟩) (.nx ⟨[],[],rfl,hH,agb _,h2,.nil,(λi B=>by cases B),h1⟩) ?_ ?_
  ·rintro p x q _ K Y e2 ⟨D,es,rfl,q1,q2,q3,q4,q5,q6⟩;obtain⟨a,f⟩:=x;have eR:=lenE e2;have cL:=q4.len;rw[agY]at cL;obtain⟨hda,afZ⟩:=Uw (hD a (by rw[<-h3,e2];simp));rcases q3 with⟨_,h0⟩|⟨V,ep,hr,dm⟩
   ·have:=congrArg List.length h0;simp[bY]at this
   subst hr;have afA:=ag dm
   have nK:(es++bY ((a,f)::q))[0+p.length]?=some (.agg [.I a.r,.aa f (aU a.bs),.aa false (aR a.ds)]):=by
    rw[agz,<-cL,agl (agb _),ahK];rfl
   have B8:(es++bY ((a,f)::q)).length=p.length+1+q.length:=by rw[agf,cL,oh,agj];omega
   refine wA ?_;obtain⟨F,N⟩:∃F:ab,F=K++[⟨.m,0,3,[.agg [.I a.r,.aa f (aU a.bs),.aa false (aR a.ds)]]⟩]:=⟨_,rfl⟩;have z1:HR F:=by rw[N];exact q1.cx (HV.one yxb)
   have z2:∀j,j<K.length->F[j]?=K[j]?:=λj M=>by rw[N,af8 M]
   have z3:K.length<=F.length:=by rw[N];simp
   rw[<-N];clear N;have tP:=dE a.ds;have hdn:=hda.len;refine dU.zip T6 a.ds (λp2 q2 L z=>∃u O b,L=[(0,.ptr c 0 0 0),(4,.I p.length),(6,u),(24,.an V ep 0 (es++bY ((a,f)::q)).length),(25,.I (bY of).length),(26,.I p.length),(32,.aa false (aR a.ds)),(33,.I (aR a.ds).length),(34,.I p2.length)]/\HR z/\(∀j,j<F.length->z[j]?=F[j]?)/\F.length<=z.length/\Out 5 z u O/\Ce z b O p2/\(∀i∈bJ u,F.length<=i)/\(∀i∈b,F.length<=i/\i∉bJ u)) (.nx ⟨_,[],[],rfl,z1,λ_ _=>rfl,agb _,.inl ⟨rfl,rfl⟩,.nil,by simp[bJ],by simp⟩) ?_ ?_
   ·rintro p2 d q2 _ z Y e3 ⟨u,O,b,rfl,w1,w2,w3,w4,w5,w6,w7⟩;have ZT:=gA e3;have NM:=lenE e3;obtain⟨JO,qH⟩:=hda.bd d (by rw[e3];simp);have eW:=up (aI.Br d.tm (by have:=qH d.tm yxb;omega));rw[au d.tm]at eW;refine wA ?_;refine .p eW ?_;refine wA ?_;obtain⟨y,hy⟩:∃y,y=(z++[(⟨.m,0,5,[.agg [.aa false (ae d.kn),.I d.tm.k,.str d.tm.s,.I d.tm.o,.aa false (ae d.tm.l)]]⟩:ax)]).length:=⟨_,rfl⟩;obtain⟨G,hG⟩:∃G:ab,G=z++[⟨.m,0,5,[.agg [.aa false (ae d.kn),.I d.tm.k,.str d.tm.s,.I d.tm.o,.aa false (ae d.tm.l)]]⟩]++[⟨.m,0,5,[.agg [.aa true [],.I d.tm.k,.str d.tm.s,.I d.tm.o,.aa false (ae d.tm.l)]]⟩]:=⟨_,rfl⟩;rw[<-hG,<-hy];have ey:y=z.length+1:=by rw[hy];simp
    have y1:HR G:=by rw[hG];exact(w1.cx (HV.one yxb)).cx (HV.one yxb)
    have y2:G[y]?=some ⟨.m,0,5,[.agg [.aa true [],.I d.tm.k,.str d.tm.s,.I d.tm.o,.aa false (ae d.tm.l)]]⟩:=by rw[hG,hy];simp
    have y3:∀j,j<z.length->G[j]?=z[j]?:=λj M=>by rw[hG,ags,af8 M]
    clear hG hy;have UF:=aj d.kn;refine dU.zip T6 d.kn (λp3 q3 L A=>∃w,L=[(0,.ptr c 0 0 0),(4,.I p.length),(6,u),(9,.ptr y 0 0 0),(24,.an V ep 0 (es++bY ((a,f)::q)).length),(25,.I (bY of).length),(26,.I p.length),(32,.aa false (aR a.ds)),(33,.I (aR a.ds).length),(34,.I p2.length),(43,.aa false (ae d.kn)),(44,.I (ae d.kn).length),(45,.I p3.length)]/\HR A/\A[y]?=some ⟨.m,0,5,[.agg [w,.I d.tm.k,.str d.tm.s,.I d.tm.o,.aa false (ae d.tm.l)]]⟩/\Out 4 A w (ae p3)/\(∀i∈bJ w,y<i)/\(∀j,j<z.length->A[j]?=z[j]?)) (.nx ⟨_,rfl,y1,y2,.inl ⟨rfl,rfl⟩,by simp[bJ],y3⟩) ?_ ?_
    ·rintro p3 t q3 _ A Y e4 ⟨w,rfl,v1,v2,v3,v4,v5⟩;have VB:=bO e4;have X9:=lenE e4;have hct:=up (aI.Br t (by have:=qH t (by rw[e4];simp);omega));rw[au t]at hct;have oH:=aj p3;have v2b:=mE (J:=[Pi t]) v2;have v1b:=v1.cx (HV.one (ep:=0) (n:=4) (es:=[.agg (Do t)]) yxb);have v3b:=v3.cz [Pi t];refine wA ?_;refine .p hct ?_;refine wA ?_;refine .lr (es:=ae p3) (λW h' v=>?_) v3b rfl yxd (bg _ _ yxb) v1b;have nw:∀{j:Nat},j<=y->∀ep n,w≠.an j ep 0 n:=λ{j} M ep n e=>by have:=v4 j (by rw[e];simp[bJ]);omega
     have yl:=ag v2;have S:h'[y]?=some ⟨.m,0,5,[.agg [w,.I d.tm.k,.str d.tm.s,.I d.tm.o,.aa false (ae d.tm.l)]]⟩:=(v.fr y yxd (nw (agb _))).trans v2b
     have P:∀j,j<z.length->h'[j]?=z[j]?:=λj M=>by
      rw[v.fr j yxd (nw yxa),af8 yxa];exact v5 j M
     have U:Out 4 h' W (ae (p3++[t])):=by
      have:=v.out;rw[ch];show Out 4 h' W (ae p3++[enc t]);rw[au t];exact this
     have Z:∀i∈bJ W,y<i:=λi B=>by
      rcases v.out with⟨rfl,_⟩|⟨i2,e2,rfl,_⟩;simp[bJ]at B
      ·simp only[bJ,agu]at B;subst B;rcases v.ref i e2 _ rfl with⟨jy,n',hv⟩|h;exact v4 i yxr;simp at h;omega
     have g5:=v.hr;clear v v2b v1b v3b;have g3b:=U;rcases g3b with⟨rfl,_⟩|⟨i2,zP,rfl,_⟩
     all_goals
      refine wA ?_;refine .nx ⟨_,rfl,g5.set y yxb (by first |(simp[bB,Pm.bq];done)|(have:=U.bq;simp only[Pm.bq]at this;simp[bB,Pm.bq,of_decide_eq_true this])),agc (ag S),U.of_eq λi B=>aga (by have:=Z i B;omega),Z,λj M=>by rw[aga yxa];exact P j M⟩
    ·rintro _ A Y ⟨w,rfl,v1,v2,v3,v4,v5⟩;have hml:O.length=p2.length:=w5.len;have vw:∀i∈bJ w,i<A.length:=v3.nP;have Q:=w4.nP;have yl:=ag v2
     have NV:∀X:ab,A.length<=X.length->bB (λi=>decide (i<X.length)) (O++[.agg [w,.I d.tm.k,.str d.tm.s,.I d.tm.o,.aa false (ae d.tm.l)]])=true:=λX hX=>by
      have a1:=w5.NV;have a2:=v3.bq;rw[dx,ag9,<-dx,eK (f:=λi=>decide (i<z.length)) (λi B=>by have:=of_decide_eq_true B;exact decide_eq_true yxa) _ a1];have a3:=vX (f:=λi=>decide (i<A.length)) (g:=λi=>decide (i<X.length)) (λi B=>by have:=of_decide_eq_true B;exact decide_eq_true yxa) _ a2;simp[Pm.bq,bB,a3]
     have fin:∀{X h':ab} {W:PV},(∀j,j<A.length->X[j]?=A[j]?)->A.length<=X.length->LR X u 5 (O++[.agg [w,.I d.tm.k,.str d.tm.s,.I d.tm.o,.aa false (ae d.tm.l)]]) W h'->HR h'/\(∀j,j<F.length->h'[j]?=F[j]?)/\F.length<=h'.length/\Out 5 h' W (O++[.agg [w,.I d.tm.k,.str d.tm.s,.I d.tm.o,.aa false (ae d.tm.l)]])/\Ce h' (b++bJ w) (O++[.agg [w,.I d.tm.k,.str d.tm.s,.I d.tm.o,.aa false (ae d.tm.l)]]) (p2++[d])/\(∀i∈bJ W,F.length<=i)/\(∀i∈b++bJ w,F.length<=i/\i∉bJ W):=λ{X h' W} hX hXl v=>by
      have ll:=v.len
      have fr:∀j,j<A.length->j∉bJ u->h'[j]?=A[j]?:=λj M hv=>by
       rw[v.fr j yxa (λep n e=>hv (by rw[e];simp[bJ]))];exact hX j M
      have vv:∀i∈bJ W,i∈bJ u\/X.length<=i:=λi B=>by
       rcases v.out with⟨rfl,_⟩|⟨i2,e2,rfl,_⟩;simp[bJ]at B
       ·simp only[bJ,agu]at B;subst B;rcases v.ref i e2 _ rfl with⟨jy,n',hv⟩|h;exact .inl yxr;exact .inr h
      refine⟨v.hr,λj M=>?_,by omega,v.out,.snoc (w5.of_eq λi B=>?_) (v3.of_eq λi B=>?_),λi B=>?_,λi B=>?_⟩
      ·rw[fr j yxa (λh=>by have:=w6 j h;omega),v5 j yxa];exact w2 j M
      ·have:=w5.lt i B;rw[fr i yxa (w7 i B).2];exact v5 i this
      ·have:=v4 i B;exact fr i (vw i B) (λh=>by have:=Q i h;omega)
      ·rcases vv i B with h |h
       ·exact w6 i h
       ·omega
      ·rcases agh.1 B with B |B
       ·have:=w5.lt i B;refine⟨(w7 i B).1,λh=>?_⟩;rcases vv i h with h |h;exact(w7 i B).2 h;omega
       ·have h1:=v4 i B;have h2:=vw i B;refine⟨by omega,λh=>?_⟩;rcases vv i h with h |h;have:=Q i h;omega;omega
     have o5:∀{X:ab},(∀j,j<A.length->X[j]?=A[j]?)->Out 5 X u O:=λ{X} hX=>w4.of_eq λi B=>by
      have:=Q i B;rw[hX i yxa,v5 i this]
     have v3c:=v3;rcases v3c with⟨rfl,_⟩|⟨i2,zP,rfl,_⟩
     ·refine wA ?_;refine .lr (es:=O) (λW h' v=>?_) (o5 λ_ _=>rfl) rfl yxd (NV A (agb _)) v1;obtain⟨S,P,U,Z,g5,g6,g7⟩:=fin (λ_ _=>rfl) (agb _) v;refine wA ?_;exact .nx ⟨_,_,_,rfl,S,P,U,Z,g5,g6,g7⟩
     ·have Wl:bB (λi=>decide (i<A.length+1)) [PV.agg [.an i2 zP 0 (ae d.kn).length,.I d.tm.k,.str d.tm.s,.I d.tm.o,.aa false (ae d.tm.l)]]=true:=by
       have:=vw i2 yxi;simp[bB,Pm.bq];omega
      refine wA ?_;refine yP.apN (sz:=4) (iy:=A.length) (e:=.agg [.an i2 zP 0 (ae d.kn).length,.I d.tm.k,.str d.tm.s,.I d.tm.o,.aa false (ae d.tm.l)]) T6 (o5 λj M=>af8 M) yxb (λep n e=>by have:=Q A.length (by rw[e];simp[bJ]);omega) yxa (v1.Gt yxb Wl) (NV _ yxb) ⟨rfl,rfl⟩ (λW h' v=>?_);obtain⟨S,P,U,Z,g5,g6,g7⟩:=fin (λj M=>af8 M) yxb v;refine wA ?_;exact .nx ⟨_,_,_,rfl,S,P,U,Z,g5,g6,g7⟩
   ·rintro _ z Y ⟨u,O,b,rfl,w1,w2,w3,w4,w5,w6,w7⟩;have eW:=ag h1;have k2c:=((w2 c yxa).trans (z2 c yxa)).trans q6;have k2i:=((w2 V yxa).trans (z2 V afA)).trans dm;have Vq:es.length=p.length:=cL;have w4b:=w4
    have hci:c≠V:=λh=>by
     subst h;rw[q6]at dm;have h5:=congrArg ax.es (af7 dm)
     cases es with
     |nil=>simp[bY,kW]at h5
     |cons x es=>simp[bY]at h5
    have mS:∀e':PV,(es++bY ((a,f)::q)).set (0+p.length) e'=(es++[e'])++bY q:=λe'=>by
     rw[agz,<-cL,ahn _ _ (agb _),ahK];simp[bY]
    have af0:∀i∈bJ u,i≠V:=λi B h=>by have:=w6 i B;omega
    have af1:∀i∈b,i≠V:=λi B h=>by have:=(w7 i B).1;omega
    have afB:∀i∈D,i<K.length:=q4.lt
    have af3:V<H.length:=by
     have:=vf;simpa[bq]using this
    have key:∀{K4:ab},K4=z.set V ⟨.m,ep,3,(es++[.agg [.I a.r,.aa f (aU a.bs),u]])++bY q⟩->HR K4/\H.length<=K4.length/\Out 3 K4 (.an V ep 0 (es++bY ((a,f)::q)).length) ((es++[.agg [.I a.r,.aa f (aU a.bs),u]])++bY q)/\oM K4 (D++(bJ u++b)) (es++[.agg [.I a.r,.aa f (aU a.bs),u]]) ((p++[(a,f)]).map Prod.fst)/\(∀i∈D++(bJ u++b),H.length<=i)/\K4[c]?=some ⟨.m,0,3,[.agg [.aa false (aR l),.an V ep 0 (es++bY ((a,f)::q)).length,.I k.e]]⟩:=λ{K4} e4=>by
     subst e4
     have n2:oM z (D++(bJ u++b)) (es++[.agg [.I a.r,.aa f (aU a.bs),u]]) ((p++[(a,f)]).map Prod.fst):=by
      rw[agN];exact .snoc (q4.of_eq λi B=>by have:=afB i B;rw[w2 i yxa,z2 i this]) w4 w5
     have nid:∀i∈D++(bJ u++b),H.length<=i:=λi B=>by
      rcases agh.1 B with B |B;exact q5 i B
      ·rcases agh.1 B with B |B
       ·have:=w6 i B;omega
       ·have:=(w7 i B).1;omega
     refine⟨w1.set V yxb ?_,by simp;omega,.inr ⟨V,ep,by simp[bY],agc yxa⟩,n2.of_eq λi B=>aga (by have:=nid i B;omega),nid,(aga (agV hci)).trans k2c⟩;rw[dx,ag9,<-dx,<-dx,n2.NV,bg _ _ yxb]
     rfl
    rcases w4b with⟨rfl,_⟩|⟨i2,zP,rfl,_⟩
    all_goals
     refine wA ?_;rw[mS];obtain⟨S,P,U,Z,g5,g6⟩:=key rfl;exact .nx ⟨_,_,rfl,S,P,U,Z,g5,g6⟩
  ·rintro _ K Y ⟨D,es,rfl,q1,q2,q3,q4,q5,q6⟩;rw[bY,agF,agC]at q3;refine wA ?_;have hf:rF k=(k.out,0):=by rw[rF,if_neg (by simp[he])]
   obtain⟨r1,S,P⟩:=oM.rd q3 q4;rw[h3]at P;refine⟨q1,q2,R,by rw[hf];rfl,?_,vf,r1,S,by rw[hf];exact P⟩;rcases q3 with⟨rfl,_⟩|⟨V,ep,rfl,_⟩;exact .inl ⟨_,_,rfl⟩;exact .inr ⟨_,_,_,rfl⟩
 ·refine wA ?_;have hf:rF k=([],k.e):=by rw[rF,if_pos he]
  exact⟨hH,agb _,.aa true [],by rw[hf];rfl,.inl ⟨_,_,rfl⟩,rfl,.aa true [],.inl rfl,by rw[hf];rfl⟩
theorem sQ{m:Nat}(w:HR H)(S:Bs H c l k)(f:xg m k)(d:m<10000000)(i:rE k){Q:PV->ab->Prop}(q:∀R h' b,W0 h' R b->b9 b=.aa false (gD (rF k).1)->Q (.b8 [R,.I (rF k).2]) h'):ah C 2 22 [.ptr c 0 0 0] H Q:=by
 refine ah.sm (O6 c m l k H w S f d i) (λr h' p=>⟨p.1,p.2.1⟩) (λr h' p=>?_) (λr h' p z=>?_)
 ·obtain⟨_,_,R,rfl,_,_,b,K,a⟩:=p;exact q R h' b K a
 ·obtain⟨_,j,R,rfl,v,e,b,K,a⟩:=p;exact q R _ b (K.take z j v e) a
theorem Bs.of{h':ab}(s:Bs H c l k)(h:∀j,j<H.length->h'[j]?=H[j]?):Bs h' c l k:=by
 obtain⟨R,a,O,X,Q,G⟩:=s;exact⟨R,a,(h c (ag O)).trans O,X.of_eq λi B=>h i (X.nP i B),Q,G⟩
theorem DN(t:Tm):bm t.l<=aC t:=by
 cases t
 simp only[aC,Tm.l];omega
theorem abt{p:List Tm}{t:Tm}(a:List Tm):aR ((p++[t]).map λk=>⟨a,k⟩)=aR (p.map λk=>⟨a,k⟩)++[.agg [.aa false (ae a),.I t.k,.str t.s,.I t.o,.aa false (ae t.l)]]:=by
 rw[agN,aR,agN];rfl
theorem O7{l a:List cg}{i:Nat}(B:i<l.length)(A:l.length<1000000)(f:a.length<1000000){K:ab}{v:PV}(n:HR K)(o:Out 5 K v (aR a)){Q:PV->ab->Prop}(q:∀h',HR h'->(∀j,j∉bJ v->h'[j]?=K[j]?)->Q (.aa false (aR (l.take i++a++l.drop (i+1)))) h'):ah C 2 21 [.aa false (aR l),.I i,v] K Q:=by
 have H:=up (aI.Ie l a i B A f);rcases o with⟨rfl,e⟩|⟨V,g,rfl,e⟩
 ·rw[e]at H;exact ah.p H (q K n λ_ _=>rfl) rfl yxb yxb
 ·have N:=bw e rfl (by simp:Mu.m≠Mu.x);have X:List.take a.length (aR a)=aR a:=agB (by rw[dE];exact agb _);refine ah.aay (args':=[.aa false (aR l),.I i,.aa false (aR a)]) (by simp[iR,kZ,rf,N,X]) rfl (λj M=>?_) (by simpa using H) (λh' z=>q h' (z.hr n) (λj M=>z.same j ?_))
  ·simp[jQ,tJ,cells]at M;subst M;exact⟨_,e,by simp,.inl rfl⟩
  simpa[jQ,tJ,cells,bJ]using M
theorem O8(l p q:List cg)(d:cg)(A:yY l)(D:Yn l)(hb:bm (aI.cD l)<900000)(hl:l.length<1000000)(h:gB l=0)(hn:yZ [] l=some (p,d,q))(ht:(sx l p d).2=0)(hf:(sx l p d).1=false):aT C 7 [.aa false (aR l)] (.b8 [.aa false (gD (fB l).1),.I (fB l).2]):=by
 have h1:=up (aI.gP l A.len A.bd);have h2:=up (aI.tC l A.len);have h3:=sO.2 _ _ _ hn;simp only[agH]at h3;rw[h3]at h2;rw[h]at h1;obtain⟨e,hk⟩:=wP hn;rw[agS]at e;have h4:=up (aI.sy l p q d e D hl hb);rw[ht,hf]at h4;have tP:d∈l:=by rw[e];simp
 obtain⟨tp,w⟩:=MU h tP;have dm:=gA e
 have qH:bm d.kn<10000000:=by
  have:∀t∈d.kn,t∈aI.cD l:=λt ht=>ag6.2 ⟨d,tP,by simp[ht]⟩
  have h5:bm (aI.cD l)=bm (aI.cD p)+(bm d.kn+aC d.tm)+bm (aI.cD q):=by
   rw[e];simp only[aI.cD,List.flatMap_append,ahC,aI.ni,bm];omega
  omega
 have hpt:=up (aI.KI d.kn qH);have oH:=aj (qt d.kn);have cL:=dE l;have cK:p.length<l.length:=by rw[e];simp
 refine aT.xd T6 Tryz.func7 rfl ?_;refine wA ?_;refine .p h1 ?_;refine wA ?_;refine .p h2 ?_;refine wA ?_;refine .p h4 ?_;refine wA ?_;refine .p hpt ?_;refine wC (λG=>?_) λG=>?_
 ·have hm:fB l=([],3):=by
   rw[fB,if_neg (by simp[h]),hn];simp only;rw[if_neg (by simp[ht]),if_neg (by simp[hf]),DO,if_pos yxa]
  rw[hm];exact⟨_,rfl,rfl⟩
 ·refine dU.zip T6 (qt d.kn) (λa b L K=>L=[(0,.aa false (aR l)),(5,.I p.length),(8,.ptr 0 0 0 0),(9,.aa false (ae (qt d.kn))),(59,.aa false (ae (qt d.kn))),(60,.I (ae (qt d.kn)).length),(61,.I a.length)]/\HR K/\Bs K 0 l (a.foldl (Bt l d.tm) ⟨[],0⟩)/\xg a.length (a.foldl (Bt l d.tm) ⟨[],0⟩)) (.nx ⟨rfl,HV.hr (HV.one yxk),⟨_,[],rfl,.inl ⟨rfl,rfl⟩,rfl,by simp[bJ]⟩,.nil⟩) ?_ ?_
  ·rintro a t b _ K Y N ⟨rfl,z,G,g⟩;have nK:=bO N;have eR:=lenE N;have htm:t∈qt d.kn:=by rw[N];simp
   have M:=(tp t htm).ok;have V:=up (aI.xW t d.tm (by have:=bu M;omega) (by have:=bu w.ok;omega));have JS:=z.cx (HV.one (ep:=0) (n:=4) (es:=[.agg (Do t)]) yxb);have Cp:=G.cz [Pi t];rw[au t,au d.tm]at V;rw[List.foldl_append,aht,List.foldl_nil]
   cases rl:decide (aZ t d.tm=0)
   ·rw[rl]at V;refine wA ?_;refine .p V ?_;refine wA ?_;have y:=@H9 iD 2 t d.tm M w.ok 0 a.length l _ _ JS Cp g (by have:=bF d.kn;omega) A;rw[au t,au d.tm]at y;refine y λh' B Z g3 g4=>?_;refine wA ?_;have UF:Bt l d.tm (a.foldl (Bt l d.tm) ⟨[],0⟩) t=oJ l 2 t d.tm (a.foldl (Bt l d.tm) ⟨[],0⟩):=by rw[Bt,if_neg (of_decide_eq_false rl)]
    rw[UF];refine .nx ⟨rfl,B,g4,?_⟩;rw[agf,ag5];exact g.SP M w.ok
   ·rw[rl]at V;refine wA ?_;refine .p V ?_;refine wA ?_;have UF:Bt l d.tm (a.foldl (Bt l d.tm) ⟨[],0⟩) t=a.foldl (Bt l d.tm) ⟨[],0⟩:=by rw[Bt,if_pos (of_decide_eq_true rl)]
    rw[UF];exact .nx ⟨rfl,JS,Cp,g.mono yxb⟩
  ·rintro _ K Y ⟨rfl,z,G,g⟩;have afX:(qt d.kn).length<=80:=by omega
   refine wA ?_;refine dU.zip T6 (qt d.kn) (λa b L K=>∃k m,L=[(0,.aa false (aR l)),(5,.I p.length),(8,.ptr 0 0 0 0),(9,.aa false (ae (qt d.kn))),(82,.aa false (ae (qt d.kn))),(83,.I (ae (qt d.kn)).length),(84,.I a.length)]/\HR K/\Bs K 0 l k/\xg m k/\m<=80+80 * a.length/\KJ l b k=KJ l (qt d.kn) ((qt d.kn).foldl (Bt l d.tm) ⟨[],0⟩)) (.nx ⟨_,_,rfl,z,G,g,by omega,rfl⟩) ?_ ?_
   ·rintro a t b _ K Y N ⟨k,m,rfl,z,G,g,hm,hq⟩;have nK:=bO N;have eR:=lenE N;have M:=(tp t (by rw[N];simp)).ok
    have s1:(a.length+1<=(ae (qt d.kn)).length/\(ae (qt d.kn)).length<=(ae (qt d.kn)).length)/\Option.all (λv=>(cells v).length==4) (ae (qt d.kn))[a.length+1]?=true:=by
     refine⟨⟨by omega,agb _⟩,?_⟩
     cases U:(ae (qt d.kn))[a.length+1]? with
     |none=>rfl
     |some v=>
      have h5:=aI.gC (qt d.kn);unfold eE at h5;have h6:=af9.1 h5 v (agq U);simp only[age,decide_eq_true_eq]at h6;simp[h6.1]
    have F9:List.take ((ae (qt d.kn)).length - (a.length+1)) (List.drop (a.length+1) (ae (qt d.kn)))=ae b:=by
     rw[agB yxb,N,show a++t::b=(a++[t])++b by simp,ch,List.drop_left' (by rw[aj];simp)]
    refine wA ?_;rw[F9];have PW:=aj b;obtain⟨Q,O⟩:∃Q:ab,Q=K++[Pi t]:=⟨_,rfl⟩;obtain⟨F,W⟩:∃i:Nat,i=K.length:=⟨_,rfl⟩;rw[<-O,<-W];have g13:Q[F]?=some (Pi t):=by rw[O,W];simp
    have gr:HR Q:=by rw[O];exact z.cx (HV.one yxb)
    have gc:Bs Q 0 l k:=by rw[O];exact G.cz _
    clear O;refine dU.zip T6 b (λS b2 L K=>L=[(0,.aa false (aR l)),(5,.I p.length),(8,.ptr 0 0 0 0),(9,.aa false (ae (qt d.kn))),(13,.ptr F 0 0 0),(82,.aa false (ae (qt d.kn))),(83,.I (ae (qt d.kn)).length),(84,.I a.length),(92,.aa false (ae b)),(93,.I (ae b).length),(94,.I S.length)]/\HR K/\K[F]?=some (Pi t)/\Bs K 0 l (S.foldl (λc u=>oJ l 3 t u c) k)/\xg (m+S.length) (S.foldl (λc u=>oJ l 3 t u c) k)) (.nx ⟨rfl,gr,g13,gc,g⟩) ?_ ?_
    ·rintro S u b2 _ f Y e3 ⟨rfl,qr,q13,qc,qo⟩;have ZT:=bO e3;have NM:=lenE e3;have vf:=(tp u (by rw[N,e3];simp)).ok;have qr2:=qr.cx (HV.one (ep:=0) (n:=4) (es:=[.agg (Do u)]) yxb);have qc2:=qc.cz [Pi u];have y:=@H9 iD 3 t u M vf 0 (m+S.length) l _ _ qr2 qc2 qo yxa A;rw[au t,au u]at y;have q13b:=mE (J:=[Pi u]) q13;refine wA ?_;refine y λh' B Z g3 g4=>?_;refine wA ?_;rw[List.foldl_append,aht,List.foldl_nil,agf,ag5];exact .nx ⟨rfl,B,g3 _ _ q13b yxb,g4,qo.SP M vf⟩
    ·rintro _ f Y ⟨rfl,qr,q13,qc,qo⟩;refine wA ?_;exact .nx ⟨_,_,rfl,qr,qc,qo,by simp;omega,by rw[<-hq,KJ]⟩
   ·rintro _ K Y ⟨k,m,rfl,z,G,g,hm,hq⟩;have R:=up (aI.KK d.tm);rw[au d.tm]at R;rw[KJ]at hq
    have hOD:rE k:=by
     rw[hq];exact rE.eqs _ (rE.kn _ (λa ha=>by cases ha))
    have hN:fB l=rF (if Tp d.tm=true then tU 4 (p++xX d++q) k else k):=by
     rw[fB,if_neg (by simp[h]),hn];simp only;rw[if_neg (by simp[ht]),if_neg (by simp[hf]),DO,if_neg yxa,<-hq]
    cases qx:Tp d.tm
    ·rw[qx]at R;rw[qx,if_neg yxb]at hN;refine wA ?_;refine .p R ?_;refine wA ?_;refine sQ z G g yxa hOD λav h' r1 B Z=>?_
     refine wA ?_;rw[hN];exact B.Cy Z
    ·rw[qx]at R;rw[qx,if_pos rfl]at hN;have JO:=Bp w.ok;have vN:=aj d.tm.l;refine wA ?_;refine .p R ?_;refine wA ?_;refine dU.zip T6 d.tm.l (λa b L f=>∃v,L=[(0,.aa false (aR l)),(5,.I p.length),(8,.ptr 0 0 0 0),(16,v),(115,.aa false (ae d.tm.l)),(116,.I (ae d.tm.l).length),(117,.I a.length)]/\HR f/\Out 5 f v (aR (a.map λk=>⟨d.kn,k⟩))/\(∀i∈bJ v,K.length<=i)/\(∀j,j<K.length->f[j]?=K[j]?)) (.nx ⟨_,rfl,z,.inl ⟨rfl,rfl⟩,by simp[bJ],λ_ _=>rfl⟩) ?_ ?_
     ·rintro a t b _ f Y N ⟨v,rfl,q1,q2,q3,q4⟩;have acC:=bO N;have hl5:=lenE N;have CW:=dE (a.map λk=>(⟨d.kn,k⟩:cg));rw[agY]at CW;have q1b:=q1.cx (HV.one (ep:=0) (n:=4) (es:=[.agg (Do t)]) yxb);have q2b:=q2.cz [Pi t];refine wA ?_;refine .lr (es:=aR (a.map λk=>⟨d.kn,k⟩)) (λv' h' H=>?_) q2b rfl yxd (bg _ _ yxb) q1b;have nw:∀{j:Nat},j<K.length->∀X n,v≠.an j X 0 n:=λ{j} hj X n e=>by have:=q3 j (by rw[e];simp[bJ]);omega
      have Dj:K.length<=f.length:=by
       rcases agM f.length K.length with h |h
       ·have h6:=q4 f.length h;rw[agr (agb _),agd h]at h6
        cases h6
       exact h
      refine wA ?_;refine .nx ⟨v',rfl,H.hr,by rw[abt];exact H.out,λi hi=>?_,λj hj=>?_⟩
      ·rcases H.out with⟨rfl,_⟩|⟨i2,zP,rfl,_⟩
       ·simp[bJ]at hi
       ·simp only[bJ,agu]at hi;subst hi;rcases H.ref i zP _ rfl with⟨jy,n',hv⟩|h;exact q3 i yxr;simp at h;omega
      ·rw[H.fr j yxd (nw hj),af8 yxa];exact q4 j hj
     ·rintro _ f Y ⟨v,rfl,q1,q2,q3,q4⟩
      have hDs:yY (p++xX d++q):=by
       have yN:(xX d).length=d.tm.l.length:=by simp[xX]
       have uE:l.length=p.length+(q.length+1):=by rw[e];simp
       refine⟨by simp[yN];omega,λx U=>?_⟩;simp only[agh]at U;rcases U with(U |U)|U;exact A.bd x (by rw[e];simp[U])
       ·obtain⟨k2,UG,rfl⟩:=agv.1 U;obtain⟨b1,b2⟩:=A.bd d tP;refine⟨b1,λt P=>?_⟩;rcases agh.1 P with P |P;exact b2 t (by simp only at P;simp[P])
        ·simp only[agu]at P;subst P;have h7:=bu w.ok;have h8:=cc UG;have h9:=DN d.tm;omega
       exact A.bd x (by rw[e];simp[U])
      have aa1:p.length<l.length:=cK
      have hwl:l.take p.length++xX d++l.drop (p.length+1)=p++xX d++q:=by
       rw[e];simp
      have hk8:(xX d).length<1000000:=by
       have h7:=bu w.ok;have h8:=bF d.tm.l;have h9:=DN d.tm;simp only[xX,agY];omega
      have hwc:=@O7 iD l (xX d) p.length aa1 hl hk8 f v q1 q2;rw[hwl]at hwc;refine wA ?_;refine hwc λh' B Z=>?_;have hc3:Bs h' 0 l k:=Bs.of G λj hj=>(Z j λhv=>by have:=q3 j hv;omega).trans (q4 j hj)
      refine wA ?_;refine Ia B hc3 g yxa hDs λh2 p1 p2 p3 p4=>?_
      refine wA ?_;refine sQ p1 p4 g.U2 yxa hOD.U2 λav h3 r1 g3 g4=>?_
      refine wA ?_;rw[hN];exact g3.Cy g4
theorem PM(l p q:List cg)(d:cg)(J:yY l)(D:Yn l)(W:bm (aI.cD l)<900000)(A:l.length<1000000)(h:gB l=0)(hn:yZ [] l=some (p,d,q))(Z:(sx l p d).2=0)(u:(sx l p d).1=true):aT C 7 [.aa false (aR l)] (.b8 [.aa false (gD (fB l).1),.I (fB l).2]):=by
 have O:=up (aI.gP l J.len J.bd);have X:=up (aI.tC l J.len);have Q:=sO.2 _ _ _ hn;simp only[agH]at Q;rw[Q]at X;rw[h]at O;obtain⟨e,v⟩:=wP hn;rw[agS]at e;have G:=up (aI.sy l p q d e D A W);rw[Z,u]at G;have F:p.length<l.length:=by rw[e];simp
 have H:=up (aI.Ie l [] p.length F A yxb);rw[show l.take p.length++[]++l.drop (p.length+1)=p++q by rw[e];simp]at H
 have i:fB l=rF (tU 1 (p++q) ⟨[],0⟩):=by
  rw[fB,if_neg (by simp[h]),hn];simp only;rw[if_neg (by simp[Z]),if_pos u]
 have w:yY (p++q):=by
  have K:l.length=p.length+(q.length+1):=by rw[e];simp
  have:=J.len;refine⟨by simp;omega,λx U=>J.bd x ?_⟩;rw[e];rcases agh.1 U with U |U <;>simp[U]
 have b:Bs [pH l (.aa true []) 0] 0 l ⟨[],0⟩:=⟨_,[],rfl,.inl ⟨rfl,rfl⟩,rfl,by simp[bJ]⟩;have n:HR [pH l (.aa true []) 0]:=HV.hr (HV.one yxk);refine aT.xd T6 Tryz.func7 rfl ?_;refine wA ?_;refine .p O ?_;refine wA ?_;refine .p X ?_;refine wA ?_;refine .p G ?_;refine wA ?_;refine .p H ?_;refine wA ?_;refine Ia n b xg.nil yxa w λX g y z t=>?_
 refine wA ?_;refine sQ g t (xg.U2 xg.nil) yxa (rE.U2 (λa j=>by cases j)) λR Q B f N=>?_
 refine wA ?_;rw[i];exact f.Cy N
theorem AN(l:List cg)(J:yY l)(D:Yn l)(W:bm (aI.cD l)<900000)(A:l.length<1000000):aT C 7 [.aa false (aR l)] (.b8 [.aa false (gD (fB l).1),.I (fB l).2]):=by
 by_cases h:gB l=0
 ·cases z:yZ [] l with
  |none=>exact Ib l J h z
  |some x=>
   obtain⟨p,d,q⟩:=x
   by_cases Z:(sx l p d).2=0
   ·cases u:(sx l p d).1
    ·exact O8 l p q d J D W A h z Z u
    ·exact PM l p q d J D W A h z Z u
   exact Ic l p q d J D W A h z Z
 exact To l J h
end tW
set_option maxRecDepth 4000
def strs(l:List ByteArray):List PV:=l.map PV.str
namespace aI
@[simp] theorem ab5(l:List ByteArray):aw (strs l)=true:=by rw[bz];simp[strs,aW]
@[simp] theorem ada(l:List ByteArray):aY (strs l)=strs l:=by rw[cB];simp[strs,b9]
open Go.Proofs
attribute [local irreducible] aE az aO aL Ev ai ah ay bh bH
@[simp] theorem ab6(l:List ByteArray):eE 1 (strs l):=by
 unfold eE;rw[af9]
 intro v J
 obtain⟨t,_,rfl⟩:=agv.1 J
 rfl
end aI
namespace aI
open Go.Proofs
attribute [local irreducible] aE az aO aL Ev ai ah ay bh bH
theorem JT(l:List cg)(J:qR l<900000):aT C 30 [.aa false (ae (bX l))] (.aa false (ae (bN l))):=by
 have F:=jV l;have n:=bF (bX l);have h:nL ((bX l).flatMap cC)=bN l:=Gx l;rw[<-h];refine GC (bX l) ?_ yxa (λt Z=>by have:=cc Z;omega)
 have H:∀l:List Tm,(l.flatMap cC).length<=bm l:=by
  intro l
  induction l with
  |nil=>simp[bm]
  |cons t l P=>
   have:=iW t;simp only[ahC,agf,bm];omega
 have:=H (bX l);omega
end aI
namespace aI
open Go.Proofs
attribute [local irreducible] aE az aO aL Ev ai ah ay bh
theorem ya:∀l:List cg,0<=iM l/\iM l<=(qR l:Int)
 |[]=>by simp[iM,qR]
 |d::l=>by
  have O:=ya l;have X:=Le d;have Q:=(dY d.tm).2;rw[nf,iM];omega
theorem Nj{p q:List cg}{d:cg}(e:l=p++d::q)(J:qR l<5000000):0<=iM p/\0<=Ix d/\iM p+Ix d<5000000/\iM (p++[d])=iM p+Ix d:=by
 have O:=ya l;have X:=ya p;have Q:=ya q;have G:=Le d;rw[e,oB,iM]at O;rw[e]at J;refine⟨X.1,G.1,by omega,?_⟩;rw[oB,iM,iM];omega
theorem PN(l:List cg)(J:qR l<900000):aT C 9 [.aa false (aR l)] (.agg [.I (bN l).length,.I (iM l)]):=by
 have Z:=dE l;have t:=sZ l;have O:=Lr l yxa;have X:=JT l J;have V:=aj (bN l);refine aT.x T6 Tryz.func9 rfl ?_;refine wA ?_;refine dU.zip T6 l (λp q L H=>L=[(0,.aa false (aR l)),(2,.ptr 0 0 0 0),(3,.I (iM p)),(4,.I p.length)]/\H=[⟨.m,0,2,[.agg [.I 0,.I 0]]⟩]) (.nx ⟨rfl,rfl⟩) ?_ ?_
 ·rintro p d q _ _ Y e ⟨rfl,rfl⟩;have Q:=gA e;have b:=lenE e;obtain⟨f,a,u,w⟩:=Nj e yxa;have D:=(Ac d.tm (by have:=wW (show d∈l by rw[e];simp);omega)).nine;rw[au d.tm]at D
  by_cases g:d.tm.k=1
  ·have M:Ix d=0:=by rw[Ix,if_neg (by simp[g])]
   refine wA ?_;exact .nx ⟨by rw[w,M,Int.add_zero],rfl⟩
  ·have M:Ix d=size d.tm:=by rw[Ix,if_pos g]
   rw[M]at a u w;refine wA ?_;refine .p D ?_;refine wA ?_;exact .nx ⟨by rw[w],rfl⟩
 ·rintro _ _ Y ⟨rfl,rfl⟩;refine wA ?_;refine .p O ?_;refine wA ?_;refine .p X ?_;refine wA ?_;refine .abP (T:=T6) rfl rfl rfl rfl rfl ⟨rfl,rfl⟩ rfl rfl rfl rfl ?_;refine wA ?_;exact⟨_,rfl,by rw[V];rfl⟩
theorem ael{C:cA}(T:li C.P){run:hZ}{ops:Array Oper}{b:List Nat}{h0:ab}{i:Nat}{L:Al}{Y:Nat->PV}{h:ab}{d x off:Nat}{o:ax}{t:TypeId}{v:PV}{y:TypeId}{s:String}{a:Array Edge}
  (U:lk L x=some (.ptr c 0 0 off)) (G:h0[c]?=some o) (f:o.mu≠.m) (S:sf T (.load t (.tmp x)) L h (λy=>y=v)):du C run ops b h0 i ⟨some d,.load t (.tmp x),y,s,a,none⟩ ⟨al L Y,h⟩=some ⟨al ((d,v)::L) Y,h⟩:=by
 obtain⟨R,W,e,rfl⟩:=jT T S;have K:al L Y x=.ptr c 0 0 off:=fi U Y;exact zbe
theorem Ed(l:List cg)(hd:qR l<5000000):aT C 8 [.aa false (aR l)] (.agg [.I (bN l).length,.I (iM l)]):=by
 have cL:=dE l;have tP:=sZ l;refine aT.x T6 Tryz.func8 rfl ?_;refine wA ?_;refine dU.zip T6 l (λp q L H=>∃v,L=[(2,.ptr 0 0 0 0),(3,v),(4,.I (iM p)),(10,.aa false (aR l)),(11,.I (aR l).length),(12,.I p.length)]/\HR H/\H[0]?=some (⟨.m,0,2,[.agg [.I 0,.I 0]]⟩:ax)/\Out 4 H v (ae (bX p))/\(∀i∈bJ v,0<i)/\(p≠[]\/v=.aa true [])) (.nx ⟨_,rfl,HV.hr (HV.one rfl),rfl,.inl ⟨rfl,rfl⟩,by simp[bJ],.inr rfl⟩) ?_ ?_
 ·rintro p d q _ H Y e ⟨v,rfl,y,g,N,O,_⟩;have dm:=gA e;have eR:=lenE e;obtain⟨m1,m2,m3,m4⟩:=Nj e hd;have hbd:=wW (show d∈l by rw[e];simp);have jz:=(tE d.tm yxa).nine;rw[au d.tm]at jz;have oT:bX l=bX p++(d.kn++[d.tm])++bX q:=by rw[e];simp[bX]
  have qH:=jV l;have Cc:=bF (bX l);have yd:=congrArg List.length oT;simp only[agf,agj,agH]at yd;have hle:=aj (bX p);have yN:=aj d.kn;have e9:[PV.agg (Do d.tm)]=ae [d.tm]:=by rw[ae,<-au];rfl
  have nP:=N.nP;have yM:=ag g;have LN:(H++[(⟨.m,0,5,[.agg [.aa false (ae d.kn),.I d.tm.k,.str d.tm.s,.I d.tm.o,.aa false (ae d.tm.l)]]⟩:ax)])[H.length]?=some (⟨.m,0,5,[.agg [.aa false (ae d.kn),.I d.tm.k,.str d.tm.s,.I d.tm.o,.aa false (ae d.tm.l)]]⟩:ax):=by simp
  have A:=Gu LN;have oL:Out 4 (cJ [H.length] (H++[(⟨.m,0,5,[.agg [.aa false (ae d.kn),.I d.tm.k,.str d.tm.s,.I d.tm.o,.aa false (ae d.tm.l)]]⟩:ax)])) v (ae (bX p)):=(N.cz _).of_eq λi B=>JL (by have:=nP i B;omega)
  obtain⟨Q,G1,UQ,f⟩:=xF T6 (H:=cJ [H.length] (H++[(⟨.m,0,5,[.agg [.aa false (ae d.kn),.I d.tm.k,.str d.tm.s,.I d.tm.o,.aa false (ae d.tm.l)]]⟩:ax)])) (st:=36) (xt:=36) (v:=v) (u:=.aa false (ae d.kn)) (es:=ae (bX p)) (ys:=ae d.kn) rfl rfl rfl rfl rfl yxe rfl rfl oL rfl yxi (gC _) yxa;obtain⟨V,G2,UR,S⟩:=xF T6 (H:=G1) (st:=36) (xt:=36) (v:=Q) (u:=.aa true [.agg (Do d.tm)]) (es:=ae (bX p)++ae d.kn) (ys:=[.agg (Do d.tm)]) rfl rfl rfl rfl rfl yxe rfl rfl f.out rfl yxi rfl (by rw[agf];simp;omega)
  have B8:∀(j:Nat) (o:ax),G2[j]?=some o->o.mu≠.l\/(cJ [H.length] (H++[(⟨.m,0,5,[.agg [.aa false (ae d.kn),.I d.tm.k,.str d.tm.s,.I d.tm.o,.aa false (ae d.tm.l)]]⟩:ax)]))[j]?=some o:=λj o h=>by
   rcases S.EM j o h with h |h;exact .inl h;exact f.EM j o h
  have D:=f.ba _ _ A yxb;refine wA ?_;refine .calm ?_ _ (L3 (c:=H.length) (λ_=>rfl) rfl yxb B8 (λrun Y=>?_)) ?_
  rotate_left
  ·refine(uD (kP T6 yxg)).trans ?_;refine(uD (kP T6 yxg)).trans ?_;refine(uD (ael T6 (c:=H.length) (off:=0+0) (o:=(⟨.l,0,5,[.agg [.aa false (ae d.kn),.I d.tm.k,.str d.tm.s,.I d.tm.o,.aa false (ae d.tm.l)]]⟩:ax)) (v:=.aa false (ae d.kn)) rfl A yxb (by(conv=>whnf);exact .mk (o:=(⟨.l,0,5,[.agg [.aa false (ae d.kn),.I d.tm.k,.str d.tm.s,.I d.tm.o,.aa false (ae d.tm.l)]]⟩:ax)) (.go (.mk (.go (by conv=>whnf)) rfl)) (bw A rfl yxb)))).trans ?_;refine(uD (X8 rfl rfl rfl rfl (yS rfl rfl UQ) f.len f.ba)).trans ?_;refine(uD (kP T6 yxg)).trans ?_;refine(uD (ael T6 (c:=H.length) (off:=0+1) (o:=(⟨.l,0,5,[.agg [.aa false (ae d.kn),.I d.tm.k,.str d.tm.s,.I d.tm.o,.aa false (ae d.tm.l)]]⟩:ax)) (v:=.agg (Do d.tm)) rfl A yxb (by(conv=>whnf);exact .mk (o:=(⟨.l,0,5,[.agg [.aa false (ae d.kn),.I d.tm.k,.str d.tm.s,.I d.tm.o,.aa false (ae d.tm.l)]]⟩:ax)) (.go (.mk (.go (by conv=>whnf)) rfl)) (bw D rfl yxb)))).trans ?_;refine(uD (kBs rfl rfl rfl (Vx T6 yxg yxb))).trans ?_;refine(uD (X8 rfl rfl rfl rfl (yS rfl rfl UR) S.len S.ba)).trans ?_;refine(uD (kP T6 yxg)).trans ?_;exact rfl
  ·have l1:=f.len;have l2:=S.len;rw[tj,agf,ag5]at l1;have v1:∀i∈bJ Q,i∈bJ v\/H.length+1<=i:=λi B=>(f.bJ i B).imp id λh=>by rw[tj,agf,ag5]at h;exact h
   have v2:∀i∈bJ V,i∈bJ v\/H.length+1<=i:=λi B=>by
    rcases S.bJ i B with h |h;exact v1 i h;exact .inr yxa
   obtain⟨G,w⟩:∃G,G=eZ [H.length] (H++[(⟨.m,0,5,[.agg [.aa false (ae d.kn),.I d.tm.k,.str d.tm.s,.I d.tm.o,.aa false (ae d.tm.l)]]⟩:ax)]) G2:=⟨_,rfl⟩;rw[<-w]
   have gR:HR G:=by
    rw[w];have U:HR (cJ [H.length] (H++[(⟨.m,0,5,[.agg [.aa false (ae d.kn),.I d.tm.k,.str d.tm.s,.I d.tm.o,.aa false (ae d.tm.l)]]⟩:ax)])):=HR.L8 (y.cx (HV.one yxb));have h1:=f.hr U (bg _ _ (by rw[cU];simp));exact(S.hr h1 (bg _ _ (by rw[cU,cU];simp))).L9 (y.cx (HV.one yxb)) yxd
   have b:G[0]?=some (⟨.m,0,2,[.agg [.I 0,.I 0]]⟩:ax):=by
    have n1:0∉bJ Q:=λh=>by
     rcases v1 0 h with h |h;have:=O 0 h;omega;omega
    rw[w,Aw yxa,S.fr 0 yxa n1,f.fr 0 (by rw[tj];simp) (λh=>by have:=O 0 h;omega),JL yxa,af8 yM];exact g
   have gc:G[H.length]?=some (⟨.m,0,5,[.agg [.aa false (ae d.kn),.I d.tm.k,.str d.tm.s,.I d.tm.o,.aa false (ae d.tm.l)]]⟩:ax):=by rw[w];exact Gv LN yxa
   have gO:Out 4 G V (ae (bX (p++[d]))):=by
    have:=S.out;rw[e9,<-ch,<-ch]at this;rw[w,show bX (p++[d])=bX p++d.kn++[d.tm] by simp[bX]]
    exact this.of_eq λi B=>Aw (by
     rcases v2 i B with h |h;have:=nP i h;omega;omega)
   have gv:∀i∈bJ V,0<i:=λi B=>by
    rcases v2 i B with h |h;exact O i h;omega
   clear w S UR f UQ B8 D A oL
   by_cases hk:d.tm.k=1
   ·have Z:Ix d=0:=by rw[Ix,if_neg (by simp[hk])]
    refine wA ?_;exact .nx ⟨_,by rw[m4,Z,Int.add_zero],gR,b,gO,gv,.inl yxb⟩
   ·have Z:Ix d=size d.tm:=by rw[Ix,if_pos hk]
    rw[Z]at m2 m3 m4;refine wA ?_;refine .p jz ?_;refine wA ?_;exact .nx ⟨_,by rw[m4],gR,b,gO,gv,.inl yxb⟩
 ·rintro _ H Y ⟨v,rfl,y,g,N,O,bD⟩;have qH:=jV l;have hV:bN l=(fq (bX l)).filter λt=>decide (t.k=1):=rfl
  have QK:=nT (bX l);have vN:=aj (bX l);have hm:=ya l;have R:∀{p q:List Tm},fq (bX l)=p++q->(p.filter λt=>decide (t.k=1)).length<=p.length/\p.length<=(fq (bX l)).length:=λ{p q} e=>⟨ahf _ _,by rw[e];simp⟩
  rcases N with⟨rfl,e0⟩|⟨id,ep,rfl,e1⟩
  ·have ht:bX l=[]:=agm (by rw[<-vN,e0];rfl);refine wA ?_;refine ah.ex ((Mw H y).mono λr M z=>⟨z.1,_,HV.one rfl,z.2⟩) (λM hE=>?_);have b:=hE.at g;refine wA ?_;refine dU.zip T6 ([]:List Tm) (λp q L K=>L=[(2,.ptr 0 0 0 0),(4,.I (iM l)),(7,.I 0),(35,.aa true []),(36,.I 0),(37,.I p.length)]/\K=M) (.nx ⟨rfl,rfl⟩) ?_ ?_
   ·rintro p u q _ K Y e _
    cases p <;>cases e
   ·rintro _ _ Y ⟨rfl,rfl⟩;have Cb:bN l=[]:=by rw[hV,ht];rfl
    refine wA ?_;refine .abP (T:=T6) rfl rfl rfl rfl rfl ⟨rfl,rfl⟩ rfl rfl rfl rfl ?_;refine wA ?_;refine .mk ?_ (jJ (T:=T6) rfl (agc (ag b)) rfl rfl rfl rfl);exact⟨⟨_,rfl,by rw[Cb];rfl⟩⟩
  ·have h9:bX l≠[]:=λh=>by
    rcases bD with X |X
    ·cases l with
     |nil=>exact X rfl
     |cons d l=>simp[bX]at h
    cases X
   have qx:=mT (bX l) h9 H y id ep e1 yxa;rw[<-vN]at qx;refine wA ?_;refine .fr qx (λr M z hb=>?_) (λr M Q V r3 r4=>?_)
   ·obtain⟨_,id,ep,n,rfl,bL⟩:=z;simp[eI,cY,eu]at hb;omega
   obtain⟨⟨a,zP,tl,rfl,e2,e3⟩,id3,ep3,n,e4,bL⟩:=r4;obtain⟨rfl,_⟩:=PV.an.inj e4;have b:=(r3 0 (ag g)).trans g;refine wA ?_;refine dU.zip T6 (fq (bX l)) (λp q L K=>L=[(2,.ptr 0 0 0 0),(4,.I (iM l)),(7,.I (p.filter λt=>decide (t.k=1)).length),(35,.an a zP 0 (fq (bX l)).length),(36,.I (fq (bX l)).length),(37,.I p.length)]/\K[0]?=some (⟨.m,0,2,[.agg [.I 0,.I 0]]⟩:ax)/\K[a]?=some ⟨.m,zP,4,ae (fq (bX l))++tl⟩) (.nx ⟨rfl,b,e2⟩) ?_ ?_
   ·rintro p t q _ K Y e ⟨rfl,P,q1⟩
    have dm:(ae (fq (bX l))++tl)[0+p.length]?=some (.agg (Do t)):=by
     rw[agz,af8 (by rw[aj,e];simp)];exact bO e
    have eR:=lenE e;obtain⟨c1,c2⟩:=R e;have F:(K++[Pi t])[0]?=some (⟨.m,0,2,[.agg [.I 0,.I 0]]⟩:ax):=by rw[af8 (ag P)];exact P
    have J:(K++[Pi t])[a]?=some ⟨.m,zP,4,ae (fq (bX l))++tl⟩:=by rw[af8 (ag q1)];exact q1
    have af4:=aj (fq (bX l));refine wC (λW=>?_) λW=>?_
    ·have hf:((p++[t]).filter λt=>decide (t.k=1)).length=(p.filter λt=>decide (t.k=1)).length+1:=by simp[aia,W]
     exact .nx ⟨rfl,F,J⟩
    ·have hf:((p++[t]).filter λt=>decide (t.k=1)).length=(p.filter λt=>decide (t.k=1)).length:=by simp[aia,W]
     exact .nx ⟨rfl,F,J⟩
   ·rintro _ K Y ⟨rfl,P,q1⟩;refine wA ?_;refine .abP (T:=T6) rfl rfl rfl rfl rfl ⟨rfl,rfl⟩ rfl rfl rfl rfl ?_;refine wA ?_;refine .mk ?_ (jJ (T:=T6) rfl (agc (ag P)) rfl rfl rfl rfl);exact⟨⟨_,rfl,by rw[hV];rfl⟩⟩
end aI
namespace CfD
open Go.Proofs
variable[iD:Inhabited Prop]
def okB(D:List (List Nat)):Prop:=(∀b∈D,NZ b/\b.length<1000000)/\D.length<1000000
theorem Hy:∀{a b:List Nat},gd a=gd b->a=b
 |[],[],_=>rfl
 |[],_::_,h=>by simp[gd]at h
 |_::_,[],h=>by simp[gd]at h
 |x::a,y::b,h=>by
  simp only[gd,agp,aiz,PV.int.injEq,true_and]at h;rw[Hy (a:=a) (b:=b) h.2,Int.ofNat_inj.1 h.1]
theorem Dy:∀{a b:List (List Nat)},fA a=fA b->a=b
 |[],[],_=>rfl
 |[],_::_,h=>by simp[fA]at h
 |_::_,[],h=>by simp[fA]at h
 |x::a,y::b,h=>by
  simp only[fA,agp,aiz,PV.aa.injEq,true_and]at h;rw[Dy (a:=a) (b:=b) h.2,Hy h.1]
theorem OH(i:Func)(c:Code)(h1:aI.C.P.funcs[6]?=some i)(X:i.body=some c):codeOk i.ntmps c=true:=by
 obtain rfl:=af7 ((Tryz.func6).symm.trans h1);obtain rfl:=af7 ((show _=some _ from rfl).symm.trans X)
 kernel_rfl
end CfD
end Go.Pm
