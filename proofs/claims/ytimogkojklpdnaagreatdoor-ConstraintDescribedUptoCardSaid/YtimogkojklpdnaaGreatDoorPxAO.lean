/-
  Pm, a part. Conditions: none.
-/
import Derived.Test.YtimogkojklpdnaaGreatDoorPxAN
set_option linter.unusedVariables false
set_option linter.unusedSimpArgs false
set_option linter.unnecessarySimpa false
namespace Go.Pm
set_option maxRecDepth 4000
theorem Sc{p q:List Tm}{t:Tm}(h:fv (p++t::q)):bF p t=false:=by
 cases hh:bF p t with
 |false=>rfl
 |true=>
  have:=(acU.1 h).2.2 t (bU.1 hh) t (by simp);rw[cq]at this;omega
theorem kS(u r:List Tm):ar (mo u r)=true:=by rw[bB,abk];intro y hy;obtain⟨t,_,rfl⟩:=abZ.1 hy;rfl
theorem E9{α:Type}{f:α->PV}(h:∀a,b9 (f a)=f a)(l:List α):aR (l.map f)=l.map f:=by
 rw[cI,adh];exact ach λa _=>h a
theorem Se(u l:List Tm):aR (kV u l)=kV u l:=E9 (λ_=>rfl) l
theorem Sf(u r:List Tm):aR (mo u r)=mo u r:=E9 (λ_=>rfl) u
theorem Jj:∀(l:List Tm) (n:Nat),ar (BG n l)=true
 |[],_=>rfl
 |t::l,n=>by
  have:=Jj l (n+1);simp[BG,ar,aW,this]
theorem Wg{p:List Tm}{t:Tm}(hv:valid t=0)(hp:∀x∈p,valid x=0)(hn:bF p t=false):Mf (.str (ub t)) (.int .i64 p.length) (BG 0 p)=some (BG 0 (p++[t])):=by
 have:=qn hv p 0 0 hp;rw[hn]at this;unfold Mf;rw[this,Jh];simp[BG]
theorem Sg(u:List Tm):mo u []=List.replicate u.length (.bool false):=by
 induction u with
 |nil=>rfl
 |cons a u ih=>simp only[mo,abD]at ih ⊢;rw[ih];rfl
namespace bE
open Go.Proofs
attribute [local irreducible] aD az aL aJ Ev ah aj ay aY bJ
theorem La(u s:List Tm)(U:Bn u)(hs:∀x∈s,x∈u)(NE:s.length<1000000)(hl:u.length<1000000)(hb:∀t∈u,ax t<1000000):
  aI C 173 [.aa false (ae s),.aa false (ae u)] (.aa false (ae (qe u s))):=by
 have cr:=ai u;have iK:=ai s;have L9:∀t∈u,valid t=0:=λt ht=>(iE.1 (U.ok t ht)).1
 refine aI.x T6 Tryz.func173 rfl ?_;refine wA ?_;refine cO.zip T6 u (λp q L H=>L=[(0,.aa false (ae s)),(1,.aa false (ae u)),(5,.cD 0),(6,.int .i64 p.length)]/\H=[⟨.m,0,0,BG 0 p⟩]) (.nx ⟨rfl,rfl⟩) ?_ ?_
 ·rintro p t q _ _ ρ e ⟨rfl,rfl⟩;have cm:=bg e;have di:=lenE e;have mS:t∈u:=by rw[e];simp
  have Dv:=pf t (hb t mS);have KJ:=Wg (L9 t mS) (λx hx=>L9 x (by rw[e];simp[hx])) (Sc (e▸U.oT));rw[ao]at Dv;refine wA ?_;refine .p Dv ?_;refine wA ?_;refine .mk KJ ?_;refine wA ?_;exact .nx ⟨rfl,rfl⟩
 ·rintro _ _ ρ ⟨rfl,rfl⟩;have Vu:HR [(⟨.m,0,0,BG 0 u⟩:aw)]:=HR.wk (h:=[]) (by intro o ho;cases ho) (by simp) (bj _ _ (Jj u 0));have kH:=HC u U hl hb 0 [⟨.m,0,0,BG 0 u⟩] Vu rfl;refine wA ?_;refine .fr (P:=λr h'=>(∀i∈bV r,1<=i)/\∃els,Out 2 h' r els/\K' h' u r u els) kH (λr h hr Du=>?_) (λpv H0 r1 r2 r3 r4=>?_)
  ·obtain⟨g1,els,g2,g3⟩:=hr;refine⟨g1,els,?_⟩;rcases g2 with⟨rfl,rfl⟩|⟨id,ep,rfl,_⟩
   ·refine⟨.inl ⟨rfl,rfl⟩,g3.1,λi x hx=>?_⟩;have h5:=(ac4.1 hx).1;have h6:=g3.1;simp at h6;omega
   ·exfalso;have:=g1 id (by simp[bV]);simp[dZ,cK,dY]at Du;omega
  obtain⟨q1,els,q2,q3⟩:=r4;have h0m:H0[0]?=some ⟨.m,0,0,BG 0 u⟩:=r3 0 (by simp);have hK0:mo u []=List.replicate (ae u).length (.bool false):=by rw[Sg,cr]
  refine wA ?_;refine cO.zip T6 s (λp q L K=>∃r,L=[(0,.aa false (ae s)),(1,.aa false (ae u)),(5,.cD 0),(7,pv),(8,.ak H0.length 0 0 (ae u).length),(9,.int .i64 p.length)]/\(HR K/\H0.length+1<=K.length/\∀j,j<H0.length->K[j]?=H0[j]?)/\K[H0.length]?=some ⟨.m,0,1,mo u r⟩/\(∀x∈p,x∈r)/\∀x∈r,x∈s) (.nx ⟨[],rfl,⟨r1.wk (by simp) ?_,by simp,λj hj=>abj hj⟩,by rw[hK0];simp,by simp,by simp⟩) ?_ ?_
  ·exact bj _ _ (by rw[<-hK0];exact kS u [])
  ·rintro p x q _ K ρ e ⟨r,rfl,⟨k1,k2,k3⟩,kb,hp,hr⟩;have cm:=bg e;have di:=lenE e;have q9:=hs x (by rw[e];simp);have Dv:=pf x (hb x q9);have hf:=qn (L9 x q9) u 0 0 L9;rw[bU.2 q9,if_pos rfl,abE]at hf;have km:=(k3 0 (ag h0m)).trans h0m;have Dq:=uU (r:=r) U.oT q9;have cG:=uT U.oT q9;have Ae:=ku u r;have eL:=qZ (r:=r) U.oT q9;rw[<-abE (pz u x)]at Dq eL;rw[ao]at Dv;refine wA ?_;refine .p Dv ?_;refine wA ?_;refine .Mm hf ?_ km;refine wA ?_;refine .nx ⟨x::r,rfl,⟨k1.set _ (by simp) ?_,by simp;omega,λj hj=>by rw[abm (by omega)];exact k3 j hj⟩,?_,λy hy=>?_,λy hy=>?_⟩
   ·exact bj _ _ (by show ar ((mo u r).set (0+pz u x) (.bool true))=true;rw[eL];exact kS u _)
   ·rw[<-eL];exact abl (ag kb)
   ·rcases abp.1 hy with h |h
    ·simp[hp y h]
    ·simp at h;simp[h]
   ·rcases abu.1 hy with rfl |h
    ·rw[e];simp
    ·exact hr y h
  ·rintro _ K ρ ⟨r,rfl,hF,kb,hp,hr⟩;have Jk:Kp u s r:=⟨hp,λx hx=>⟨hs x (hr x hx),.base (hr x hx)⟩⟩;clear hp hr;refine wA ?_;refine cO.nat T6 (λn L K=>∃r g,n=eJ u r+(if g then 1 else 0)/\L=[(1,.aa false (ae u)),(7,pv),(8,.ak H0.length 0 0 (ae u).length),(10,.bool g)]/\(HR K/\H0.length+1<=K.length/\∀j,j<H0.length->K[j]?=H0[j]?)/\K[H0.length]?=some ⟨.m,0,1,mo u r⟩/\Kp u s r/\(g=false->OQ u r)) (eJ u r+1) (.nx ⟨r,true,rfl,rfl,hF,kb,Jk,by simp⟩) ?_;clear hF kb Jk;rintro n _ K ρ ⟨r,g,rfl,rfl,⟨k1,k2,k3⟩,kb,Jk,hfx⟩
   cases g with
   |false=>
    have pu:=(hfx rfl).eq U Jk;have Ae:=ku u r;rw[<-pu,<-HA u r (λx hx=>(Jk.Ep x hx).1) U.oT];refine wA ?_;refine cO.zip T6 u (λp q L J=>∃v,L=[(1,.aa false (ae u)),(8,.ak H0.length 0 0 (ae u).length),(14,v),(15,.int .i64 p.length)]/\HR J/\J[H0.length]?=some ⟨.m,0,1,mo u r⟩/\(∀i∈bV v,H0.length<i)/\Out 4 J v (ae (p.filter (bF r)))) (.nx ⟨_,rfl,k1,kb,by simp[bV],.inl ⟨rfl,rfl⟩⟩) ?_ ?_
    ·rintro p x q _ J ρ e ⟨v,rfl,hJ,jb,Ji,ho⟩;have cm:=bg e;have di:=lenE e;have Dq:(mo u r)[0+p.length]?=some (.bool (bF r x)):=by rw[abE,mo,abB,e,abt (abn _),acw];rfl
     have hle:=ai (p.filter (bF r));have IN:=acm (bF r) p;have m':(p++[x]).filter (bF r)=p.filter (bF r)++if bF r x then[x]else[]:=by rw[ada];cases hh:bF r x <;>simp[hh]
     rw[m']
     cases hx:bF r x
     ·rw[hx]at Dq;rw[if_neg (by simp),abJ];refine wA ?_;exact .nx ⟨_,rfl,hJ,jb,Ji,ho⟩
     ·rw[hx]at Dq;rw[if_pos rfl,bT];have wm:ae [x]=[.agg [.int .i64 x.k,.str x.s,.int .i64 x.o,.aa false (ae x.l)]]:=by rw[ae,ao];rfl
      rw[wm];refine wA ?_;refine .lr (λv' h' lr=>?_) ho;have W5:∀ep n,v≠.ak H0.length ep 0 n:=uW λhh=>by have:=Ji _ hh;omega
      have hjl:=ag jb;refine wA ?_;refine .nx ⟨_,rfl,lr.hr,(lr.fr _ hjl W5).trans jb,λi hi=>?_,lr.out⟩;rcases lr.bV i hi with h |h
      ·exact Ji i h
      ·omega
    ·rintro _ J ρ ⟨v,rfl,hJ,jb,Ji,ho⟩;refine wA ?_;exact Ls.Gc (.inl ho) (by simp) (by simp)
   |true=>
    refine wA ?_;refine cO.zip T6 u (λp q L J=>∃r' g',L=[(1,.aa false (ae u)),(7,pv),(8,.ak H0.length 0 0 (ae u).length),(10,.bool g'),(11,.int .i64 p.length)]/\(HR J/\H0.length+1<=J.length/\∀j,j<H0.length->J[j]?=H0[j]?)/\J[H0.length]?=some ⟨.m,0,1,mo u r'⟩/\Kp u s r'/\(g'=true->eJ u r'<eJ u r)/\(g'=false->r'=r/\∀t∈p,(wq t=true->t∈r)/\(mg r t=true->t∈r)/\(t∈r->∀x∈mA r t,x∈r))) (.nx ⟨r,false,rfl,⟨k1,k2,k3⟩,kb,Jk,by simp,λ_=>⟨rfl,by simp⟩⟩) ?_ ?_
    ·rintro p t q _ J ρ e ⟨r',g',rfl,⟨j1,j2,j3⟩,jb,Az,I1,qI⟩;have cm:=bg e;have di:=lenE e;have mS:t∈u:=by rw[e];simp
     have hup:u[p.length]?=some t:=by rw[e,abt (abn _),acw];rfl
     have Ae:=ku u r';have Dq:(mo u r')[0+p.length]?=some (.bool (bF r' t)):=by rw[abE,mo,abB,hup];rfl
     obtain⟨pe,qW,w,rfl,hw,hwd⟩:=q3.2 p.length t hup;have hwJ:Out 1 J w (kV u t.l):=hw.of_eq λk hk=>j3 k (hw.ls k hk)
     have hpu:=E7 t (by have:=hb t mS;omega) (by obtain⟨k,n,o,l⟩:=t;have h1:=ba l;have h2:=hb _ mS;simp only[ax]at h2;simp only[Tm.l];omega);have FM:=HB u r' U (by omega) t mS (by have:=hb t mS;omega) (Ay u t);have kU:=uV u r' U (by omega) t mS (by have:=hb t mS;omega) w H0.length J j1 hwJ jb;rcases q2 with⟨rfl,rfl⟩|⟨pid,pep,rfl,Lb⟩
     ·simp at qW
     have hpJ:=(j3 pid (ag Lb)).trans Lb;have abe:els[0+p.length]?=some (.agg [w,.int .i64 (Ay u t)]):=by rw[abE];exact qW
     have Z7:=q3.1;rw[ao]at hpu FM kU
     cases hx:bF r' t
     ·rw[hx]at Dq;rw[<-cr]at kU;have aaF:t∉r':=λh=>by rw[bU.2 h]at hx;cases hx
      obtain⟨W,hW1,hW2⟩:∃W,oB J w=some W/\b9 W=.aa false (kV u t.l):=by
       rcases hwJ with⟨rfl,h⟩|⟨id,ep,rfl,h⟩
       ·exact⟨_,rfl,by rw[h];rfl⟩
       ·exact⟨.aa false (kV u t.l),by simp[oB,getM,h],by simp[b9,Se]⟩
      have hrb:gz J [.agg [.int .i64 t.k,.str t.s,.int .i64 t.o,.aa false (ae t.l)],.agg [w,.int .i64 (Ay u t)],.ak H0.length 0 0 (ae u).length]=some [.agg [.int .i64 t.k,.str t.s,.int .i64 t.o,.aa false (ae t.l)],.agg [W,.int .i64 (Ay u t)],.aa false (mo u r')]:=by
       have hkv:=kS u r';have hg:getM J H0.length 0=some ⟨.m,0,1,mo u r'⟩:=bo jb rfl (by simp);have hle:(ae u).length=(mo u r').length:=by rw[cr,Ae]
       have a1:ke J (.agg [.int .i64 t.k,.str t.s,.int .i64 t.o,.aa false (ae t.l)])=some (.agg [.int .i64 t.k,.str t.s,.int .i64 t.o,.aa false (ae t.l)]):=by simp[ke,nw,oB,aW]
       have a2:ke J (.agg [w,.int .i64 (Ay u t)])=some (.agg [W,.int .i64 (Ay u t)]):=by simp only[ke,nw,hW1];rfl
       have a3:ke J (.ak H0.length 0 0 (ae u).length)=some (.aa false (mo u r')):=by simp[ke,oB,hg,hle,hkv]
       simp only[gz,a1,a2,a3]
      refine wA ?_;refine .p hpu ?_
      cases Tp:wq t
      ·refine wA ?_;refine aj.rbS hrb (by simp[aR,b9,hW2,aZ,Sf]) FM ?_
       cases Qw:mg r' t
       ·refine wA ?_;refine cO.zip T6 ([]:List Tm) (λa b L M=>L=[(1,.aa false (ae u)),(7,.ak pid pep 0 els.length),(8,.ak H0.length 0 0 (ae u).length),(10,.bool g'),(11,.int .i64 p.length),(12,.aa true []),(13,.int .i64 a.length)]/\M=J) (.nx ⟨rfl,rfl⟩) ?_ ?_
        ·rintro a x b _ _ ρ e2 _
         cases a <;>cases e2
        ·rintro _ _ ρ ⟨rfl,rfl⟩;refine wA ?_;refine .nx ⟨r',g',rfl,⟨j1,j2,j3⟩,jb,Az,I1,λh=>?_⟩;obtain⟨rfl,h2⟩:=qI h;refine⟨rfl,λy hy=>?_⟩;rcases abp.1 hy with hy |hy
         ·exact h2 y hy
         ·simp at hy;subst hy;exact⟨λh=>(by rw[Tp]at h;cases h),λh=>(by rw[Qw]at h;cases h),λh=>absurd h aaF⟩
       ·skip
        obtain⟨r1,LU⟩:∃r1,r1=t::r':=⟨_,rfl⟩;obtain⟨J1,FN⟩:∃J1:ab,J1=J.set H0.length ⟨.m,0,1,mo u r1⟩:=⟨_,rfl⟩;have eL:=qZ (r:=r') U.oT mS;rw[zh U.oT e,<-abE p.length,<-LU]at eL;have aaG:(mo u r1)[0+p.length]?=some (.bool true):=by rw[<-eL];exact abl (by omega)
        have aaH:=ku u r1;have Wh:J1[H0.length]?=some ⟨.m,0,1,mo u r1⟩:=by rw[FN];exact abl (ag jb)
        have j11:HR J1:=by rw[FN];exact j1.set _ (by simp) (bj _ _ (kS u r1))
        have j21:J1.length=J.length:=by rw[FN];simp
        have j31:∀j,j<H0.length->J1[j]?=H0[j]?:=λj hj=>by rw[FN,abm (by omega)];exact j3 j hj
        have Wi:Out 1 J1 w (kV u t.l):=hw.of_eq λk hk=>j31 k (hw.ls k hk)
        have OS:=uV u r1 U (by omega) t mS (by have:=hb t mS;omega) w H0.length J1 j11 Wi Wh;rw[<-cr,ao]at OS;have aaI:=(j31 pid (ag Lb)).trans Lb;have HE:Kp u s r1:=by rw[LU];exact Az.add mS (.comp mS (by unfold mg at Qw;simp at Qw;exact Qw.1) (λx hx=>by unfold mg at Qw;simp at Qw;exact(Az.Ep x (bU.1 (Qw.2 x hx))).2))
        have jJ:t∈r1:=by rw[LU];simp
        have hgm:eJ u r1<eJ u r:=by
         have h9:=mq (p:=p) (q:=q) hx;rw[<-e,<-LU]at h9
         cases LZ:g' with
         |true=>have:=I1 LZ;omega
         |false=>rw[(qI LZ).1]at h9;exact h9
        refine wA ?_;rw[eL,<-FN];have OT:∀x∈mA r1 t,x∈u/\sf u s x:=λx hx=>HE.opens U jJ hx
        have Zh:(mA r1 t).length<=t.l.length:=by
         unfold mA
         split
         ·exact abn _
         ·split
          ·rw[ab7];omega
          ·simp
        have uk:t.l.length<1000000:=by obtain⟨k,n,o,l⟩:=t;have h1:=ba l;have h2:=hb _ mS;simp only[ax]at h2;simp only[Tm.l];omega
        refine wA ?_;refine .fr (P:=λx h'=>tC J1 u (mA r1 t) x) OS (λr h hr hb=>hr) (λx J2 s1 s2 s3 s4=>?_);have hjb:=ag Wh;have F2:HR J2/\H0.length+1<=J2.length/\∀j,j<H0.length->J2[j]?=H0[j]?:=⟨s1,by omega,λj hj=>(s3 j (by omega)).trans (j31 j hj)⟩;have jbb:=(s3 _ hjb).trans Wh;rcases s4 with⟨Wj,rfl⟩|⟨aid,aep,tl,rfl,ha⟩
        ·refine wA ?_;refine cO.zip T6 ([]:List Tm) (λa b L M=>L=[(1,.aa false (ae u)),(7,.ak pid pep 0 els.length),(8,.ak H0.length 0 0 (ae u).length),(10,.bool true),(11,.int .i64 p.length),(12,.aa true []),(13,.int .i64 a.length)]/\M=J2) (.nx ⟨rfl,rfl⟩) ?_ ?_
         ·rintro a x b _ _ ρ e2 _
          cases a <;>cases e2
         ·rintro _ _ ρ ⟨rfl,rfl⟩;refine wA ?_;exact .nx ⟨r1,true,rfl,F2,jbb,HE,λ_=>hgm,by simp⟩
        ·have ha2:=(s3 aid (ag ha)).trans ha;have lu:=q8 u (mA r1 t);refine wA ?_;refine cO.zip T6 (mA r1 t) (λa b L M=>∃r2 g2,L=[(1,.aa false (ae u)),(7,.ak pid pep 0 els.length),(8,.ak H0.length 0 0 (ae u).length),(10,.bool g2),(11,.int .i64 p.length),(12,.ak aid aep 0 (mA r1 t).length),(13,.int .i64 a.length)]/\(HR M/\H0.length+1<=M.length/\∀j,j<H0.length->M[j]?=H0[j]?)/\M[H0.length]?=some ⟨.m,0,1,mo u r2⟩/\M[aid]?=some ⟨.m,aep,1,kV u (mA r1 t)++tl⟩/\Kp u s r2/\(∀y∈a,y∈r2)/\((g2=true/\r2=r1)\/(g2=true/\eJ u r2<eJ u r1))) (.nx ⟨r1,true,rfl,F2,jbb,ha2,HE,by simp,.inl ⟨rfl,rfl⟩⟩) ?_ ?_
         ·rintro a x b _ M ρ e2 ⟨r2,g2,rfl,⟨m1,m2,m3⟩,mb,ma,Dr,wy,uG⟩;have q9:=(OT x (by rw[e2];simp));have AX:=lenE e2;have Xb:(kV u (mA r1 t)++tl)[0+a.length]?=some (.int .i64 (pz u x)):=by rw[abE,abj (by omega)];exact CP e2
          have Zi:(kV u (mA r1 t)++tl).length=(mA r1 t).length+tl.length:=by rw[abr,lu]
          have Fa:=uU (r:=r2) U.oT q9.1;have cG:=uT U.oT q9.1;have Zj:=ku u r2;have eL:=qZ (r:=r2) U.oT q9.1;rw[<-abE (pz u x)]at Fa eL
          have bN:aid≠H0.length:=λhh=>by
           rw[hh,mb]at ma;have h5:mo u r2=kV u (mA r1 t)++tl:=by injection ma with h;injection h
           have h6:=congrArg (λl:List PV=>l[0+a.length]?) h5;simp only[Xb]at h6;rw[mo,abB]at h6
           cases hh6:u[0+a.length]? <;>rw[hh6]at h6 <;>simp at h6
          cases rE:bF r2 x
          ·rw[rE]at Fa;refine wA ?_;refine .nx ⟨x::r2,true,rfl,⟨m1.set _ (by simp) ?_,by simp;omega,λj hj=>by rw[abm (by omega)];exact m3 j hj⟩,?_,by rw[abm (λh=>bN h.symm)];exact ma,Dr.add q9.1 q9.2,λy hy=>?_,.inr ⟨rfl,?_⟩⟩
           ·exact bj _ _ (by show ar ((mo u r2).set (0+pz u x) (.bool true))=true;rw[eL];exact kS u _)
           ·rw[<-eL];exact abl (ag mb)
           ·rcases abp.1 hy with h |h
            ·simp[wy y h]
            ·simp at h;simp[h]
           ·obtain⟨pp,qq,e3⟩:=acC q9.1;have:=mq (p:=pp) (q:=qq) rE;rw[<-e3]at this;rcases uG with⟨_,rfl⟩|⟨_,h⟩ <;>omega
          ·rw[rE]at Fa;refine wA ?_;refine .nx ⟨r2,g2,rfl,⟨m1,m2,m3⟩,mb,ma,Dr,λy hy=>?_,uG⟩;rcases abp.1 hy with h |h
           ·exact wy y h
           ·simp at h;rw[h];exact bU.1 rE
         ·rintro _ M ρ ⟨r2,g2,rfl,F3,mb,ma,Dr,wy,uG⟩;refine wA ?_;refine .nx ⟨r2,g2,rfl,F3,mb,Dr,λh=>?_,λh=>?_⟩
          ·rcases uG with⟨_,rfl⟩|⟨_,h3⟩
           ·exact hgm
           ·omega
          ·rcases uG with⟨h3,_⟩|⟨h3,_⟩ <;>rw[h]at h3 <;>cases h3
      ·skip
       obtain⟨r1,LU⟩:∃r1,r1=t::r':=⟨_,rfl⟩;obtain⟨J1,FN⟩:∃J1:ab,J1=J.set H0.length ⟨.m,0,1,mo u r1⟩:=⟨_,rfl⟩;have eL:=qZ (r:=r') U.oT mS;rw[zh U.oT e,<-abE p.length,<-LU]at eL;have aaG:(mo u r1)[0+p.length]?=some (.bool true):=by rw[<-eL];exact abl (by omega)
       have aaH:=ku u r1;have Wh:J1[H0.length]?=some ⟨.m,0,1,mo u r1⟩:=by rw[FN];exact abl (ag jb)
       have j11:HR J1:=by rw[FN];exact j1.set _ (by simp) (bj _ _ (kS u r1))
       have j21:J1.length=J.length:=by rw[FN];simp
       have j31:∀j,j<H0.length->J1[j]?=H0[j]?:=λj hj=>by rw[FN,abm (by omega)];exact j3 j hj
       have Wi:Out 1 J1 w (kV u t.l):=hw.of_eq λk hk=>j31 k (hw.ls k hk)
       have OS:=uV u r1 U (by omega) t mS (by have:=hb t mS;omega) w H0.length J1 j11 Wi Wh;rw[<-cr,ao]at OS;have aaI:=(j31 pid (ag Lb)).trans Lb;have HE:Kp u s r1:=by rw[LU];exact Az.add mS (.W1 mS Tp)
       have jJ:t∈r1:=by rw[LU];simp
       have hgm:eJ u r1<eJ u r:=by
        have h9:=mq (p:=p) (q:=q) hx;rw[<-e,<-LU]at h9
        cases LZ:g' with
        |true=>have:=I1 LZ;omega
        |false=>rw[(qI LZ).1]at h9;exact h9
       refine wA ?_;rw[eL,<-FN];have OT:∀x∈mA r1 t,x∈u/\sf u s x:=λx hx=>HE.opens U jJ hx
       have Zh:(mA r1 t).length<=t.l.length:=by
        unfold mA
        split
        ·exact abn _
        ·split
         ·rw[ab7];omega
         ·simp
       have uk:t.l.length<1000000:=by obtain⟨k,n,o,l⟩:=t;have h1:=ba l;have h2:=hb _ mS;simp only[ax]at h2;simp only[Tm.l];omega
       refine wA ?_;refine .fr (P:=λx h'=>tC J1 u (mA r1 t) x) OS (λr h hr hb=>hr) (λx J2 s1 s2 s3 s4=>?_);have hjb:=ag Wh;have F2:HR J2/\H0.length+1<=J2.length/\∀j,j<H0.length->J2[j]?=H0[j]?:=⟨s1,by omega,λj hj=>(s3 j (by omega)).trans (j31 j hj)⟩;have jbb:=(s3 _ hjb).trans Wh;rcases s4 with⟨Wj,rfl⟩|⟨aid,aep,tl,rfl,ha⟩
       ·refine wA ?_;refine cO.zip T6 ([]:List Tm) (λa b L M=>L=[(1,.aa false (ae u)),(7,.ak pid pep 0 els.length),(8,.ak H0.length 0 0 (ae u).length),(10,.bool true),(11,.int .i64 p.length),(12,.aa true []),(13,.int .i64 a.length)]/\M=J2) (.nx ⟨rfl,rfl⟩) ?_ ?_
        ·rintro a x b _ _ ρ e2 _
         cases a <;>cases e2
        ·rintro _ _ ρ ⟨rfl,rfl⟩;refine wA ?_;exact .nx ⟨r1,true,rfl,F2,jbb,HE,λ_=>hgm,by simp⟩
       ·have ha2:=(s3 aid (ag ha)).trans ha;have lu:=q8 u (mA r1 t);refine wA ?_;refine cO.zip T6 (mA r1 t) (λa b L M=>∃r2 g2,L=[(1,.aa false (ae u)),(7,.ak pid pep 0 els.length),(8,.ak H0.length 0 0 (ae u).length),(10,.bool g2),(11,.int .i64 p.length),(12,.ak aid aep 0 (mA r1 t).length),(13,.int .i64 a.length)]/\(HR M/\H0.length+1<=M.length/\∀j,j<H0.length->M[j]?=H0[j]?)/\M[H0.length]?=some ⟨.m,0,1,mo u r2⟩/\M[aid]?=some ⟨.m,aep,1,kV u (mA r1 t)++tl⟩/\Kp u s r2/\(∀y∈a,y∈r2)/\((g2=true/\r2=r1)\/(g2=true/\eJ u r2<eJ u r1))) (.nx ⟨r1,true,rfl,F2,jbb,ha2,HE,by simp,.inl ⟨rfl,rfl⟩⟩) ?_ ?_
        ·rintro a x b _ M ρ e2 ⟨r2,g2,rfl,⟨m1,m2,m3⟩,mb,ma,Dr,wy,uG⟩;have q9:=(OT x (by rw[e2];simp));have AX:=lenE e2;have Xb:(kV u (mA r1 t)++tl)[0+a.length]?=some (.int .i64 (pz u x)):=by rw[abE,abj (by omega)];exact CP e2
         have Zi:(kV u (mA r1 t)++tl).length=(mA r1 t).length+tl.length:=by rw[abr,lu]
         have Fa:=uU (r:=r2) U.oT q9.1;have cG:=uT U.oT q9.1;have Zj:=ku u r2;have eL:=qZ (r:=r2) U.oT q9.1;rw[<-abE (pz u x)]at Fa eL
         have bN:aid≠H0.length:=λhh=>by
          rw[hh,mb]at ma;have h5:mo u r2=kV u (mA r1 t)++tl:=by injection ma with h;injection h
          have h6:=congrArg (λl:List PV=>l[0+a.length]?) h5;simp only[Xb]at h6;rw[mo,abB]at h6
          cases hh6:u[0+a.length]? <;>rw[hh6]at h6 <;>simp at h6
         cases rE:bF r2 x
         ·rw[rE]at Fa;refine wA ?_;refine .nx ⟨x::r2,true,rfl,⟨m1.set _ (by simp) ?_,by simp;omega,λj hj=>by rw[abm (by omega)];exact m3 j hj⟩,?_,by rw[abm (λh=>bN h.symm)];exact ma,Dr.add q9.1 q9.2,λy hy=>?_,.inr ⟨rfl,?_⟩⟩
          ·exact bj _ _ (by show ar ((mo u r2).set (0+pz u x) (.bool true))=true;rw[eL];exact kS u _)
          ·rw[<-eL];exact abl (ag mb)
          ·rcases abp.1 hy with h |h
           ·simp[wy y h]
           ·simp at h;simp[h]
          ·obtain⟨pp,qq,e3⟩:=acC q9.1;have:=mq (p:=pp) (q:=qq) rE;rw[<-e3]at this;rcases uG with⟨_,rfl⟩|⟨_,h⟩ <;>omega
         ·rw[rE]at Fa;refine wA ?_;refine .nx ⟨r2,g2,rfl,⟨m1,m2,m3⟩,mb,ma,Dr,λy hy=>?_,uG⟩;rcases abp.1 hy with h |h
          ·exact wy y h
          ·simp at h;rw[h];exact bU.1 rE
        ·rintro _ M ρ ⟨r2,g2,rfl,F3,mb,ma,Dr,wy,uG⟩;refine wA ?_;refine .nx ⟨r2,g2,rfl,F3,mb,Dr,λh=>?_,λh=>?_⟩
         ·rcases uG with⟨_,rfl⟩|⟨_,h3⟩
          ·exact hgm
          ·omega
         ·rcases uG with⟨h3,_⟩|⟨h3,_⟩ <;>rw[h]at h3 <;>cases h3
     ·rw[hx]at Dq;rw[<-cr]at kU;have jJ:t∈r':=bU.1 hx;have OT:∀x∈mA r' t,x∈u/\sf u s x:=λx hx=>Az.opens U jJ hx
      have Zh:(mA r' t).length<=t.l.length:=by
       unfold mA
       split
       ·exact abn _
       ·split
        ·rw[ab7];omega
        ·simp
      have uk:t.l.length<1000000:=by obtain⟨k,n,o,l⟩:=t;have h1:=ba l;have h2:=hb _ mS;simp only[ax]at h2;simp only[Tm.l];omega
      refine wA ?_;refine .fr (P:=λx h'=>tC J u (mA r' t) x) kU (λr h hr hb=>hr) (λx J2 s1 s2 s3 s4=>?_);have hjb:=ag jb;have F2:HR J2/\H0.length+1<=J2.length/\∀j,j<H0.length->J2[j]?=H0[j]?:=⟨s1,by omega,λj hj=>(s3 j (by omega)).trans (j3 j hj)⟩;have jb2:=(s3 _ hjb).trans jb;rcases s4 with⟨Wj,rfl⟩|⟨aid,aep,tl,rfl,ha⟩
      ·refine wA ?_;refine cO.zip T6 ([]:List Tm) (λa b L M=>L=[(1,.aa false (ae u)),(7,.ak pid pep 0 els.length),(8,.ak H0.length 0 0 (ae u).length),(10,.bool g'),(11,.int .i64 p.length),(12,.aa true []),(13,.int .i64 a.length)]/\M=J2) (.nx ⟨rfl,rfl⟩) ?_ ?_
       ·rintro a x b _ _ ρ e2 _
        cases a <;>cases e2
       ·rintro _ _ ρ ⟨rfl,rfl⟩;refine wA ?_;refine .nx ⟨r',g',rfl,F2,jb2,Az,I1,λh=>?_⟩;obtain⟨rfl,h2⟩:=qI h;refine⟨rfl,λy hy=>?_⟩;rcases abp.1 hy with hy |hy
        ·exact h2 y hy
        ·simp at hy;subst hy;exact⟨λ_=>jJ,λ_=>jJ,λ_ x hx=>by rw[Wj]at hx;cases hx⟩
      ·have ha2:=(s3 aid (ag ha)).trans ha;have lu:=q8 u (mA r' t);refine wA ?_;refine cO.zip T6 (mA r' t) (λa b L M=>∃r2 g2,L=[(1,.aa false (ae u)),(7,.ak pid pep 0 els.length),(8,.ak H0.length 0 0 (ae u).length),(10,.bool g2),(11,.int .i64 p.length),(12,.ak aid aep 0 (mA r' t).length),(13,.int .i64 a.length)]/\(HR M/\H0.length+1<=M.length/\∀j,j<H0.length->M[j]?=H0[j]?)/\M[H0.length]?=some ⟨.m,0,1,mo u r2⟩/\M[aid]?=some ⟨.m,aep,1,kV u (mA r' t)++tl⟩/\Kp u s r2/\(∀y∈a,y∈r2)/\((g2=g'/\r2=r')\/(g2=true/\eJ u r2<eJ u r'))) (.nx ⟨r',g',rfl,F2,jb2,ha2,Az,by simp,.inl ⟨rfl,rfl⟩⟩) ?_ ?_
       ·rintro a x b _ M ρ e2 ⟨r2,g2,rfl,⟨m1,m2,m3⟩,mb,ma,Dr,wy,uG⟩;have q9:=(OT x (by rw[e2];simp));have AX:=lenE e2;have Xb:(kV u (mA r' t)++tl)[0+a.length]?=some (.int .i64 (pz u x)):=by rw[abE,abj (by omega)];exact CP e2
        have Zi:(kV u (mA r' t)++tl).length=(mA r' t).length+tl.length:=by rw[abr,lu]
        have Fa:=uU (r:=r2) U.oT q9.1;have cG:=uT U.oT q9.1;have Zj:=ku u r2;have eL:=qZ (r:=r2) U.oT q9.1;rw[<-abE (pz u x)]at Fa eL
        have bN:aid≠H0.length:=λhh=>by
         rw[hh,mb]at ma;have h5:mo u r2=kV u (mA r' t)++tl:=by injection ma with h;injection h
         have h6:=congrArg (λl:List PV=>l[0+a.length]?) h5;simp only[Xb]at h6;rw[mo,abB]at h6
         cases hh6:u[0+a.length]? <;>rw[hh6]at h6 <;>simp at h6
        cases rE:bF r2 x
        ·rw[rE]at Fa;refine wA ?_;refine .nx ⟨x::r2,true,rfl,⟨m1.set _ (by simp) ?_,by simp;omega,λj hj=>by rw[abm (by omega)];exact m3 j hj⟩,?_,by rw[abm (λh=>bN h.symm)];exact ma,Dr.add q9.1 q9.2,λy hy=>?_,.inr ⟨rfl,?_⟩⟩
         ·exact bj _ _ (by show ar ((mo u r2).set (0+pz u x) (.bool true))=true;rw[eL];exact kS u _)
         ·rw[<-eL];exact abl (ag mb)
         ·rcases abp.1 hy with h |h
          ·simp[wy y h]
          ·simp at h;simp[h]
         ·obtain⟨pp,qq,e3⟩:=acC q9.1;have:=mq (p:=pp) (q:=qq) rE;rw[<-e3]at this;rcases uG with⟨_,rfl⟩|⟨_,h⟩ <;>omega
        ·rw[rE]at Fa;refine wA ?_;refine .nx ⟨r2,g2,rfl,⟨m1,m2,m3⟩,mb,ma,Dr,λy hy=>?_,uG⟩;rcases abp.1 hy with h |h
         ·exact wy y h
         ·simp at h;rw[h];exact bU.1 rE
       ·rintro _ M ρ ⟨r2,g2,rfl,F3,mb,ma,Dr,wy,uG⟩;refine wA ?_;refine .nx ⟨r2,g2,rfl,F3,mb,Dr,λh=>?_,λh=>?_⟩
        ·rcases uG with⟨rfl,rfl⟩|⟨_,h3⟩
         ·exact I1 h
         ·cases LZ:g' with
          |true=>have:=I1 LZ;omega
          |false=>rw[(qI LZ).1]at h3;exact h3
        ·rcases uG with⟨rfl,rfl⟩|⟨h3,_⟩
         ·obtain⟨rfl,h2⟩:=qI h;refine⟨rfl,λy hy=>?_⟩;rcases abp.1 hy with hy |hy
          ·exact h2 y hy
          ·simp at hy;subst hy;exact⟨λ_=>jJ,λ_=>jJ,λ_ x hx=>wy x hx⟩
         ·rw[h]at h3;cases h3
    ·rintro _ J ρ ⟨r',g',rfl,hF,jb,Az,I1,qI⟩;refine wA ?_;refine .nx ⟨eJ u r'+(if g' then 1 else 0),?_,r',g',rfl,rfl,hF,jb,Az,λh=>?_⟩
     ·cases g' with
      |true=>have:=I1 rfl;simp;omega
      |false=>rw[(qI rfl).1];simp
     ·obtain⟨rfl,h2⟩:=qI h;exact⟨λt ht=>(h2 t ht).1,λt ht=>(h2 t ht).2.1,λt ht=>(h2 t (Az.Ep t ht).1).2.2 ht⟩
theorem CR(u s:List Tm)(U:Bn u)(hs:∀x∈s,x∈u)(NE:s.length<1000000)(hl:u.length<1000000)(hb:∀t∈u,ax t<1000000):
  aI C 122 [.aa false (ae s),.aa false (ae u)] (.aa false (ae (qe u s))):=by
 have cr:=ai u;have hf:=La u s U hs NE hl hb;refine aI.x T6 Tryz.func122 rfl ?_;refine wA ?_;refine cO.zip T6 u (λp q L H=>L=[(0,.aa false (ae s)),(1,.aa false (ae u)),(5,.bool true),(6,.int .i64 p.length)]/\HV H) (.nx ⟨rfl,HV.nil⟩) ?_ ?_
 ·rintro p t q _ H ρ e ⟨rfl,hH⟩;have cm:=bg e;have di:=lenE e;have h1:=OO t (U.fr t (by rw[e];simp));rw[ao]at h1;refine wA ?_;refine .p h1 ?_;refine wA ?_;exact .nx ⟨rfl,hH⟩
 ·rintro _ H ρ ⟨rfl,hH⟩;refine wA ?_;refine .p hf ?_;refine wA ?_;exact⟨_,rfl,by simp[aO,b9,aZ]⟩
theorem yd(k:List Tm)(t:Tm)(hf:∀u∈k++[t],iQ u=true)(hl:bp (k++[t])<1000000):
  aI C 61 [.aa false (ae k),enc t] (.ct [.bool (nh k t),.int .i64 (fF k t)]):=by
 have vq:=ba (k++[t]);simp only[abr,abx,abX]at vq;have FK:∀u∈k++[t],ax u<1000000:=λu hu=>by have:=bC hu;omega
 have YO:=qS FK;have hUl:=mh (k++[t]);have h1:=K8 k t hf hl
 by_cases hE:fF k t=0
 ·rw[if_neg (by omega),hE]at h1
  have hrk:jg (k++[t])=0:=by
   unfold fF at hE
   split at hE
   ·omega
   ·split at hE
    ·omega
    ·omega
  have U:Bn (fQ (k++[t])):=Ob λx hx=>⟨(Bq (sg hrk x hx)).1,hf x hx⟩
  have Yw:∀x∈gb k,x∈fQ (k++[t]):=λx hx=>(eG _ _).2 (fm.2 ⟨x,by simp[(eG _ _).1 hx],pT x⟩)
  have h2:=tO k (by omega) (λx hx=>by have:=FK x (by simp[hx]);omega);have NE:=pU k;have h3:=CR _ _ U Yw (by omega) (by omega) YO;have Iz:(qe (fQ (k++[t])) (gb k)).length<1000000:=by have:=acm (λx=>@decide (sf (fQ (k++[t])) (gb k) x) (Classical.propDecidable _)) (fQ (k++[t]));unfold qe;omega
  have h4:=Hx (qe (fQ (k++[t])) (gb k)) t (by have:=FK t (by simp);omega) (by omega) (λb hb=>by have:=YO b (I2.1 hb).1;omega);have hR:nh k t=bF (qe (fQ (k++[t])) (gb k)) t:=by rw[nh,decide_eq_true hE,acs]
  rw[hR,hE];rw[ao]at h1 h4 ⊢;refine aI.x T6 Tryz.func61 rfl ?_;refine wA ?_;refine .p h1 ?_;refine wA ?_;refine .p h2 ?_;refine wA ?_;refine .p h3 ?_;refine wA ?_;refine .p h4 ?_;refine wA ?_;exact⟨_,rfl,rfl⟩
 ·rw[if_pos hE]at h1;have hR:nh k t=false:=by rw[nh,decide_eq_false hE,Bool.false_and]
  rw[hR];rw[ao]at h1 ⊢;refine aI.x T6 Tryz.func61 rfl ?_;refine wA ?_;refine .p h1 ?_;refine wA ?_;exact⟨_,rfl,rfl⟩
theorem Jl:∀l:List Tm,(l.flatMap bu).length<=bp l
 |[]=>by simp[bp]
 |t::l=>by
  have h1:=eO t;have h2:=Jl l;simp only[acJ,abr,bp];omega
theorem Ak(l:List fV)(S:List dD)(hl:uC l<900000)(hS:ya S<900000)(yb:∀b∈S,iQ b.t=true):
  aI C 59 [.aa false (cw l),.aa false (bD S)] (.int .i64 (lc l S)):=by
 have iK:=gi S;have hSl:=yk S;have V0:∀b∈S,ax b.v<900000/\ax b.t<900000:=λb hb=>by have:=yl hb;omega
 have h1:=Fb S (by omega) (λb hb=>by have:=V0 b hb;omega);have h2:=yL l (by omega);have rU:=kM l;have uk:=ba (cW l);have FM:∀t∈cW l,ax t<900000:=λt ht=>by have:=bC ht;omega
 have hvq:gb ((cW l).flatMap bu)=dj l:=DZ l
 have h3:aI C 21 [.aa false (ae (cW l))] (.aa false (ae (dj l))):=by
  rw[<-hvq];exact p9 (cW l) (by have:=Jl (cW l);omega) (by omega) (λt ht=>by have:=FM t ht;omega)
 have oQ:=ai (dj l);have PS:(dj l).length<1000000:=by have:=mh (cW l);have:=acm (λt=>decide (t.k=1)) (fQ (cW l));unfold dj;unfold cW at *;omega
 refine aI.x T6 Tryz.func59 rfl ?_;refine wA ?_;refine .p h1 ?_;refine wC (λhc=>?_) λhc=>?_
 ·refine .p h2 ?_;refine wA ?_;refine .p h3 ?_;refine wA ?_;refine cO.zip T6 (dj l) (λp q L H=>L=[(1,.aa false (bD S)),(6,.aa false (ae (dj l))),(7,.int .i64 p.length)]/\HV H/\∀x∈p,En S x=true) (.nx ⟨rfl,HV.nil,by simp⟩) ?_ ?_
  ·rintro p x q _ H ρ e ⟨rfl,hH,hp⟩;have cm:=bg e;have di:=lenE e;have hxb:ax x<900000:=qS FM x (acf.1 (show x∈dj l by rw[e];simp)).1;refine wA ?_;refine cO.zip T6 S (λa b L K=>L=[(1,.aa false (bD S)),(6,.aa false (ae (dj l))),(7,.int .i64 p.length),(8,.bool (En a x)),(9,.int .i64 a.length)]/\HV K) (.nx ⟨rfl,hH⟩) ?_ ?_
   ·rintro a b0 c _ K ρ e2 ⟨rfl,hK⟩;have nf:=gH e2;have AX:=lenE e2;have P5:=(oc b0.v x (by have:=(V0 b0 (by rw[e2];simp)).1;omega) (by omega)).nine;have m':En (a++[b0]) x=(En a x ||decide (aT b0.v x=0)):=by simp[En]
    rw[ao,ao]at P5;rw[m']
    cases En a x
    ·refine wA ?_;refine .p P5 ?_;refine wA ?_;exact .nx ⟨rfl,hK⟩
    ·refine wA ?_;exact .nx ⟨rfl,hK⟩
   ·rintro _ K ρ ⟨rfl,hK⟩
    cases P0:En S x
    ·have ED:¬iD S≠0->lc l S=13:=λh=>by
      have h7:(dj l).all (En S)=false:=by rw[e];simp[P0]
      rw[lc,if_neg h,if_pos h7]
     refine wA ?_;exact⟨_,rfl,by rw[ED (by omega)];rfl⟩
    ·refine wA ?_;refine .nx ⟨rfl,hK,λy hy=>?_⟩;rcases abp.1 hy with h |h
     ·exact hp y h
     ·simp at h;rw[h];exact P0
  ·rintro _ H ρ ⟨rfl,hH,hp⟩;have xL:(dj l).all (En S)=true:=abk.2 hp;refine wA ?_;refine cO.zip T6 S (λp q L H=>L=[(1,.aa false (bD S)),(10,.int .i64 p.length)]/\HV H/\∀b∈p,bu b.t=[]) (.nx ⟨rfl,hH,by simp⟩) ?_ ?_
   ·rintro p b q _ H ρ e ⟨rfl,hH,hp⟩;have cm:=gH e;have di:=lenE e;have hg:=vU b.t (by have:=(V0 b (by rw[e];simp)).2;omega);rw[ao]at hg;refine wA ?_;refine .p hg ?_
    by_cases hv:bu b.t=[]
    ·rw[decide_eq_true hv];refine wA ?_;refine .nx ⟨rfl,hH,λy hy=>?_⟩;rcases abp.1 hy with h |h
     ·exact hp y h
     ·simp at h;rw[h];exact hv
    ·rw[decide_eq_false hv];have h6:S.any (λb=>decide (bu b.t≠[]))=true:=xg e (decide_eq_true hv);have ED:lc l S=13:=by rw[lc,if_neg (by omega),if_neg (by rw[xL];simp),if_pos h6]
     refine wA ?_;exact⟨_,rfl,by rw[ED];rfl⟩
   ·rintro _ H ρ ⟨rfl,hH,hp⟩
    have Te:¬S.any (λb=>decide (bu b.t≠[]))=true:=by
     rw[aci];rintro⟨b,hb,h⟩;exact of_decide_eq_true h (hp b hb)
    refine wA ?_;refine cO.zip T6 S (λp q L H=>L=[(1,.aa false (bD S)),(11,.int .i64 p.length)]/\HV H/\∀b∈p,gw b.t=0) (.nx ⟨rfl,hH,by simp⟩) ?_ ?_
    ·rintro p b q _ H ρ e ⟨rfl,hH,hp⟩;have cm:=gH e;have di:=lenE e;have MU:b∈S:=by rw[e];simp
     have hg:=zg b.t (yb b MU) (by have:=(V0 b MU).2;omega);rw[ao]at hg;refine wA ?_;refine .p hg ?_
     by_cases hv:gw b.t=0
     ·rw[decide_eq_true hv];refine wA ?_;refine .nx ⟨rfl,hH,λy hy=>?_⟩;rcases abp.1 hy with h |h
      ·exact hp y h
      ·simp at h;rw[h];exact hv
     ·rw[decide_eq_false hv];have h6:S.any (λb=>decide (gw b.t≠0))=true:=xg e (decide_eq_true hv);have ED:lc l S=10:=by rw[lc,if_neg (by omega),if_neg (by rw[xL];simp),if_neg Te,if_pos h6]
      refine wA ?_;exact⟨_,rfl,by rw[ED];rfl⟩
    ·rintro _ H ρ ⟨rfl,hH,hp⟩
     have hs3:¬S.any (λb=>decide (gw b.t≠0))=true:=by
      rw[aci];rintro⟨b,hb,h⟩;exact of_decide_eq_true h (hp b hb)
     have ED:lc l S=0:=by rw[lc,if_neg (by omega),if_neg (by rw[xL];simp),if_neg Te,if_neg hs3]
     refine wA ?_;exact⟨_,rfl,by rw[ED];rfl⟩
 ·exact⟨_,rfl,by rw[lc,if_pos (by omega)];rfl⟩
theorem Gx(l:List fV)(S:List dD)(hl:uC l<900000)(hS:ya S<900000)(yb:∀b∈S,iQ b.t=true):
  aI C 17 [.aa false (cw l),.aa false (bD S)] (.ct [.bool (kL l S).1,.int .i64 (kL l S).2]):=by
 have cr:=jT l;have Iz:=pX l
 have LX:∀d∈l,d.kn.length<10000000/\∀t∈d.kn++[d.tm],ax t<10000000:=λd hd=>by
  have h1:=DS hd;have h2:=ba d.kn;refine⟨by omega,λt ht=>?_⟩;rcases abp.1 ht with ht |ht
  ·have:=bC ht;omega
  ·simp at ht;subst ht;omega
 have h1:=Nq l (by omega) LX;have h2:=Ak l S hl hS yb;refine aI.x T6 Tryz.func17 rfl ?_;refine wA ?_;refine .p h1 ?_;refine wC (λhc=>?_) λhc=>?_
 ·have Im:nL l=0:=by omega
  obtain⟨zJ,WK⟩:=A0 Im;refine .p h2 ?_;refine wC (λhc=>?_) λhc=>?_
  ·have WC:lc l S=0:=by omega
   have hS:iD S=0:=by
    unfold lc at WC
    split at WC
    ·rename_i hn;exact absurd WC hn
    ·omega
   have hMM:kL l S=gf S l:=by rw[kL,if_neg (by omega),if_neg (by omega)]
   rw[hMM];refine cO.zip T6 l (λp q L H=>L=[(0,.aa false (cw l)),(1,.aa false (bD S)),(8,.int .i64 p.length)]/\HV H/\∀u∈p,lA S u=0/\fF (cc S u.kn) (da S u.tm)=0/\nh (cc S u.kn) (da S u.tm)=true) (.nx ⟨rfl,HV.nil,by simp⟩) ?_ ?_
   ·rintro p u q _ H ρ e ⟨rfl,hH,hp⟩;have cm:=kJ e;have di:=lenE e;obtain⟨Ty,Gy⟩:=WK u (by rw[e];simp);have Yi:=QN S hS u (by omega) (λt ht=>by have:=dx (Gy t ht);omega);have hz:=J6 (S:=S) (d:=u);have hG:∀n,gf S (u::q)=n->gf S l=n:=λn h=>by rw[e];exact yc h hp
    have Ch:lA S u≠0->gf S l=(false,lA S u):=λh=>hG _ (by rw[gf,if_pos h])
    obtain⟨w,hw⟩:∃w,w=Ci S u:=⟨_,rfl⟩;rw[<-hw]at Yi hz;rw[kZ u,kZ w]at Yi;refine wA ?_;refine .p Yi ?_;refine wC (λhc=>?_) λhc=>?_
    ·have WM:lA S u=0:=by omega
     have Tz:=hz WM;obtain⟨_,_,hdb⟩:=uD WM;have WN:w.kn=cc S u.kn:=by rw[Tz];rfl
     have Yj:w.tm=da S u.tm:=by rw[Tz];rfl
     have Dq:(w.kn++[w.tm]).length<=41:=by rw[WN,abr,gS];simp;omega
     have Cj:bp (w.kn++[w.tm])<1000000:=by
      have:=td (B:=10000) (l:=w.kn++[w.tm]) (by rw[WN,Yj];exact hdb);have:=abY 10000 Dq;omega
     have hfw:∀t∈w.kn++[w.tm],iQ t=true:=λt ht=>by
      rw[WN,Yj]at ht;rcases abp.1 ht with h |h
      ·rw[eN]at h;obtain⟨y,hy,rfl⟩:=abZ.1 h;exact wZ yb y (qM (Gy y (by simp[hy])))
      ·simp at h;rw[h];exact wZ yb u.tm (qM (Gy u.tm (by simp)))
     have B8:=yd w.kn w.tm hfw Cj;rw[ao w.tm]at B8;have Vb:fF w.kn w.tm≠0->gf S l=(false,fF w.kn w.tm):=λh=>hG _ (by rw[gf,if_neg (by omega),<-WN,<-Yj,if_pos h])
     have Vc:fF w.kn w.tm=0->nh w.kn w.tm=false->gf S l=(false,0):=λh h'=>hG _ (by rw[gf,if_neg (by omega),<-WN,<-Yj,if_neg (by omega),if_pos h'])
     refine .p B8 ?_
     cases Nr:nh w.kn w.tm
     ·refine wC (λhc=>?_) λhc=>?_
      ·exact⟨_,rfl,by rw[Vc (by omega) Nr];simp[aO,b9,aR];omega⟩
      ·exact⟨_,rfl,by rw[Vb (by omega)];rfl⟩
     ·have Yk:fF w.kn w.tm=0:=by
       unfold nh at Nr;simp at Nr;exact Nr.1
      rw[Yk];refine wA ?_;refine .nx ⟨rfl,?_,λy hy=>?_⟩
      ·exact hH.cB (HV.one (by simp))
      ·rcases abp.1 hy with h |h
       ·exact hp y h
       ·simp at h;rw[h,<-WN,<-Yj];exact⟨WM,Yk,Nr⟩
    ·exact⟨_,rfl,by rw[Ch (by omega)];rfl⟩
   ·rintro _ H ρ ⟨rfl,hH,hp⟩;refine wA ?_;exact⟨_,rfl,by rw[uE hp];rfl⟩
  ·have hM:kL l S=(false,lc l S):=by rw[kL,if_neg (by omega),if_pos (by omega)]
   exact⟨_,rfl,by rw[hM];rfl⟩
 ·have hM:kL l S=(false,nL l):=by rw[kL,if_pos (by omega)]
  exact⟨_,rfl,by rw[hM];rfl⟩
theorem EE(b:List (List Nat))(s:List Nat)(hb:∀y∈b,FI y)(hs:FI s)(Du:b.length<100000000)(NE:s.length<100000000):
  aI C 4 [.aa false (gZ b),.aa false (eW s)] (.bool true):=by
 have haw:=JB;have h1:=J9 b s (by omega) (by omega);have hS:Cp b s=(decide (b.length<=5)&&decide (s.length<=10)&& !(b.any p8)):=rfl
 cases hsh:Cp b s
 ·rw[hsh]at h1;refine aI.x T6 Tryz.func4 rfl ?_;refine wA ?_;refine .p haw ?_;refine wA ?_;refine .p h1 ?_;refine wA ?_;refine .p haw ?_;refine wA ?_;exact⟨_,rfl,rfl⟩
 ·rw[hsh]at h1 hS;have hS:=hS.symm;simp only[abq,decide_eq_true_eq,acG]at hS;obtain⟨⟨hb5,aa9⟩,Y1⟩:=hS
  have Cj:∀y∈b,FI y/\y.length<1000000:=λy hy=>by
   have:=acH.1 Y1 y hy;simp only[p8,decide_eq_true_eq]at this;exact⟨hb y hy,by omega⟩
  have h2:=Kb b Cj (by omega);have hd:=DX b;have h3:=yL (eV b) (by omega);have h4:=Kg b;have hv4:=(oX b).1;have h5:aI C 20 [.aa false (ae (dj (eV b))),.aa false (eW s)] (.aa false (bD (Ao b s))):=GF (dj (eV b)) s hs (by omega) (by omega) (λt ht=>by have:=(x8 t ((oX b).2 t ht)).2;omega);have AS:=NI b s;have yb:∀x∈Ao b s,iQ x.t=true:=λx hx=>(IS b s x hx).2.1
  have Iz:=pX (eV b);have aba:=DY b s;have h6:=GJ (eV b) (Ao b s) (by omega) (by omega) yb;have h7:=Gx (eV b) (Ao b s) (by omega) (by omega) yb;generalize eV b=l at *;generalize Ao b s=S at *;generalize dj l=V at *;generalize(kL l S).1=hx at *;generalize(kL l S).2=he at *;obtain⟨r1,H1,a1,o1,v1,k1⟩:=rF (Hh l) (by rw[jT];omega) [];obtain⟨r2,H2,a2,o2,v2,k2⟩:=rF (Hi S) (by rw[gi];omega) H1
  have LY:Out 5 H2 r1 (cw l):=o1.of_eq λi hi=>by
   have h1:=o1.ls i hi;have h2:H1[i]?=some H1[i]:=abo h1;rw[k2 i _ h2,h2]
  refine aI.x T6 Tryz.func4 rfl ?_;refine wA ?_;refine .p haw ?_;refine wA ?_;refine .p h1 ?_;refine wA ?_;refine .p h2 ?_;refine wA ?_;refine .p h3 ?_;refine wA ?_;refine .p h4 ?_;refine wA ?_;refine .p h5 ?_;refine wA ?_;refine aj.cS rfl a1 ?_;refine wA ?_;refine aj.cS rfl a2 ?_;refine wA ?_;refine call2 (.inl LY) (.inl o2) h6 (λh'=>?_);refine wA ?_;refine .p h7 ?_
  cases hx
  all_goals
   refine wA ?_;exact⟨_,rfl,rfl⟩
end bE
end Go.Pm
