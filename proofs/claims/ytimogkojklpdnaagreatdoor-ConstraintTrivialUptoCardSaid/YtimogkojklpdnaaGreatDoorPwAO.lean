/-
  Pm, a part. Conditions: none.
-/
import Derived.Test.YtimogkojklpdnaaGreatDoorPwAN
set_option linter.unusedVariables false
set_option linter.unusedSimpArgs false
set_option linter.unnecessarySimpa false
namespace Go.Pm
open Go.Proofs
section
variable{C:cW}(T:mD C.P){h:ab}
set_option maxRecDepth 4000
theorem wR.apN{sz:Nat}{L:Al}{t el:TypeId}{x y:Operand}{v e z:PV}{es:List PV}{iy gu:Nat}{K:PV->ab->Prop}(o:Out (sz+1) h v es)(hye:h[iy]?=some ⟨.m,0,sz+1,[e]⟩)(hv:∀ep n,v≠.ak iy ep 0 n)(hn:es.length<1000000)(hR:HR h)(hve:bG (λi=>decide (i<h.length)) (es++[e])=true)(he:(cells e).length=sz+1/\(cells e).all bM=true)
  (kk:∀v' h',LR h v (sz+1) (es++[e]) v' h'->Rn (K v' h')) (hx:cS L x=some v:=by rfl) (hy:cS L y=some (.ak iy 0 0 1):=by rfl) (hk:T.kd t=some (.sl el):=by rfl) (hs:T.ts el=some (sz+1):=by rfl) (hb:T.tb el=some gu:=by rfl) (hz:T.tz el=some z:=by rfl) (ju:gu<=1000:=by decide) (hl:(cells z).length=sz+1:=by rfl) (ho:(cells z).all bM=true:=by rfl):
  wR C (.call ⟨.builtin .append,#[x,y],#[t,t]⟩) L h K:=by
 have hgy:getM h iy 0=some ⟨.m,0,sz+1,[e]⟩:=bp hye rfl (by simp)
 have hrm:∀m,m<1000002->roomy m gu=true:=λm hm=>by
  unfold roomy;rw[ab4,decide_eq_true_eq,decide_eq_true_eq];have:m * gu<=1000002 * 1000:=adZ (by omega) ju
  omega
 have cz:cB h (.ak iy 0 0 1)=some [e]:=by simp[cB,hgy]
 have hce:([e].all λv=>decide ((cells v).length=sz+1)&& (cells v).all bM)=true:=by simp only[acT,adC,adp,ab4,decide_eq_true_eq];exact he
 rcases o with⟨rfl,rfl⟩|⟨id,ep,rfl,e2⟩
 ·refine .mk (v:=.ak h.length 0 0 1) (h':=h++[⟨.m,0,sz+1,[e]⟩]) (λrun O=>?_) (kk _ _ ⟨.inr ⟨h.length,0,rfl,by simp⟩,hR.wT (by simp) (eA (f:=λi=>decide (i<h.length)) (λi hi=>by have:=of_decide_eq_true hi;exact decide_eq_true (by omega)) _ (by simpa using hve)),by simp,λj hj _=>abW hj,λj ep n hh=>by cases hh;exact .inr (abZ _)⟩);simp only[au,bt,acg,acr,an hx,an hy,bT,bB (T.cY _ _ hk),T.ez _ _ hs,T.rE _ _ hb,T.nH _ _ hz,cH,cz];rw[if_pos ⟨by omega,by omega,⟨hl,ho⟩,hce⟩];simp[hrm 1 (by omega),newObj]
 ·have bO:id≠iy:=λhh=>hv ep es.length (by rw[hh])
  have hg:getM h id ep=some ⟨.m,ep,sz+1,es⟩:=bp e2 rfl (by simp);refine .mk (v:=.ak id (ep+1) 0 (es.length+1)) (h':=h.set id ⟨.m,ep+1,sz+1,es++[e]⟩) (λrun O=>?_) (kk _ _ ⟨.inr ⟨id,ep+1,by simp,abY (ag e2)⟩,hR.set id (by simp) hve,by simp,λj hj hjv=>ab0 (λhh=>hjv ep es.length (by rw[hh])),λj iC n hh=>by cases hh;exact .inl ⟨ep,es.length,rfl⟩⟩);simp only[au,bt,acg,acr,an hx,an hy,bT,bB (T.cY _ _ hk),T.ez _ _ hs,T.rE _ _ hb,T.nH _ _ hz,cH,cz,hg];rw[if_pos ⟨by omega,by omega,⟨hl,ho⟩,hce⟩,if_pos ⟨by simp,trivial⟩];have Ni:iP id (.ak iy 0 0 1)=false:=by simp[iP];exact λhh=>bO hh.symm
  simp[Ni,hrm (es.length+1) (by omega)]
end
end Go.Pm
namespace Go.Pm
namespace bC
open Go.Proofs
attribute [local irreducible] aD az aL aJ Ev ah aj ay bg bN
set_option maxRecDepth 4000
@[simp] theorem wh(v:PV)(b:Bool):fQ false v b=v:=rfl
@[simp] theorem W7(u l:List Tm):ao (kW u l)=true:=by rw[bw,abX];intro y hy;obtain⟨t,_,rfl⟩:=aci.1 hy;rfl
theorem SZ(u a b:List Tm):kW u (a++b)=kW u a++kW u b:=by simp[kW]
def abg(H:ab)(u:List Tm)(v:PV)(t:Tm)(e:PV):Prop:=∃w,e=.agg [w,.int .i64 (AD u t)]/\Out 1 H w (kW u t.l)/\∀i∈b9 w,i∉b9 v
def LS(H:ab)(u:List Tm)(v:PV)(p:List Tm)(els:List PV):Prop:=els.length=p.length/\∀(i:Nat) (t:Tm),p[i]?=some t->∃e,els[i]?=some e/\abg H u v t e
theorem vq{v:PV}{k:Nat}(h:k∉b9 v):∀ep n,v≠.ak k ep 0 n:=λep n hh=>h (by rw[hh];simp[b9])
theorem xv{H K J1 h':ab}{u p:List Tm}{t:Tm}{v v' w:PV}{els:List PV}
  (Dr:H.length<=K.length) (z8:∀j,j<H.length->K[j]?=H[j]?) (JL:∀i∈b9 v,H.length<=i) (ho:Out 2 K v els) (jR:LS K u v p els)
  (hJl:K.length+1<=J1.length) (S9:∀j,j<K.length->J1[j]?=K[j]?) (MN:∀i∈b9 w,K.length<i) (hw:Out 1 J1 w (kW u t.l))
  (lr:LR J1 v 2 (els++[.agg [w,.int .i64 (AD u t)]]) v' h'):
  (HR h'/\H.length<=h'.length/\∀j,j<H.length->h'[j]?=H[j]?)/\(∀i∈b9 v',H.length<=i)/\Out 2 h' v' (els++[.agg [w,.int .i64 (AD u t)]])/\LS h' u v' (p++[t]) (els++[.agg [w,.int .i64 (AD u t)]]):=by
 have hlen:=lr.len;have hvK:∀i∈b9 v,i<K.length:=λi hi=>ho.ls i hi
 have xR:∀i∈b9 v',i∈b9 v\/J1.length<=i:=lr.b9;refine⟨⟨lr.hr,by omega,λj hj=>?_⟩,λi hi=>?_,lr.out,by simp[jR.1],λi x hx=>?_⟩
 ·rw[lr.fr j (by omega) (vq λhh=>by have:=JL j hh;omega),S9 j (by omega)];exact z8 j hj
 ·rcases xR i hi with h |h;exact JL i h;omega
 ·by_cases YB:i<p.length
  ·rw[abW YB]at hx;obtain⟨e,he,w',rfl,Cc,hd⟩:=jR.2 i x hx;refine⟨_,by rw[abW (by rw[jR.1];exact YB)];exact he,w',rfl,Cc.of_eq λk hk=>?_,λk hk hkv=>?_⟩
   ·have hkK:=Cc.ls k hk;rw[lr.fr k (by omega) (vq (hd k hk)),S9 k hkK]
   ·have hkK:=Cc.ls k hk;rcases xR k hkv with h |h;exact hd k hk h;omega
  ·have abh:i=p.length:=by
    have:=(ac6.1 hx).1;simp at this;omega
   subst abh;rw[ab6 (abZ _),ade]at hx;obtain rfl:t=x:=by simpa using hx
   refine⟨.agg [w,.int .i64 (AD u t)],by rw[<-jR.1,ab6 (abZ _),ade];rfl,w,rfl,hw.of_eq λk hk=>?_,λk hk hkv=>?_⟩
   ·have h1:=MN k hk;have h2:=hw.ls k hk;exact lr.fr k h2 (vq λhh=>by have:=hvK k hh;omega)
   ·have h1:=MN k hk;have h2:=hw.ls k hk;rcases xR k hkv with h |h;have:=hvK k h;omega;omega
theorem C4{J1:ab}{v w:PV}{els l:List PV}{key:Int}(hR:HR J1)(ho:Out 2 J1 v els)(hw:Out 1 J1 w l):bG (λi=>decide (i<J1.length)) (els++[.agg [w,.int .i64 key]])=true:=by
 refine q8 ?_ (by simpa[bG,bu]using hw.bu);rcases ho with⟨_,rfl⟩|⟨id,ep,_,e⟩
 rfl
 exact(hR _ (acb e)).2
theorem Ia(u:List Tm)(U:xo u)(hl:u.length<1000000)(hb:∀t∈u,ax t<1000000)(m:Nat)(H:ab)(hH:HR H)(h0:H[m]?=some ⟨.m,0,0,BL 0 u⟩):
  ay C 226 [.aa false (ae u),.cG m] H (λx h'=>HR h'/\H.length<=h'.length/\(∀j,j<H.length->h'[j]?=H[j]?)/\(∀i∈b9 x,H.length<=i)/\∃els,Out 2 h' x els/\LS h' u x u els):=by
 have cz:=ai u;have MO:∀t∈u,valid t=0:=λt ht=>(fh.1 (U.ok t ht)).1
 refine ay.x T6 Tryz.func226 rfl ?_;refine wA ?_;refine cU.zip T6 u (λp q L K=>∃v els,L=[(0,.aa false (ae u)),(1,.cG m),(5,v),(6,.int .i64 p.length)]/\(HR K/\H.length<=K.length/\∀j,j<H.length->K[j]?=H[j]?)/\(∀i∈b9 v,H.length<=i)/\Out 2 K v els/\LS K u v p els) (.nx ⟨_,[],rfl,⟨hH,abZ _,λ_ _=>rfl⟩,by simp[b9],.inl ⟨rfl,rfl⟩,rfl,by simp⟩) ?_ ?_
 ·rintro p t q _ K O e ⟨v,els,rfl,⟨hK,Dr,z8⟩,JL,ho,oX,jR⟩;have cC:=ba e;have dp:=lenE e;have mU:t∈u:=by rw[e];simp
  have sZ:=ai t.l;have sF:t.l.length<1000000:=by obtain⟨k,n,o,l⟩:=t;have h1:=aY l;have h2:=hb _ mU;simp only[ax]at h2;simp only[Tm.l];omega
  refine wA ?_;refine cU.zip T6 t.l (λa b L J=>∃w,L=[(0,.aa false (ae u)),(1,.cG m),(5,v),(6,.int .i64 p.length),(7,.ptr K.length 0 0 0),(8,.int .i64 a.length)]/\(HR J/\K.length+1<=J.length/\∀j,j<K.length->J[j]?=K[j]?)/\(∀i∈b9 w,K.length<i)/\J[K.length]?=some ⟨.m,0,2,[.agg [w,.int .i64 (-1)]]⟩/\Out 1 J w (kW u a)) (.nx ⟨_,rfl,⟨hK.wT (by simp) (by simp[bG,bu]),by simp,λj hj=>abW hj⟩,by simp[b9],by simp,.inl ⟨rfl,rfl⟩⟩) ?_ ?_
  ·rintro a x b _ J O e2 ⟨w,rfl,⟨hJ,hJl,S9⟩,MN,h1,hw⟩;have nh:=ba e2;have Cj:=lenE e2;have ri:=U.kids t mU x (by rw[e2];simp);have hm:=(S9 m (by have:=ag h0;omega)).trans ((z8 m (ag h0)).trans h0);have hf:=qx (MO x ri) u 0 0 MO;rw[bX.2 ri,if_pos rfl,acf]at hf;have gH:=rf u a;have FX:=pu x (hb x ri);rw[ar]at FX;refine wA ?_;refine .mk (.str (uq x)) (by simpa[aQ,cj,aZ]using FX) ?_;refine wA ?_;refine .IJ hf ?_ hm;refine wA ?_;refine .lr (λw' h' lr=>?_) hw;have lo:=lr.out;have hrr:=lr.hr;have hwn:∀ep n,w≠.ak K.length ep 0 n:=λep n hh=>by have:=MN K.length (by rw[hh];simp[b9]);omega
   have g1:=(lr.fr K.length (by omega) hwn).trans h1;have hlen:=lr.len;have iv:=lo.bu;rcases lo with⟨_,hx⟩|⟨id,ep,rfl,bZ⟩
   ·have:=congrArg List.length hx;simp at this
   have QW:K.length<id:=by
    rcases lr.b9 id (by simp[b9])with h |h;exact MN id h;omega
   have lE:kW u (a++[x])=kW u a++[fQ false (.int .i64 (pI u x)) true]:=by rw[SZ];rfl
   have hwj:∀j,j<K.length->∀ep n,w≠.ak j ep 0 n:=λj hj ep n hh=>by have:=MN j (by rw[hh];simp[b9]);omega
   refine wA ?_;refine .nx ⟨_,rfl,⟨hrr.set _ (by simp) (by simpa[bG,bu]using iv),by simp;omega,λj hj=>by rw[ab0 (by omega),lr.fr j (by omega) (hwj j hj)];exact S9 j hj⟩,by simp[b9];exact QW,abY (ag g1),.inr ⟨id,ep,by rw[lE],by rw[lE,ab0 (by omega)];exact bZ⟩⟩
  ·rintro _ J O ⟨w,rfl,⟨hJ,hJl,S9⟩,MN,h1,hw⟩;have gK:=Pv t (by have:=hb t mU;omega);have io:AD u t=if jH t=0 then(pI u (ck t):Int)else -1:=rfl;rw[ar,ar (ck t)]at gK;have hoJ:Out 2 J v els:=ho.of_eq λk hk=>S9 k (ho.ls k hk)
   have hm:=(S9 m (by have:=ag h0;omega)).trans ((z8 m (ag h0)).trans h0);have KR:LS K u v p els:=⟨oX,jR⟩;have F':HR (J++[(⟨.m,0,4,[.agg [.int .i64 (ck t).k,.str (ck t).s,.int .i64 (ck t).o,.aa false (ae (ck t).l)]]⟩:aw)]):=hJ.du (HV.one (by simp));have CA:=hoJ.db [(⟨.m,0,4,[.agg [.int .i64 (ck t).k,.str (ck t).s,.int .i64 (ck t).o,.aa false (ae (ck t).l)]]⟩:aw)];have hw1:=hw.db [(⟨.m,0,4,[.agg [.int .i64 (ck t).k,.str (ck t).s,.int .i64 (ck t).o,.aa false (ae (ck t).l)]]⟩:aw)];have W8:∀j,j<K.length->(J++[(⟨.m,0,4,[.agg [.int .i64 (ck t).k,.str (ck t).s,.int .i64 (ck t).o,.aa false (ae (ck t).l)]]⟩:aw)])[j]?=K[j]?:=λj hj=>by rw[abW (by omega)];exact S9 j hj
   have g1:(J++[(⟨.m,0,4,[.agg [.int .i64 (ck t).k,.str (ck t).s,.int .i64 (ck t).o,.aa false (ae (ck t).l)]]⟩:aw)])[K.length]?=some ⟨.m,0,2,[.agg [w,.int .i64 (-1)]]⟩:=by rw[abW (by omega)];exact h1
   by_cases hk:jH t=0
   ·rw[hk]at gK;rw[if_pos hk]at io;have ge:=U.key mU hk;have hf2:=qx (MO _ ge.1) u 0 0 MO;rw[bX.2 ge.1,if_pos rfl,acf]at hf2;have Ga:=pu (ck t) (hb _ ge.1);rw[ar]at Ga;have Wl:(J++[(⟨.m,0,4,[.agg [.int .i64 (ck t).k,.str (ck t).s,.int .i64 (ck t).o,.aa false (ae (ck t).l)]]⟩:aw)])[m]?=some ⟨.m,0,0,BL 0 u⟩:=by rw[abW (by have:=ag h0;omega)];exact hm
    obtain⟨J1,Fx⟩:∃J1:ab,J1=(J++[(⟨.m,0,4,[.agg [.int .i64 (ck t).k,.str (ck t).s,.int .i64 (ck t).o,.aa false (ae (ck t).l)]]⟩:aw)]).set K.length ⟨.m,0,2,[.agg [w,.int .i64 (pI u (ck t))]]⟩:=⟨_,rfl⟩;have xe:J1.length=J.length+1:=by rw[Fx];simp
    have hwv:=hw1.bu;have Qw:HR J1:=by rw[Fx];exact F'.set K.length (by simp) (by simpa[bG,bu]using hwv)
    have Ck:Out 2 J1 v els:=CA.of_eq λk hk=>by rw[Fx,ab0 (by have:=ho.ls k hk;omega)]
    have hw3:Out 1 J1 w (kW u t.l):=hw1.of_eq λk hk=>by rw[Fx,ab0 (by have:=MN k hk;omega)]
    have ZW:∀j,j<K.length->J1[j]?=K[j]?:=λj hj=>by rw[Fx,ab0 (by omega)];exact W8 j hj
    have g3:J1[K.length]?=some ⟨.m,0,2,[.agg [w,.int .i64 (pI u (ck t))]]⟩:=by rw[Fx];exact abY (ag g1)
    have KZ:=λv' h' lr=>xv (t:=t) (v':=v') (h':=h') Dr z8 JL ho KR (by omega:K.length+1<=J1.length) ZW MN hw3 lr
    rw[io]at KZ;rcases hw with⟨rfl,hw0⟩|⟨wi,wep,rfl,hwe⟩
    ·refine wA ?_;refine .p gK ?_;refine wA ?_;refine .p Ga ?_;refine wA ?_;refine .IJ hf2 ?_ Wl;refine wA ?_;rw[wh,<-Fx];refine wA ?_;refine .lr (λv' h' lr=>?_) Ck rfl (by simp[oX];omega) (C4 Qw Ck hw3) Qw;refine wA ?_;obtain⟨q1,q2,q3,q4⟩:=KZ _ _ lr;exact .nx ⟨_,_,rfl,q1,q2,q3,q4⟩
    ·obtain⟨PB,hPB⟩:∃PB:aw,PB=⟨.m,0,2,[.agg [.ak wi wep 0 (kW u t.l).length,.int .i64 (pI u (ck t))]]⟩:=⟨_,rfl⟩
     have DR:HR (J1++[PB]):=by
      rw[hPB];have:=ag hwe;exact Qw.wT (by simp) (by simp[bG,bu];omega)
     have x7:=Ck.db [PB];have RI:=hw3.db [PB];have W9:∀j,j<K.length->(J1++[PB])[j]?=K[j]?:=λj hj=>by rw[abW (by omega)];exact ZW j hj
     have Ib:=λv' h' lr=>xv (t:=t) (v':=v') (h':=h') Dr z8 JL ho KR (by simp;omega:K.length+1<=(J1++[PB]).length) W9 MN RI lr
     rw[io]at Ib;have hy:(J1++[PB])[J1.length]?=some PB:=ad2;have nJ:=C4 (key:=(pI u (ck t):Int)) DR x7 RI;have hvn:∀ep n,v≠.ak J1.length ep 0 n:=vq λhh=>by have:=ho.ls _ hh;omega
     rw[hPB]at Ib hy DR x7 nJ;refine wA ?_;refine .p gK ?_;refine wA ?_;refine .p Ga ?_;refine wA ?_;refine .IJ hf2 ?_ Wl;refine wA ?_;rw[wh,<-Fx];refine wA ?_;refine wR.apN (sz:=1) T6 x7 hy hvn (by omega) DR nJ ⟨rfl,rfl⟩ (λv' h' lr=>?_);refine wA ?_;obtain⟨q1,q2,q3,q4⟩:=Ib _ _ lr;exact .nx ⟨_,_,rfl,q1,q2,q3,q4⟩
   ·rw[if_neg hk]at io;have KZ:=λv' h' lr=>xv (t:=t) (v':=v') (h':=h') Dr z8 JL ho KR (by simp;omega:K.length+1<=(J++[(⟨.m,0,4,[.agg [.int .i64 (ck t).k,.str (ck t).s,.int .i64 (ck t).o,.aa false (ae (ck t).l)]]⟩:aw)]).length) W8 MN hw1 lr
    rw[io]at KZ;rcases hw with⟨rfl,hw0⟩|⟨wi,wep,rfl,hwe⟩
    ·refine wA ?_;refine .p gK ?_;refine wA ?_;refine .lr (λv' h' lr=>?_) CA rfl (by simp[oX];omega) (C4 F' CA hw1) F';refine wA ?_;obtain⟨q1,q2,q3,q4⟩:=KZ _ _ lr;exact .nx ⟨_,_,rfl,q1,q2,q3,q4⟩
    ·obtain⟨PB,hPB⟩:∃PB:aw,PB=⟨.m,0,2,[.agg [.ak wi wep 0 (kW u t.l).length,.int .i64 (-1)]]⟩:=⟨_,rfl⟩
     have DR:HR (J++[(⟨.m,0,4,[.agg [.int .i64 (ck t).k,.str (ck t).s,.int .i64 (ck t).o,.aa false (ae (ck t).l)]]⟩:aw)]++[PB]):=by
      rw[hPB];have:=ag hwe;exact F'.wT (by simp) (by simp[bG,bu];omega)
     have x7:=CA.db [PB];have RI:=hw1.db [PB];have W9:∀j,j<K.length->(J++[(⟨.m,0,4,[.agg [.int .i64 (ck t).k,.str (ck t).s,.int .i64 (ck t).o,.aa false (ae (ck t).l)]]⟩:aw)]++[PB])[j]?=K[j]?:=λj hj=>by rw[abW (by simp;omega)];exact W8 j hj
     have Ib:=λv' h' lr=>xv (t:=t) (v':=v') (h':=h') Dr z8 JL ho KR (by simp;omega:K.length+1<=(J++[(⟨.m,0,4,[.agg [.int .i64 (ck t).k,.str (ck t).s,.int .i64 (ck t).o,.aa false (ae (ck t).l)]]⟩:aw)]++[PB]).length) W9 MN RI lr
     rw[io]at Ib;have hy:(J++[(⟨.m,0,4,[.agg [.int .i64 (ck t).k,.str (ck t).s,.int .i64 (ck t).o,.aa false (ae (ck t).l)]]⟩:aw)]++[PB])[(J++[(⟨.m,0,4,[.agg [.int .i64 (ck t).k,.str (ck t).s,.int .i64 (ck t).o,.aa false (ae (ck t).l)]]⟩:aw)]).length]?=some PB:=ad2;have nJ:=C4 (key:=-1) DR x7 RI;have hvn:∀ep n,v≠.ak (J++[(⟨.m,0,4,[.agg [.int .i64 (ck t).k,.str (ck t).s,.int .i64 (ck t).o,.aa false (ae (ck t).l)]]⟩:aw)]).length ep 0 n:=vq λhh=>by have:=ho.ls _ hh;simp at this;omega
     rw[hPB]at Ib hy DR x7 nJ;refine wA ?_;refine .p gK ?_;refine wA ?_;refine wR.apN (sz:=1) T6 x7 hy hvn (by omega) DR nJ ⟨rfl,rfl⟩ (λv' h' lr=>?_);refine wA ?_;obtain⟨q1,q2,q3,q4⟩:=Ib _ _ lr;exact .nx ⟨_,_,rfl,q1,q2,q3,q4⟩
 ·rintro _ K O ⟨v,els,rfl,⟨hK,Dr,z8⟩,JL,ho,jR⟩;refine wA ?_;exact⟨hK,Dr,z8,JL,els,ho,jR⟩
end bC
set_option maxRecDepth 4000
theorem Ta{p q:List Tm}{t:Tm}(h:fu (p++t::q)):bJ p t=false:=by
 cases hh:bJ p t with
 |false=>rfl
 |true=>
  have:=(adE.1 h).2.2 t (bX.1 hh) t (by simp);rw[cc]at this;omega
theorem kT(u r:List Tm):ao (ms u r)=true:=by rw[bw,abX];intro y hy;obtain⟨t,_,rfl⟩:=aci.1 hy;rfl
theorem Fy{α:Type}{f:α->PV}(h:∀a,cj (f a)=f a)(l:List α):aQ (l.map f)=l.map f:=by
 rw[cL,adY];exact acZ λa _=>h a
theorem Tb(u l:List Tm):aQ (kW u l)=kW u l:=Fy (λ_=>rfl) l
theorem Tc(u r:List Tm):aQ (ms u r)=ms u r:=Fy (λ_=>rfl) u
theorem JM:∀(l:List Tm) (n:Nat),ao (BL n l)=true
 |[],_=>rfl
 |t::l,n=>by
  have:=JM l (n+1);simp[BL,ao,aU,this]
theorem Xa{p:List Tm}{t:Tm}(hv:valid t=0)(hp:∀x∈p,valid x=0)(hn:bJ p t=false):Gb (.str (uq t)) (.int .i64 p.length) (BL 0 p)=some (BL 0 (p++[t])):=by
 have:=qx hv p 0 0 hp;rw[hn]at this;unfold Gb;rw[this,JK];simp[BL]
theorem Td(u:List Tm):ms u []=List.replicate u.length (.bool false):=by
 induction u with
 |nil=>rfl
 |cons a u ih=>simp only[ms,acg]at ih ⊢;rw[ih];rfl
namespace bC
open Go.Proofs
attribute [local irreducible] aD az aL aJ Ev ah aj ay bg bN
theorem LU(u s:List Tm)(U:xo u)(hs:∀x∈s,x∈u)(G7:s.length<1000000)(hl:u.length<1000000)(hb:∀t∈u,ax t<1000000):
  aI C 173 [.aa false (ae s),.aa false (ae u)] (.aa false (ae (qn u s))):=by
 have cz:=ai u;have jt:=ai s;have MO:∀t∈u,valid t=0:=λt ht=>(fh.1 (U.ok t ht)).1
 refine aI.x T6 Tryz.func173 rfl ?_;refine wA ?_;refine cU.zip T6 u (λp q L H=>L=[(0,.aa false (ae s)),(1,.aa false (ae u)),(5,.cG 0),(6,.int .i64 p.length)]/\H=[⟨.m,0,0,BL 0 p⟩]) (.nx ⟨rfl,rfl⟩) ?_ ?_
 ·rintro p t q _ _ O e ⟨rfl,rfl⟩;have cC:=ba e;have dp:=lenE e;have mU:t∈u:=by rw[e];simp
  have FX:=pu t (hb t mU);have Lu:=Xa (MO t mU) (λx hx=>MO x (by rw[e];simp[hx])) (Ta (e▸U.oB));rw[ar]at FX;refine wA ?_;refine .p FX ?_;refine wA ?_;refine .mk Lu ?_;refine wA ?_;exact .nx ⟨rfl,rfl⟩
 ·rintro _ _ O ⟨rfl,rfl⟩;have Wb:HR [(⟨.m,0,0,BL 0 u⟩:aw)]:=HR.wT (h:=[]) (by intro o ho;cases ho) (by simp) (bm _ _ (JM u 0));have jR:=Ia u U hl hb 0 [⟨.m,0,0,BL 0 u⟩] Wb rfl;refine wA ?_;refine .fr (P:=λr h'=>(∀i∈b9 r,1<=i)/\∃els,Out 2 h' r els/\LS h' u r u els) jR (λr h hr DJ=>?_) (λpv H0 r1 r2 r3 r4=>?_)
  ·obtain⟨g1,els,g2,g3⟩:=hr;refine⟨g1,els,?_⟩;rcases g2 with⟨rfl,rfl⟩|⟨id,ep,rfl,_⟩
   ·refine⟨.inl ⟨rfl,rfl⟩,g3.1,λi x hx=>?_⟩;have h5:=(ac6.1 hx).1;have h6:=g3.1;simp at h6;omega
   ·exfalso;have:=g1 id (by simp[b9]);simp[dV,cN,dU]at DJ;omega
  obtain⟨q1,els,q2,q3⟩:=r4;have h0m:H0[0]?=some ⟨.m,0,0,BL 0 u⟩:=r3 0 (by simp);have hK0:ms u []=List.replicate (ae u).length (.bool false):=by rw[Td,cz]
  refine wA ?_;refine cU.zip T6 s (λp q L K=>∃r,L=[(0,.aa false (ae s)),(1,.aa false (ae u)),(5,.cG 0),(7,pv),(8,.ak H0.length 0 0 (ae u).length),(9,.int .i64 p.length)]/\(HR K/\H0.length+1<=K.length/\∀j,j<H0.length->K[j]?=H0[j]?)/\K[H0.length]?=some ⟨.m,0,1,ms u r⟩/\(∀x∈p,x∈r)/\∀x∈r,x∈s) (.nx ⟨[],rfl,⟨r1.wT (by simp) ?_,by simp,λj hj=>abW hj⟩,by rw[hK0];simp,by simp,by simp⟩) ?_ ?_;exact bm _ _ (by rw[<-hK0];exact kT u [])
  ·rintro p x q _ K O e ⟨r,rfl,⟨k1,k2,k3⟩,kb,hp,hr⟩;have cC:=ba e;have dp:=lenE e;have ri:=hs x (by rw[e];simp);have FX:=pu x (hb x ri);have hf:=qx (MO x ri) u 0 0 MO;rw[bX.2 ri,if_pos rfl,acf]at hf;have km:=(k3 0 (ag h0m)).trans h0m;have DG:=vn (r:=r) U.oB ri;have cM:=vj U.oB ri;have sZ:=kE u r;have eT:=re (r:=r) U.oB ri;rw[<-acf (pI u x)]at DG eT;rw[ar]at FX;refine wA ?_;refine .p FX ?_;refine wA ?_;refine .IJ hf ?_ km;refine wA ?_;refine .nx ⟨x::r,rfl,⟨k1.set _ (by simp) ?_,by simp;omega,λj hj=>by rw[ab0 (by omega)];exact k3 j hj⟩,?_,λy hy=>?_,λy hy=>?_⟩;exact bm _ _ (by show ao ((ms u r).set (0+pI u x) (.bool true))=true;rw[eT];exact kT u _);rw[<-eT];exact abY (ag kb)
   ·rcases ab2.1 hy with h |h;simp[hp y h];simp at h;simp[h]
   ·rcases ab5.1 hy with rfl |h;rw[e];simp;exact hr y h
  ·rintro _ K O ⟨r,rfl,hF,kb,hp,hr⟩;have JN:Kp u s r:=⟨hp,λx hx=>⟨hs x (hr x hx),.base (hr x hx)⟩⟩;clear hp hr;refine wA ?_;refine cU.nat T6 (λn L K=>∃r g,n=eQ u r+(if g then 1 else 0)/\L=[(1,.aa false (ae u)),(7,pv),(8,.ak H0.length 0 0 (ae u).length),(10,.bool g)]/\(HR K/\H0.length+1<=K.length/\∀j,j<H0.length->K[j]?=H0[j]?)/\K[H0.length]?=some ⟨.m,0,1,ms u r⟩/\Kp u s r/\(g=false->Pz u r)) (eQ u r+1) (.nx ⟨r,true,rfl,rfl,hF,kb,JN,by simp⟩) ?_;clear hF kb JN;rintro n _ K O ⟨r,g,rfl,rfl,⟨k1,k2,k3⟩,kb,JN,hfx⟩
   cases g with
   |false=>
    have pF:=(hfx rfl).eq U JN;have sZ:=kE u r;rw[<-pF,<-H8 u r (λx hx=>(JN.EO x hx).1) U.oB];refine wA ?_;refine cU.zip T6 u (λp q L J=>∃v,L=[(1,.aa false (ae u)),(8,.ak H0.length 0 0 (ae u).length),(14,v),(15,.int .i64 p.length)]/\HR J/\J[H0.length]?=some ⟨.m,0,1,ms u r⟩/\(∀i∈b9 v,H0.length<i)/\Out 4 J v (ae (p.filter (bJ r)))) (.nx ⟨_,rfl,k1,kb,by simp[b9],.inl ⟨rfl,rfl⟩⟩) ?_ ?_
    ·rintro p x q _ J O e ⟨v,rfl,hJ,jb,JL,ho⟩;have cC:=ba e;have dp:=lenE e;have DG:(ms u r)[0+p.length]?=some (.bool (bJ r x)):=by rw[acf,ms,ace,e,ab6 (abZ _),ade];rfl
     have hle:=ai (p.filter (bJ r));have Jc:=acV (bJ r) p;have lE:(p++[x]).filter (bJ r)=p.filter (bJ r)++if bJ r x then[x]else[]:=by rw[adJ];cases hh:bJ r x <;>simp[hh]
     rw[lE]
     cases hx:bJ r x
     ·rw[hx]at DG;rw[if_neg (by simp),ack];refine wA ?_;exact .nx ⟨_,rfl,hJ,jb,JL,ho⟩
     ·rw[hx]at DG;rw[if_pos rfl,bS];have uN:ae [x]=[.agg [.int .i64 x.k,.str x.s,.int .i64 x.o,.aa false (ae x.l)]]:=by rw[ae,ar];rfl
      rw[uN];refine wA ?_;refine .lr (λv' h' lr=>?_) ho;have hvn:∀ep n,v≠.ak H0.length ep 0 n:=vq λhh=>by have:=JL _ hh;omega
      have hjl:=ag jb;refine wA ?_;refine .nx ⟨_,rfl,lr.hr,(lr.fr _ hjl hvn).trans jb,λi hi=>?_,lr.out⟩;rcases lr.b9 i hi with h |h;exact JL i h;omega
    ·rintro _ J O ⟨v,rfl,hJ,jb,JL,ho⟩;refine wA ?_;exact Ls.Gy (.inl ho) (by simp) (by simp)
   |true=>
    refine wA ?_;refine cU.zip T6 u (λp q L J=>∃r' g',L=[(1,.aa false (ae u)),(7,pv),(8,.ak H0.length 0 0 (ae u).length),(10,.bool g'),(11,.int .i64 p.length)]/\(HR J/\H0.length+1<=J.length/\∀j,j<H0.length->J[j]?=H0[j]?)/\J[H0.length]?=some ⟨.m,0,1,ms u r'⟩/\Kp u s r'/\(g'=true->eQ u r'<eQ u r)/\(g'=false->r'=r/\∀t∈p,(nV t=true->t∈r)/\(mn r t=true->t∈r)/\(t∈r->∀x∈mE r t,x∈r))) (.nx ⟨r,false,rfl,⟨k1,k2,k3⟩,kb,JN,by simp,λ_=>⟨rfl,by simp⟩⟩) ?_ ?_
    ·rintro p t q _ J O e ⟨r',g',rfl,⟨j1,j2,j3⟩,jb,AE,Jw,qQ⟩;have cC:=ba e;have dp:=lenE e;have mU:t∈u:=by rw[e];simp
     have hup:u[p.length]?=some t:=by rw[e,ab6 (abZ _),ade];rfl
     have sZ:=kE u r';have DG:(ms u r')[0+p.length]?=some (.bool (bJ r' t)):=by rw[acf,ms,ace,hup];rfl
     obtain⟨pe,tT,w,rfl,hw,hwd⟩:=q3.2 p.length t hup;have hwJ:Out 1 J w (kW u t.l):=hw.of_eq λk hk=>j3 k (hw.ls k hk)
     have hpu:=Fw t (by have:=hb t mU;omega) (by obtain⟨k,n,o,l⟩:=t;have h1:=aY l;have h2:=hb _ mU;simp only[ax]at h2;simp only[Tm.l];omega);have Dp:=H9 u r' U (by omega) t mU (by have:=hb t mU;omega) (AD u t);have kV:=vp u r' U (by omega) t mU (by have:=hb t mU;omega) w H0.length J j1 hwJ jb;rcases q2 with⟨rfl,rfl⟩|⟨pid,pep,rfl,LV⟩;simp at tT;have hpJ:=(j3 pid (ag LV)).trans LV;have abQ:els[0+p.length]?=some (.agg [w,.int .i64 (AD u t)]):=by rw[acf];exact tT
     have abR:=q3.1;rw[ar]at hpu Dp kV
     cases hx:bJ r' t
     ·rw[hx]at DG;rw[<-cz]at kV;have abi:t∉r':=λh=>by rw[bX.2 h]at hx;cases hx
      obtain⟨W,hW1,hW2⟩:∃W,pD J w=some W/\cj W=.aa false (kW u t.l):=by
       rcases hwJ with⟨rfl,h⟩|⟨id,ep,rfl,h⟩;exact⟨_,rfl,by rw[h];rfl⟩;exact⟨.aa false (kW u t.l),by simp[pD,getM,h],by simp[cj,Tb]⟩
      have hrb:gC J [.agg [.int .i64 t.k,.str t.s,.int .i64 t.o,.aa false (ae t.l)],.agg [w,.int .i64 (AD u t)],.ak H0.length 0 0 (ae u).length]=some [.agg [.int .i64 t.k,.str t.s,.int .i64 t.o,.aa false (ae t.l)],.agg [W,.int .i64 (AD u t)],.aa false (ms u r')]:=by
       have hkv:=kT u r';have hg:getM J H0.length 0=some ⟨.m,0,1,ms u r'⟩:=bp jb rfl (by simp);have hle:(ae u).length=(ms u r').length:=by rw[cz,sZ]
       have a1:jP J (.agg [.int .i64 t.k,.str t.s,.int .i64 t.o,.aa false (ae t.l)])=some (.agg [.int .i64 t.k,.str t.s,.int .i64 t.o,.aa false (ae t.l)]):=by simp[jP,oJ,pD,aU]
       have a2:jP J (.agg [w,.int .i64 (AD u t)])=some (.agg [W,.int .i64 (AD u t)]):=by simp only[jP,oJ,hW1];rfl
       have a3:jP J (.ak H0.length 0 0 (ae u).length)=some (.aa false (ms u r')):=by simp[jP,pD,hg,hle,hkv]
       simp only[gC,a1,a2,a3]
      refine wA ?_;refine .p hpu ?_
      cases T5:nV t
      ·refine wA ?_;refine aj.rbS hrb (by simp[aQ,cj,hW2,aZ,Tc]) Dp ?_
       cases Rg:mn r' t
       ·refine wA ?_;refine cU.zip T6 ([]:List Tm) (λa b L M=>L=[(1,.aa false (ae u)),(7,.ak pid pep 0 els.length),(8,.ak H0.length 0 0 (ae u).length),(10,.bool g'),(11,.int .i64 p.length),(12,.aa true []),(13,.int .i64 a.length)]/\M=J) (.nx ⟨rfl,rfl⟩) ?_ ?_
        ·rintro a x b _ _ O e2 _
         cases a <;>cases e2
        ·rintro _ _ O ⟨rfl,rfl⟩;refine wA ?_;refine .nx ⟨r',g',rfl,⟨j1,j2,j3⟩,jb,AE,Jw,λh=>?_⟩;obtain⟨rfl,h2⟩:=qQ h;refine⟨rfl,λy hy=>?_⟩;rcases ab2.1 hy with hy |hy;exact h2 y hy
         ·simp at hy;subst hy;exact⟨λh=>(by rw[T5]at h;cases h),λh=>(by rw[Rg]at h;cases h),λh=>absurd h abi⟩
       ·skip
        obtain⟨r1,MD⟩:∃r1,r1=t::r':=⟨_,rfl⟩;obtain⟨J1,F'⟩:∃J1:ab,J1=J.set H0.length ⟨.m,0,1,ms u r1⟩:=⟨_,rfl⟩;have eT:=re (r:=r') U.oB mU;rw[zq U.oB e,<-acf p.length,<-MD]at eT;have abj:(ms u r1)[0+p.length]?=some (.bool true):=by rw[<-eT];exact abY (by omega)
        have abk:=kE u r1;have Xb:J1[H0.length]?=some ⟨.m,0,1,ms u r1⟩:=by rw[F'];exact abY (ag jb)
        have j11:HR J1:=by rw[F'];exact j1.set _ (by simp) (bm _ _ (kT u r1))
        have j21:J1.length=J.length:=by rw[F'];simp
        have j31:∀j,j<H0.length->J1[j]?=H0[j]?:=λj hj=>by rw[F',ab0 (by omega)];exact j3 j hj
        have Xc:Out 1 J1 w (kW u t.l):=hw.of_eq λk hk=>j31 k (hw.ls k hk)
        have PC:=vp u r1 U (by omega) t mU (by have:=hb t mU;omega) w H0.length J1 j11 Xc Xb;rw[<-cz,ar]at PC;have abl:=(j31 pid (ag LV)).trans LV;have Ic:Kp u s r1:=by rw[MD];exact AE.add mU (.comp mU (by unfold mn at Rg;simp at Rg;exact Rg.1) (λx hx=>by unfold mn at Rg;simp at Rg;exact(AE.EO x (bX.1 (Rg.2 x hx))).2))
        have iB:t∈r1:=by rw[MD];simp
        have hgm:eQ u r1<eQ u r:=by
         have h9:=mv (p:=p) (q:=q) hx;rw[<-e,<-MD]at h9
         cases ML:g' with
         |true=>have:=Jw ML;omega
         |false=>rw[(qQ ML).1]at h9;exact h9
        refine wA ?_;rw[eT,<-F'];have PD:∀x∈mE r1 t,x∈u/\oD u s x:=λx hx=>Ic.opens U iB hx
        have ZX:(mE r1 t).length<=t.l.length:=by
         unfold mE
         split
         exact abZ _
         ·split
          rw[acM];omega;simp
        have sF:t.l.length<1000000:=by obtain⟨k,n,o,l⟩:=t;have h1:=aY l;have h2:=hb _ mU;simp only[ax]at h2;simp only[Tm.l];omega
        refine wA ?_;refine .fr (P:=λx h'=>tM J1 u (mE r1 t) x) PC (λr h hr hb=>hr) (λx J2 s1 s2 s3 s4=>?_);have hjb:=ag Xb;have F2:HR J2/\H0.length+1<=J2.length/\∀j,j<H0.length->J2[j]?=H0[j]?:=⟨s1,by omega,λj hj=>(s3 j (by omega)).trans (j31 j hj)⟩;have jbb:=(s3 _ hjb).trans Xb;rcases s4 with⟨Xd,rfl⟩|⟨aid,aep,tl,rfl,ha⟩
        ·refine wA ?_;refine cU.zip T6 ([]:List Tm) (λa b L M=>L=[(1,.aa false (ae u)),(7,.ak pid pep 0 els.length),(8,.ak H0.length 0 0 (ae u).length),(10,.bool true),(11,.int .i64 p.length),(12,.aa true []),(13,.int .i64 a.length)]/\M=J2) (.nx ⟨rfl,rfl⟩) ?_ ?_
         ·rintro a x b _ _ O e2 _
          cases a <;>cases e2
         ·rintro _ _ O ⟨rfl,rfl⟩;refine wA ?_;exact .nx ⟨r1,true,rfl,F2,jbb,Ic,λ_=>hgm,by simp⟩
        ·have ha2:=(s3 aid (ag ha)).trans ha;have lu:=rf u (mE r1 t);refine wA ?_;refine cU.zip T6 (mE r1 t) (λa b L M=>∃r2 g2,L=[(1,.aa false (ae u)),(7,.ak pid pep 0 els.length),(8,.ak H0.length 0 0 (ae u).length),(10,.bool g2),(11,.int .i64 p.length),(12,.ak aid aep 0 (mE r1 t).length),(13,.int .i64 a.length)]/\(HR M/\H0.length+1<=M.length/\∀j,j<H0.length->M[j]?=H0[j]?)/\M[H0.length]?=some ⟨.m,0,1,ms u r2⟩/\M[aid]?=some ⟨.m,aep,1,kW u (mE r1 t)++tl⟩/\Kp u s r2/\(∀y∈a,y∈r2)/\((g2=true/\r2=r1)\/(g2=true/\eQ u r2<eQ u r1))) (.nx ⟨r1,true,rfl,F2,jbb,ha2,Ic,by simp,.inl ⟨rfl,rfl⟩⟩) ?_ ?_
         ·rintro a x b _ M O e2 ⟨r2,g2,rfl,⟨m1,m2,m3⟩,mb,ma,xT,wY,uP⟩;have ri:=(PD x (by rw[e2];simp));have Cj:=lenE e2;have gH:(kW u (mE r1 t)++tl)[0+a.length]?=some (.int .i64 (pI u x)):=by rw[acf,abW (by omega)];exact C3 e2
          have ZY:(kW u (mE r1 t)++tl).length=(mE r1 t).length+tl.length:=by rw[ab3,lu]
          have FA:=vn (r:=r2) U.oB ri.1;have cM:=vj U.oB ri.1;have ZZ:=kE u r2;have eT:=re (r:=r2) U.oB ri.1;rw[<-acf (pI u x)]at FA eT
          have bO:aid≠H0.length:=λhh=>by
           rw[hh,mb]at ma;have h5:ms u r2=kW u (mE r1 t)++tl:=by injection ma with h;injection h
           have h6:=congrArg (λl:List PV=>l[0+a.length]?) h5;simp only[gH]at h6;rw[ms,ace]at h6
           cases hh6:u[0+a.length]? <;>rw[hh6]at h6 <;>simp at h6
          cases rL:bJ r2 x
          ·rw[rL]at FA;refine wA ?_;refine .nx ⟨x::r2,true,rfl,⟨m1.set _ (by simp) ?_,by simp;omega,λj hj=>by rw[ab0 (by omega)];exact m3 j hj⟩,?_,by rw[ab0 (λh=>bO h.symm)];exact ma,xT.add ri.1 ri.2,λy hy=>?_,.inr ⟨rfl,?_⟩⟩;exact bm _ _ (by show ao ((ms u r2).set (0+pI u x) (.bool true))=true;rw[eT];exact kT u _);rw[<-eT];exact abY (ag mb)
           ·rcases ab2.1 hy with h |h;simp[wY y h];simp at h;simp[h]
           ·obtain⟨pp,qq,e3⟩:=adg ri.1;have:=mv (p:=pp) (q:=qq) rL;rw[<-e3]at this;rcases uP with⟨_,rfl⟩|⟨_,h⟩ <;>omega
          ·rw[rL]at FA;refine wA ?_;refine .nx ⟨r2,g2,rfl,⟨m1,m2,m3⟩,mb,ma,xT,λy hy=>?_,uP⟩;rcases ab2.1 hy with h |h;exact wY y h;simp at h;rw[h];exact bX.1 rL
         ·rintro _ M O ⟨r2,g2,rfl,F3,mb,ma,xT,wY,uP⟩;refine wA ?_;refine .nx ⟨r2,g2,rfl,F3,mb,xT,λh=>?_,λh=>?_⟩
          ·rcases uP with⟨_,rfl⟩|⟨_,h3⟩;exact hgm;omega
          rcases uP with⟨h3,_⟩|⟨h3,_⟩ <;>rw[h]at h3 <;>cases h3
      ·skip
       obtain⟨r1,MD⟩:∃r1,r1=t::r':=⟨_,rfl⟩;obtain⟨J1,F'⟩:∃J1:ab,J1=J.set H0.length ⟨.m,0,1,ms u r1⟩:=⟨_,rfl⟩;have eT:=re (r:=r') U.oB mU;rw[zq U.oB e,<-acf p.length,<-MD]at eT;have abj:(ms u r1)[0+p.length]?=some (.bool true):=by rw[<-eT];exact abY (by omega)
       have abk:=kE u r1;have Xb:J1[H0.length]?=some ⟨.m,0,1,ms u r1⟩:=by rw[F'];exact abY (ag jb)
       have j11:HR J1:=by rw[F'];exact j1.set _ (by simp) (bm _ _ (kT u r1))
       have j21:J1.length=J.length:=by rw[F'];simp
       have j31:∀j,j<H0.length->J1[j]?=H0[j]?:=λj hj=>by rw[F',ab0 (by omega)];exact j3 j hj
       have Xc:Out 1 J1 w (kW u t.l):=hw.of_eq λk hk=>j31 k (hw.ls k hk)
       have PC:=vp u r1 U (by omega) t mU (by have:=hb t mU;omega) w H0.length J1 j11 Xc Xb;rw[<-cz,ar]at PC;have abl:=(j31 pid (ag LV)).trans LV;have Ic:Kp u s r1:=by rw[MD];exact AE.add mU (.RE mU T5)
       have iB:t∈r1:=by rw[MD];simp
       have hgm:eQ u r1<eQ u r:=by
        have h9:=mv (p:=p) (q:=q) hx;rw[<-e,<-MD]at h9
        cases ML:g' with
        |true=>have:=Jw ML;omega
        |false=>rw[(qQ ML).1]at h9;exact h9
       refine wA ?_;rw[eT,<-F'];have PD:∀x∈mE r1 t,x∈u/\oD u s x:=λx hx=>Ic.opens U iB hx
       have ZX:(mE r1 t).length<=t.l.length:=by
        unfold mE
        split
        exact abZ _
        ·split
         rw[acM];omega;simp
       have sF:t.l.length<1000000:=by obtain⟨k,n,o,l⟩:=t;have h1:=aY l;have h2:=hb _ mU;simp only[ax]at h2;simp only[Tm.l];omega
       refine wA ?_;refine .fr (P:=λx h'=>tM J1 u (mE r1 t) x) PC (λr h hr hb=>hr) (λx J2 s1 s2 s3 s4=>?_);have hjb:=ag Xb;have F2:HR J2/\H0.length+1<=J2.length/\∀j,j<H0.length->J2[j]?=H0[j]?:=⟨s1,by omega,λj hj=>(s3 j (by omega)).trans (j31 j hj)⟩;have jbb:=(s3 _ hjb).trans Xb;rcases s4 with⟨Xd,rfl⟩|⟨aid,aep,tl,rfl,ha⟩
       ·refine wA ?_;refine cU.zip T6 ([]:List Tm) (λa b L M=>L=[(1,.aa false (ae u)),(7,.ak pid pep 0 els.length),(8,.ak H0.length 0 0 (ae u).length),(10,.bool true),(11,.int .i64 p.length),(12,.aa true []),(13,.int .i64 a.length)]/\M=J2) (.nx ⟨rfl,rfl⟩) ?_ ?_
        ·rintro a x b _ _ O e2 _
         cases a <;>cases e2
        ·rintro _ _ O ⟨rfl,rfl⟩;refine wA ?_;exact .nx ⟨r1,true,rfl,F2,jbb,Ic,λ_=>hgm,by simp⟩
       ·have ha2:=(s3 aid (ag ha)).trans ha;have lu:=rf u (mE r1 t);refine wA ?_;refine cU.zip T6 (mE r1 t) (λa b L M=>∃r2 g2,L=[(1,.aa false (ae u)),(7,.ak pid pep 0 els.length),(8,.ak H0.length 0 0 (ae u).length),(10,.bool g2),(11,.int .i64 p.length),(12,.ak aid aep 0 (mE r1 t).length),(13,.int .i64 a.length)]/\(HR M/\H0.length+1<=M.length/\∀j,j<H0.length->M[j]?=H0[j]?)/\M[H0.length]?=some ⟨.m,0,1,ms u r2⟩/\M[aid]?=some ⟨.m,aep,1,kW u (mE r1 t)++tl⟩/\Kp u s r2/\(∀y∈a,y∈r2)/\((g2=true/\r2=r1)\/(g2=true/\eQ u r2<eQ u r1))) (.nx ⟨r1,true,rfl,F2,jbb,ha2,Ic,by simp,.inl ⟨rfl,rfl⟩⟩) ?_ ?_
        ·rintro a x b _ M O e2 ⟨r2,g2,rfl,⟨m1,m2,m3⟩,mb,ma,xT,wY,uP⟩;have ri:=(PD x (by rw[e2];simp));have Cj:=lenE e2;have gH:(kW u (mE r1 t)++tl)[0+a.length]?=some (.int .i64 (pI u x)):=by rw[acf,abW (by omega)];exact C3 e2
         have ZY:(kW u (mE r1 t)++tl).length=(mE r1 t).length+tl.length:=by rw[ab3,lu]
         have FA:=vn (r:=r2) U.oB ri.1;have cM:=vj U.oB ri.1;have ZZ:=kE u r2;have eT:=re (r:=r2) U.oB ri.1;rw[<-acf (pI u x)]at FA eT
         have bO:aid≠H0.length:=λhh=>by
          rw[hh,mb]at ma;have h5:ms u r2=kW u (mE r1 t)++tl:=by injection ma with h;injection h
          have h6:=congrArg (λl:List PV=>l[0+a.length]?) h5;simp only[gH]at h6;rw[ms,ace]at h6
          cases hh6:u[0+a.length]? <;>rw[hh6]at h6 <;>simp at h6
         cases rL:bJ r2 x
         ·rw[rL]at FA;refine wA ?_;refine .nx ⟨x::r2,true,rfl,⟨m1.set _ (by simp) ?_,by simp;omega,λj hj=>by rw[ab0 (by omega)];exact m3 j hj⟩,?_,by rw[ab0 (λh=>bO h.symm)];exact ma,xT.add ri.1 ri.2,λy hy=>?_,.inr ⟨rfl,?_⟩⟩;exact bm _ _ (by show ao ((ms u r2).set (0+pI u x) (.bool true))=true;rw[eT];exact kT u _);rw[<-eT];exact abY (ag mb)
          ·rcases ab2.1 hy with h |h;simp[wY y h];simp at h;simp[h]
          ·obtain⟨pp,qq,e3⟩:=adg ri.1;have:=mv (p:=pp) (q:=qq) rL;rw[<-e3]at this;rcases uP with⟨_,rfl⟩|⟨_,h⟩ <;>omega
         ·rw[rL]at FA;refine wA ?_;refine .nx ⟨r2,g2,rfl,⟨m1,m2,m3⟩,mb,ma,xT,λy hy=>?_,uP⟩;rcases ab2.1 hy with h |h;exact wY y h;simp at h;rw[h];exact bX.1 rL
        ·rintro _ M O ⟨r2,g2,rfl,F3,mb,ma,xT,wY,uP⟩;refine wA ?_;refine .nx ⟨r2,g2,rfl,F3,mb,xT,λh=>?_,λh=>?_⟩
         ·rcases uP with⟨_,rfl⟩|⟨_,h3⟩;exact hgm;omega
         rcases uP with⟨h3,_⟩|⟨h3,_⟩ <;>rw[h]at h3 <;>cases h3
     ·rw[hx]at DG;rw[<-cz]at kV;have iB:t∈r':=bX.1 hx;have PD:∀x∈mE r' t,x∈u/\oD u s x:=λx hx=>AE.opens U iB hx
      have ZX:(mE r' t).length<=t.l.length:=by
       unfold mE
       split
       exact abZ _
       ·split
        rw[acM];omega;simp
      have sF:t.l.length<1000000:=by obtain⟨k,n,o,l⟩:=t;have h1:=aY l;have h2:=hb _ mU;simp only[ax]at h2;simp only[Tm.l];omega
      refine wA ?_;refine .fr (P:=λx h'=>tM J u (mE r' t) x) kV (λr h hr hb=>hr) (λx J2 s1 s2 s3 s4=>?_);have hjb:=ag jb;have F2:HR J2/\H0.length+1<=J2.length/\∀j,j<H0.length->J2[j]?=H0[j]?:=⟨s1,by omega,λj hj=>(s3 j (by omega)).trans (j3 j hj)⟩;have jb2:=(s3 _ hjb).trans jb;rcases s4 with⟨Xd,rfl⟩|⟨aid,aep,tl,rfl,ha⟩
      ·refine wA ?_;refine cU.zip T6 ([]:List Tm) (λa b L M=>L=[(1,.aa false (ae u)),(7,.ak pid pep 0 els.length),(8,.ak H0.length 0 0 (ae u).length),(10,.bool g'),(11,.int .i64 p.length),(12,.aa true []),(13,.int .i64 a.length)]/\M=J2) (.nx ⟨rfl,rfl⟩) ?_ ?_
       ·rintro a x b _ _ O e2 _
        cases a <;>cases e2
       ·rintro _ _ O ⟨rfl,rfl⟩;refine wA ?_;refine .nx ⟨r',g',rfl,F2,jb2,AE,Jw,λh=>?_⟩;obtain⟨rfl,h2⟩:=qQ h;refine⟨rfl,λy hy=>?_⟩;rcases ab2.1 hy with hy |hy;exact h2 y hy
        ·simp at hy;subst hy;exact⟨λ_=>iB,λ_=>iB,λ_ x hx=>by rw[Xd]at hx;cases hx⟩
      ·have ha2:=(s3 aid (ag ha)).trans ha;have lu:=rf u (mE r' t);refine wA ?_;refine cU.zip T6 (mE r' t) (λa b L M=>∃r2 g2,L=[(1,.aa false (ae u)),(7,.ak pid pep 0 els.length),(8,.ak H0.length 0 0 (ae u).length),(10,.bool g2),(11,.int .i64 p.length),(12,.ak aid aep 0 (mE r' t).length),(13,.int .i64 a.length)]/\(HR M/\H0.length+1<=M.length/\∀j,j<H0.length->M[j]?=H0[j]?)/\M[H0.length]?=some ⟨.m,0,1,ms u r2⟩/\M[aid]?=some ⟨.m,aep,1,kW u (mE r' t)++tl⟩/\Kp u s r2/\(∀y∈a,y∈r2)/\((g2=g'/\r2=r')\/(g2=true/\eQ u r2<eQ u r'))) (.nx ⟨r',g',rfl,F2,jb2,ha2,AE,by simp,.inl ⟨rfl,rfl⟩⟩) ?_ ?_
       ·rintro a x b _ M O e2 ⟨r2,g2,rfl,⟨m1,m2,m3⟩,mb,ma,xT,wY,uP⟩;have ri:=(PD x (by rw[e2];simp));have Cj:=lenE e2;have gH:(kW u (mE r' t)++tl)[0+a.length]?=some (.int .i64 (pI u x)):=by rw[acf,abW (by omega)];exact C3 e2
        have ZY:(kW u (mE r' t)++tl).length=(mE r' t).length+tl.length:=by rw[ab3,lu]
        have FA:=vn (r:=r2) U.oB ri.1;have cM:=vj U.oB ri.1;have ZZ:=kE u r2;have eT:=re (r:=r2) U.oB ri.1;rw[<-acf (pI u x)]at FA eT
        have bO:aid≠H0.length:=λhh=>by
         rw[hh,mb]at ma;have h5:ms u r2=kW u (mE r' t)++tl:=by injection ma with h;injection h
         have h6:=congrArg (λl:List PV=>l[0+a.length]?) h5;simp only[gH]at h6;rw[ms,ace]at h6
         cases hh6:u[0+a.length]? <;>rw[hh6]at h6 <;>simp at h6
        cases rL:bJ r2 x
        ·rw[rL]at FA;refine wA ?_;refine .nx ⟨x::r2,true,rfl,⟨m1.set _ (by simp) ?_,by simp;omega,λj hj=>by rw[ab0 (by omega)];exact m3 j hj⟩,?_,by rw[ab0 (λh=>bO h.symm)];exact ma,xT.add ri.1 ri.2,λy hy=>?_,.inr ⟨rfl,?_⟩⟩;exact bm _ _ (by show ao ((ms u r2).set (0+pI u x) (.bool true))=true;rw[eT];exact kT u _);rw[<-eT];exact abY (ag mb)
         ·rcases ab2.1 hy with h |h;simp[wY y h];simp at h;simp[h]
         ·obtain⟨pp,qq,e3⟩:=adg ri.1;have:=mv (p:=pp) (q:=qq) rL;rw[<-e3]at this;rcases uP with⟨_,rfl⟩|⟨_,h⟩ <;>omega
        ·rw[rL]at FA;refine wA ?_;refine .nx ⟨r2,g2,rfl,⟨m1,m2,m3⟩,mb,ma,xT,λy hy=>?_,uP⟩;rcases ab2.1 hy with h |h;exact wY y h;simp at h;rw[h];exact bX.1 rL
       ·rintro _ M O ⟨r2,g2,rfl,F3,mb,ma,xT,wY,uP⟩;refine wA ?_;refine .nx ⟨r2,g2,rfl,F3,mb,xT,λh=>?_,λh=>?_⟩
        ·rcases uP with⟨rfl,rfl⟩|⟨_,h3⟩;exact Jw h
         ·cases ML:g' with
          |true=>have:=Jw ML;omega
          |false=>rw[(qQ ML).1]at h3;exact h3
        ·rcases uP with⟨rfl,rfl⟩|⟨h3,_⟩
         ·obtain⟨rfl,h2⟩:=qQ h;refine⟨rfl,λy hy=>?_⟩;rcases ab2.1 hy with hy |hy;exact h2 y hy
          ·simp at hy;subst hy;exact⟨λ_=>iB,λ_=>iB,λ_ x hx=>wY x hx⟩
         rw[h]at h3;cases h3
    ·rintro _ J O ⟨r',g',rfl,hF,jb,AE,Jw,qQ⟩;refine wA ?_;refine .nx ⟨eQ u r'+(if g' then 1 else 0),?_,r',g',rfl,rfl,hF,jb,AE,λh=>?_⟩
     ·cases g' with
      |true=>have:=Jw rfl;simp;omega
      |false=>rw[(qQ rfl).1];simp
     ·obtain⟨rfl,h2⟩:=qQ h;exact⟨λt ht=>(h2 t ht).1,λt ht=>(h2 t ht).2.1,λt ht=>(h2 t (AE.EO t ht).1).2.2 ht⟩
theorem C5(u s:List Tm)(U:xo u)(hs:∀x∈s,x∈u)(G7:s.length<1000000)(hl:u.length<1000000)(hb:∀t∈u,ax t<1000000):
  aI C 122 [.aa false (ae s),.aa false (ae u)] (.aa false (ae (qn u s))):=by
 have cz:=ai u;have hf:=LU u s U hs G7 hl hb;refine aI.x T6 Tryz.func122 rfl ?_;refine wA ?_;refine cU.zip T6 u (λp q L H=>L=[(0,.aa false (ae s)),(1,.aa false (ae u)),(5,.bool true),(6,.int .i64 p.length)]/\HV H) (.nx ⟨rfl,HV.nil⟩) ?_ ?_
 ·rintro p t q _ H O e ⟨rfl,hH⟩;have cC:=ba e;have dp:=lenE e;have h1:=Px t (U.fr t (by rw[e];simp));rw[ar]at h1;refine wA ?_;refine .p h1 ?_;refine wA ?_;exact .nx ⟨rfl,hH⟩
 ·rintro _ H O ⟨rfl,hH⟩;refine wA ?_;refine .p hf ?_;refine wA ?_;exact⟨_,rfl,by simp[aR,cj,aZ]⟩
theorem yz(k:List Tm)(t:Tm)(hf:∀u∈k++[t],iE u=true)(hl:br (k++[t])<1000000):
  aI C 61 [.aa false (ae k),enc t] (.cA [.bool (mf k t),.int .i64 (fN k t)]):=by
 have vH:=aY (k++[t]);simp only[ab3,ab9,acz]at vH;have F9:∀u∈k++[t],ax u<1000000:=λu hu=>by have:=bD hu;omega
 have hUb:=uT F9;have hUl:=nX (k++[t]);have h1:=LO k t hf hl
 by_cases hE:fN k t=0
 ·rw[if_neg (by omega),hE]at h1
  have hrk:gO (k++[t])=0:=by
   unfold fN at hE
   split at hE
   omega
   ·split at hE
    omega;omega
  have U:xo (de (k++[t])):=G6 λx hx=>⟨(uS (pg hrk x hx)).1,hf x hx⟩
  have hks:∀x∈fJ k,x∈de (k++[t]):=λx hx=>(cq _ _).2 (bF.2 ⟨x,by simp[(cq _ _).1 hx],eZ x⟩)
  have h2:=ub k (by omega) (λx hx=>by have:=F9 x (by simp[hx]);omega);have G7:=qb k;have h3:=C5 _ _ U hks (by omega) (by omega) hUb;have DU:(qn (de (k++[t])) (fJ k)).length<1000000:=by have:=acV (λx=>@decide (oD (de (k++[t])) (fJ k) x) (Classical.propDecidable _)) (de (k++[t]));unfold qn;omega
  have h4:=HZ (qn (de (k++[t])) (fJ k)) t (by have:=F9 t (by simp);omega) (by omega) (λb hb=>by have:=hUb b (xp.1 hb).1;omega);have hR:mf k t=bJ (qn (de (k++[t])) (fJ k)) t:=by rw[mf,decide_eq_true hE,ada]
  rw[hR,hE];rw[ar]at h1 h4 ⊢;refine aI.x T6 Tryz.func61 rfl ?_;refine wA ?_;refine .p h1 ?_;refine wA ?_;refine .p h2 ?_;refine wA ?_;refine .p h3 ?_;refine wA ?_;refine .p h4 ?_;refine wA ?_;exact⟨_,rfl,rfl⟩
 ·rw[if_pos hE]at h1;have hR:mf k t=false:=by rw[mf,decide_eq_false hE,Bool.false_and]
  rw[hR];rw[ar]at h1 ⊢;refine aI.x T6 Tryz.func61 rfl ?_;refine wA ?_;refine .p h1 ?_;refine wA ?_;exact⟨_,rfl,rfl⟩
end bC
def Ds(n:Nat):ByteArray:=⟨#[118,35,35]⟩++⟨#[UInt8.ofNat (48+n)]⟩
def pn(n:Nat):List ByteArray:=(List.range n).map Ds
def strs(l:List ByteArray):List PV:=l.map PV.str
theorem yw(n:Nat):(pn n).length=n:=by simp[pn]
theorem yx(l:List ByteArray):(strs l).length=l.length:=by simp[strs]
theorem Ox(a b:List ByteArray):strs (a++b)=strs a++strs b:=by simp[strs]
@[simp] theorem XL(l:List ByteArray):ao (strs l)=true:=by rw[bw];simp[strs,aU]
@[simp] theorem Zm(l:List ByteArray):aQ (strs l)=strs l:=by rw[cL];simp[strs,cj]
theorem RP{n:Nat}{p q:List ByteArray}{s:ByteArray}(e:pn n=p++s::q):s=Ds p.length/\p.length<n:=by
 have h1:(pn n)[p.length]?=some s:=by rw[e];simp
 have h2:=(ac6.1 h1).1;rw[yw]at h2;refine⟨?_,h2⟩;unfold pn at h1;rw[ace,ad5 h2]at h1;exact(abV h1).symm
theorem RQ{n i:Nat}(h:i<n):(strs (pn n))[i]?=some (.str (Ds i)):=by simp[strs,pn,h]
def fO:Nat->List Tm->List eE
 |_,[]=>[]
 |n,v::l=>⟨v,.mk 2 (Ds n) 0 []⟩::fO (n+1) l
theorem Jm:∀{l:List Tm} {n:Nat} {b:eE},b∈fO n l->∃i,l[i]?=some b.v/\b.t=.mk 2 (Ds (n+i)) 0 []
 |[],_,b,h=>by cases h
 |v::l,n,b,h=>by
  rw[fO]at h;rcases ab5.1 h with rfl |h;exact⟨0,rfl,rfl⟩
  ·obtain⟨i,h1,h2⟩:=Jm h;exact⟨i+1,by simpa using h1,by rw[h2,show n+(i+1)=n+1+i by omega]⟩
theorem Jn:∀{l:List Tm} {n:Nat} {v:Tm},v∈l->∃b∈fO n l,b.v=v
 |[],_,v,h=>by cases h
 |u::l,n,v,h=>by
  rw[fO];rcases ab5.1 h with rfl |h;exact⟨_,List.mem_cons_self,rfl⟩
  ·obtain⟨b,h1,h2⟩:=Jn (n:=n+1) h;exact⟨b,acX _ h1,h2⟩
theorem Br{t:Tm}:∀{p q:List Tm} {n:Nat},(∀u∈p,u≠t)->j0 (fO n (p++t::q)) t=.mk 2 (Ds (n+p.length)) 0 []
 |[],q,n,_=>by rw[acD,fO,j0,if_pos (cc t)];rfl
 |u::p,q,n,h=>by
  rw[aco,fO,j0,if_neg (λhh=>h u (by simp) (cy hh)),Br λx hx=>h x (by simp[hx]),ab9,show n+1+p.length=n+(p.length+1) by omega]
theorem yy{t:Tm}:∀{l:List Tm} {n:Nat},(∀u∈l,u≠t)->j0 (fO n l) t=t
 |[],n,_=>rfl
 |u::l,n,h=>by rw[fO,j0,if_neg (λhh=>h u (by simp) (cy hh)),yy λx hx=>h x (by simp[hx])]
theorem Wo:((List.range 4).all λn=>decide (valid (.mk 2 (Ds n) 0 [])=0)&& !(nV (.mk 2 (Ds n) 0 []))&&decide ((Ds n).size=4))=true:=by kernel_rfl
theorem CD{n:Nat}(hn:n<4):valid (.mk 2 (Ds n) 0 [])=0/\nV (.mk 2 (Ds n) 0 [])=false/\(Ds n).size=4:=by
 have h:=abX.1 Wo n (adP.2 hn);simp only[ab4,decide_eq_true_eq,ac8]at h;exact⟨h.1.1,h.1.2,h.2⟩
theorem RS{a c:Nat}(ha:a<4)(hc:c<4)(e:Ds a=Ds c):a=c:=by
 have h:(⟨#[118,35,35,UInt8.ofNat (48+a)]⟩:ByteArray)=⟨#[118,35,35,UInt8.ofNat (48+c)]⟩:=e;have h:=congrArg (λs:ByteArray=>s.data[3]?) h;have h:UInt8.ofNat (48+a)=UInt8.ofNat (48+c):=by simpa using h
 have:=congrArg UInt8.toNat h;simp at this;omega
theorem qZ{l:List fq}(D:KL l){b:eE}(hb:b∈fO 0 (bH l)):∃i,i<4/\(bH l)[i]?=some b.v/\b.t=.mk 2 (Ds i) 0 []:=by
 obtain⟨i,h1,h2⟩:=Jm hb;rw[acf]at h2;have h3:=(ac6.1 h1).1;have h4:=D.n;exact⟨i,by omega,h1,h2⟩
theorem Uk{l:List fq}(D:KL l):MJ (fO 0 (bH l)):=by
 refine⟨λb hb=>?_,λb hb=>?_,λb hb=>?_⟩ <;>obtain⟨i,h1,_,h2⟩:=qZ D hb <;>rw[h2]
 exact(CD h1).1
 rfl
 rfl
theorem Zn{l:List fq}(D:KL l):MJ (gr 0 (bH l)):=by
 refine⟨λb hb=>?_,λb hb=>?_,λb hb=>?_⟩ <;>obtain⟨i,h1,_,h3,h4⟩:=qY D hb <;>rw[h4]
 ·have:=(tv h1 h3).1;exact(nO this).2.2.1
 rfl
 rfl
theorem Zo{l p q:List fq}{d:fq}(e:l=p++d::q)(D:KL l):Ee (fO 0 (bH l)) ((d.kn++eO p)++[d.tm]):=by
 have F:=Oj e D;refine⟨F.lv,λb hb=>?_,λb hb h=>?_,λb hb c hc h=>?_,λz h hk=>?_⟩
 ·obtain⟨i,h1,_,h2⟩:=qZ D hb;rw[h2];exact⟨rfl,rfl,(CD h1).2.1⟩
 ·obtain⟨i,h1,_,h2⟩:=qZ D hb;obtain⟨u,hu,t,ht,hp⟩:=G4 e h;have h3:=Ud (gZ.1 (D.f u hu t ht)).2 hp (by rw[h2];rfl);rw[h2]at h3;have h4:=(CD h1).2.2;simp only[Tm.s]at h3;omega
 ·obtain⟨i,h1,h2,h4⟩:=qZ D hb;obtain⟨j,g1,g2,g4⟩:=qZ D hc;have Ks:=RS h1 g1 (by rw[h4,g4]at h;injection h);rw[Ks]at h2;exact abV (h2.symm.trans g2)
 ·obtain⟨u,hu,t,ht,hp⟩:=G4 e h;exact Jn (Ec.2 ⟨u,hu,t,ht,(iM _ _).2 ⟨hp,hk⟩⟩)
theorem G'{l p q:List fq}{d:fq}(e:l=p++d::q)(D:KL l)(hz:kL l=0):Rgt ((d.kn++eO p)++[d.tm]):=by
 obtain⟨_,Rl⟩:=uG hz;have hr:∀t∈(d.kn++eO p)++[d.tm],∃u∈l,t∈u.kn++[u.tm]:=Oi e;refine⟨λt ht=>?_,λt ht=>?_,λy hy hk h1=>?_⟩
 ·obtain⟨u,hu,h⟩:=hr t ht;have:=r9 ((Rl u hu).2 t h);exact fh.2 ⟨this.1,this.2.1⟩
 ·obtain⟨u,hu,h⟩:=hr t ht;exact(gZ.1 (D.f u hu t h)).1
 ·obtain⟨t,ht,hy⟩:=bF.1 hy;obtain⟨u,hu,h⟩:=hr t ht;have h2:=(r9 ((Rl u hu).2 t h)).2.2.2.1;rw[adi]at h2;exact h2 y ((iM _ _).2 ⟨hy,hk⟩) (decide_eq_true (.inl h1))
theorem Wp{l p q:List fq}{d:fq}(e:l=p++d::q)(D:KL l)(hz:kL l=0):As l p d=(mf (bz (fO 0 (bH l)) (d.kn++eO p)) (bj (fO 0 (bH l)) d.tm),fN (bz (fO 0 (bH l)) (d.kn++eO p)) (bj (fO 0 (bH l)) d.tm)):=by
 have A:=Zn D;have R:=G' e D hz
 have hv:∀t∈(d.kn++eO p)++[d.tm],(ct (gr 0 (bH l)) t).2=0:=λt ht=>by
  have h1:=(fh.1 (R.t t ht)).1;rw[ct,if_neg (by omega),if_neg (by rw[uV A h1];simp)]
 have ha:=bC.uW (S:=gr 0 (bH l)) (l:=d.kn++eO p) λt ht=>hv t (ac0 _ ht)
 have hb:=hv d.tm (by simp);obtain⟨h1,h2⟩:=Ow (Oj e D) (Zo e D) A (Uk D) R;rw[As,if_neg (by omega),if_neg (by omega),if_neg (by omega),h1,h2]
namespace bC
open Go.Proofs
attribute [local irreducible] aD az aL aJ Ev ah aj ay bg bN
theorem Ha(n:Nat)(h:n<4):aI C 68 [.int .i64 n] (.str ⟨#[UInt8.ofNat (48+n)]⟩):=by
 match n,h with
 |0,_=>exact aI.iS (n:=40) (by kernel_rfl)
 |1,_=>exact aI.iS (n:=40) (by kernel_rfl)
 |2,_=>exact aI.iS (n:=40) (by kernel_rfl)
 |3,_=>exact aI.iS (n:=40) (by kernel_rfl)
theorem Hb(t:Tm)(hb:ax t<1000000):aI C 132 [enc t] (.aa false (ae (mQ 2 t))):=by
 have h1:=Bs t 2 hb;rw[ar]at h1 ⊢;refine aI.x T6 Tryz.func132 rfl ?_;refine wA ?_;refine .p h1 ?_;refine wA ?_;exact⟨_,rfl,by simp[aR,cj]⟩
@[simp] theorem XM(l:List ByteArray):dC 1 (strs l):=by
 unfold dC;rw[abX]
 intro v hv
 obtain⟨t,_,rfl⟩:=aci.1 hv
 rfl
theorem Hd(l:List Tm)(hl:l.length<1000000)(hb:∀t∈l,ax t<1000000)(h3:∀t∈l,∀y∈mQ 2 t,y.s.size<=3)(n:Nat)(hn:n<=4):aI C 74 [.aa false (ae l),.int .i64 n] (.aa false (strs (pn n))):=by
 have cz:=ai l;have G7:=yx (pn n);rw[yw]at G7;refine aI.x T6 Tryz.func74 rfl ?_;refine wA ?_;refine cU.zip T6 l (λp q L H=>L=[(0,.aa false (ae l)),(1,.int .i64 n),(5,.aa true []),(6,.int .i64 p.length)]/\HV H) (.nx ⟨rfl,HV.nil⟩) ?_ ?_
 ·rintro p t q _ H O e ⟨rfl,hH⟩;have cC:=ba e;have dp:=lenE e;have sF:t∈l:=by rw[e];simp
  have ha:=Hb t (hb t sF);rw[ar]at ha;have hka:=ai (mQ 2 t);have h3t:=h3 t sF;have sZ:=A6 2 t;have Dp:=hb t sF;generalize mQ 2 t=zs at *;refine wA ?_;refine .p ha ?_;refine wA ?_;refine cU.zip T6 zs (λa b L J=>L=[(0,.aa false (ae l)),(1,.int .i64 n),(5,.aa true []),(6,.int .i64 p.length),(7,.aa false (ae zs)),(8,.int .i64 a.length)]/\HV J) (.nx ⟨rfl,hH⟩) ?_ ?_
  ·rintro a y b _ J O e2 ⟨rfl,hJ⟩;have nh:=ba e2;have Cj:=lenE e2;have hy:=h3t y (by rw[e2];simp);refine wA ?_;exact .nx ⟨rfl,hJ⟩
  ·rintro _ J O ⟨rfl,hJ⟩;refine wA ?_;exact .nx ⟨rfl,hJ⟩
 ·rintro _ H O ⟨rfl,hH⟩;refine wA ?_;refine cU.zip T6 (pn n) (λp q L J=>∃v,L=[(1,.int .i64 n),(5,.aa true []),(9,v),(10,.int .i64 p.length)]/\HV J/\Out 1 J v (strs p)) (.nx ⟨_,rfl,hH,.inl ⟨rfl,rfl⟩⟩) ?_ ?_
  ·rintro p s q _ J O e ⟨v,rfl,hJ,ho⟩;obtain⟨hs,hpn⟩:=RP e;have hdg:=Ha p.length (by omega);have hle:=yx p;have lE:s=⟨#[118,35,35]⟩++⟨#[UInt8.ofNat (48+p.length)]⟩:=hs;have hDs:(⟨#[UInt8.ofNat (48+p.length)]⟩:ByteArray).size=1:=rfl;have hEs:(⟨#[118,35,35]⟩:ByteArray).size=3:=rfl;generalize(⟨#[UInt8.ofNat (48+p.length)]⟩:ByteArray)=Dg at *;refine wA ?_;refine .p hdg ?_;refine wA ?_;refine cU.zip T6 ([]:List Nat) (λa b L K=>L=[(1,.int .i64 n),(5,.aa true []),(9,v),(10,.int .i64 p.length),(11,.str (⟨#[118,35,35]⟩++Dg)),(12,.bool true),(13,.int .i64 0)]/\K=J) (.nx ⟨rfl,rfl⟩) ?_ ?_
   ·rintro a u b _ J O e _
    cases a <;>cases e
   ·rintro _ _ O ⟨rfl,rfl⟩;refine wG λv H lp=>?_;refine .nx ⟨_,rfl,lp.hv,?_⟩;rw[Ox,lE];exact lp.out
  ·rintro _ J O ⟨v,rfl,hJ,ho⟩;refine wA ?_;exact Ls.Gy (.inl ho) (by simp) (by simp)
theorem KY(V:List Tm)(hV:∀v∈V,v.k=1)(hVl:V.length<=4)(hVb:∀v∈V,ax v<1000)(k s o l)(hb:ax (.mk k s o l)<10000000)(uQ:k=1->l=[])(ih:∀t∈l,aI C 75 [enc t,.aa false (ae V),.aa false (strs (pn V.length))] (enc (bj (fO 0 V) t))):aI C 75 [enc (.mk k s o l),.aa false (ae V),.aa false (strs (pn V.length))] (enc (bj (fO 0 V) (.mk k s o l))):=by
 have cz:=ai l;have hve:=ai V;have uj:=aY l;have hl:l.length<10000000:=by simp only[ax]at hb;omega
 have G7:=yx (pn V.length);rw[yw]at G7;rw[bh];refine aI.x T6 Tryz.func75 rfl ?_;refine wA ?_;refine cU.zip T6 V (λp q L H=>L=[(1,.aa false (ae V)),(2,.aa false (strs (pn V.length))),(3,.ptr 0 0 0 0),(6,.ptr 1 0 0 0),(7,.int .i64 p.length)]/\H=[⟨.m,0,4,[.agg [.int .i64 k,.str s,.int .i64 o,.aa false (ae l)]]⟩,⟨.m,0,4,[.agg [.int .i64 0,.str ByteArray.empty,.int .i64 0,.aa true []]]⟩]/\∀u∈p,u≠.mk k s o l) (.nx ⟨rfl,rfl,by simp⟩) ?_ ?_
 ·rintro p v q _ _ O e ⟨rfl,rfl,hp⟩;have cC:=ba e;have dp:=lenE e;have hvV:v∈V:=by rw[e];simp
  have KZ:=(uX (.mk k s o l) v (by omega) (by have:=hVb v hvV;omega)).nine;have Ys:=RQ (n:=V.length) (i:=p.length) (by omega);have Zp:=jj (Ds p.length) 0;rw[bh,l8]at Zp;rw[bh,ar v]at KZ
  have hR:aW (.mk k s o l) v=0->bj (fO 0 V) (.mk k s o l)=.mk 2 (Ds p.length) 0 []:=λh=>by
   have h1:=cy h;have h2:=hV v hvV;rw[<-h1]at h2;have h2:k=1:=h2;rw[bj,if_pos h2,e,<-h1,Br hp,acf]
  by_cases hc:aW (.mk k s o l) v=0
  ·rw[decide_eq_true hc]at KZ;rw[hR hc,bh,l8];refine wA ?_;refine .p KZ ?_;refine wA ?_;refine .p Zp ?_;refine wA ?_;have h:=λh=>@Oy h 2 0 (Ds p.length) []
   simp only[l8]at h;exact h _
  ·rw[decide_eq_false hc]at KZ;refine wA ?_;refine .p KZ ?_;refine wA ?_;refine .nx ⟨rfl,rfl,λu hu=>?_⟩;rcases ab2.1 hu with h |h;exact hp u h
   ·simp at h;rw[h];rintro rfl;exact hc (cc _)
 ·rintro _ _ O ⟨rfl,rfl,hp⟩
  have hpt:bj (fO 0 V) (.mk k s o l)=.mk k s o (bz (fO 0 V) l):=by
   rw[bj]
   split
   ·rename_i h
    rw[yy hp,uQ h]
    rfl
   rfl
  rw[hpt,bh];refine wA ?_
  have FY:HR [⟨.m,0,4,[.agg [.int .i64 k,.str s,.int .i64 o,.aa false (ae l)]]⟩,⟨.m,0,4,[.agg [.int .i64 0,.str ByteArray.empty,.int .i64 0,.aa true []]]⟩,⟨.m,0,4,[.agg [.int .i64 k,.str s,.int .i64 o,.aa true []]]⟩]:=by
   intro x hx
   simp at hx;rcases hx with rfl |rfl |rfl <;>simp[bG,bu]
  refine cU.zip T6 l (λp q L H=>∃v,L=[(1,.aa false (ae V)),(2,.aa false (strs (pn V.length))),(3,.ptr 0 0 0 0),(6,.ptr 1 0 0 0),(8,.ptr 2 0 0 0),(9,.int .i64 p.length)]/\HR H/\H[0]?=some ⟨.m,0,4,[.agg [.int .i64 k,.str s,.int .i64 o,.aa false (ae l)]]⟩/\H[1]?=some ⟨.m,0,4,[.agg [.int .i64 0,.str ByteArray.empty,.int .i64 0,.aa true []]]⟩/\H[2]?=some ⟨.m,0,4,[.agg [.int .i64 k,.str s,.int .i64 o,v]]⟩/\Out 4 H v (ae (bz (fO 0 V) p))/\∀i∈b9 v,3<=i) (.nx ⟨_,rfl,FY,rfl,rfl,rfl,.inl ⟨rfl,rfl⟩,by simp[b9]⟩) ?_ ?_
  ·rintro p u q _ H O e ⟨v,rfl,hH,g0,g1,g2,ho,hv⟩;have cC:=ba e;have dp:=lenE e;have hi:=ih u (by rw[e];simp);have jR:=dH (fO 0 V) p;have hle:=ai (bz (fO 0 V) p);obtain⟨w,hw⟩:∃w,w=bj (fO 0 V) u:=⟨_,rfl⟩;rw[<-hw,ar u,ar w]at hi
   have lE:ae (bz (fO 0 V) p)++[.agg [.int .i64 w.k,.str w.s,.int .i64 w.o,.aa false (ae w.l)]]=ae (bz (fO 0 V) (p++[u])):=by
    rw[bI,bI,acK,bS,<-ar,hw];rfl
   have Cj:=ag g2;refine wA ?_;refine .p hi ?_;refine wA ?_;refine .lr (λv' h' lr=>?_) ho;have Cs:∀j,j<3->∀ep n,v≠.ak j ep 0 n:=λj hj ep n hh=>by have:=hv j (by rw[hh];simp[b9]);omega
   have f0:=(lr.fr 0 (by omega) (Cs 0 (by omega))).trans g0;have f1:=(lr.fr 1 (by omega) (Cs 1 (by omega))).trans g1;have f2:=(lr.fr 2 (by omega) (Cs 2 (by omega))).trans g2;have hr3:=lr.hr
   have Ul:∀i∈b9 v',3<=i:=λi hi=>by
    rcases lr.b9 i hi with h |h;exact hv i h;omega
   have lo:=lr.out;rw[lE]at lo;have RT:=lo.bu;rcases lo with⟨_,hx⟩|⟨id,ep,rfl,bZ⟩
   ·have:=congrArg List.length hx;rw[ai,dH]at this;simp at this
   have k2:=ag f2;refine wA ?_;have QW:=Ul id (by simp[b9]);exact .nx ⟨_,rfl,hr3.set _ (by simp) (by simpa[bG,bu]using RT),(ab0 (by omega)).trans f0,(ab0 (by omega)).trans f1,abY k2,.inr ⟨id,ep,rfl,(ab0 (by omega)).trans bZ⟩,Ul⟩
  ·rintro _ H O ⟨v,rfl,hH,g0,g1,g2,ho,hv⟩;have k1:=ag g1;have e2:=abY (a:=(⟨.m,0,4,[.agg [.int .i64 k,.str s,.int .i64 o,v]]⟩:aw)) k1;have Ck:Out 4 (H.set 1 ⟨.m,0,4,[.agg [.int .i64 k,.str s,.int .i64 o,v]]⟩) v (ae (bz (fO 0 V) l)):=ho.of_eq λi hi=>ab0 (by have:=hv i hi;omega)
   rcases ho with⟨rfl,he⟩|⟨id,ep,rfl,bZ⟩
   ·refine wA ?_;refine .mk ?_ (mg (T:=T6) rfl e2 rfl rfl rfl rfl);exact⟨K5 Ck (by simp) (by simp)⟩
   ·refine wA ?_;refine .mk ?_ (mg (T:=T6) rfl e2 rfl rfl rfl rfl);exact⟨K5 Ck (by simp) (by simp)⟩
theorem He(V:List Tm)(hV:∀v∈V,v.k=1)(hVl:V.length<=4)(hVb:∀v∈V,ax v<1000)(t:Tm)(hb:ax t<10000000)(zZ:∀z∈pre t,z.k=1->z.l=[]):aI C 75 [enc t,.aa false (ae V),.aa false (strs (pn V.length))] (enc (bj (fO 0 V) t)):=by
 induction t using Tm.ind with
 |h k s o l ih=>
  refine KY V hV hVl hVb k s o l hb (λh=>zZ _ (eZ _) h) λt ht=>ih t ht ?_ λz hz=>zZ z ?_
  ·have:=bD ht;simp only[ax]at hb;omega
  ·rw[pre];exact acX _ (bF.2 ⟨t,ht,hz⟩)
theorem Hf(l:List fq)(hd:se l<900000):aI C 21 [.aa false (ae (dD l))] (.aa false (ae (bH l))):=by
 have rE:=kN l;have sF:=aY (dD l);have hvq:fJ ((dD l).flatMap bL)=bH l:=Ed l;rw[<-hvq];refine vR (dD l) ?_ (by omega) (λt ht=>by have:=bD ht;omega)
 have key:∀l:List Tm,(l.flatMap bL).length<=br l:=by
  intro l
  induction l with
  |nil=>simp[br]
  |cons t l ih=>
   have:=fy t;simp only[adj,ab3,br];omega
 have:=key (dD l);omega
theorem CE(l p0 q0:List fq)(d0:fq)(e0:l=p0++d0::q0)(D:KL l)(hd:se l<900000)(hz:kL l=0):
  aI C 24 [.aa false (bV l),.int .i64 p0.length] (.cA [.bool (As l p0 d0).1,.int .i64 (As l p0 d0).2]):=by
 have cz:=gv l;have DU:=mh l;have rE:=kN l;have ek:∀d∈l,∀t∈d.kn++[d.tm],t∈dD l:=λd hd t ht=>acL.2 ⟨d,hd,ht⟩
 have Dp:∀t∈dD l,ax t<900000:=λt ht=>by have:=bD ht;omega
 have cM:=aY (dD l)
 have sZ:∀d∈l,d.kn.length<900000:=λd hd=>by
  have h1:=tD hd;have h2:=aY d.kn;omega
 have h1:=Ep l (by omega) (λd hd=>⟨by have:=sZ d hd;omega,λt ht=>by have:=Dp t (ek d hd t ht);omega⟩);rw[hz]at h1;have h2:=Hg l (by omega);have h3:=Hf l hd;have nJ:=ai (bH l);have hDn:=D.n
 have h4:=Hd (dD l) (by omega) (λt ht=>by have:=Dp t ht;omega) (λt ht y hy=>by
  obtain⟨d,hd,h⟩:=acL.1 ht;obtain⟨q1,q2⟩:=(D6 2 t y).1 hy;exact Ud (gZ.1 (D.f d hd t h)).2 q1 q2) (bH l).length hDn
 have MA:∀t∈dD l,aI C 75 [enc t,.aa false (ae (bH l)),.aa false (strs (pn (bH l).length))] (enc (bj (fO 0 (bH l)) t)):=λt ht=>by
  obtain⟨d,hd,h⟩:=acL.1 ht;refine He (bH l) (λv hv=>by simpa using(acO.1 hv).2) hDn (λv hv=>by have:=(Cq v (D.v v hv)).2;omega) t (by have:=Dp t ht;omega) (λz hz hk=>vrL ((I4 (gZ.1 (D.f d hd t h)).2 hz).1 hk))
 have Dq:p0.length<l.length:=by rw[e0];simp
 have KQ:d0∈l:=by rw[e0];simp
 have rz:=gL e0;rw[Wp e0 D hz]
 have KE:∀t∈bz (fO 0 (bH l)) (d0.kn++eO p0)++[bj (fO 0 (bH l)) d0.tm],iE t=true:=by
  refine tw (λb hb=>?_) (G' e0 D hz).f;obtain⟨i,_,_,h⟩:=qZ D hb;rw[h];exact qe.2 ⟨λh=>(by cases h),λt ht=>(by cases ht)⟩
 have Dr:(d0.kn++eO p0).length<=80:=by
  obtain⟨xi,Rl⟩:=uG hz;have:=(Rl d0 KQ).1;have Oc:(eO p0).length<=p0.length:=by unfold eO;rw[acW];exact acV _ _
  rw[ab3];omega
 have KT:br (bz (fO 0 (bH l)) (d0.kn++eO p0)++[bj (fO 0 (bH l)) d0.tm])<1000000:=by
  have R:=G' e0 D hz
  have h1:∀t∈bz (fO 0 (bH l)) (d0.kn++eO p0)++[bj (fO 0 (bH l)) d0.tm],ax t<=10000:=λt ht=>by
   rw[<-tC,bI]at ht;obtain⟨y,hy,rfl⟩:=aci.1 ht;exact fe (uV (Uk D) (fh.1 (R.t y hy)).1)
  have:=ti (B:=10000) h1;have h2:(bz (fO 0 (bH l)) (d0.kn++eO p0)++[bj (fO 0 (bH l)) d0.tm]).length<=81:=by rw[ab3,dH];simp;simp at Dr;omega
  have:=acF 10000 h2;omega
 have AW:=yz (bz (fO 0 (bH l)) (d0.kn++eO p0)) (bj (fO 0 (bH l)) d0.tm) KE KT;generalize fO 0 (bH l)=Q at *;refine aI.x T6 Tryz.func24 rfl ?_;refine wA ?_;refine .p h1 ?_;refine wA ?_;refine .p h2 ?_;refine wA ?_;refine .p h3 ?_;refine wA ?_;refine .p h2 ?_;refine wA ?_;refine .p h4 ?_;refine wA ?_;have abK:=ai d0.kn;refine cU.zip T6 d0.kn (λp q L H=>∃v,L=[(0,.aa false (bV l)),(1,.int .i64 p0.length),(7,.aa false (ae (bH l))),(8,.aa false (strs (pn (bH l).length))),(9,v),(10,.int .i64 p.length)]/\HV H/\Out 4 H v (ae (bz Q p))) (.nx ⟨_,rfl,HV.nil,.inl ⟨rfl,rfl⟩⟩) ?_ ?_
 ·rintro p u q _ H O e ⟨v,rfl,hH,ho⟩;have cC:=ba e;have dp:=lenE e;have DG:=sZ d0 KQ;have hu:=MA u (ek d0 KQ u (by rw[e];simp));have jR:=dH Q p;have hle:=ai (bz Q p);obtain⟨w,hw⟩:∃w,w=bj Q u:=⟨_,rfl⟩;rw[<-hw,ar u,ar w]at hu
  have lE:ae (bz Q p)++[.agg [.int .i64 w.k,.str w.s,.int .i64 w.o,.aa false (ae w.l)]]=ae (bz Q (p++[u])):=by
   rw[bI,bI,acK,bS,<-ar,hw];rfl
  refine wA ?_;refine .p hu ?_;refine wG λv H lp=>?_;refine .nx ⟨_,rfl,lp.hv,?_⟩;rw[<-lE];exact lp.out
 ·rintro _ H O ⟨v,rfl,hH,ho⟩;refine wA ?_;refine cU.zip T6 p0 (λp q L H=>∃v,L=[(0,.aa false (bV l)),(1,.int .i64 p0.length),(7,.aa false (ae (bH l))),(8,.aa false (strs (pn (bH l).length))),(9,v),(11,.int .i64 p.length)]/\HV H/\Out 4 H v (ae (bz Q (d0.kn++eO p)))) (.nx ⟨_,rfl,hH,by simpa[eO]using ho⟩) ?_ ?_
  ·rintro p u q _ H O e ⟨v,rfl,hH,ho⟩;have cC:=gL (show l=p++u::(q++d0::q0) by rw[e0,e];simp);have dp:=lenE e;have DG:=sZ d0 KQ;have Oc:(eO p).length<=p.length:=by unfold eO;rw[acW];exact acV _ _
   have hu:=MA u.tm (ek u (by rw[e0,e];simp) u.tm (by simp));have jR:=dH Q (d0.kn++eO p);have hle:=ai (bz Q (d0.kn++eO p));rw[jR,ab3]at hle;have lE:=Bm p u;obtain⟨w,hw⟩:∃w,w=bj Q u.tm:=⟨_,rfl⟩;rw[<-hw,ar u.tm,ar w]at hu;refine wC (λhc=>?_) λhc=>?_
   ·refine .p hu ?_;refine wG λv H lp=>?_;refine .nx ⟨_,rfl,lp.hv,?_⟩;rw[lE,if_pos (by omega),<-acp,tC,bS,<-hw,uN];exact lp.out
   ·refine .nx ⟨_,rfl,hH,?_⟩;rw[lE,if_neg (by omega),ack];exact ho
  ·rintro _ H O ⟨v,rfl,hH,ho⟩;have hu:=MA d0.tm (ek d0 KQ d0.tm (by simp));obtain⟨w,hw⟩:∃w,w=bj Q d0.tm:=⟨_,rfl⟩;rw[<-hw]at AW hu ⊢;rw[ar d0.tm,ar w]at hu;rw[ar w]at AW;refine wA ?_;refine .p hu ?_;refine wA ?_;refine .XN (.inl ho) AW ?_;refine wA ?_;exact⟨_,rfl,rfl⟩
def RU(l:List fq):Int:=if kL l≠0 then kL l else 7
theorem Er(l:List fq)(hd:se l<900000)(k:Int)(h:kL l≠0\/k<0\/(l.length:Int)<=k):aI C 23 [.aa false (bV l),.int .i64 k] (.cA [.bool false,.int .i64 (RU l)]):=by
 have cz:=gv l;have DU:=mh l
 have h1:=yv l (by omega) (λd Cd=>by
  have h1:=tD Cd;have h2:=aY d.kn;refine⟨by omega,λt ht=>?_⟩;rcases ab2.1 ht with ht |ht;have:=bD ht;omega;simp at ht;subst ht;omega)
 refine aI.x T6 Tryz.func23 rfl ?_;refine wA ?_;refine .p h1 ?_;refine wJ (λhc hc=>?_) (λhc hc=>?_) λhc=>?_
 all_goals exact⟨_,rfl,by rw[RU];first |(rw[if_neg (by omega)];rfl)|(rw[if_pos (by omega)];rfl)⟩
theorem CF(l:List fq)(hd:se l<900000)(k:Int)(h:kL l≠0\/k<0\/(l.length:Int)<=k):aI C 24 [.aa false (bV l),.int .i64 k] (.cA [.bool false,.int .i64 (RU l)]):=by
 have cz:=gv l;have DU:=mh l
 have h1:=Ep l (by omega) (λd Cd=>by
  have h1:=tD Cd;have h2:=aY d.kn;refine⟨by omega,λt ht=>?_⟩;rcases ab2.1 ht with ht |ht;have:=bD ht;omega;simp at ht;subst ht;omega)
 refine aI.x T6 Tryz.func24 rfl ?_;refine wA ?_;refine .p h1 ?_;refine wJ (λhc hc=>?_) (λhc hc=>?_) λhc=>?_
 all_goals exact⟨_,rfl,by rw[RU];first |(rw[if_neg (by omega)];rfl)|(rw[if_pos (by omega)];rfl)⟩
theorem RV(l:List fq)(D:KL l)(hd:se l<800000)(k:Int):∃b n,aI C 23 [.aa false (bV l),.int .i64 k] (.cA [.bool b,.int .i64 n])/\aI C 24 [.aa false (bV l),.int .i64 k] (.cA [.bool b,.int .i64 n]):=by
 by_cases h:kL l≠0\/k<0\/(l.length:Int)<=k
 exact⟨_,_,Er l (by omega) k h,CF l (by omega) k h⟩
 ·obtain⟨n,rfl⟩:∃n:Nat,k=n:=⟨k.toNat,by omega⟩;have hn:n<l.length:=by omega
  have e:l=l.take n++l[n]::l.drop (n+1):=by rw[<-adB hn,adA]
  have xi:(l.take n).length=n:=by rw[acM];omega
  have DU:=mh l;have rE:=kN l;have h1:=Ek l _ _ _ e D (by omega) (by rw[GY];omega);have h2:=CE l _ _ _ e D (by omega) (by omega);rw[xi]at h1 h2;exact⟨_,_,h1,h2⟩
theorem EY(b:List (List Nat))(i:Int)(hb:∀y∈b,KA y)(DJ:b.length<100000000):
  aI C 5 [.aa false (ij b),.int .i64 i] (.bool true):=by
 have haw:=J3;have h1:=KB b [] (by omega) (by simp);have hS:Cy b []=(decide (b.length<=5)&&decide (([]:List Nat).length<=10)&& !(b.any qh)):=rfl;have hE:fM []=[]:=rfl;rw[hE]at h1
 cases hsh:Cy b []
 ·rw[hsh]at h1;refine aI.x T6 Tryz.func5 rfl ?_;refine wA ?_;refine .p haw ?_;refine wA ?_;refine .p h1 ?_;refine wA ?_;refine .p haw ?_;refine wA ?_;exact⟨_,rfl,rfl⟩
 ·rw[hsh]at h1 hS;have hS:=hS.symm;simp only[ab4,decide_eq_true_eq,ac8]at hS;obtain⟨⟨hb5,_⟩,ZF⟩:=hS
  have KT:∀y∈b,KA y/\y.length<1000000:=λy hy=>by
   have:=adi.1 ZF y hy;simp only[qh,decide_eq_true_eq]at this;exact⟨hb y hy,by omega⟩
  have h2:=KG b KT (by omega);have hd:=Oe b;have D:=KM b;have DU:=mh (l6 b);generalize l6 b=l at *;have cz:=gv l;refine aI.x T6 Tryz.func5 rfl ?_;refine wA ?_;refine .p haw ?_;refine wA ?_;refine .p h1 ?_;refine wA ?_;refine .p h2 ?_;refine wA ?_;have h3:([i,0,((bV l).length:Int) - 1]:List Int).length=3:=rfl;refine cU.zip T6 ([i,0,((bV l).length:Int) - 1]:List Int) (λp q L H=>L=[(5,.aa false (bV l)),(26,.aa true (([i,0,((bV l).length:Int) - 1]:List Int).map (PV.int .i64))),(27,.int .i64 3),(28,.int .i64 p.length)]) (.nx rfl) ?_ ?_
  ·rintro p k q _ H O e rfl;have dp:=congrArg List.length e;simp only[ab3,ab9,acz]at dp;have cC:(List.map (PV.int .i64) [i,0,((bV l).length:Int) - 1])[p.length]?=some (.int .i64 k):=by rw[e];simp
   clear e h3;generalize List.map (PV.int .i64) [i,0,((bV l).length:Int) - 1]=es at *;obtain⟨tb,te,t1,t2⟩:=RV l D (by omega) k;obtain⟨r1,H1,a1,o1,_,_⟩:=Az (HG l) (by omega) H;refine wA ?_;refine aj.cV rfl a1 ?_;refine wA ?_;refine We (.inl o1) t1 (λh'=>?_);refine wA ?_;refine .p t2 ?_
   cases tb
   all_goals
    refine wA ?_;exact .nx rfl
  ·rintro _ H O rfl;refine wA ?_;exact⟨_,rfl,rfl⟩
end bC
end Go.Pm
