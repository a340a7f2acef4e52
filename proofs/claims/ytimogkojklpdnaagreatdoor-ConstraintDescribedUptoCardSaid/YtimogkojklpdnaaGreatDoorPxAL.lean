/-
  Pm, a part. Conditions: none.
-/
import Derived.Test.YtimogkojklpdnaaGreatDoorPxAK
set_option linter.unusedVariables false
set_option linter.unusedSimpArgs false
set_option linter.unnecessarySimpa false
namespace Go.Pm
set_option maxRecDepth 4000
theorem WZ:(bZ YJ).k=3/\(bZ YK).k=3/\(bZ YL).k=3/\(bZ TG).k=3/\(bZ TH).k=3/\(bZ TI).k=3:=by refine⟨?_,?_,?_,?_,?_,?_⟩ <;>kernel_rfl
theorem xb{s:ByteArray}(h:ua s=true):nj s=false/\(bZ s).k≠3:=by
 simpa[ua]using h
theorem N4{s:ByteArray}(h:ua s=true):¬s.toList=(⟨#[102,115,116]⟩:ByteArray).toList/\¬s.toList=(⟨#[115,110,100]⟩:ByteArray).toList/\¬s.toList=(⟨#[100,101,99]⟩:ByteArray).toList/\¬s.toList=(⟨#[97,100,101,99]⟩:ByteArray).toList/\¬s.toList=(⟨#[111,112,101,110]⟩:ByteArray).toList/\¬s.toList=(⟨#[114,101,97,100]⟩:ByteArray).toList/\
  ¬s.toList=(⟨#[120,111,114]⟩:ByteArray).toList/\¬s.toList=(⟨#[109,117,108]⟩:ByteArray).toList/\¬s.toList=(⟨#[105,110,118]⟩:ByteArray).toList/\¬s.toList=(⟨#[111,110,101]⟩:ByteArray).toList/\¬s.toList=(⟨#[101,120,112]⟩:ByteArray).toList/\¬s.toList=(⟨#[122,101,114,111]⟩:ByteArray).toList:=by
 obtain⟨h1,h2⟩:=xb h;have d:∀n:ByteArray,(bZ n).k=3->¬s.toList=n.toList:=λn hn e=>h2 (by rw[bE.nT e];exact hn)
 simp only[nj,ac5]at h1;obtain⟨⟨⟨⟨⟨a1,a2⟩,a3⟩,a4⟩,a5⟩,a6⟩:=h1;have a:∀n:ByteArray,eI s n=false->¬s.toList=n.toList:=λn hn e=>by rw[bE.kO e]at hn;cases hn
 exact⟨d YJ WZ.1,d YK WZ.2.1,d YL WZ.2.2.1,d TG WZ.2.2.2.1,d TH WZ.2.2.2.2.1,d TI WZ.2.2.2.2.2,a uM a1,a yy a4,a yz a5,a qc a6,a GW a3,a hC a2⟩
theorem Ec{k:Int}{s:ByteArray}{o:Int}{l:List Tm}(h:valid (.mk k s o l)=0)(hk:k=3):o=0:=by
 have h1:=(lV (fq.1 h).1).1;simp only[node]at h1
 split at h1
 ·cases h1
 ·omega
namespace bE
open Go.Proofs
attribute [local irreducible] aD az aL aJ Ev ah aj ay aY bJ
theorem TJ{h:ab}{v:PV}{k o n:Int}{s:ByteArray}{es:List PV}(ho:Out 4 h v es)(hv:ar es=true)(hn:aR es=es):∃r1,rb h (aO [.agg [.int .i64 k,.str s,.int .i64 o,v],.int .i64 n])=some r1/\b9 r1=.ct [.agg [.int .i64 k,.str s,.int .i64 o,.aa false es],.int .i64 n]:=by
 obtain⟨r,h1,h2⟩:∃r,oB h v=some r/\b9 r=.aa false es:=by
  rcases ho with⟨rfl,rfl⟩|⟨id,ep,rfl,e2⟩
  ·exact⟨_,rfl,rfl⟩
  ·exact⟨.aa false es,by simp[oB,getM,e2,hv],by simp[b9,hn]⟩
 refine⟨.ct [.agg [.int .i64 k,.str s,.int .i64 o,r],.int .i64 n],?_,by simp[b9,aR,h2]⟩;simp only[aO,rb,gz,ke,nw,h1]
 rfl
theorem Kt(s:ByteArray)(l:List Tm)(hf:ua s=true)(hl:l.length<100000000)(ih:∀t∈l,aI C 155 [enc t] (.ct [enc t,.int .i64 0])):aI C 155 [enc (.mk 3 s 0 l)] (.ct [enc (.mk 3 s 0 l),.int .i64 0]):=by
 have cr:=ai l;obtain⟨n1,n2,n3,n4,n5,n6,n7,n8,n9,n10,n11,n12⟩:=N4 hf;rw[bh];refine aI.x T6 Tryz.func155 rfl ?_;refine wA ?_
 have C6:HR [⟨.m,0,4,[.agg [.int .i64 3,.str s,.int .i64 0,.aa false (ae l)]]⟩,⟨.m,0,4,[.agg [.int .i64 0,.str ByteArray.empty,.int .i64 0,.aa true []]]⟩,⟨.m,0,4,[.agg [.int .i64 3,.str s,.int .i64 0,.aa true []]]⟩]:=by
  intro x hx
  simp at hx;rcases hx with rfl |rfl |rfl <;>simp[bw,bq,bj]
 refine cO.zip T6 l (λp q L H=>∃v,L=[(1,.ptr 0 0 0 0),(2,.ptr 1 0 0 0),(4,.ptr 2 0 0 0),(19,.aa false (ae l)),(20,.int .i64 (ae l).length),(21,.int .i64 p.length)]/\HR H/\H[0]?=some ⟨.m,0,4,[.agg [.int .i64 3,.str s,.int .i64 0,.aa false (ae l)]]⟩/\H[1]?=some ⟨.m,0,4,[.agg [.int .i64 0,.str ByteArray.empty,.int .i64 0,.aa true []]]⟩/\H[2]?=some ⟨.m,0,4,[.agg [.int .i64 3,.str s,.int .i64 0,v]]⟩/\Out 4 H v (ae p)/\∀i∈bV v,3<=i) (.nx ⟨.aa true [],rfl,C6,rfl,rfl,rfl,.inl ⟨rfl,rfl⟩,by simp[bV]⟩) ?_ ?_
 ·rintro p u q _ H ρ e ⟨v,rfl,hH,h0,h1,h2,ho,hv⟩;have cm:=bg e;have di:=lenE e;have hi:=ih u (by rw[e];simp);have hle:=ai p;have mB:HR (H++[⟨.m,0,4,[.agg [.int .i64 u.k,.str u.s,.int .i64 u.o,.aa false (ae u.l)]]⟩]):=hH.dA (HV.one (by simp));have oN:HR (H++[⟨.m,0,4,[.agg [.int .i64 u.k,.str u.s,.int .i64 u.o,.aa false (ae u.l)]]⟩]++[⟨.m,0,4,[.agg [.int .i64 u.k,.str u.s,.int .i64 u.o,.aa false (ae u.l)]]⟩]):=mB.dA (HV.one (by simp));have ui:=(ho.cB [⟨.m,0,4,[.agg [.int .i64 u.k,.str u.s,.int .i64 u.o,.aa false (ae u.l)]]⟩]).cB [⟨.m,0,4,[.agg [.int .i64 u.k,.str u.s,.int .i64 u.o,.aa false (ae u.l)]]⟩];have AX:=ag h2;have m':ae p++[.agg [.int .i64 u.k,.str u.s,.int .i64 u.o,.aa false (ae u.l)]]=ae (p++[u]):=by rw[bT,<-ao];rfl
  rw[ao]at hi;refine wA ?_;refine .p hi ?_;refine wA ?_;refine .lr (λv' h' lr=>?_) ui;have yf:∀j,j<3->∀ep n,v≠.ak j ep 0 n:=λj hj ep n hh=>by have:=hv j (by rw[hh];simp[bV]);omega
  have gt:∀j,j<3->h'[j]?=H[j]?:=λj hj=>by
   rw[lr.fr j (by simp;omega) (yf j hj),abj (by simp;omega),abj (by omega)]
  have g0:=(gt 0 (by omega)).trans h0;have g1:=(gt 1 (by omega)).trans h1;have g2:=(gt 2 (by omega)).trans h2;have VH:=lr.hr
  have N5:∀i∈bV v',3<=i:=λi hi=>by
   rcases lr.bV i hi with h |h
   ·exact hv i h
   ·simp at h;omega
  have lo:=lr.out;rw[m']at lo;have N6:=lo.bq;rcases lo with⟨_,hx⟩|⟨id,ep,rfl,bW⟩
  ·have:=congrArg List.length hx;rw[ai]at this;simp at this
  have k2:=ag g2;refine wA ?_;have PJ:=N5 id (by simp[bV]);exact .nx ⟨_,rfl,VH.set _ (by simp) (by simpa[bw,bq]using N6),(abm (by omega)).trans g0,(abm (by omega)).trans g1,abl k2,.inr ⟨id,ep,rfl,(abm (by omega)).trans bW⟩,N5⟩
 ·rintro _ H ρ ⟨v,rfl,hH,h0,h1,h2,ho,hv⟩;have k1:=ag h1;have e2:=abl (a:=(⟨.m,0,4,[.agg [.int .i64 3,.str s,.int .i64 0,v]]⟩:aw)) k1;have zO:Out 4 (H.set 1 ⟨.m,0,4,[.agg [.int .i64 3,.str s,.int .i64 0,v]]⟩) v (ae l):=ho.of_eq λi hi=>abm (by have:=hv i hi;omega)
  rcases ho with⟨rfl,he⟩|⟨id,ep,rfl,bW⟩
  ·refine wA ?_;refine .mk ?_ (jY (T:=T6) rfl e2 rfl rfl rfl rfl);exact⟨TJ zO (by simp) (by simp)⟩
  ·refine wA ?_;refine .mk ?_ (jY (T:=T6) rfl e2 rfl rfl rfl rfl);exact⟨TJ zO (by simp) (by simp)⟩
theorem GX(t:Tm):gw t=0->iQ t=true->ax t<100000000->aI C 155 [enc t] (.ct [enc t,.int .i64 0]):=by
 induction t using Tm.ind with
 |h k s o l ih=>
  intro hv hf hb
  by_cases hk:k=3
  ·subst hk;obtain rfl:=Ec (iE.1 hv).1 rfl;have:=ba l;simp only[ax]at hb;refine Kt s l ((r9.1 hf).1 rfl) (by omega) λt ht=>ih t ht (qR hv ht) ((r9.1 hf).2 t ht) (by have:=bC ht;omega)
  ·rw[bh];refine aI.x T6 Tryz.func155 rfl ?_;refine wA ?_;exact jd
theorem Ed(t:Tm)(hf:iQ t=true)(hb:ax t<100000000):aI C 107 [enc t] (.ct [enc (if gw t=0 then t else dM),.int .i64 (gw t)]):=by
 have h1:=tq t hb;have h2:=λh=>GX t h hf hb
 have h3:=λh:gw t=0=>(fM t (by omega)).nine
 have hz:=kj;rw[ao t]at h1 h2 h3 ⊢
 by_cases hv:gw t=0
 ·have h2:=h2 hv;have h3:=h3 hv;rw[(iE.1 hv).1]at h3;rw[if_pos hv,hv,ao];rw[hv]at h1;refine aI.x T6 Tryz.func107 rfl ?_;refine wA ?_;refine .p h1 ?_;refine wA ?_;refine .p h2 ?_;refine wA ?_;refine .p h3 ?_;refine wA ?_;exact jd
 ·rw[if_neg hv,hz];refine aI.x T6 Tryz.func107 rfl ?_;refine wA ?_;refine .p h1 ?_;refine wA ?_;exact⟨_,rfl,rfl⟩
theorem GY(s:ByteArray):aI C 110 [.str s] (.bool (decide ((bZ s).k≠3))):=by
 have hs:=qd s;rw[Cv]at hs;refine aI.x T6 Tryz.func110 rfl ?_;refine wA ?_;refine .p hs ?_;refine wC (λhc=>?_) λhc=>?_
 all_goals exact⟨_,rfl,by simp[aO, *]⟩
theorem Ku{t:Tm}(h:iQ t=true):every (λs=>decide ((bZ s).k≠3)) t=true:=by
 unfold iQ at h;rw[uu,abk]at h ⊢
 intro u hu
 have:=h u hu;simp only[abN]at this ⊢;exact this.imp id λx=>decide_eq_true (xb x).2
theorem Bl(t:Tm)(hf:iQ t=true)(hb:ax t<100000000):aI C 55 [enc t] (.bool (decide (gw t=0))):=by
 have h1:=Ed t hf hb;have h2:=yA 110 _ rfl GY t (by omega);rw[Ku hf]at h2
 by_cases hv:gw t=0
 ·have h3:aI C 108 [enc t,enc t] (.bool true):=by
   have h4:=(eB t t (by omega) (by omega)).nine;rw[cq]at h4;rw[ao]at h4 ⊢;refine aI.x T6 Tryz.func108 rfl ?_;refine wA ?_;refine .p h4 ?_;refine wA ?_;exact⟨_,rfl,rfl⟩
  rw[if_pos hv,hv]at h1;rw[hv];rw[ao]at *;refine aI.x T6 Tryz.func55 rfl ?_;refine wA ?_;refine .p h1 ?_;refine wA ?_;refine .p h3 ?_;refine wA ?_;refine .p h2 ?_;refine wA ?_;exact⟨_,rfl,rfl⟩
 ·rw[if_neg hv,kj]at h1;rw[ao]at h1 ⊢;refine aI.x T6 Tryz.func55 rfl ?_;refine wA ?_;refine .p h1 ?_;refine wA ?_;exact⟨_,rfl,by simp[aO,hv]⟩
end bE
def l9(l:List ByteArray):List PV:=l.map PV.str
@[simp] theorem Kv(l:List ByteArray):(l9 l).length=l.length:=by simp[l9]
@[simp] theorem Rg(l:List ByteArray):ar (l9 l)=true:=by rw[bB];simp[l9,aW]
@[simp] theorem VI(l:List ByteArray):aR (l9 l)=l9 l:=by rw[cI];simp[l9,b9]
theorem N7{l p q:List ByteArray}{d:ByteArray}(e:l=p++d::q):(l9 l)[p.length]?=some (.str d):=by rw[l9,e];simp
def Ee(t:Tm):Bool:=db t yy ||db t yz
theorem jF{t:Tm}(h:iQ t=true):db t yy=false/\db t yz=false/\db t GW=false/\db t uM=false/\db t hC=false/\db t qc=false:=by
 have key:∀n:ByteArray,ua n=false->db t n=false:=λn hn=>by
  cases hh:db t n
  ·rfl
  ·obtain⟨h1,h2⟩:=N8 hh;have:=IX h h1;rw[h2,hn]at this
   cases this
 refine⟨key _ ?_,key _ ?_,key _ ?_,key _ ?_,key _ ?_,key _ ?_⟩ <;>kernel_rfl
namespace bE
open Go.Proofs
attribute [local irreducible] aD az aL aJ Ev ah aj ay aY bJ
theorem GZ(ns:List ByteArray)(s:ByteArray)(hl:ns.length<1000000):aI C 148 [.aa false (l9 ns),.str s] (.int .i64 (wo (λn=>eI s n) ns)):=by
 have cr:=Kv ns;refine aI.x T6 Tryz.func148 rfl ?_;refine wA ?_;refine cO.zip T6 ns (λp q L H=>L=[(0,.aa false (l9 ns)),(1,.str s),(7,.int .i64 (l9 ns).length),(8,.int .i64 p.length)]/\H=[]/\∀y∈p,eI s y=false) (.nx ⟨rfl,rfl,by simp⟩) ?_ ?_
 ·rintro p n q _ _ ρ e ⟨rfl,rfl,hp⟩;have cm:=N7 e;have di:=lenE e;refine wC (λhc=>?_) λhc=>?_
  ·exact⟨_,rfl,by rw[e,qO hp (kO (by assumption))];rfl⟩
  ·exact .nx ⟨rfl,rfl,λy hy=>by rcases abp.1 hy with h |h;exact hp y h;simp at h;rw[h];exact jf (by assumption)⟩
 ·rintro _ _ ρ ⟨rfl,rfl,hp⟩;refine wA ?_;exact⟨_,rfl,by rw[lJ hp];rfl⟩
theorem Kw(ns:List ByteArray)(s:ByteArray)(hl:ns.length<1000000):aI C 147 [.aa false (l9 ns),.str s] (.bool (ns.any λn=>eI s n)):=by
 have h1:=GZ ns s hl;have ha:=tf (λn=>eI s n) ns;refine aI.x T6 Tryz.func147 rfl ?_;refine wA ?_;refine .p h1 ?_;refine wC (λhc=>?_) λhc=>?_
 all_goals exact⟨_,rfl,by rw[<-ha];simp[aO, *]⟩
theorem tn(t:Tm)(ns:List ByteArray)(hl:ns.length<1000000):aI C 206 [enc t,.aa false (l9 ns)] (.bool (decide (t.k=3)&&ns.any λn=>eI t.s n)):=by
 have h1:=Kw ns t.s hl;rw[ao];refine aI.x T6 Tryz.func206 rfl ?_;refine wC (λhc=>?_) λhc=>?_
 ·refine .p h1 ?_;refine wA ?_;exact⟨_,rfl,by simp[aO, *]⟩
 ·exact⟨_,rfl,by simp[aO, *]⟩
theorem nU(t:Tm)(n:ByteArray):aI C 206 [enc t,.aa false [.str n]] (.bool (db t n)):=by
 have:=tn t [n] (by simp);simpa[l9,db]using this
theorem Bm(t:Tm):aI C 205 [enc t] (.bool (Ee t)):=by
 have h1:aI C 206 [enc t,.aa false [.str ⟨#[109,117,108]⟩,.str ⟨#[105,110,118]⟩]] (.bool (Ee t)):=by
  have:=tn t [yy,yz] (by simp);have e:Ee t=(decide (t.k=3)&& [yy,yz].any λn=>eI t.s n):=by cases h:decide (t.k=3) <;>simp[Ee,db,h]
  rw[e];exact this
 rw[ao]at h1 ⊢;refine aI.x T6 Tryz.func205 rfl ?_;refine wA ?_;refine .p h1 ?_;refine wA ?_;exact⟨_,rfl,rfl⟩
theorem G4(t:Tm)(hf:iQ t=true)(hb:ax t<10000000):aI C 204 [enc t] (.int .i64 (rq t)):=by
 have h1:=tq t (by omega);have h2:=mf t hb;have h3:=Bl t hf (by omega);have cr:=ai (bu t);have hr:rq t=if gw t≠0 then gw t else if bu t≠[]then 13 else 0:=rfl;rw[ao]at h1 h2 h3 ⊢;refine aI.x T6 Tryz.func204 rfl ?_;refine wA ?_;refine .p h1 ?_;refine wC (λhc=>?_) λhc=>?_
 ·have hz:gw t=0:=by omega
  rw[hz]at h3;rw[if_neg (by omega)]at hr;refine .p h2 ?_;refine wC (λhc=>?_) λhc=>?_
  ·have hn:bu t≠[]:=by
    intro hh
    have h0:(ae (bu t)).length=0:=by rw[cr,hh];rfl
    omega
   rw[if_pos hn]at hr;exact⟨_,rfl,by rw[hr];rfl⟩
  ·have hn:bu t=[]:=abA (by omega);rw[if_neg (by simp[hn])]at hr;refine .p h3 ?_;refine wA ?_;exact⟨_,rfl,by rw[hr];rfl⟩
 ·exact⟨_,rfl,by rw[hr,if_pos (by assumption)];rfl⟩
theorem Ef{l p q:List Tm}{u:Tm}(e:l=p++u::q)(hp:∀v∈p,rq v=0)(hu:rq u≠0):jg l=rq u:=by
 subst e
 induction p with
 |nil=>simp only[abT,jg];rw[if_pos hu]
 |cons v p ih=>
  simp only[abH,jg];rw[if_neg (by rw[hp v (by simp)];simp),ih (λw hw=>hp w (by simp[hw]))]
theorem se:∀{l:List Tm},(∀v∈l,rq v=0)->jg l=0
 |[],_=>rfl
 |v::l,h=>by
  rw[jg,if_neg (by rw[h v (by simp)];simp)];exact se λu hu=>h u (by simp[hu])
theorem Eg(l:List Tm)(hf:∀t∈l,iQ t=true)(hl:l.length<10000000)(hb:∀t∈l,ax t<10000000):aI C 159 [.aa false (ae l)] (.int .i64 (jg l)):=by
 have cr:=ai l;refine aI.x T6 Tryz.func159 rfl ?_;refine wA ?_;refine cO.zip T6 l (λp q L H=>L=[(6,.aa false (ae l)),(7,.int .i64 (ae l).length),(8,.int .i64 p.length)]/\HV H/\∀v∈p,rq v=0) (.nx ⟨rfl,HV.nil,by simp⟩) ?_ ?_
 ·rintro p u q _ H ρ e ⟨rfl,hH,hp⟩;have cm:=bg e;have di:=lenE e;have h1:=G4 u (hf u (by rw[e];simp)) (hb u (by rw[e];simp));rw[ao]at h1;refine wA ?_;refine .p h1 ?_;refine wC (λhc=>?_) λhc=>?_
  ·exact .nx ⟨rfl,hH.cB (HV.one (by simp)),λv hv=>by rcases abp.1 hv with h |h;exact hp v h;simp at h;rw[h];omega⟩
  ·exact⟨_,rfl,by rw[Ef e hp (by assumption)];rfl⟩
 ·rintro _ H ρ ⟨rfl,hH,hp⟩;refine wA ?_;exact⟨_,rfl,by rw[se hp];rfl⟩
theorem Kx(u:List Tm)(hf:∀t∈u,iQ t=true)(hl:u.length<10000000):aI C 160 [.aa false (ae u)] (.int .i64 (if 200<u.length then 3 else 0)):=by
 have cr:=ai u;refine aI.x T6 Tryz.func160 rfl ?_;refine wA ?_;refine cO.zip T6 u (λp q L H=>L=[(0,.aa false (ae u)),(3,.int .i64 0),(4,.aa true []),(11,.aa false (ae u)),(12,.int .i64 (ae u).length),(13,.int .i64 p.length)]/\HV H) (.nx ⟨rfl,HV.nil⟩) ?_ ?_
 ·rintro p t q _ H ρ e ⟨rfl,hH⟩;have cm:=bg e;have di:=lenE e;obtain⟨f1,f2,f3,_⟩:=jF (hf t (by rw[e];simp));have h1:=Bm t;have h2:=nU t ⟨#[101,120,112]⟩;have e2:db t ⟨#[101,120,112]⟩=false:=f3;have e1:Ee t=false:=by simp[Ee,f1,f2]
  rw[e1]at h1;rw[e2]at h2;rw[ao]at h1 h2;refine wA ?_;refine .p h1 ?_;refine wA ?_;refine .p h2 ?_;refine wA ?_;exact .nx ⟨rfl,hH.cB (HV.one (by simp))⟩
 ·rintro _ H ρ ⟨rfl,hH⟩;refine wC (λhc=>?_) λhc=>?_
  ·exact⟨_,rfl,by rw[if_pos (by omega)];rfl⟩
  ·exact⟨_,rfl,by rw[if_neg (by omega)];rfl⟩
end bE
open Go.Proofs
theorem Ts{n:Int}(h1:0<=n)(h2:n<256):IntKind.u8.wrap n=n:=by
 have:IntKind.u8.wrap n=n % 256:=by simp[IntKind.wrap,IntKind.bits,IntKind.signed]
 rw[this];omega
attribute [local irreducible] aD az aL aJ Ev ah aj ay aY
theorem QF(a b:Nat):Int.tdiv (a:Int) (b:Int)=((a / b:Nat):Int):=by rw[Int.tdiv_eq_ediv_of_nonneg (by omega)];exact(Int.natCast_ediv a b).symm
theorem Gs(a b:Nat):Int.tmod (a:Int) (b:Int)=((a % b:Nat):Int):=by rw[Int.tmod_eq_emod_of_nonneg (by omega)];exact(Int.natCast_emod a b).symm
end Go.Pm
namespace Go.Pm
open Go.Proofs
set_option maxRecDepth 4000
def Z1(S:List Row)(P:List Int):Prop:=∀(c:Nat) (i:Int),P[c]?=some i->-1<=i/\(0<=i->∃b u,S[i.toNat]?=some (b,u)/\atR b c≠0)
end Go.Pm
namespace Go.Pm
theorem QG{a b:List Int}{q:Int}{c:Nat}(h:a.length=b.length):atR (J4 a b q) c=atR a c - q * atR b c:=by
 unfold atR J4;simp only[List.getD,acP]
 by_cases hc:c<a.length
 ·rw[abo hc,abo (by omega)];simp
 ·rw[abC (by omega),abC (by omega)];simp
structure wj(w c:Nat)(S:List Row)(P:List Int):Prop where
 len:∀R∈S,R.1.length=w
 pl:P.length=c
 pv:∀(k:Nat) (i:Int),P[k]?=some i->-1<=i/\(0<=i->∃b,S[i.toNat]?=some (b,true)/\atR b k≠0/\∀j,j<k->atR b j=0)
 un:∀b,(b,false)∈S->∀k,k<c->atR b k=0
 us:∀(j:Nat) (b:List Int),S[j]?=some (b,true)->∃k:Nat,P[k]?=some (j:Int)
theorem wj.ok{w c:Nat}{S:List Row}{P:List Int}(h:wj w c S P):Z1 S P:=λk i hi=>by
 obtain⟨h1,h2⟩:=h.pv k i hi;exact⟨h1,λh0=>by obtain⟨b,e1,e2,_⟩:=h2 h0;exact⟨b,true,e1,e2⟩⟩
theorem A7{c bi:Nat}{b:List Int}{S:List Row}{R:Row}(h:R∈vA c b bi S):R∈S\/∃a,(a,false)∈S/\R=(J4 a b ((atR a c).tdiv (atR b c)),false):=by
 obtain⟨i,hi⟩:=aco h;rw[A8]at hi
 cases hS:S[i]? with
 |none=>rw[hS]at hi;cases hi
 |some Q=>
  rw[hS]at hi;have hQ:=aby hS;simp only[abw,abU]at hi
  split at hi
  ·exact .inl (hi▸hQ)
  ·unfold Nc at hi
   split at hi
   ·rename_i hc
    obtain⟨a,u⟩:=Q;have hu:u=false:=by simp[k9]at hc;exact hc.1
    subst hu;exact .inr ⟨a,hQ,hi.symm⟩
   ·exact .inl (hi▸hQ)
theorem x5{c bi j:Nat}{b a:List Int}{S:List Row}:(vA c b bi S)[j]?=some (a,true)↔S[j]?=some (a,true):=by
 rw[A8]
 cases hS:S[j]? with
 |none=>simp
 |some Q=>
  obtain⟨x,u⟩:=Q;simp only[abw,abU]
  split
  ·exact Iff.rfl
  ·cases u
   ·unfold Nc;split <;>simp
   ·simp[Nc,k9]
theorem wj.step{w c:Nat}{S:List Row}{P:List Int}{bi:Nat}{b:List Int}(h:wj w c S P)(hb:Ag c S bi b):wj w c (vA c b bi S) P:=by
 have MU:=aby hb.at_;have Du:=h.len _ MU;refine⟨λR hR=>?_,h.pl,λk i hi=>?_,λa ha k hk=>?_,λj a ha=>h.us j a (x5.1 ha)⟩
 ·rcases A7 hR with hR |⟨a,ha,rfl⟩
  ·exact h.len R hR
  ·have:=h.len _ ha;dsimp only at *;rw[Nb (by omega)];exact this
 ·obtain⟨h1,h2⟩:=h.pv k i hi;exact⟨h1,λh0=>by obtain⟨x,e1,e2⟩:=h2 h0;exact⟨x,x5.2 e1,e2⟩⟩
 ·rcases A7 ha with hR |⟨x,hx,he⟩
  ·exact h.un a hR k hk
  ·have e:=congrArg Prod.fst he;dsimp only at e;have h1:=h.len _ hx;dsimp only at h1 Du;rw[e,QG (by omega),h.un x hx k hk,h.un b MU k hk];simp
theorem wj.col{w c st:Nat}{S:List Row}{P:List Int}{r:Option (List Row×Int)}(hc:Tt c st S r):wj w c S P->∀S' i,r=some (S',i)->wj w (c+1) S' (P++[i]):=by
 induction hc with
 | @zero S hz=>
  rintro h _ _ ⟨⟩;have h0:=DP hz;refine⟨h.len,by simp[h.pl],λk i hi=>?_,λa ha k hk=>?_,λj a ha=>?_⟩
  ·rcases acV k P.length with h1 |h1 |h1
   ·rw[abj h1]at hi;exact h.pv k i hi
   ·subst h1;simp at hi;subst hi;exact⟨by omega,λhh=>by omega⟩
   ·rw[abC (by simp;omega)]at hi;cases hi
  ·by_cases hkc:k=c
   ·subst hkc;have:=h0 _ ha;simpa[k9]using this
   ·exact h.un a ha k (by omega)
  ·obtain⟨k,hk⟩:=h.us j a ha;exact⟨k,by rw[abj (ag hk)];exact hk⟩
 | @one S bi b hb h1=>
  rintro h _ _ ⟨⟩;have MU:=aby hb.at_;have cG:=ag hb.at_
  have only:∀(j:Nat) (a:List Int),S[j]?=some (a,false)->atR a c≠0->j=bi:=λj a ha hn=>by
   have hca:k9 c (a,false)=true:=by simp[k9,hn]
   have h2:(PL c S).length=1:=by rw[QH,h1]
   obtain⟨x,hx⟩:=List.length_eq_one_iff.1 h2;have m1:j∈PL c S:=IC.2 ⟨_,ha,hca⟩;have m2:bi∈PL c S:=IC.2 ⟨_,hb.at_,hb.isc⟩;rw[hx,abP]at m1 m2;rw[m1,m2]
  have get:∀j R,(S.set bi (b,true))[j]?=some R->(j=bi/\R=(b,true))\/(j≠bi/\S[j]?=some R):=λj R hR=>by
   rw[List.getElem?_set]at hR
   split at hR
   ·rename_i hj;subst hj;(try rw[if_pos cG]at hR);exact .inl ⟨rfl,by simpa using hR.symm⟩
   ·rename_i hj;exact .inr ⟨λhh=>hj hh.symm,hR⟩
  have setb:(S.set bi (b,true))[bi]?=some (b,true):=by rw[abl cG]
  refine⟨λR hR=>?_,by simp[h.pl],λk i hi=>?_,λa ha k hk=>?_,λj a ha=>?_⟩
  ·rcases acR hR with hR |rfl
   ·exact h.len R hR
   ·have:=h.len _ MU;exact this
  ·rcases acV k P.length with h1 |h1 |h1
   ·rw[abj h1]at hi;obtain⟨g1,g2⟩:=h.pv k i hi;refine⟨g1,λh0=>?_⟩;obtain⟨x,e1,e2⟩:=g2 h0;refine⟨x,?_,e2⟩;rw[List.getElem?_set]
    split
    ·rename_i hj;rw[<-hj,hb.at_]at e1;cases e1
    ·exact e1
   ·have hk:k=c:=by rw[h1,h.pl]
    subst h1;simp only[abt (abn _),acw,List.getElem?_cons_zero,abU]at hi;subst hi;refine⟨by omega,λ_=>⟨b,by simpa using setb,by rw[hk];exact hb.nz,λj hj=>h.un b MU j (by omega)⟩⟩
   ·rw[abC (by simp;omega)]at hi;cases hi
  ·obtain⟨j,hj⟩:=aco ha;rcases get j _ hj with⟨_,he⟩|⟨bN,hS⟩
   ·cases he
   ·by_cases hkc:k=c
    ·subst hkc;exact adt λhn=>bN (only j a hS hn)
    ·exact h.un a (aby hS) k (by omega)
  ·rcases get j _ ha with⟨rfl,_⟩|⟨bN,hS⟩
   ·exact⟨P.length,by simp⟩
   ·obtain⟨k,hk⟩:=h.us j a hS;exact⟨k,by rw[abj (ag hk)];exact hk⟩
 |Nd=>rintro _ _ _ ⟨⟩
 |step hb h2 h3 h4 ih=>exact λh S' i e=>ih (h.step hb) S' i e
theorem wj.el{w n c:Nat}{S:List Row}{P:List Int}{r:Option (List Row×List Int)}(hE:El n c S P r):wj w c S P->∀S' P',r=some (S',P')->wj w n S' P':=by
 induction hE with
 |done=>rintro h _ _ ⟨⟩;exact h
 |Nd=>rintro _ _ _ ⟨⟩
 |next h1 h2 h3 ih=>exact λh S' P' e=>ih (wj.col h2 h _ _ rfl) S' P' e
open Go.Proofs
set_option maxRecDepth 4000
theorem aj.same{C:cR}{f:FuncId}{args:List PV}{H:ab}{P:PV->Prop}{Q:PV->ab->Prop}(a:ay C f args H (λr h'=>P r/\h'=H))(q:∀r,P r->Q r H)(hm:C.mode f=.opened:=by rfl):aj C 2 f args H Q:=by
 refine aj.opened hm (a.mono λr k hr=>?_);obtain⟨hp,rfl⟩:=hr
 split
 ·rw[ack];exact q r hp
 ·exact q r hp
end Go.Pm
namespace Go.Pm
set_option maxRecDepth 4000
theorem Bj(u:ByteArray)(a b:Nat):(u.extract a b).toList=(u.toList.take b).drop a:=by
 rw[ByteArray.toList_eq,ByteArray.toList_eq,ByteArray.data_extract,Array.toList_extract];simp[List.extract_eq_take_drop,adS]
def NT:ByteArray:=⟨#[48,49,50,51,52,53,54,55,56,57]⟩
def jE:List PV:=(List.range 256).map λi=>.bool (decide (48<=i)&&decide (i<=57))
theorem Kq{n:Nat}(h:n<256):jE[n]?=some (.bool (decide (48<=n)&&decide (n<=57))):=by
 unfold jE;rw[abB,adP h]
 rfl
theorem ay.oF{C:cR}{f:FuncId}{args:List PV}{h h':ab}{r:PV}{n:Nat}{Q:PV->ab->Prop}(e:fo C n f args h=some (r,h'))(q:Q r h'):ay C f args h Q:=⟨r,h',q,n,λm hm=>Bk C hm f args h _ e⟩
theorem Ea:∀{n:Nat} {l:List PV} {k:List PV->Prop},n<=l.length->k (l.drop n)->pq n l k
 |0,l,k,_,h=>h
 |n+1,_::l,k,h1,h=>Ea (n:=n) (by simpa using h1) h
 |_+1,[],_,h1,_=>by simp at h1
theorem NU{u:ByteArray}(h:0<u.size):∃c,u[u.size - 1]?=some c/\u.toList=(u.extract 0 (u.size - 1)).toList++[c]:=by
 have hl:=bsize u;have h1:u.toList≠[]:=by intro hh;rw[hh]at hl;simp at hl;omega
 refine⟨u.toList.getLast h1,Kr ?_,?_⟩
 ·rw[<-hl,List.getLast_eq_getElem,abo]
 ·rw[Bj,acv,<-hl,<-List.dropLast_eq_take,List.dropLast_concat_getLast]
theorem NV{u:ByteArray}(h:0<u.size):∃c,u[0]?=some c/\u.toList=c::(u.extract 1 u.size).toList:=by
 have hl:=bsize u
 cases e:u.toList with
 |nil=>rw[e]at hl;simp at hl;omega
 |cons c r=>
  refine⟨c,Kr (by rw[e];rfl),?_⟩;rw[Bj,<-hl,ack,e]
  rfl
def kN(c:UInt8):Bool:=qb c.toNat
namespace bE
open Go.Proofs
attribute [local irreducible] aD az aL aJ Ev ah aj ay aY bJ
theorem Ks:(fo C 400 359 [.str NT] []).map (·.1)=some (.ct [.agg jE,.bool true]):=by kernel_rfl
theorem NW:ay C 359 [.str NT] [] (λr h'=>r=.ct [.agg jE,.bool true]):=by
 have h:=Ks
 cases e:fo C 400 359 [.str NT] []with
 |none=>rw[e]at h;cases h
 |some x=>
  obtain⟨r,h'⟩:=x;rw[e]at h;exact ay.oF e (abi h)
section
attribute [local irreducible] pq
theorem vJ(c:UInt8):ay C 382 [.ptr 0 0 0 0,.int .u8 c.toNat] [(⟨.m,0,256,[.agg jE]⟩:aw)] (λr h'=>r=.bool (kN c)/\h'=[(⟨.m,0,256,[.agg jE]⟩:aw)]):=by
 have hc:c.toNat<256:=c.toNat_lt
 have hb:kN c=(decide (48<=c.toNat)&&decide (c.toNat<=57)):=by
  unfold kN qb
  by_cases h1:48<=c.toNat <;>by_cases h2:c.toNat<=57 <;>simp[h1,h2] <;>omega
 have cm:=Kq hc;rw[<-hb]at cm;generalize hA:jE=A at cm ⊢
 have B8:A.drop (0+c.toNat * 1)=.bool (kN c)::A.drop (c.toNat+1):=by
  have cG:=ag cm;rw[abE,Nat.mul_one,ac3 cG];rw[abo cG]at cm;rw[abi cm]
 refine ay.x T6 Tryz.func382 rfl ?_;refine wA ?_;refine Ea (by show _<=A.length;have:=ag cm;omega) ?_;show yw T6 _ (A.drop (0+c.toNat * 1)) _;rw[B8];refine Rn.out ?_;refine wA ?_;exact⟨rfl,rfl⟩
end
theorem Eb(u:ByteArray)(a b:Nat):(u.extract a b).size=min b u.size - a:=by
 rw[<-bsize,Bj,acX,ab7,bsize]
theorem NX(s:ByteArray)(hs:s.size<1000000000):ay C 361 [.str s,.ptr 0 0 0 0] [(⟨.m,0,256,[.agg jE]⟩:aw)] (λr h'=>h'=[(⟨.m,0,256,[.agg jE]⟩:aw)]/\∃u d,r=.str u/\s.toList=u.toList++d/\d.all kN=true/\u.size<=s.size/\(∀c,u.toList.getLast?=some c->kN c=false)):=by
 refine ay.x T6 Tryz.func361 rfl ?_;refine wA ?_;refine cO.nat T6 (λk L H=>∃u d,L=[(0,.str u),(1,.ptr 0 0 0 0)]/\H=[(⟨.m,0,256,[.agg jE]⟩:aw)]/\k=u.size/\s.toList=u.toList++d/\d.all kN=true/\u.size<=s.size) s.size (.nx ⟨s,[],rfl,rfl,rfl,by simp,rfl,abn _⟩) ?_;rintro k _ _ ρ ⟨u,d,rfl,rfl,rfl,e1,e2,e3⟩
 by_cases hu:0<u.size
 ·obtain⟨c,h1,h2⟩:=NU hu;have hx:=Eb u 0 (u.size - 1);have hc:=vJ c;refine wA ?_;refine .mk (n:=u.size - 1) ?_ (by omega) h1;refine wA ?_;refine .same (hc.mono λr h' h=>⟨h.1,h.2⟩) (λr hr=>?_);subst hr
  cases hd:kN c
  ·refine wA ?_;refine⟨rfl,u,d,rfl,e1,e2,e3,λc' tX=>?_⟩;rw[h2,List.getLast?_append]at tX;simp at tX;rw[<-tX];exact hd
  ·refine wA ?_;rw[show((u.size:Int) - 1).toNat=u.size - 1 by omega];refine .nx ⟨_,?_,u.extract 0 (u.size - 1),c::d,rfl,rfl,rfl,by rw[e1,h2];simp,by simp[hd,e2],by omega⟩;omega
 ·refine wA ?_;refine⟨rfl,u,d,rfl,e1,e2,e3,λc hc=>?_⟩;have:=bsize u;have h0:u.toList=[]:=abA (by omega);rw[h0]at hc;simp at hc
theorem NY(s:ByteArray)(hs:s.size<1000000000):ay C 360 [.str s,.ptr 0 0 0 0] [(⟨.m,0,256,[.agg jE]⟩:aw)] (λr h'=>h'=[(⟨.m,0,256,[.agg jE]⟩:aw)]/\∃u d,r=.str u/\s.toList=d++u.toList/\d.all kN=true/\(∀c,u.toList.head?=some c->kN c=false)):=by
 refine ay.x T6 Tryz.func360 rfl ?_;refine wA ?_;refine cO.nat T6 (λk L H=>∃u d,L=[(0,.str u),(1,.ptr 0 0 0 0)]/\H=[(⟨.m,0,256,[.agg jE]⟩:aw)]/\k=u.size/\s.toList=d++u.toList/\d.all kN=true/\u.size<=s.size) s.size (.nx ⟨s,[],rfl,rfl,rfl,by simp,rfl,abn _⟩) ?_;rintro k _ _ ρ ⟨u,d,rfl,rfl,rfl,e1,e2,e3⟩
 by_cases hu:0<u.size
 ·obtain⟨c,h1,h2⟩:=NV hu;have hx:=Eb u 1 u.size;have hc:=vJ c;refine wA ?_;refine .same (hc.mono λr h' h=>⟨h.1,h.2⟩) (λr hr=>?_);subst hr
  cases hd:kN c
  ·refine wA ?_;refine⟨rfl,u,d,rfl,e1,e2,λc' tX=>?_⟩;rw[h2]at tX;simp at tX;rw[<-tX];exact hd
  ·refine wA ?_;refine .nx ⟨_,?_,u.extract 1 u.size,d++[c],rfl,rfl,rfl,by rw[e1,h2];simp,by simp[hd,e2],by omega⟩;omega
 ·refine wA ?_;refine⟨rfl,u,d,rfl,e1,e2,λc hc=>?_⟩;have:=bsize u;have h0:u.toList=[]:=abA (by omega);rw[h0]at hc;simp at hc
theorem NZ{s u u':List UInt8}{d d':List UInt8}(e1:s=u++d)(h1:d.all kN=true)(l1:∀c,u.getLast?=some c->kN c=false)(e2:u=d'++u')(h2:d'.all kN=true)(l2:∀c,u'.head?=some c->kN c=false):u'=[]↔s.all kN=true:=by
 constructor
 ·rintro rfl;rw[e1,e2];simp[h1,h2]
 ·intro h
  rw[e1,acj,abq]at h
  have hu:u=[]:=by
   cases hl:u.getLast? with
   |none=>exact List.getLast?_eq_none_iff.1 hl
   |some c=>
    have h3:=l1 c hl;have h4:=abk.1 h.1 c (List.mem_of_getLast? hl);rw[h3]at h4;cases h4
  rw[hu]at e2;exact(List.append_eq_nil_iff.1 e2.symm).2
theorem YH:jq C.P 290=some (.agg (List.replicate 256 (.bool false))):=by kernel_rfl
theorem N0(s:ByteArray)(hs:s.size<1000000000):∃r:ByteArray,(r.toList=[]↔s.toList.all kN=true)/\aI C 319 [.str s,.str NT] (.str r):=by
 have key:∃x,(∃r:ByteArray,x=.str r/\(r.toList=[]↔s.toList.all kN=true))/\aI C 319 [.str s,.str NT] x:=by
  refine aI.ex (F:=id) ?_;refine ay.x T6 Tryz.func319 rfl ?_;refine wI (λhc=>?_) (λhc hc=>?_) λhc hc=>?_
  ·refine⟨.str s,⟨s,rfl,?_⟩,_,rfl,rfl⟩;have h0:s.toList=[]:=by rw[hc,ByteArray.toList_eq]
   rw[h0];simp
  ·exact absurd hc (by rw[ByteArray.toList_eq,ByteArray.toList_eq];decide)
  ·refine .opened rfl (NW.mono λr h' hr=>?_);subst hr;rw[if_pos (by simp[dZ,cK,dY,jE,aW])];rw[show List.take ([]:ab).length h'=[]from rfl];refine wA ?_;refine .mk (v:=.ptr 0 0 0 0) (h':=[⟨.m,0,256,[.agg (List.replicate 256 (.bool false))]⟩]) (λrun ρ=>?_) ?_
   ·simp only[au,aC,YH];rw[if_pos ⟨by decide,by decide,by decide⟩]
    rfl
   refine wA ?_;refine .same ((NX s hs).mono λr h' h=>⟨h.2,h.1⟩) (λr hr=>?_);obtain⟨u,d,rfl,e1,e2,e3,l1⟩:=hr;refine wA ?_;refine .same ((NY u (by omega)).mono λr h' h=>⟨h.2,h.1⟩) (λr hr=>?_);obtain⟨u',d',rfl,f1,f2,l2⟩:=hr;refine wA ?_;exact⟨.str u',⟨u',rfl,NZ e1 e2 l1 f1 f2 l2⟩,_,rfl,rfl⟩
 obtain⟨x,⟨r,rfl,h1⟩,h2⟩:=key;exact⟨r,h1,h2⟩
theorem GS(s:ByteArray)(hs:s.size<1000000000):aI C 269 [.str s] (.bool (N1 s.toList)):=by
 obtain⟨r,h1,h2⟩:=N0 s hs;have h2:aI C 319 [.str s,.str ⟨#[48,49,50,51,52,53,54,55,56,57]⟩] (.str r):=h2;have hd:N1 s.toList=(!s.toList.isEmpty&&s.toList.all kN):=rfl;refine aI.x T6 Tryz.func269 rfl ?_;refine wC (λhc=>?_) λhc=>?_
 ·have h0:s.toList=[]:=by rw[hc,ByteArray.toList_eq]
  exact⟨_,rfl,by rw[hd,h0];rfl⟩
 ·have h0:s.toList≠[]:=λhh=>by exact hc (by rw[hh,ByteArray.toList_eq])
  have h3:s.toList.isEmpty=false:=by cases h:s.toList with |nil=>exact absurd h h0 |cons=>rfl
  rw[h3]at hd;refine .p h2 ?_;refine wC (λhc=>?_) λhc=>?_
  ·have h4:r.toList=[]:=by rw[hc,ByteArray.toList_eq]
   exact⟨_,rfl,by rw[hd,h1.1 h4];rfl⟩
  ·have h4:r.toList≠[]:=λhh=>by exact hc (by rw[hh,ByteArray.toList_eq])
   have h5:s.toList.all kN=false:=by
    cases h:s.toList.all kN
    ·rfl
    ·exact absurd (h1.2 h) h4
   exact⟨_,rfl,by rw[hd,h5];rfl⟩
end bE
theorem aj.rbS{C:cR}{f:FuncId}{args args' Oj:List PV}{h:ab}{r:PV}{Q:PV->ab->Prop}(hb:gz h args=some args')(hn:aR args'=Oj)(a:aI C f Oj r)(q:Q r h)(hs:dO r=true:=by rfl)(hm:C.mode f=.pure:=by rfl):aj C 2 f args h Q:=by
 subst hn;obtain⟨n0,hn⟩:=a;refine⟨r,h,q,n0,λn h1=>?_⟩;obtain⟨r0,hc,r1,e1,e2,e3⟩:=hn n h1;unfold dg;rw[hm]
 cases hv:ar args
 ·have zH:dO r1=true:=by
   have:=ja r1;rw[e3,hs]at this;exact this.symm
  simp only[dp,hv,abz,if_false,hb,e1,e2,zH,ady,if_true,e3]
 ·rw[qV hv]at hb;obtain rfl:=abi hb;simp only[dp,hv,if_true,e1,e2,e3]
namespace bE
open Go.Proofs
attribute [local irreducible] aD az aL aJ Ev ah aj ay aY bJ
structure KV(b:Nat)(H:ab)(v:PV)(a:List Tm)(h':ab):Prop where
 hr:HR h'
 len:H.length<=h'.length
 var:∃v',h'[b]?=some ⟨.m,0,1,[v']⟩/\Out 4 h' v' (ae a)/\∀i∈bV v',i∈bV v\/H.length<=i
 fr:∀j,j<H.length->j≠b->j∉bV v->h'[j]?=H[j]?
theorem KV.take{b:Nat}{H h':ab}{v:PV}{a:List Tm}(s:KV b H v a h')(h3:b<H.length)(hr:HR (h'.take H.length)):KV b H v a (h'.take H.length):=by
 have hl:=s.len;have cG:(h'.take H.length).length=H.length:=by simp;omega
 obtain⟨v',e1,e2,e3⟩:=s.var;have g1:(h'.take H.length)[b]?=some ⟨.m,0,1,[v']⟩:=by rw[ab1 (by omega)];exact e1
 have ij:=(hr _ (aby g1)).2;refine⟨hr,by omega,⟨v',g1,e2.of_eq λi hi=>?_,e3⟩,λj h1 h2 h3=>by rw[ab1 (by omega)];exact s.fr j h1 h2 h3⟩;rw[ab1];rcases e2 with⟨rfl,_⟩|⟨id,ep,rfl,_⟩
 ·simp[bV]at hi
 ·simp[bV]at hi;subst hi;simp[bw,bq]at ij;omega
theorem KV.trans{b:Nat}{H h1 h2:ab}{v v1:PV}{a c:List Tm}(s:KV b H v a h1)(e:h1[b]?=some ⟨.m,0,1,[v1]⟩)(t:KV b h1 v1 c h2):KV b H v c h2:=by
 obtain⟨v',q1,q2,q3⟩:=s.var;rw[q1]at e
 cases e
 obtain⟨v2,r1,r2,r3⟩:=t.var;have:=s.len;refine⟨t.hr,acb s.len t.len,⟨v2,r1,r2,λi hi=>?_⟩,λj h1 h2 h3=>?_⟩
 ·rcases r3 i hi with h |h
  ·exact q3 i h
  ·omega
 ·rw[t.fr j (by omega) h2 (λhh=>by rcases q3 j hh with h |h;exact h3 h;omega)];exact s.fr j h1 h2 h3
theorem aj.kv{b:Nat}{f:FuncId}{args:List PV}{H:ab}{v:PV}{c:List Tm}{Q:PV->ab->Prop}(a:ay C f args H (λr h'=>r=.ct []/\KV b H v c h'))(h3:b<H.length)(q:∀h',KV b H v c h'->Q (.ct []) h')(hm:C.mode f=.opened:=by rfl):aj C 2 f args H Q:=
 aj.sm a (λr h' p=>⟨p.2.hr,p.2.len⟩) (λr h' p=>by rw[p.1];exact q h' p.2) (λr h' p hr=>by rw[p.1];exact q _ (p.2.take h3 hr)) hm
theorem KV.wc{b:Nat}{H J h':ab}{v:PV}{a:List Tm}(s:KV b (H++J) v a h'):KV b H v a h':=by
 have hl:=s.len;rw[abr]at hl;obtain⟨v',e1,e2,e3⟩:=s.var;refine⟨s.hr,by omega,⟨v',e1,e2,λi hi=>?_⟩,λj h1 h2 h3=>by rw[s.fr j (by simp;omega) h2 h3,abj h1]⟩;rcases e3 i hi with h |h
 ·exact .inl h
 ·exact .inr (by simp at h;omega)
theorem RE(b:Nat)(u:Tm)(H:ab)(v:PV)(a:List Tm)(hH:HR H)(h2:H[b]?=some ⟨.m,0,1,[v]⟩)(ho:Out 4 H v (ae a))(hv:b∉bV v)(hn:a.length<100000000):
  ay C 129 [enc u,.ptr b 0 0 0] H (λr h'=>r=.ct []/\KV b H v (a++[u]) h'):=by
 have hle:=ai a;have cG:=ag h2;have hu:ae a++[.agg [.int .i64 u.k,.str u.s,.int .i64 u.o,.aa false (ae u.l)]]=ae (a++[u]):=by rw[bT,<-ao];rfl
 rw[ao];refine ay.x T6 Tryz.func129 rfl ?_;refine wA ?_;refine Tj.apd h2 ho (λi hi hh=>hv (hh▸hi)) (by omega) (λid ep h' ap=>?_);refine wA ?_;refine⟨rfl,?_⟩;have hl:=ap.len;have bW:=ag ap.at';have hg:∀j,j<H.length->j≠id->j≠b->h'[j]?=H[j]?:=λj g1 g2 g3=>by rw[ap.fr j g2 g3,abj g1]
 refine⟨λo ho=>?_,by omega,⟨_,ap.var,.inr ⟨id,ep,by rw[ai];simp,by rw[<-hu];exact ap.at'⟩,λi hi=>?_⟩,λj g1 g2 g3=>hg j g1 (λhh=>?_) g2⟩
 ·obtain⟨j,hj⟩:=aco ho
  by_cases j1:j=id
  ·subst j1;rw[ap.at']at hj;cases hj;exact⟨by simp,bj _ _ (by rw[hu];simp)⟩
  by_cases j2:j=b
  ·subst j2;rw[ap.var]at hj;cases hj;exact⟨by simp,by simp[bw,bq];omega⟩
  rw[ap.fr j j1 j2]at hj;have:=(hH.dA (HV.one (ep:=0) (n:=4) (es:=[.agg [.int .i64 u.k,.str u.s,.int .i64 u.o,.aa false (ae u.l)]]) (by simp))) o (aby hj);exact⟨this.1,dW (λi hi=>by have:=of_decide_eq_true hi;simp at this;exact decide_eq_true (by omega)) _ this.2⟩
 ·simp[bV]at hi;subst hi;rcases ap.idv with h |h
  ·exact .inl h
  ·exact .inr (by omega)
 ·subst hh;rcases ap.idv with h |h
  ·exact g3 h
  ·omega
theorem Ol (b:Nat) (k s o l) (ih:∀t∈l,∀(H:ab) (v:PV) (a:List Tm),HR H->H[b]?=some ⟨.m,0,1,[v]⟩->Out 4 H v (ae a)->b∉bV v->a.length+ax t<100000000->
   ay C 128 [enc t,.fn 129 [.ptr b 0 0 0]] H (λr h'=>r=.ct []/\KV b H v (a++pre t) h'))
  (H:ab) (v:PV) (a:List Tm) (hH:HR H) (h2:H[b]?=some ⟨.m,0,1,[v]⟩) (ho:Out 4 H v (ae a)) (hv:b∉bV v) (hn:a.length+ax (.mk k s o l)<100000000):
  ay C 128 [enc (.mk k s o l),.fn 129 [.ptr b 0 0 0]] H (λr h'=>r=.ct []/\KV b H v (a++pre (.mk k s o l)) h'):=by
 have cr:=ai l;have tY:=ba l;simp only[ax]at hn;have cG:=ag h2;have P0:HR (H++[⟨.m,0,4,[enc (.mk k s o l)]⟩]):=hH.dA (HV.one (by simp));have b2:(H++[⟨.m,0,4,[enc (.mk k s o l)]⟩])[b]?=some ⟨.m,0,1,[v]⟩:=by rw[abj cG];exact h2
 have pk:=RE b (.mk k s o l) (H++[⟨.m,0,4,[enc (.mk k s o l)]⟩]) v a P0 b2 (ho.cB _) hv (by omega);rw[bh]at pk ⊢;refine ay.x T6 Tryz.func128 rfl ?_;refine wA ?_;refine aj.kv pk (by simp;omega) (λh' ks=>?_);refine wA ?_;have kw:=ks.wc
 have fg:h'[H.length]?=some ⟨.m,0,4,[.agg [.int .i64 k,.str s,.int .i64 o,.aa false (ae l)]]⟩:=by
  rw[ks.fr H.length (by simp) (by omega) (λhh=>by have:=ho.ls _ hh;omega)];simp
 refine wA ?_;have Hd:a++[Tm.mk k s o l]=a++(.mk k s o l::cQ []):=rfl;rw[Hd]at kw;refine cO.zip T6 l (λp q L K=>L=[(1,.fn 129 [.ptr b 0 0 0]),(10,.aa false (ae l)),(11,.int .i64 (ae l).length),(12,.int .i64 p.length)]/\KV b H v (a++(.mk k s o l::cQ p)) K) (.nx ⟨rfl,kw⟩) ?_ ?_
 ·rintro p u q _ K ρ e ⟨rfl,kp⟩;have cm:=bg e;have di:=lenE e;obtain⟨v1,q1,q2,q3⟩:=kp.var;have G9:=kp.len;have YV:=kp.hr
  have zR:b∉bV v1:=λhi=>by
   rcases q3 b hi with h |h
   ·exact hv h
   ·omega
  have VN:bp l=bp p+(ax u+bp q):=by rw[e,j0];simp[bp]
  have kH:(cQ p).length<=bp p:=lW p;have ih1:=ih u (by rw[e];simp) (K++[⟨.m,0,4,[enc u]⟩]) v1 (a++(Tm.mk k s o l::cQ p)) (YV.dA (HV.one (by simp))) (by rw[abj (ag q1)];exact q1) (q2.cB _) zR (by simp only[abr,abx];omega);rw[ao]at ih1;refine wA ?_;refine aj.kv ih1 (by simp;omega) (λh' ks=>?_);refine wA ?_;refine .nx ⟨rfl,?_⟩;have:=kp.trans q1 ks.wc;rwa[abI,show Tm.mk k s o l::cQ p++pre u=Tm.mk k s o l::cQ (p++[u]) by rw[lK];simp[cQ]]at this
 ·rintro _ K ρ ⟨rfl,kp⟩;refine wA ?_;exact⟨rfl,by rw[pre];exact kp⟩
theorem Om(b:Nat)(t:Tm):∀(H:ab) (v:PV) (a:List Tm),HR H->H[b]?=some ⟨.m,0,1,[v]⟩->Out 4 H v (ae a)->b∉bV v->a.length+ax t<100000000->
   ay C 128 [enc t,.fn 129 [.ptr b 0 0 0]] H (λr h'=>r=.ct []/\KV b H v (a++pre t) h'):=by
 induction t using Tm.ind with
 |h k s o l ih=>exact Ol b k s o l ih
def Aq(h:ab)(r:PV)(l:List Tm):Prop:=∃id ep tl,r=.ak id ep 0 l.length/\h[id]?=some ⟨.m,ep,4,ae l++tl⟩/\ar tl=true
theorem RF{l:List Tm}(h:l≠[]):cQ l≠[]:=by
 cases l with
 |nil=>exact absurd rfl h
 |cons t l=>intro hh;have:=pT t;rw[cQ]at hh;rw[(List.append_eq_nil_iff.1 hh).1]at this;cases this
theorem tu(l:List Tm)(h0:l≠[])(H:ab)(hH:HR H)(id0 YW:Nat)(e0:H[id0]?=some ⟨.m,YW,4,ae l⟩)(hl:bp l<10000000):ay C 72 [.ak id0 YW 0 l.length] H (λr h'=>HR h'/\H.length<=h'.length/\(∀j,j<H.length->h'[j]?=H[j]?)/\Aq h' r (fQ l)/\∃id ep n,r=.ak id ep 0 n/\H.length<=id):=by
 have cr:=ai l;have tY:=ba l;have aam:=ag e0;obtain⟨H1,mB⟩:∃H1:ab,H1=H++[⟨.m,0,1,[.aa true []]⟩]:=⟨_,rfl⟩;have aan:H1.length=H.length+1:=by rw[mB];simp
 have VU:HR H1:=by rw[mB];exact hH.dA (HV.one rfl)
 have aao:H1[H.length]?=some ⟨.m,0,1,[.aa true []]⟩:=by rw[mB];simp
 have aap:H1[id0]?=some ⟨.m,YW,4,ae l⟩:=by rw[mB,abj aam];exact e0
 refine ay.x T6 Tryz.func72 rfl ?_;refine wA ?_;rw[<-mB];refine cO.zip T6 l (λp q L K=>L=[(3,.ptr H.length 0 0 0),(6,.ak id0 YW 0 l.length),(7,.int .i64 l.length),(8,.int .i64 p.length)]/\KV H.length H1 (.aa true []) (cQ p) K) (.nx ⟨rfl,VU,abn _,⟨_,aao,.inl ⟨rfl,rfl⟩,λi hi=>.inl hi⟩,λ_ _ _ _=>rfl⟩) ?_ ?_
 ·rintro p u q _ K ρ e ⟨rfl,kp⟩;have cm:(ae l)[0+p.length]?=some (.agg [.int .i64 u.k,.str u.s,.int .i64 u.o,.aa false (ae u.l)]):=by rw[abE];exact bg e
  have di:=lenE e;obtain⟨v1,q1,q2,q3⟩:=kp.var;have G9:=kp.len;have YV:=kp.hr;have hK0:K[id0]?=some ⟨.m,YW,4,ae l⟩:=by rw[kp.fr id0 (by omega) (by omega) (by simp[bV])];exact aap
  have zR:H.length∉bV v1:=λhi=>by
   rcases q3 _ hi with h |h
   ·simp[bV]at h
   ·omega
  have VN:bp l=bp p+(ax u+bp q):=by rw[e,j0];simp[bp]
  have kH:(cQ p).length<=bp p:=lW p;have ih1:=Om H.length u (K++[⟨.m,0,4,[enc u]⟩]) v1 (cQ p) (YV.dA (HV.one (by simp))) (by rw[abj (ag q1)];exact q1) (q2.cB _) zR (by omega);rw[ao]at ih1;refine wA ?_;refine aj.kv ih1 (by simp;omega) (λh' ks=>?_);refine wA ?_;refine .nx ⟨rfl,?_⟩;have:=kp.trans q1 ks.wc;rwa[show cQ p++pre u=cQ (p++[u]) by rw[lK];simp[cQ]]at this
 ·rintro _ K ρ ⟨rfl,kp⟩;obtain⟨v',e1,e2,e3⟩:=kp.var;have hh:=kp.hr;have G9:=kp.len;have kH:=lW l;have cT:dd (eD (cQ l))=fQ l:=Gm _;rcases e2 with⟨rfl,e9⟩|⟨id,ep,rfl,e2⟩
  ·exact absurd (abA (by rw[<-ai,e9];rfl)) (RF h0)
  ·have ho:=yI K hh id ep (cQ l) e2 (by omega) (λu hu=>by obtain⟨t,ht,hu⟩:=fm.1 hu;have:=nM t u hu;have:=bC ht;omega);rw[ai]at e1
   have bW:H.length+1<=id:=by
    rcases e3 id (by simp[bV])with h |h
    ·simp[bV]at h
    ·omega
   refine wA ?_;refine .ln ho (λr h' hr=>by obtain⟨_,_,_,rfl⟩:=hr;simp) (λr h' hr=>?_);obtain⟨rfl,tl,hv,rfl⟩:=hr;rw[cT];have e5:=abl (a:=(⟨.m,ep,4,ae (fQ l)++tl⟩:aw)) (ag e2);refine wA ?_;refine⟨hh.set _ (by simp) (bj _ _ (by rw[dy,hv];simp)),by simp;omega,λj hj=>?_,⟨id,ep,tl,rfl,e5,hv⟩,id,ep,_,rfl,by omega⟩;rw[abm (by omega),kp.fr j (by omega) (by omega) (by simp[bV]),mB,abj hj]
theorem _root_.Go.Pm.aj.op{f:FuncId}{rest qg:List PV}{h:ab}{v rv:PV}{l:List Tm}{Q:PV->ab->Prop}(o:Aq h v l)(a:aI C f (.aa false (ae l)::qg) rv)(q:Q rv h)(hs:dO rv=true:=by rfl)(hr:ar rest=true:=by simp)(hn:aR rest=qg:=by simp)(hm:C.mode f=.pure:=by rfl):aj C 2 f (v::rest) h Q:=by
 obtain⟨id,ep,tl,rfl,e,ht⟩:=o;have PX:(ae l++tl).take l.length=ae l:=by rw[abW (by rw[ai];omega),abO (by rw[ai];omega)]
 refine aj.rbS (args':=.aa false (ae l)::rest) ?_ (by subst hn;simp[aR,b9]) a q hs hm;simp only[gz,ke,oB,getM,e];simp only[and_self,if_true,abE,abr,ai];rw[if_pos ⟨by simp,by simp⟩];simp only[acv,PX];rw[if_pos ⟨by first |omega |(rw[abr,ai];omega),by simp,by simp⟩,qV hr]
theorem Aq.VV{h:ab}{r:PV}{l:List Tm}{k:IntKind}{n:Int}(o:Aq h r l):∃r1,rb h (aO [r,.int k n])=some r1/\b9 r1=.ct [.aa false (ae l),.int k n]:=by
 obtain⟨id,ep,tl,rfl,e,ht⟩:=o;have PX:(ae l++tl).take l.length=ae l:=by rw[abW (by rw[ai];omega),abO (by rw[ai];omega)]
 refine⟨.ct [.aa false (ae l),.int k n],?_,by simp[b9,aR,aZ]⟩;simp[aO,rb,gz,ke,oB,getM,e,PX,aW]
theorem Bo(l:List Tm)(hl:l.length<10000000)(hb:∀t∈l,ax t<100000000):aI C 114 [.aa false (ae l)] (.aa false (ae (gb l))):=by
 have cr:=ai l;have cT:dd (eD l)=gb l:=Gm _;refine aI.x T6 Tryz.func114 rfl ?_;refine wA ?_
 cases l with
 |nil=>
  refine aj.cS rfl (h':=[]) (rv:=.aa true []) rfl ?_;refine wA ?_;refine aj.cS rfl rfl ?_;refine wA ?_;refine .ln (tx _ _) (λr h' hr=>by rw[hr.2]) (λr h' hr=>?_);obtain⟨rfl,rfl⟩:=hr;refine wA ?_;exact⟨_,rfl,rfl⟩
 |cons y l0=>
  refine aj.cS rfl (ml (l:=y::l0) (by simp) (by simp at hl ⊢;omega) []) ?_;generalize hL:y::l0=l at *;refine wA ?_;have e1:([]++[⟨.m,0,4,ae l⟩]:ab)[0]?=some ⟨.m,0,4,ae l⟩:=rfl;refine aj.cS rfl (mM e1 (by omega) (λt ht=>by have:=hb t ht;omega)) ?_;have e2:(([]++[⟨.m,0,4,ae l⟩]:ab).set 0 ⟨.m,0,4,ae (eD l)⟩)[0]?=some ⟨.m,0,4,ae (eD l)⟩:=rfl;have zJ:=(fy l).length_eq;have fu:∀t∈eD l,ax t<100000000:=λt ht=>hb t ((fy _).mem_iff.1 ht)
  rw[<-zJ]at cr hl ⊢;generalize eD l=S at *
  cases S with
  |nil=>rw[<-hL]at zJ;simp at zJ
  |cons x r=>
   have hc:=qh _ rfl GR x r _ (HV.one (by simp)).hr 0 0 e2 (by simp at hl;omega) (λt ht=>by have:=fu t ht;omega);rw[ai]at hc;refine wA ?_;refine .ln hc (λr h' hr=>by obtain⟨_,_,_,rfl⟩:=hr;simp) (λr h' hr=>?_);obtain⟨rfl,tl,hv,rfl⟩:=hr;rw[cT];refine wA ?_;exact iC (tl:=tl) rfl (by rw[ai]) (by simp) (by simp)
theorem mh(l:List Tm):(fQ l).length<=bp l:=by
 have h1:=pU (cQ l);have h2:=lW l;unfold fQ;omega
theorem qS{l:List Tm}{B:Nat}(h:∀t∈l,ax t<B):∀y∈fQ l,ax y<B:=λy hy=>by
 obtain⟨t,ht,hy⟩:=fm.1 ((eG _ _).1 hy);have:=nM t y hy;have:=h t ht;omega
theorem Cy(k:List Tm)(t:Tm)(hf:∀u∈k++[t],iQ u=true)(hl:bp (k++[t])<10000000):
  aI C 113 [.aa false (ae k),.aa false (ae [t])] (.ct [.aa false (ae (if fF k t≠0 then[]else fQ (k++[t]))),.int .i64 (fF k t)]):=by
 have cr:=ai k;have vq:=ba (k++[t]);simp only[abr,abx,abX]at vq;have FK:∀u∈k++[t],ax u<10000000:=λu hu=>by have:=bC hu;omega
 have h1:=Eg (k++[t]) hf (by simp;omega) FK
 have h3:=Kx (fQ (k++[t])) (λy hy=>by
  obtain⟨a,ha,hb⟩:=fm.1 ((eG _ _).1 hy);exact tc (hf a ha) hb) (by have:=mh (k++[t]);omega)
 have hE:fF k t=if 60<k.length then 3 else if jg (k++[t])≠0 then jg (k++[t])else if 200<(fQ (k++[t])).length then 3 else 0:=rfl;have rE:X2 [] (.aa true [.aa false (ae k),.aa false (ae [t])]) (.aa false (ae k)) (.aa false (ae [t])):=.inl rfl;have RG:=(AR k [t] [] _ _ _ rE (.inr ⟨_,rfl⟩) (.inr ⟨_,rfl⟩) (by simp;omega)).nine;generalize hU:fQ (k++[t])=U at *;have PO:fF k t=0->(if fF k t≠0 then[]else U)=U:=λh=>if_neg (by omega)
 have PQ:fF k t≠0->(if fF k t≠0 then[]else U)=[]:=λh=>if_pos h
 generalize(if fF k t≠0 then[]else U)=R at *;refine aI.x T6 Tryz.func113 rfl ?_;refine wC (λhc=>?_) λhc=>?_
 ·rw[if_pos (by omega)]at hE;exact⟨_,rfl,by rw[PQ (by omega),hE];rfl⟩
 ·rw[if_neg (by omega)]at hE;refine .opened rfl (RG.mono λr h' hr=>?_)
  obtain⟨ep,rfl,rfl⟩:∃ep,r=.ak 0 ep 0 (ae (k++[t])).length/\h'=[⟨.m,ep,4,ae (k++[t])⟩]:=by
   rcases hr with⟨h,_⟩|⟨ep,h1,h2⟩
   ·simp at h
   ·exact⟨ep,h1,h2⟩
  rw[if_neg (by simp[dZ,cK,dY])];have ho:Out 4 [⟨.m,ep,4,ae (k++[t])⟩] (.ak 0 ep 0 (ae (k++[t])).length) (ae (k++[t])):=.inr ⟨0,ep,rfl,rfl⟩;refine wA ?_;refine .YX (.inl ho) h1 ?_;refine wC (λhc=>?_) λhc=>?_
  ·have hz:jg (k++[t])=0:=by omega
   rw[if_neg (by omega)]at hE;have Bp:=tu (k++[t]) (by simp) [⟨.m,ep,4,ae (k++[t])⟩] (HV.one (by simp)).hr 0 ep rfl hl;rw[ai]at *;refine .fr (Bp.mono λr h' hr=>⟨hr.1,hr.2.1,hr.2.2.1,hr.2.2.2⟩) (λr h' hr hb=>?_) (λr h' r1 r2 r3 r4=>?_)
   ·obtain⟨_,id,ep,n,rfl,bW⟩:=hr;simp[dZ,cK,dY]at hb;simp at bW;omega
   obtain⟨kU,_⟩:=r4;rw[hU]at kU;refine wA ?_;refine aj.op kU h3 ?_ (by split <;>rfl);refine wC (λhc=>?_) λhc=>?_
   ·rw[PO (by omega),show fF k t=0 by omega];exact kU.VV
   ·exact⟨_,rfl,by rw[PQ (by omega),hE];rfl⟩
  ·rw[if_pos (by assumption)]at hE;exact⟨_,rfl,by rw[PQ (by omega),hE];rfl⟩
end bE
def yx(s:ByteArray):Bool:=s.toList.take 2==[101,35]
def sE:ByteArray:=⟨#[101,35]⟩
theorem VG:sE.toList=[101,35]:=by rw[ByteArray.toList_eq];rfl
namespace bE
open Go.Proofs
attribute [local irreducible] aD az aL aJ Ev ah aj ay aY bJ
theorem GU(s:ByteArray)(hs:s.size<1000000000):aI C 356 [.str s,.str sE] (.bool (yx s)):=by
 have hl:=bsize s;have hp:yx s=(s.toList.take 2==[101,35]):=rfl;have hx:(s.extract 0 2).toList=s.toList.take 2:=by rw[Bj,acv]
 refine aI.x T6 Tryz.func356 rfl ?_;refine wJ (λhc hc=>?_) (λhc hc=>?_) λhc=>?_
 ·have hh:(s.extract 0 2).toList=sE.toList:=by assumption
  exact⟨_,rfl,by rw[hp,<-hx,hh,VG];rfl⟩
 ·have hh:¬(s.extract 0 2).toList=sE.toList:=by assumption
  rw[hx,VG]at hh;exact⟨_,rfl,by rw[hp];simp[aO,hh]⟩
 ·have h3:sE.size=2:=rfl
  have hh:s.toList.take 2≠[101,35]:=λh=>by
   have:=congrArg List.length h;simp at this;omega
  exact⟨_,rfl,by rw[hp];simp[aO,hh]⟩
theorem N3(s:ByteArray)(hs:s.size<1000000000):∃r:ByteArray,(yx s=true->r.toList=s.toList.drop 2)/\r.size<=s.size/\aI C 268 [.str s,.str ⟨#[101,35]⟩] (.ct [.str r,.bool (yx s)]):=by
 have h1:=GU s hs
 have key:∃r:ByteArray,(yx s=true->r.toList=s.toList.drop 2)/\r.size<=s.size/\aI C 318 [.str s,.str sE] (.ct [.str r,.bool (yx s)]):=by
  cases hp:yx s
  ·refine⟨s,λh=>(by cases h),abn _,?_⟩;rw[hp]at h1;refine aI.x T6 Tryz.func318 rfl ?_;refine wA ?_;refine .p h1 ?_;refine wA ?_;exact⟨_,rfl,rfl⟩
  ·have h2:2<=s.size:=by
    have:=congrArg List.length (eq_of_beq (show(s.toList.take 2==[101,35])=true from hp));have:=bsize s;simp at *;omega
   have hx:(s.extract 2 s.size).toList=s.toList.drop 2:=by rw[Bj,<-bsize,ack]
   refine⟨s.extract 2 s.size,λ_=>hx,by rw[<-bsize,hx,acX,bsize];omega,?_⟩;rw[hp]at h1;have h3:sE.size=2:=rfl;refine aI.x T6 Tryz.func318 rfl ?_;refine wA ?_;refine .p h1 ?_;refine wA ?_;exact⟨_,rfl,rfl⟩
 obtain⟨r,q1,q2,q3⟩:=key;refine⟨r,q1,q2,?_⟩;have q3:aI C 318 [.str s,.str ⟨#[101,35]⟩] (.ct [.str r,.bool (yx s)]):=q3;refine aI.x T6 Tryz.func268 rfl ?_;refine wA ?_;refine .p q3 ?_;refine wA ?_;exact⟨_,rfl,rfl⟩
theorem GV(t:Tm)(hb:ax t<100000000)(hl:t.l.length<100000000):aI C 209 [enc t] (.bool (wq t)):=by
 have hss:t.s.size<100000000:=by obtain⟨k,s,o,l⟩:=t;simp only[ax]at hb;simp only[Tm.s];omega
 obtain⟨r,h1,h2,h3⟩:=N3 t.s (by omega);have h4:=GS r (by omega)
 have h5:aI C 206 [enc t,.aa false [.str ⟨#[122,101,114,111]⟩,.str ⟨#[111,110,101]⟩]] (.bool (decide (t.k=3)&& (eI t.s hC ||eI t.s qc))):=by
  have:=tn t [hC,qc] (by simp);have e:(decide (t.k=3)&& (eI t.s hC ||eI t.s qc))=(decide (t.k=3)&& [hC,qc].any λn=>eI t.s n):=by simp
  rw[e];exact this
 have cr:=ai t.l
 have hO:wu t.s.toList=(yx t.s&&N1 r.toList):=by
  unfold wu
  cases hp:yx t.s
  ·have:(t.s.toList.take 2==[101,35])=false:=hp;rw[this];rfl
  ·have:(t.s.toList.take 2==[101,35])=true:=hp;rw[this,h1 hp]
 have hP:wq t=if t.k=3 then(eI t.s hC ||eI t.s qc)&&t.l.isEmpty else if t.k≠2 then false else if t.o=1\/t.o=5 then true else if t.o=4 then eI t.s nG ||wu t.s.toList else if t.o=0\/t.o=2\/t.o=3 then wu t.s.toList else false:=rfl;rw[hO]at hP;generalize yx t.s=P at *;generalize N1 r.toList=D at *;have Re:t.l.isEmpty=decide ((ae t.l).length=0):=by rw[cr];cases t.l <;>simp
 rw[ao]at h5 ⊢;refine aI.x T6 Tryz.func209 rfl ?_;refine wI (λhc=>?_) (λhc hc=>?_) λhc hc=>?_
 ·have hk:t.k=3:=by omega
  rw[if_pos hk]at hP;rw[decide_eq_true hk,acs]at h5;refine .p h5 ?_
  cases hz:eI t.s hC ||eI t.s qc
  ·refine wA ?_;exact⟨_,rfl,by rw[hP,hz];rfl⟩
  ·refine wC (λhc=>?_) λhc=>?_
   ·rw[decide_eq_true (by omega)]at Re;exact⟨_,rfl,by rw[hP,hz,Re];rfl⟩
   ·rw[decide_eq_false (by omega)]at Re;exact⟨_,rfl,by rw[hP,hz,Re];rfl⟩
 ·rw[if_neg (by omega)]at hP;refine .p h3 ?_
  (repeat' (first |(refine Rn.go ?_;conv=>whnf)|refine .mk ?_ |refine .mk (λhc=>?_) λhc=>?_ |fail))
  ·rw[if_neg (by omega),if_pos (by omega)]at hP;exact⟨_,rfl,by rw[hP];rfl⟩
  ·rw[if_neg (by omega),if_pos (by omega)]at hP;exact⟨_,rfl,by rw[hP];rfl⟩
  ·have hg:eI t.s nG=true:=kO (by assumption);rw[if_neg (by omega),if_neg (by omega),if_pos (by omega),hg]at hP;exact⟨_,rfl,by rw[hP];rfl⟩
  ·have hg:eI t.s nG=false:=jf (by assumption);rw[if_neg (by omega),if_neg (by omega),if_pos (by omega),hg]at hP
   cases YI:P
   ·rw[YI]at hP
    skip
    exact⟨_,rfl,by rw[hP];rfl⟩
   ·rw[YI]at hP
    skip
    refine .p h4 ?_;refine wA ?_;exact⟨_,rfl,by rw[hP];rfl⟩
  all_goals first
   |have hq:wq t=(P&&D):=by rw[hP,if_neg (by omega),if_neg (by omega),if_neg (by omega),if_pos (by omega)]
    cases YI:P
    ·rw[YI]at hq
     skip
     exact⟨_,rfl,by rw[hq];rfl⟩
    ·rw[YI]at hq
     skip
     refine .p h4 ?_;refine wA ?_;exact⟨_,rfl,by rw[hq];rfl⟩
   |exact⟨_,rfl,by rw[hP,if_neg (by omega),if_neg (by omega),if_neg (by omega),if_neg (by omega)];rfl⟩
   |exact⟨_,rfl,by rw[hP,if_pos (by omega)];rfl⟩
 ·exact⟨_,rfl,by rw[hP,if_neg (by omega),if_pos (by omega)];rfl⟩
theorem Rx(l:List Tm)(g:FuncId)(cs:List PV)(p:Tm->Bool)(H:ab)(hl:l.length<1000000000)(hp:∀x∈l,il H g cs (enc x) (p x)):
  ay C 320 [.aa false (ae l),.fn g cs] H (λr h'=>r=.int .i64 (wo p l)/\gq H h'):=by
 have cr:=ai l;refine ay.x T6 Tryz.func320 rfl ?_;refine wA ?_;refine cO.zip T6 l (λa q L K=>L=[(0,.aa false (ae l)),(1,.fn g cs),(7,.int .i64 (ae l).length),(8,.int .i64 a.length)]/\gq H K/\∀y∈a,p y=false) (.nx ⟨rfl,gq.refl _,by simp⟩) ?_ ?_
 ·rintro a x q _ K ρ e ⟨rfl,hE,ha⟩;have cm:=bg e;have di:=lenE e;have Co:=hp x (by rw[e];simp) _ hE;rw[ao]at Co;refine wA ?_;refine Co _ (λh' PY=>?_)
  cases hb:p x
  ·refine wA ?_;exact .nx ⟨rfl,hE.trans PY,λy hy=>by rcases abp.1 hy with h |h;exact ha y h;simp at h;rw[h];exact hb⟩
  ·refine wA ?_;exact⟨by rw[e,qO ha hb];rfl,hE.trans PY⟩
 ·rintro _ K ρ ⟨rfl,hE,ha⟩;refine wA ?_;exact⟨by rw[lJ ha];rfl,hE⟩
theorem IZ(l:List Tm)(g:FuncId)(cs:List PV)(p:Tm->Bool)(H:ab)(hl:l.length<1000000000)(hp:∀x∈l,il H g cs (enc x) (p x)):
  ay C 271 [.aa false (ae l),.fn g cs] H (λr h'=>r=.bool (l.any p)/\gq H h'):=by
 have hi:=Rx l g cs p H hl hp;have ha:=tf p l;refine ay.x T6 Tryz.func271 rfl ?_;refine wA ?_;refine .ex hi (λh' hE=>?_);refine wC (λhc=>?_) λhc=>?_
 all_goals exact⟨by rw[<-ha];simp[aO, *],hE⟩
structure kQ(s:List Tm):Prop where
 oT:fv s
 len:s.length<10000000
 bk:∀b∈s,ax b<10000000
theorem kQ.has{s:List Tm}(h:kQ s){t:Tm}(ht:ax t<10000000):aI C 116 [.aa false (ae s),enc t] (.bool (bF s t)):=NQ s t h.oT (by have:=h.len;omega) (λb hb=>by have:=h.bk b hb;omega) (by omega)
theorem Oe(s:List Tm)(hs:kQ s)(x:Tm)(hx:ax x<10000000)(id:Nat)(H:ab)(h0:H[id]?=some ⟨.m,0,1,[.aa false (ae s)]⟩):ay C 270 [enc x,.ptr id 0 0 0] H (λr h'=>r=.bool (!bF s x)/\gq H h'):=by
 have h1:=hs.has hx;have cG:=ag h0;rw[ao]at h1 ⊢;refine ay.x T6 Tryz.func270 rfl ?_;refine wA ?_;refine .p h1 ?_
 cases bF s x
 all_goals(
  refine wA ?_;exact⟨rfl,(gq.refl _).cB (HV.one (by simp))⟩)
theorem Cx(s:List Tm)(hs:kQ s)(u:Tm)(hu:ax u<10000000):aI C 210 [.aa false (ae s),enc u] (.bool (mg s u)):=by
 obtain⟨B,hB⟩:∃B:ab,B=[⟨.m,0,1,[.aa false (ae s)]⟩,⟨.m,0,4,[.agg [.int .i64 u.k,.str u.s,.int .i64 u.o,.aa false (ae u.l)]]⟩]:=⟨_,rfl⟩;have WU:B[0]?=some ⟨.m,0,1,[.aa false (ae s)]⟩:=by rw[hB];rfl
 have Qq:u.l.length<10000000:=by obtain⟨k,n,o,l⟩:=u;have:=ba l;simp only[ax]at hu;simp only[Tm.l];omega
 have hub:∀x∈u.l,ax x<10000000:=λx hx=>by obtain⟨k,n,o,l⟩:=u;have:=bC hx;simp only[ax]at hu;simp only[Tm.l]at this;omega
 have hc:=qU u.l 270 [.ptr 0 0 0 0] (λx=>!bF s x) B (by omega) (λx hx=>il.opened λH' hE=>Oe s hs x (hub x hx) 0 H' (hE.at WU));have hn:(u.l.any λx=>!bF s x)= !(u.l.all (bF s)):=by rw[List.all_eq_not_any_not];simp
 rw[hn]at hc
 have h5:aI C 206 [enc u,.aa false [.str ⟨#[112,97,105,114]⟩,.str ⟨#[101,110,99]⟩,.str ⟨#[97,101,110,99]⟩,.str ⟨#[112,107]⟩,.str ⟨#[115,105,103,110]⟩,.str ⟨#[104,97,115,104]⟩]] (.bool (yC u)):=by
  have:=tn u [gd,iP,fC,FG,iF,x6] (by simp);have e:yC u=(decide (u.k=3)&& [gd,iP,fC,FG,iF,x6].any λn=>eI u.s n):=by simp[yC,tw,Bool.or_assoc]
  rw[e];exact this
 have hR:mg s u=(yC u&&u.l.all (bF s)):=rfl;rw[hR];rw[ao]at h5 ⊢;refine aI.x T6 Tryz.func210 rfl ?_;refine wA ?_;refine .p h5 ?_
 cases yC u
 ·refine wA ?_;exact⟨_,rfl,rfl⟩
 ·refine wA ?_;rw[<-hB];refine .ex hc (λh' hE=>?_)
  cases u.l.all (bF s)
  all_goals(
   refine wA ?_;exact⟨_,rfl,rfl⟩)
theorem yD(t:Tm)(n:ByteArray):aI C 245 [enc t,.str n] (.bool (db t n)):=by
 rw[ao];refine aI.x T6 Tryz.func245 rfl ?_;refine wJ (λhc hc=>?_) (λhc hc=>?_) λhc=>?_
 ·exact⟨_,rfl,by simp[aO,db,eI, *]⟩
 ·exact⟨_,rfl,by simp[aO,db,eI, *]⟩
 ·exact⟨_,rfl,by simp[aO,db,eI, *]⟩
theorem VR(t:Tm)(hb:ax t<10000000):aI C 364 [enc t,.aa false []] (.ct [enc t,.int .i64 0]):=by
 have h1:=nK t (by omega);rw[ao]at h1 ⊢;refine aI.x T6 Tryz.func364 rfl ?_;refine wA ?_;obtain⟨B,hB⟩:∃B:ab,B=[⟨.m,0,4,[.agg [.int .i64 t.k,.str t.s,.int .i64 t.o,.aa false (ae t.l)]]⟩,⟨.m,0,4,[.agg [.int .i64 0,.str ByteArray.empty,.int .i64 0,.aa true []]]⟩]:=⟨_,rfl⟩;refine cO.zip T6 ([]:List Tm) (λp q L K=>L=[(2,.ptr 0 0 0 0),(4,.ptr 1 0 0 0),(8,.aa false []),(9,.int .i64 0),(10,.int .i64 p.length)]/\K=[⟨.m,0,4,[.agg [.int .i64 t.k,.str t.s,.int .i64 t.o,.aa false (ae t.l)]]⟩,⟨.m,0,4,[.agg [.int .i64 0,.str ByteArray.empty,.int .i64 0,.aa true []]]⟩]) (.nx ⟨rfl,rfl⟩) ?_ ?_
 ·rintro p u q _ K ρ e _
  cases p <;>cases e
 ·rintro _ _ ρ ⟨rfl,rfl⟩;refine wA ?_;refine .p h1 ?_;refine wA ?_;exact jd
theorem yE(t:Tm)(hb:ax t<10000000):aI C 321 [enc t] (enc t):=by
 have h1:=VR t hb;rw[ao]at h1 ⊢;refine aI.x T6 Tryz.func321 rfl ?_;refine wA ?_;refine .p h1 ?_;refine wA ?_;exact Eu
theorem nk{t:Tm}{i:Nat}(h:i<t.l.length):(ae t.l)[i]?=some (.agg [.int .i64 (fO t i).k,.str (fO t i).s,.int .i64 (fO t i).o,.aa false (ae (fO t i).l)]):=by
 refine gR ?_;rw[fO,abK,abo h]
 rfl
theorem jZ{t:Tm}{i:Nat}(h:i<t.l.length):fO t i∈t.l:=by
 rw[fO,abK,abo h];exact abV h
theorem fP{t x:Tm}(h:x∈t.l):ax x<ax t:=by
 obtain⟨k,n,o,l⟩:=t;have:=bC h;simp only[ax,Tm.l]at *;omega
theorem As{t:Tm}{n:ByteArray}(h:gw t=0)(hn:db t n=true)(h2:(bZ n).a=2/\(bZ n).b=2):t.l.length=2:=by
 obtain⟨a,b,e⟩:=o8 h hn h2;rw[e];rfl
theorem Ry(t:Tm)(hb:ax t<10000000):aI C 274 [enc t] (.ct [enc (cg t),.int .i64 (mi t)]):=by
 have h1:=tq t (by omega);have h2:=yD t ⟨#[101,110,99]⟩;have h3:=yD t ⟨#[97,101,110,99]⟩;have hE:mi t=if gw t≠0 then gw t else if db t iP=true then 0 else if db t fC=false then 10 else if db (fO t 1) FG=false then 4 else 0:=rfl;have hV:cg t=if mi t≠0 then dM else if db t iP=true then fO t 1 else fO (fO t 1) 0:=rfl;have n1:db t ⟨#[101,110,99]⟩=db t iP:=rfl;have n2:db t ⟨#[97,101,110,99]⟩=db t fC:=rfl;rw[n1]at h2;rw[n2]at h3;have hz:=kj;rw[ao t]at h1 h2 h3 ⊢
 by_cases hv:gw t=0
 ·rw[if_neg (by omega)]at hE
  cases hn:db t iP
  ·rw[hn]at h2 hE hV;rw[if_neg (by simp)]at hE
   cases ha:db t fC
   ·rw[ha,if_pos rfl]at hE;rw[ha]at h3;rw[if_pos (by omega)]at hV;rw[hV,hE,hz];refine aI.x T6 Tryz.func274 rfl ?_;refine wA ?_;refine .p h1 ?_;refine wA ?_;refine .p h2 ?_;refine wA ?_;refine .p h3 ?_;refine wA ?_;exact⟨_,rfl,rfl⟩
   ·rw[ha,if_neg (by simp)]at hE;rw[ha]at h3;have di:=As hv ha Bt.2.2.1;have cm:=nk (t:=t) (i:=1) (by omega);have h4:=yD (fO t 1) ⟨#[112,107]⟩;have n3:db (fO t 1) ⟨#[112,107]⟩=db (fO t 1) FG:=rfl;rw[n3,ao]at h4
    cases hp:db (fO t 1) FG
    ·rw[hp,if_pos rfl]at hE;rw[hp]at h4;rw[if_pos (by omega)]at hV;rw[hV,hE,hz];refine aI.x T6 Tryz.func274 rfl ?_;refine wA ?_;refine .p h1 ?_;refine wA ?_;refine .p h2 ?_;refine wA ?_;refine .p h3 ?_;refine wA ?_;refine .p h4 ?_;refine wA ?_;exact⟨_,rfl,rfl⟩
    ·rw[hp,if_neg (by simp)]at hE;rw[hp]at h4;rw[if_neg (by omega),if_neg (by simp)]at hV;have jJ:=jZ (t:=t) (i:=1) (by omega);obtain⟨c,Q7⟩:=xf (qR hv jJ) hp Bt.2.2.2.2;have wQ:(fO t 1).l.length=1:=by rw[Q7];rfl
     have nf:=nk (t:=fO t 1) (i:=0) (by omega);have b1:=fP jJ;have b2:=fP (jZ (t:=fO t 1) (i:=0) (by omega));have h5:=yE (fO (fO t 1) 0) (by omega);rw[hV,hE];generalize hK:fO (fO t 1) 0=K at *;generalize hM:fO t 1=M at *;rw[ao]at h5 ⊢;refine aI.x T6 Tryz.func274 rfl ?_;refine wA ?_;refine .p h1 ?_;refine wA ?_;refine .p h2 ?_;refine wA ?_;refine .p h3 ?_;refine wA ?_;refine .p h4 ?_;refine wA ?_;refine .p h5 ?_;refine wA ?_;exact jd
  ·rw[hn,if_pos rfl]at hE;rw[hn]at h2 hV;rw[if_neg (by omega),if_pos rfl]at hV;have di:=As hv hn Bt.2.1;have cm:=nk (t:=t) (i:=1) (by omega);have b1:=fP (jZ (t:=t) (i:=1) (by omega));have h5:=yE (fO t 1) (by omega);rw[hV,hE];generalize hM:fO t 1=M at *;rw[ao]at h5 ⊢;refine aI.x T6 Tryz.func274 rfl ?_;refine wA ?_;refine .p h1 ?_;refine wA ?_;refine .p h2 ?_;refine wA ?_;refine .p h5 ?_;refine wA ?_;exact jd
 ·rw[if_pos hv]at hE;rw[if_pos (by omega)]at hV;rw[hV,hE,hz];refine aI.x T6 Tryz.func274 rfl ?_;refine wA ?_;refine .p h1 ?_;refine wA ?_;exact⟨_,rfl,rfl⟩
theorem Ha(s:List Tm)(hs:kQ s)(u t:Tm)(hu:ax u<10000000)(ht:ax t<10000000)(hv:gw t=0)(i1 i2:Nat)(H:ab)(hH:HV H)(h1:H[i1]?=some ⟨.m,0,4,[.agg [.int .i64 u.k,.str u.s,.int .i64 u.o,.aa false (ae u.l)]]⟩)(h2:H[i2]?=some ⟨.m,0,1,[.aa false (ae s)]⟩):
  ay C 272 [enc t,.ptr i1 0 0 0,.ptr i2 0 0 0] H (λr h'=>r=.bool (vO s u t)/\gq H h'):=by
 have g1:=nU t ⟨#[112,97,105,114]⟩;have g2:=nU t ⟨#[115,105,103,110]⟩
 have g3:aI C 206 [enc t,.aa false [.str ⟨#[101,110,99]⟩,.str ⟨#[97,101,110,99]⟩]] (.bool (db t iP ||db t fC)):=by
  have:=tn t [iP,fC] (by simp);have e:(db t iP ||db t fC)=(decide (t.k=3)&& [iP,fC].any λn=>eI t.s n):=by cases h:decide (t.k=3) <;>simp[db,h]
  rw[e];exact this
 have n1:db t ⟨#[112,97,105,114]⟩=db t gd:=rfl;have n2:db t ⟨#[115,105,103,110]⟩=db t iF:=rfl;rw[n1]at g1;rw[n2]at g2;have VL:=ag h1;have aal:=ag h2;have hO:vO s u t=if db t gd=true then decide (aT (fO t 0) u=0)||decide (aT (fO t 1) u=0)else if db t iF=true then decide (aT (fO t 0) u=0)else if db t iP ||db t fC then decide (mi t=0)&&decide (aT (fO t 0) u=0)&&bF s (cg t)else false:=rfl;have k0:=Ry t ht;have dw:aV (H++[⟨.m,0,4,[.agg [.int .i64 t.k,.str t.s,.int .i64 t.o,.aa false (ae t.l)]]⟩])=true:=(hH.cB (HV.one (by simp))).closed;have f1:(H++[⟨.m,0,4,[.agg [.int .i64 t.k,.str t.s,.int .i64 t.o,.aa false (ae t.l)]]⟩])[i1]?=some ⟨.m,0,4,[.agg [.int .i64 u.k,.str u.s,.int .i64 u.o,.aa false (ae u.l)]]⟩:=by rw[abj VL];exact h1
 rw[ao t]at g1 g2 g3 k0 ⊢
 cases hp:db t gd
 ·rw[hp,if_neg (by simp)]at hO;rw[hp]at g1
  cases hg:db t iF
  ·rw[hg,if_neg (by simp)]at hO;rw[hg]at g2
   cases he:db t iP ||db t fC
   ·rw[he,if_neg (by simp)]at hO;rw[he]at g3;rw[hO];refine ay.x T6 Tryz.func272 rfl ?_;refine wA ?_;refine .p g1 ?_;refine wA ?_;refine .p g2 ?_;refine wA ?_;refine .p g3 ?_;refine wA ?_;exact⟨rfl,(gq.refl _).cB (HV.one (by simp))⟩
   ·rw[he,if_pos rfl]at hO;rw[he]at g3
    have di:t.l.length=2:=by
     rw[abN]at he;rcases he with he |he
     ·exact As hv he Bt.2.1
     ·exact As hv he Bt.2.2.1
    have cm:=nk (t:=t) (i:=0) (by omega);have b1:=fP (jZ (t:=t) (i:=0) (by omega));have q1:=nS (fO t 0) u (by omega) (by omega);generalize hM:fO t 0=M at *;rw[hO]
    by_cases hkE:mi t=0
    ·have hbK:ax (cg t)<10000000:=by
      obtain⟨_,hk⟩:=qT hkE;rcases hk with⟨_,e⟩|⟨_,e1,e⟩
      ·rw[e];have:=fP (jZ (t:=t) (i:=1) (by omega));omega
      ·have jJ:=jZ (t:=t) (i:=1) (by omega);obtain⟨c,Q7⟩:=xf (qR hv jJ) e1 Bt.2.2.2.2;rw[e];have b2:=fP jJ;have b3:=fP (jZ (t:=fO t 1) (i:=0) (by rw[Q7];simp));omega
     have q2:=hs.has hbK;generalize cg t=K at *;have GL:aV (H++[⟨.m,0,4,[.agg [.int .i64 t.k,.str t.s,.int .i64 t.o,.aa false (ae t.l)]]⟩]++[⟨.m,0,4,[.agg [.int .i64 K.k,.str K.s,.int .i64 K.o,.aa false (ae K.l)]]⟩])=true:=((hH.cB (HV.one (by simp))).cB (HV.one (by simp))).closed;have f3:(H++[⟨.m,0,4,[.agg [.int .i64 t.k,.str t.s,.int .i64 t.o,.aa false (ae t.l)]]⟩]++[⟨.m,0,4,[.agg [.int .i64 K.k,.str K.s,.int .i64 K.o,.aa false (ae K.l)]]⟩])[i1]?=some ⟨.m,0,4,[.agg [.int .i64 u.k,.str u.s,.int .i64 u.o,.aa false (ae u.l)]]⟩:=by rw[abj (by simp;omega)];exact f1
     have f4:(H++[⟨.m,0,4,[.agg [.int .i64 t.k,.str t.s,.int .i64 t.o,.aa false (ae t.l)]]⟩]++[⟨.m,0,4,[.agg [.int .i64 K.k,.str K.s,.int .i64 K.o,.aa false (ae K.l)]]⟩])[i2]?=some ⟨.m,0,1,[.aa false (ae s)]⟩:=by rw[abj (by simp;omega),abj aal];exact h2
     rw[ao K]at k0 q2;rw[ao M,ao u]at q1;rw[hkE]at k0 ⊢;refine ay.x T6 Tryz.func272 rfl ?_;refine wA ?_;refine .p g1 ?_;refine wA ?_;refine .p g2 ?_;refine wA ?_;refine .p g3 ?_;refine wA ?_;refine .p k0 ?_;refine wA ?_;refine .p q1 ?_
     by_cases hq:aT M u=0
     ·rw[decide_eq_true hq];refine wA ?_;refine .p q2 ?_;refine wA ?_;exact⟨by cases bF s K <;>rfl,((gq.refl _).cB (HV.one (by simp))).cB (HV.one (by simp))⟩
     ·rw[decide_eq_false hq];refine wA ?_;exact⟨rfl,((gq.refl _).cB (HV.one (by simp))).cB (HV.one (by simp))⟩
    ·rw[ao (cg t)]at k0;rw[decide_eq_false hkE];generalize cg t=K at *;have GL:aV (H++[⟨.m,0,4,[.agg [.int .i64 t.k,.str t.s,.int .i64 t.o,.aa false (ae t.l)]]⟩]++[⟨.m,0,4,[.agg [.int .i64 K.k,.str K.s,.int .i64 K.o,.aa false (ae K.l)]]⟩])=true:=((hH.cB (HV.one (by simp))).cB (HV.one (by simp))).closed;refine ay.x T6 Tryz.func272 rfl ?_;refine wA ?_;refine .p g1 ?_;refine wA ?_;refine .p g2 ?_;refine wA ?_;refine .p g3 ?_;refine wA ?_;refine .p k0 ?_;refine wA ?_;exact⟨rfl,((gq.refl _).cB (HV.one (by simp))).cB (HV.one (by simp))⟩
  ·rw[hg,if_pos rfl]at hO;rw[hg]at g2;have di:=As hv hg Bt.2.2.2.1;have cm:=nk (t:=t) (i:=0) (by omega);have b1:=fP (jZ (t:=t) (i:=0) (by omega));have q1:=nS (fO t 0) u (by omega) (by omega);generalize hM:fO t 0=M at *;rw[hO];rw[ao M,ao u]at q1;refine ay.x T6 Tryz.func272 rfl ?_;refine wA ?_;refine .p g1 ?_;refine wA ?_;refine .p g2 ?_;refine wA ?_;refine .p q1 ?_;refine wA ?_;exact⟨rfl,(gq.refl _).cB (HV.one (by simp))⟩
 ·rw[hp,if_pos rfl]at hO;rw[hp]at g1;have di:=As hv hp Bt.1;have cm:=nk (t:=t) (i:=0) (by omega);have DG:=nk (t:=t) (i:=1) (by omega);have b1:=fP (jZ (t:=t) (i:=0) (by omega));have b2:=fP (jZ (t:=t) (i:=1) (by omega));have q1:=nS (fO t 0) u (by omega) (by omega);have q2:=nS (fO t 1) u (by omega) (by omega);generalize hM:fO t 0=M at *;generalize hM1:fO t 1=M1 at *;rw[hO];rw[ao M,ao u]at q1;rw[ao M1,ao u]at q2;refine ay.x T6 Tryz.func272 rfl ?_;refine wA ?_;refine .p g1 ?_;refine wA ?_;refine .p q1 ?_
  by_cases hq:aT M u=0
  ·rw[decide_eq_true hq];refine wA ?_;exact⟨rfl,(gq.refl _).cB (HV.one (by simp))⟩
  ·rw[decide_eq_false hq];refine wA ?_;refine .p q2 ?_;refine wA ?_;exact⟨by rw[acD];rfl,(gq.refl _).cB (HV.one (by simp))⟩
theorem G8(s:List Tm)(hs:kQ s)(hv:∀t∈s,gw t=0)(u:Tm)(hu:ax u<10000000):aI C 211 [.aa false (ae s),enc u] (.bool (vL s u)):=by
 have hlen:=hs.len;obtain⟨B,hB⟩:∃B:ab,B=[⟨.m,0,1,[.aa false (ae s)]⟩,⟨.m,0,4,[.agg [.int .i64 u.k,.str u.s,.int .i64 u.o,.aa false (ae u.l)]]⟩]:=⟨_,rfl⟩;have WU:B[0]?=some ⟨.m,0,1,[.aa false (ae s)]⟩:=by rw[hB];rfl
 have Yy:B[1]?=some ⟨.m,0,4,[.agg [.int .i64 u.k,.str u.s,.int .i64 u.o,.aa false (ae u.l)]]⟩:=by rw[hB];rfl
 have hBv:HV B:=by rw[hB];exact HV.yg ⟨by simp,by simp⟩ ⟨by simp,by simp⟩
 have hc:=IZ s 272 [.ptr 1 0 0 0,.ptr 0 0 0 0] (vO s u) B (by omega) (λx hx=>il.opened λH' hE=>Ha s hs u x hu (hs.bk x hx) (hv x hx) 1 0 H' (hE.hv hBv) (hE.at Yy) (hE.at WU));have hR:vL s u=s.any (vO s u):=rfl;rw[hR];rw[ao];refine aI.x T6 Tryz.func211 rfl ?_;refine wA ?_;rw[<-hB];refine .ex hc (λh' hE=>?_);refine wA ?_;exact⟨_,rfl,rfl⟩
theorem EB(t:Tm)(hb:ax t<10000000):aI C 308 [enc t,.aa false [],enc t] (.ct [enc t,.int .i64 0]):=by
 have h1:=nK t (by omega);rw[ao]at h1 ⊢;refine aI.x T6 Tryz.func308 rfl ?_;refine wA ?_;refine .p h1 ?_;refine wA ?_;refine cO.zip T6 ([]:List Tm) (λp q L K=>L=[(5,.ptr 1 0 0 0),(6,.ptr 2 0 0 0),(8,.ptr 3 0 0 0),(9,.ptr 3 0 0 0),(14,.aa false []),(15,.int .i64 0),(16,.int .i64 p.length)]/\K=[⟨.m,0,4,[.agg [.int .i64 t.k,.str t.s,.int .i64 t.o,.aa false (ae t.l)]]⟩,⟨.m,0,4,[.agg [.int .i64 t.k,.str t.s,.int .i64 t.o,.aa false (ae t.l)]]⟩,⟨.m,0,4,[PV.agg [.int .i64 0,.str ByteArray.empty,.int .i64 0,.aa true []]]⟩,⟨.m,0,4,[.agg [.int .i64 t.k,.str t.s,.int .i64 t.o,.aa false (ae t.l)]]⟩]) (.nx ⟨rfl,rfl⟩) ?_ ?_
 ·rintro p u q _ K ρ e _
  cases p <;>cases e
 ·rintro _ _ ρ ⟨rfl,rfl⟩;refine wA ?_;refine .p h1 ?_;refine wA ?_;exact jd
def ow(u:Tm):PV:=.agg [.int .i64 u.k,.str u.s,.int .i64 u.o,if u.l.length=0 then .aa true []else .aa false (ae u.l)]
theorem VW(u:Tm):b9 (ow u)=enc u:=by
 rw[ao];unfold ow
 split
 ·rename_i h
  have:u.l=[]:=abA h;simp[b9,aR,this,ae]
 ·simp[b9,aR,aZ]
theorem He(u:Tm):aW (ow u)=true:=by
 unfold ow
 split <;>simp[aW,ar]
theorem On(l:List Tm)(hl:l.length<10000000)(hb:∀t∈l,ax t<10000000)(ih:∀t∈l,aI C 249 [.aa false (ae t.l)] (.aa false (ae t.l))):aI C 249 [.aa false (ae l)] (.aa false (ae l)):=by
 have cr:=ai l;refine aI.x T6 Tryz.func249 rfl ?_;refine wA ?_;refine cO.zip T6 l (λp q L H=>L=[(3,.ak 0 0 0 (ae l).length),(9,.aa false (ae l)),(10,.int .i64 (ae l).length),(11,.int .i64 p.length)]/\HV H/\H[0]?=some ⟨.m,0,4,p.map ow++List.replicate q.length (PV.agg [.int .i64 0,.str ByteArray.empty,.int .i64 0,.aa true []])⟩) (.nx ⟨rfl,HV.one (by rw[bB,abk];intro y hy;rw[acg hy];rfl),by rw[cr];rfl⟩) ?_ ?_
 ·rintro p u q _ H ρ e ⟨rfl,hH,h0⟩;have cm:=bg e;have di:=lenE e;have hu:u∈l:=by rw[e];simp
  have h1:=EB u (hb u hu);have h2:=ih u hu;have Qq:=ai u.l;rw[ao]at h1;have kH:(p.map ow).length=p.length:=acy _
  have e0:(p.map ow++List.replicate (u::q).length (PV.agg [.int .i64 0,.str ByteArray.empty,.int .i64 0,.aa true []]))[0+p.length]?=some (PV.agg [.int .i64 0,.str ByteArray.empty,.int .i64 0,.aa true []]):=by
   rw[abE,abt (by omega),kH,acw];rfl
  have f0:(H++[⟨.m,0,4,[.agg [.int .i64 u.k,.str u.s,.int .i64 u.o,.aa false (ae u.l)]]⟩])[0]?=some ⟨.m,0,4,p.map ow++List.replicate (u::q).length (PV.agg [.int .i64 0,.str ByteArray.empty,.int .i64 0,.aa true []])⟩:=by rw[abj (ag h0)];exact h0
  have P0:(H++[⟨.m,0,4,[.agg [.int .i64 u.k,.str u.s,.int .i64 u.o,.aa false (ae u.l)]]⟩])[H.length]?=some ⟨.m,0,4,[.agg [.int .i64 u.k,.str u.s,.int .i64 u.o,.aa false (ae u.l)]]⟩:=by simp
  have tY:(p.map ow++List.replicate (u::q).length (PV.agg [.int .i64 0,.str ByteArray.empty,.int .i64 0,.aa true []])).length=(ae l).length:=by simp[cr,di]
  refine wA ?_;refine .p h1 ?_;refine wA ?_;obtain⟨bx,YY⟩:∃bx:aw,bx=⟨.m,0,4,[.agg [.int .i64 u.k,.str u.s,.int .i64 u.o,.aa false (ae u.l)]]⟩:=⟨_,rfl⟩;obtain⟨A1,Dt⟩:∃A1:List PV,A1=(p.map ow++List.replicate (u::q).length (PV.agg [.int .i64 0,.str ByteArray.empty,.int .i64 0,.aa true []])).set (0+p.length) (.agg [.int .i64 u.k,.str u.s,.int .i64 u.o,.aa false (ae u.l)]):=⟨_,rfl⟩;obtain⟨K1,YM⟩:∃K1:ab,K1=(H++[(⟨.m,0,4,[.agg [.int .i64 u.k,.str u.s,.int .i64 u.o,.aa false (ae u.l)]]⟩:aw)]).set 0 (⟨.m,0,4,A1⟩:aw):=⟨_,rfl⟩;have Im:=ag h0;have c0:K1[0]?=some ⟨.m,0,4,A1⟩:=by rw[YM];exact abl (by simp)
  have cb:K1[H.length]?=some bx:=by rw[YM,abm (by omega),YY];exact P0
  have ea:A1[0+p.length]?=some (.agg [.int .i64 u.k,.str u.s,.int .i64 u.o,.aa false (ae u.l)]):=by rw[Dt];exact abl (by rw[tY];omega)
  have PW:A1.length=(ae l).length:=by rw[Dt,adL];exact tY
  rw[<-Dt,<-YM];rw[YY]at cb;refine wA ?_;refine .p h2 ?_;refine wA ?_;rw[c8 ea,c8 c0];have hw:ow u=.agg [.int .i64 u.k,.str u.s,.int .i64 u.o,if u.l.length=0 then .aa true []else .aa false (ae u.l)]:=rfl
  have I6:∀x:PV,(p.map ow++List.replicate (u::q).length (PV.agg [.int .i64 0,.str ByteArray.empty,.int .i64 0,.aa true []])).set (0+p.length) x=(p.map ow++[x])++List.replicate q.length (PV.agg [.int .i64 0,.str ByteArray.empty,.int .i64 0,.aa true []]):=λx=>by
   rw[abE,acA _ _ (by omega),kH,acw];simp[List.replicate_succ]
  have YZ:HV K1:=by
   rw[YM];refine(hH.cB (HV.one (by simp))).set 0 (by simp) ?_;rw[Dt,I6,dy,dy];have v1:ar (p.map ow)=true:=by rw[bB,abk];intro y hy;obtain⟨t,_,rfl⟩:=abZ.1 hy;exact He t
   have v2:ar (List.replicate q.length (PV.agg [.int .i64 0,.str ByteArray.empty,.int .i64 0,.aa true []]))=true:=by rw[bB,abk];intro y hy;rw[acg hy];rfl
   rw[v1,v2];simp[ar,aW]
  refine wC (λhc=>?_) λhc=>?_
  ·have h0u:u.l.length=0:=by omega
   refine .nx ⟨rfl,YZ.set 0 (by simp) ?_,?_⟩
   ·show ar (A1.set (0+p.length) (.agg [.int .i64 u.k,.str u.s,.int .i64 u.o,.aa true []]))=true;rw[Dt,acn,I6,dy,dy];have v1:ar (p.map ow)=true:=by rw[bB,abk];intro y hy;obtain⟨t,_,rfl⟩:=abZ.1 hy;exact He t
    have v2:ar (List.replicate q.length (PV.agg [.int .i64 0,.str ByteArray.empty,.int .i64 0,.aa true []]))=true:=by rw[bB,abk];intro y hy;rw[acg hy];rfl
    rw[v1,v2];rfl
   ·rw[abl (ag c0)]
    have:A1.set (0+p.length) (.agg [.int .i64 u.k,.str u.s,.int .i64 u.o,.aa true []])=(p++[u]).map ow++List.replicate q.length (PV.agg [.int .i64 0,.str ByteArray.empty,.int .i64 0,.aa true []]):=by
     rw[Dt,acn,I6,ab6,abD,abM,hw,if_pos h0u]
    rw[<-this]
  ·have h0u:¬u.l.length=0:=by omega
   refine .nx ⟨rfl,YZ,?_⟩;rw[c0,Dt,I6,ab6,abD,abM,hw,if_neg h0u]
 ·rintro _ H ρ ⟨rfl,hH,h0⟩;have h0:H[0]?=some ⟨.m,0,4,l.map ow++[]⟩:=h0;refine wA ?_;exact iC h0 (by simp[cr]) (by rw[bB,abk];intro y hy;obtain⟨t,_,rfl⟩:=abZ.1 hy;exact He t) (by rw[cI,adh,c9];exact ach λt _=>VW t)
theorem RI(t:Tm):ax t<10000000->aI C 249 [.aa false (ae t.l)] (.aa false (ae t.l)):=by
 induction t using Tm.ind with
 |h k s o l ih=>
  intro hb
  have:=ba l;simp only[ax]at hb;exact On l (by omega) (λt ht=>by have:=bC ht;omega) λt ht=>ih t ht (by have:=bC ht;omega)
theorem Oo(u:Tm)(hb:ax u<10000000):aI C 249 [.aa false (ae [u])] (.aa false (ae [u])):=
 On [u] (by simp) (λt ht=>by simp at ht;rw[ht];exact hb) λt ht=>by simp at ht;rw[ht];exact RI u hb
theorem o9(u:Tm)(h1:db u hC=false)(h2:db u uM=false):aI C 248 [enc u] (.aa false (ae [u])):=by
 have e1:db u hC=(decide (u.k=3)&& (u.s.toList==(⟨#[122,101,114,111]⟩:ByteArray).toList)):=rfl;have e2:db u uM=(decide (u.k=3)&& (u.s.toList==(⟨#[120,111,114]⟩:ByteArray).toList)):=rfl;rw[h1]at e1;rw[h2]at e2;have hu:ae [u]=[.agg [.int .i64 u.k,.str u.s,.int .i64 u.o,.aa false (ae u.l)]]:=by rw[ae,ao];rfl
 rw[hu,ao]
 by_cases hk:u.k=3
 ·rw[decide_eq_true hk,acs]at e1 e2;have n1:¬u.s.toList=(⟨#[122,101,114,111]⟩:ByteArray).toList:=by simpa using e1.symm
  have n2:¬u.s.toList=(⟨#[120,111,114]⟩:ByteArray).toList:=by simpa using e2.symm
  refine aI.x T6 Tryz.func248 rfl ?_;refine wA ?_;exact⟨_,rfl,by simp[aO,b9,aR,aZ]⟩
 ·refine aI.x T6 Tryz.func248 rfl ?_;refine wA ?_;exact⟨_,rfl,by simp[aO,b9,aR,aZ]⟩
theorem yJ(u:Tm)(hv:valid u=0)(hb:ax u<10000000):aI C 246 [.aa false [],.aa false (ae [u])] (.int .i64 0):=by
 have h1:=(fM u (by omega)).nine;rw[hv]at h1;have rE:X2 [] (.aa true [.aa false [],.aa false (ae [u])]) (.aa false []) (.aa false (ae [u])):=.inl rfl;have RG:=(AR [] [u] [] _ _ _ rE (.inr ⟨_,rfl⟩) (.inr ⟨_,rfl⟩) (by simp)).nine;have hu:ae [u]=[.agg [.int .i64 u.k,.str u.s,.int .i64 u.o,.aa false (ae u.l)]]:=by rw[ae,ao];rfl
 rw[ao]at h1;rw[abT]at RG;refine aI.x T6 Tryz.func246 rfl ?_;refine wA ?_;refine .opened rfl (RG.mono λr h' hr=>?_)
 obtain⟨ep,rfl,rfl⟩:∃ep,r=.ak 0 ep 0 (ae [u]).length/\h'=[⟨.m,ep,4,ae [u]⟩]:=by
  rcases hr with⟨h,_⟩|⟨ep,h1,h2⟩
  ·simp at h
  ·exact⟨ep,h1,h2⟩
 rw[if_neg (by simp[dZ,cK,dY])];have ho:Out 4 [⟨.m,ep,4,ae [u]⟩] (.ak 0 ep 0 (ae [u]).length) (ae [u]):=.inr ⟨0,ep,rfl,rfl⟩;rw[hu]at ho ⊢;refine wA ?_;refine cO.zip T6 [u] (λp q L H=>L=[(14,.ak 0 ep 0 1),(15,.int .i64 1),(16,.int .i64 p.length)]/\HV H/\H[0]?=some ⟨.m,ep,4,[.agg [.int .i64 u.k,.str u.s,.int .i64 u.o,.aa false (ae u.l)]]⟩) (.nx ⟨rfl,HV.one (by simp),rfl⟩) ?_ ?_
 ·rintro p x q _ H ρ e ⟨rfl,hH,h0⟩
  obtain⟨rfl,rfl,rfl⟩:p=[]/\x=u/\q=[]:=by
   cases p with
   |nil=>simp at e;exact⟨rfl,e.1.symm,e.2⟩
   |cons a p=>simp at e
  have W0:([]:List Tm).length=0:=rfl;refine wA ?_;refine .p h1 ?_;refine wA ?_;exact .nx ⟨rfl,hH.cB (HV.one (by simp)),by rw[abj (ag h0)];exact h0⟩
 ·rintro _ H ρ ⟨rfl,hH,h0⟩;have h01:[u].length=1:=rfl;refine wA ?_;exact⟨_,rfl,rfl⟩
theorem Ky(u:Tm)(hv:valid u=0)(hb:ax u<10000000)(h1:db u hC=false)(h2:db u uM=false):aI C 275 [enc u] (.ct [.aa false (ae [u]),.int .i64 0]):=by
 have g1:=yJ u hv hb;have g2:=o9 u h1 h2;have g3:=Oo u hb;have hu:ae [u]=[.agg [.int .i64 u.k,.str u.s,.int .i64 u.o,.aa false (ae u.l)]]:=by rw[ae,ao];rfl
 rw[hu]at g1 g2 g3 ⊢;rw[ao]at g2 ⊢;refine aI.x T6 Tryz.func275 rfl ?_;refine wA ?_;refine .p g1 ?_;refine wA ?_;refine .p g2 ?_;refine wA ?_;refine .p g3 ?_;refine wA ?_;exact⟨_,rfl,by simp[aO,b9,aR,aZ]⟩
end bE
open Go.Proofs
theorem Wa{cs A B:List Tm}{u:Tm}(e:cs=A++u::B)(hs:fv cs){m:Nat}{w:Tm}(hm:cs[m]?=some w):aT w u<0↔m<A.length:=by
 subst e;have h:=acU.1 hs;rcases acV m A.length with h1 |h1 |h1
 ·rw[abj h1]at hm;exact⟨λ_=>h1,λ_=>h.2.2 w (aby hm) u (by simp)⟩
 ·subst h1;simp at hm;subst hm;rw[cq];omega
 ·rw[abt (by omega)]at hm
  have h2:(u::B)[m - A.length]?=B[m - A.length - 1]?:=by
   rw[show m - A.length=(m - A.length - 1)+1 by omega];simp
  rw[h2]at hm;have h3:=(abG.1 h.2.1).1 w (aby hm);have ng:=eC u w;omega
theorem EY{p:List Pw}{u t:Tm}{n:Int}(h:aT u t≠0):vt (p++[(u,n)]) t=vt p t:=by
 induction p with
 |nil=>simp[vt,h]
 |cons y p ih=>rw[abH,vt,vt,ih]
theorem RX{cs A B:List Tm}{u:Tm}{p:List Pw}{n:Int}(e:cs=A++u::B)(hs:fv cs)(hp:∀y∈p,aT y.1 u≠0):(fS (cs.map (vt p))).set A.length (.int .i64 n)=fS (cs.map (vt (p++[(u,n)]))):=by
 subst e;have h:=acU.1 hs;have hA:A.map (vt p)=A.map (vt (p++[(u,n)])):=ach λt ht=>(EY (by have:=h.2.2 t ht u (by simp);have:=eC t u;omega)).symm
 have hB:B.map (vt p)=B.map (vt (p++[(u,n)])):=ach λt ht=>(EY (by have:=(abG.1 h.2.1).1 t ht;omega)).symm
 have hu:vt (p++[(u,n)]) u=n:=MA (q:=[]) hp (cq u);simp only[fS,ab6,abD,hA,hB,hu];rw[acA _ _ (by simp)];simp
attribute [local irreducible] aD az aL aJ Ev ah aj ay aY
theorem EC(cs A B:List Tm)(u:Tm)(e:cs=A++u::B)(hs:fv cs)(hl:cs.length<100000000)(hb:∀t∈cs,ax t<1000000000):
  aI C 386 [.aa false (ae cs),enc u,.fn 52 []] (.ct [.int .i64 A.length,.bool true]):=by
 have hle:A.length<cs.length:=by rw[e];simp
 have cr:=ai cs;have Qq:cs[A.length]?=some u:=by rw[e];simp
 have hub:ax u<1000000000:=hb u (by rw[e];simp)
 have elem:∀m,m<cs.length->∃w,cs[m]?=some w/\(ae cs)[m]?=some (.agg [.int .i64 w.k,.str w.s,.int .i64 w.o,.aa false (ae w.l)])/\aI C 52 [.agg [.int .i64 w.k,.str w.s,.int .i64 w.o,.aa false (ae w.l)],.agg [.int .i64 u.k,.str u.s,.int .i64 u.o,.aa false (ae u.l)]] (.int .i64 (aT w u)):=λm hm=>by
  have h1:cs[m]?=some cs[m]:=abo hm;refine⟨_,h1,gR h1,?_⟩;rw[<-ao,<-ao];exact eB _ _ (hb _ (aby h1)) hub
 have PF:∀m w,cs[m]?=some w->(aT w u<0↔m<A.length):=λm w hm=>Wa e hs hm
 have hz:=cq u;generalize A.length=LB at *;rw[ao];refine aI.x T6 Tryz.func386 rfl ?_;refine wA ?_;refine cO.nat T6 (λk L H=>∃i j:Nat,L=[(0,.aa false (ae cs)),(2,.fn 52 []),(4,.ptr 0 0 0 0),(8,.int .i64 (ae cs).length),(9,.int .i64 i),(10,.int .i64 j)]/\H=[⟨.m,0,4,[.agg [.int .i64 u.k,.str u.s,.int .i64 u.o,.aa false (ae u.l)]]⟩]/\k=j - i/\i<=LB/\LB<=j/\j<=cs.length) cs.length (.nx ⟨0,(ae cs).length,rfl,rfl,by omega,by omega,by omega,by omega⟩) ?_;rintro k _ _ ρ ⟨i,j,rfl,rfl,hk,i1,i2,i3⟩
 by_cases QC:i<j
 ·obtain⟨m,YG⟩:∃m:Nat,((i:Int)+j) / 2=m:=⟨(i+j) / 2,by omega⟩;obtain⟨w,h1,cm,rR⟩:=elem m (by omega);have Qc:=PF m _ h1;refine wA ?_;refine .mk (n:=m) ?_ YG cm;refine wA ?_;refine .p rR ?_;refine wC (λhc=>?_) λhc=>?_
  ·exact .nx ⟨j - (m+1),by omega,m+1,j,rfl,rfl,rfl,by omega,by omega,by omega⟩
  ·exact .nx ⟨m - i,by omega,i,m,rfl,rfl,rfl,by omega,by omega,by omega⟩
 ·have hi:i=LB:=by omega
  subst hi;obtain⟨w,h1,cm,rR⟩:=elem i hle;rw[Qq]at h1;obtain rfl:=abi h1;rw[hz]at rR;refine wA ?_;refine .p rR ?_;refine wA ?_
  all_goals exact⟨_,rfl,by simp[aO,b9,aR, *]⟩
end Go.Pm
namespace Go.Pm
namespace bE
open Go.Proofs
attribute [local irreducible] aD az aL aJ Ev ah aj ay aY bJ
set_option maxRecDepth 4000
theorem RJ(b:Nat)(H:ab)(hb:H[b]?=some ⟨.m,0,1,[.int .u64 1]⟩):ay C 326 [.ak b 0 0 1,.int .i64 0] H (λr h'=>r=.bool true/\h'=H):=by
 refine ay.x T6 Tryz.func326 rfl ?_;refine wA ?_;refine .raw 0 rfl ?_;refine wA ?_;refine .mk (c:=1) ?_ rfl (by decide);refine wA ?_;refine .mk 1 rfl ?_;refine wA ?_;exact⟨rfl,rfl⟩
theorem Oq(b:Nat)(H:ab)(hH:HR H)(hb:H[b]?=some ⟨.m,0,1,[.int .u64 0]⟩):ay C 366 [.ak b 0 0 1,.int .i64 0] H (λr h'=>r=.ct []/\h'=H.set b ⟨.m,0,1,[.int .u64 1]⟩):=by
 have dw:=hH.closed;refine ay.x T6 Tryz.func366 rfl ?_;refine wA ?_;refine .raw 0 rfl ?_;refine wA ?_;refine .mk 1 rfl (by decide) ?_;refine wA ?_;refine .mk 1 rfl ?_;refine wA ?_;exact⟨rfl,rfl⟩
theorem KG(b:Nat)(H:ab)(hb:H[b]?=some ⟨.m,0,1,[.int .u64 1]⟩):ay C 325 [.ak b 0 0 1,.int .i64 1] H (λr h'=>r=.int .i64 0/\h'=H):=by
 have hh:=RJ b H hb;refine ay.x T6 Tryz.func325 rfl ?_;refine wA ?_;refine cO.nat T6 (λk L K=>L=[(0,.ak b 0 0 1),(6,.int .i64 1),(7,.int .i64 0)]/\K=H) 1 (.nx ⟨rfl,rfl⟩) ?_;rintro k _ _ ρ ⟨rfl,rfl⟩;refine wA ?_;refine .same (hh.mono λr h' h=>⟨h.1,h.2⟩) (λr hr=>?_);subst hr;refine wA ?_;exact⟨rfl,rfl⟩
structure Sys(h:ab)(x m1 m2 c ep:Nat)(u:Tm)(tl:List PV):Prop where
 hx:h[x]?=some ⟨.m,0,5,[.agg [.ak c ep 0 1,.int .i64 0,.cD m1,.cD m2,.aa true []]]⟩
 h1:h[m1]?=some ⟨.m,0,0,[]⟩
 h2:h[m2]?=some ⟨.m,0,0,[]⟩
 hc:h[c]?=some ⟨.m,ep,4,.agg [.int .i64 u.k,.str u.s,.int .i64 u.o,.aa false (ae u.l)]::tl⟩
 ht:ar tl=true
theorem Sys.of_eq{h h':ab}{x m1 m2 c ep:Nat}{u:Tm}{tl:List PV}(s:Sys h x m1 m2 c ep u tl)(n:Nat)(hn:x<n/\m1<n/\m2<n/\c<n)(e:∀j,j<n->h'[j]?=h[j]?):Sys h' x m1 m2 c ep u tl:=
 ⟨(e _ hn.1).trans s.hx,(e _ hn.2.1).trans s.h1,(e _ hn.2.2.1).trans s.h2,(e _ hn.2.2.2).trans s.hc,s.ht⟩
theorem VX(x m1 m2 c ep:Nat)(u:Tm)(tl:List PV)(hu:ax u<10000000)(H:ab)(hH:HR H)(s:Sys H x m1 m2 c ep u tl):ay C 368 [.ptr x 0 0 0,enc u] H (λr h'=>r=.int .i64 0/\gq H h'):=by
 have hb:=(EC [u] [] [] u rfl (by simp[fv]) (by simp) (λt ht=>by simp at ht;rw[ht];omega)).nine;have dw:=(hH.dA (HV.one (ep:=0) (n:=4) (es:=[.agg [.int .i64 u.k,.str u.s,.int .i64 u.o,.aa false (ae u.l)]]) (by simp))).closed;have Vr:=ag s.hx;have KH:=ag s.hc;have fx:(H++[(⟨.m,0,4,[.agg [.int .i64 u.k,.str u.s,.int .i64 u.o,.aa false (ae u.l)]]⟩:aw)])[x]?=some ⟨.m,0,5,[.agg [.ak c ep 0 1,.int .i64 0,.cD m1,.cD m2,.aa true []]]⟩:=by rw[abj Vr];exact s.hx
 have fc:(H++[(⟨.m,0,4,[.agg [.int .i64 u.k,.str u.s,.int .i64 u.o,.aa false (ae u.l)]]⟩:aw)])[c]?=some ⟨.m,ep,4,ae [u]++tl⟩:=by rw[abj KH,s.hc,ae,ao];rfl
 have kU:Aq (H++[(⟨.m,0,4,[.agg [.int .i64 u.k,.str u.s,.int .i64 u.o,.aa false (ae u.l)]]⟩:aw)]) (.ak c ep 0 1) [u]:=⟨c,ep,tl,rfl,fc,s.ht⟩;rw[ao u]at hb ⊢;refine ay.x T6 Tryz.func368 rfl ?_;refine wA ?_;refine aj.op kU hb ?_;refine wA ?_;exact⟨rfl,(gq.refl _).cB (HV.one (by simp))⟩
theorem xc{u a:Tm}{p q:List Tm}(e:[u]=p++a::q):p=[]/\a=u/\q=[]:=by
 cases p with
 |nil=>simp at e;exact⟨rfl,e.1.symm,e.2⟩
 |cons b p=>simp at e
theorem VY(x m1 m2 c ep:Nat)(u:Tm)(tl:List PV)(hu:ax u<10000000)(f1:db u hC=false)(f2:db u uM=false)(H:ab)(hH:HR H)(s:Sys H x m1 m2 c ep u tl):
  ay C 324 [.ptr x 0 0 0,enc u] H (λr h'=>HR h'/\H.length<=h'.length/\(∀j,j<H.length->h'[j]?=H[j]?)/\∃b,r=.ak b 0 0 1/\H.length<=b/\h'[b]?=some ⟨.m,0,1,[.int .u64 1]⟩):=by
 have hs:=o9 u f1 f2;have Vr:=ag s.hx;have KH:=ag s.hc;have h1l:=ag s.h1;have h2l:=ag s.h2;obtain⟨H1,mB⟩:∃H1:ab,H1=H++[(⟨.m,0,4,[.agg [.int .i64 u.k,.str u.s,.int .i64 u.o,.aa false (ae u.l)]]⟩:aw)]:=⟨_,rfl⟩;have ext:∀J:ab,Sys (H++J) x m1 m2 c ep u tl:=λJ=>s.of_eq H.length ⟨Vr,h1l,h2l,KH⟩ λj hj=>abj hj
 have aan:H1.length=H.length+1:=by rw[mB];simp
 have VU:HR H1:=by rw[mB];exact hH.dA (HV.one (by simp))
 have aaq:∀j,j<H.length->H1[j]?=H[j]?:=λj hj=>by rw[mB,abj hj]
 have P0:H1[H.length]?=some ⟨.m,0,4,[.agg [.int .i64 u.k,.str u.s,.int .i64 u.o,.aa false (ae u.l)]]⟩:=by rw[mB];simp
 have s1:Sys H1 x m1 m2 c ep u tl:=by rw[mB];exact ext _
 have fx:=s1.hx;have fc:=s1.hc;have wm:ae [u]=[.agg [.int .i64 u.k,.str u.s,.int .i64 u.o,.aa false (ae u.l)]]:=by rw[ae,ao];rfl
 rw[wm]at hs;rw[ao]at hs;rw[ao u];have W0:([]:List Tm).length=0:=rfl;have h01:[u].length=1:=rfl;have pu:∀K:ab,HR K->H.length+2<=K.length->(∀j,j<H.length->K[j]?=H[j]?)->Sys K x m1 m2 c ep u tl:=λK _ _ h=>s.of_eq H.length ⟨Vr,h1l,h2l,KH⟩ h
 refine ay.x T6 Tryz.func324 rfl ?_;refine wA ?_;rw[<-mB];refine wA ?_;refine .raw 0 rfl ?_;refine wA ?_;have aa7:(H1++[(⟨.m,0,0+1,List.replicate (0+1) (.int .u64 0)⟩:aw)])[H.length]?=some ⟨.m,0,4,[.agg [.int .i64 u.k,.str u.s,.int .i64 u.o,.aa false (ae u.l)]]⟩:=by rw[abj (by omega)];exact P0
 skip
 refine .p hs ?_;refine wA ?_;refine cO.zip T6 [u] (λp q L K=>L=[(0,.ptr x 0 0 0),(5,.ak H1.length 0 0 1),(17,.aa false [.agg [.int .i64 u.k,.str u.s,.int .i64 u.o,.aa false (ae u.l)]]),(18,.int .i64 1),(19,.int .i64 p.length)]/\HR K/\H1.length+1<=K.length/\(∀j,j<H1.length->K[j]?=H1[j]?)/\K[H1.length]?=some ⟨.m,0,1,[.int .u64 (if q.length=0 then 1 else 0)]⟩) (.nx ⟨rfl,VU.dA (HV.one rfl),by simp,λj hj=>abj hj,by simp⟩) ?_ ?_
 ·rintro p a q _ K ρ e ⟨rfl,hK,G9,Br,hKb⟩;obtain⟨rfl,G6,rfl⟩:=xc e;have G6:=G6.symm;subst G6;have sK:Sys K x m1 m2 c ep u tl:=s1.of_eq H1.length (by omega) Br;have sK2:Sys (K++[(⟨.m,0,4,[.agg [.int .i64 u.k,.str u.s,.int .i64 u.o,.aa false (ae u.l)]]⟩:aw)]) x m1 m2 c ep u tl:=sK.of_eq K.length ⟨ag sK.hx,ag sK.h1,ag sK.h2,ag sK.hc⟩ λj hj=>abj hj
  have hc:=VX x m1 m2 c ep u tl hu (K++[(⟨.m,0,4,[.agg [.int .i64 u.k,.str u.s,.int .i64 u.o,.aa false (ae u.l)]]⟩:aw)]) (hK.dA (HV.one (by simp))) sK2;rw[ao]at hc;refine wA ?_;refine .ex hc (λh' hE=>?_);obtain⟨J,hJ,rfl⟩:=hE;have zW:(K++[(⟨.m,0,4,[.agg [.int .i64 u.k,.str u.s,.int .i64 u.o,.aa false (ae u.l)]]⟩:aw)]++J)[H1.length]?=some ⟨.m,0,1,[.int .u64 0]⟩:=by rw[abI,abj (by omega)];exact hKb
  have hrr:HR (K++[(⟨.m,0,4,[.agg [.int .i64 u.k,.str u.s,.int .i64 u.o,.aa false (ae u.l)]]⟩:aw)]++J):=(hK.dA (HV.one (by simp))).dA hJ;have hf:=Oq H1.length _ hrr zW;refine wA ?_;refine .ln hf (λr h' hr=>by rw[hr.2];simp) (λr h' hr=>?_);obtain⟨rfl,rfl⟩:=hr;refine wA ?_;refine .nx ⟨rfl,hrr.set _ (by simp) (by simp[bw,bq]),by simp;omega,λj hj=>?_,abl (ag zW)⟩;rw[abm (by omega),abI,abj (by omega)];exact Br j hj
 ·rintro _ K ρ ⟨rfl,hK,G9,Br,hKb⟩;refine wA ?_;exact⟨hK,by omega,λj hj=>(Br j (by omega)).trans (aaq j hj),H1.length,rfl,by omega,hKb⟩
theorem VZ(x m1 m2 c ep b:Nat)(u:Tm)(tl:List PV)(H:ab)(hH:HR H)(s:Sys H x m1 m2 c ep u tl):
  ay C 323 [.ptr x 0 0 0,.ak b 0 0 1] H (λr h'=>r=.ct [.ak b 0 0 1,.ak H.length 0 0 1]/\h'=H++[⟨.m,0,1,[.int .u64 0]⟩]):=by
 have Vr:=ag s.hx;have KH:=ag s.hc;have h1l:=ag s.h1;have h2l:=ag s.h2;have fx:=s.hx;have W0:([]:List Tm).length=0:=rfl;have h01:[u].length=1:=rfl;obtain⟨H1,mB⟩:∃H1:ab,H1=H++[(⟨.m,0,0+1,List.replicate (0+1) (.int .u64 0)⟩:aw)]:=⟨_,rfl⟩;have s1:Sys H1 x m1 m2 c ep u tl:=by rw[mB];exact s.of_eq H.length ⟨Vr,h1l,h2l,KH⟩ λj hj=>abj hj
 have gx:=s1.hx;have gc:=s1.hc;have g1:=s1.h1;refine ay.x T6 Tryz.func323 rfl ?_;refine wA ?_;refine .raw 0 rfl ?_;refine wA ?_;rw[<-mB];refine wA ?_;refine cO.zip T6 [u] (λp q L K=>L=[(0,.ptr x 0 0 0),(1,.ak b 0 0 1),(6,.ak H.length 0 0 1),(21,.int .i64 1),(22,.int .i64 p.length)]/\K=H1) (.nx ⟨rfl,rfl⟩) ?_ ?_
 ·rintro p a q _ _ ρ e ⟨rfl,rfl⟩;obtain⟨rfl,G6,rfl⟩:=xc e;have G6:=G6.symm;subst G6;refine wA ?_;refine .RK rfl ?_ g1;refine wA ?_;exact .nx ⟨rfl,rfl⟩
 ·rintro _ _ ρ ⟨rfl,rfl⟩;refine wA ?_;exact⟨rfl,mB⟩
theorem RM(a b:Tm)(ha:ax a<1000000000)(hb:ax b<1000000000):aI C 365 [enc a,enc b] (.bool (decide (aT a b=0))):=by
 have h1:=(eB a b ha hb).nine;rw[ao,ao]at h1 ⊢;refine aI.x T6 Tryz.func365 rfl ?_;refine wA ?_;refine .p h1 ?_;refine wC (λhc=>?_) λhc=>?_
 all_goals exact⟨_,rfl,by simp[aO, *]⟩
theorem _root_.Go.Pm.Y0{C:cR}(T:lQ C.P){run:iI}{lv:Nat}{L:Al}{ρ:Nat->PV}{h:ab}{t el:TypeId}{x:Operand}{id ep len:Nat}{o:aw}(hx:cM L x=some (.ak id ep 0 len))(hk:T.kd t=some (.sl el))(hg:getM h id ep=some o)(hl:len<=o.es.length):au C run lv (.call ⟨.builtin .len,#[x],#[t]⟩) (al L ρ) h=some (.int .i64 len,h):=by
 simp[au,bt,an hx,pE,bz (T.cT _ _ hk),hg,hl]
theorem RN(u:Tm)(hu:ax u<10000000)(f1:db u hC=false)(f2:db u uM=false):ay C 322 [.aa false [],enc u] [⟨.m,0,4,[enc u]⟩] (λr h'=>HR h'/\1<=h'.length/\(∀j,j<1->h'[j]?=[(⟨.m,0,4,[enc u]⟩:aw)][j]?)/\∃x m1 m2 c ep tl,r=.ptr x 0 0 0/\1<=x/\Sys h' x m1 m2 c ep u tl):=by
 have hs:=o9 u f1 f2;have wm:ae [u]=[.agg [.int .i64 u.k,.str u.s,.int .i64 u.o,.aa false (ae u.l)]]:=by rw[ae,ao];rfl
 have W0:([]:List Tm).length=0:=rfl;have h01:[u].length=1:=rfl;rw[wm]at hs;rw[ao]at hs;rw[ao u]
 have hBr:HR [(⟨.m,0,4,[.agg [.int .i64 u.k,.str u.s,.int .i64 u.o,.aa false (ae u.l)]]⟩:aw),⟨.m,0,4,[.agg [.int .i64 u.k,.str u.s,.int .i64 u.o,.aa false (ae u.l)]]⟩,⟨.m,0,0,[]⟩,⟨.m,0,0,[]⟩,⟨.m,0,5,[.agg [.aa true [],.int .i64 0,.cD 2,.cD 3,.aa true []]]⟩]:=by
  intro o ho
  simp only[abu,acB,or_false]at ho;rcases ho with rfl |rfl |rfl |rfl |rfl <;>simp[bw,bq,bj]
 have hBc:=hBr.closed;refine ay.x T6 Tryz.func322 rfl ?_;refine wH ?_;refine .raw (λρ=>?_);have NS:bG 4 [.aa false []] ([(⟨.m,0,4,[.agg [.int .i64 u.k,.str u.s,.int .i64 u.o,.aa false (ae u.l)]]⟩:aw),⟨.m,0,4,[.agg [.int .i64 u.k,.str u.s,.int .i64 u.o,.aa false (ae u.l)]]⟩,⟨.m,0,0,[]⟩,⟨.m,0,0,[]⟩,⟨.m,0,5,[.agg [.aa true [],.int .i64 0,.cD 2,.cD 3,.aa true []]]⟩].map bS)=some (.aa true [],[(⟨.m,0,4,[.agg [.int .i64 u.k,.str u.s,.int .i64 u.o,.aa false (ae u.l)]]⟩:aw),⟨.m,0,4,[.agg [.int .i64 u.k,.str u.s,.int .i64 u.o,.aa false (ae u.l)]]⟩,⟨.m,0,0,[]⟩,⟨.m,0,0,[]⟩,⟨.m,0,5,[.agg [.aa true [],.int .i64 0,.cD 2,.cD 3,.aa true []]]⟩].map bS):=rfl;refine D.move rfl ?_;refine .C' [(⟨.m,0,4,[.agg [.int .i64 u.k,.str u.s,.int .i64 u.o,.aa false (ae u.l)]]⟩:aw),⟨.m,0,4,[.agg [.int .i64 u.k,.str u.s,.int .i64 u.o,.aa false (ae u.l)]]⟩,⟨.m,0,0,[]⟩,⟨.m,0,0,[]⟩,⟨.m,0,5,[.agg [.aa true [],.int .i64 0,.cD 2,.cD 3,.aa true []]]⟩] [] ⟨0,λn _=>D9 rfl rfl NS rfl⟩ ?_ rfl rfl hBc rfl rfl;refine .C' [(⟨.m,0,4,[.agg [.int .i64 u.k,.str u.s,.int .i64 u.o,.aa false (ae u.l)]]⟩:aw),⟨.m,0,4,[.agg [.int .i64 u.k,.str u.s,.int .i64 u.o,.aa false (ae u.l)]]⟩,⟨.m,0,0,[]⟩,⟨.m,0,0,[]⟩,⟨.m,0,5,[.agg [.aa true [],.int .i64 0,.cD 2,.cD 3,.aa true []]]⟩] [] ⟨0,λn _=>Ke T6 rfl rfl⟩ ?_ rfl rfl hBc rfl rfl;refine .C' [(⟨.m,0,4,[.agg [.int .i64 u.k,.str u.s,.int .i64 u.o,.aa false (ae u.l)]]⟩:aw),⟨.m,0,4,[.agg [.int .i64 u.k,.str u.s,.int .i64 u.o,.aa false (ae u.l)]]⟩,⟨.m,0,0,[]⟩,⟨.m,0,0,[]⟩,⟨.m,0,5,[.agg [.aa true [],.int .i64 0,.cD 2,.cD 3,.aa true []]]⟩] [] ⟨0,λn _=>Kc T6 (vs:=[.agg [.int .i64 u.k,.str u.s,.int .i64 u.o,.aa false (ae u.l)]]) (by exact rfl) (by simp)⟩ ?_ rfl rfl hBc rfl rfl
 refine aY.two rfl rfl ⟨0,λn _=>An rfl rfl (gF T6 (lv:=2) (full:=true) (ys:=[.agg [.int .i64 u.k,.str u.s,.int .i64 u.o,.aa false (ae u.l)]]) (by omega) rfl rfl rfl rfl rfl (by decide) rfl rfl rfl rfl (by simp))⟩ ?_;refine aY.two rfl rfl ⟨0,λn _=>Y0 T6 rfl rfl rfl (by simp)⟩ ?_;refine D.move rfl ?_;refine aY.nil ⟨_,_,rfl,?_⟩
 conv=>whnf
 have aar:HR [(⟨.m,0,4,[.agg [.int .i64 u.k,.str u.s,.int .i64 u.o,.aa false (ae u.l)]]⟩:aw),⟨.m,0,4,[.agg [.int .i64 u.k,.str u.s,.int .i64 u.o,.aa false (ae u.l)]]⟩,⟨.m,0,0,[]⟩,⟨.m,0,0,[]⟩,⟨.m,0,5,[.agg [.aa true [],.int .i64 0,.cD 2,.cD 3,.aa true []]]⟩,⟨.m,0,4,[.agg [.int .i64 u.k,.str u.s,.int .i64 u.o,.aa false (ae u.l)]]⟩,⟨.m,0,4,[.agg [.int .i64 u.k,.str u.s,.int .i64 u.o,.aa false (ae u.l)]]⟩]:=by
  intro o ho
  simp only[abu,acB,or_false]at ho;rcases ho with rfl |rfl |rfl |rfl |rfl |rfl |rfl <;>simp[bw,bq,bj]
 have aa8:=aar.closed
 have aas:HR [(⟨.m,0,4,[.agg [.int .i64 u.k,.str u.s,.int .i64 u.o,.aa false (ae u.l)]]⟩:aw),⟨.m,0,4,[.agg [.int .i64 u.k,.str u.s,.int .i64 u.o,.aa false (ae u.l)]]⟩,⟨.m,0,0,[]⟩,⟨.m,0,0,[]⟩,⟨.m,0,5,[.agg [.ak 7 0 0 1,.int .i64 0,.cD 2,.cD 3,.aa true []]]⟩,⟨.m,0,4,[.agg [.int .i64 u.k,.str u.s,.int .i64 u.o,.aa false (ae u.l)]]⟩,⟨.m,0,4,[.agg [.int .i64 u.k,.str u.s,.int .i64 u.o,.aa false (ae u.l)]]⟩,⟨.m,0,4,[.agg [.int .i64 u.k,.str u.s,.int .i64 u.o,.aa false (ae u.l)]]⟩]:=by
  intro o ho
  simp only[abu,acB,or_false]at ho;rcases ho with rfl |rfl |rfl |rfl |rfl |rfl |rfl |rfl <;>simp[bw,bq,bj]
 refine cO.zip T6 [u] (λp q L K=>L=[(0,.aa false []),(5,.ptr 4 0 0 0),(23,.ak 5 0 0 1),(24,.int .i64 1),(25,.int .i64 p.length)]/\((q.length=1/\K=[(⟨.m,0,4,[.agg [.int .i64 u.k,.str u.s,.int .i64 u.o,.aa false (ae u.l)]]⟩:aw),⟨.m,0,4,[.agg [.int .i64 u.k,.str u.s,.int .i64 u.o,.aa false (ae u.l)]]⟩,⟨.m,0,0,[]⟩,⟨.m,0,0,[]⟩,⟨.m,0,5,[.agg [.aa true [],.int .i64 0,.cD 2,.cD 3,.aa true []]]⟩,⟨.m,0,4,[.agg [.int .i64 u.k,.str u.s,.int .i64 u.o,.aa false (ae u.l)]]⟩])\/(q.length=0/\K=[(⟨.m,0,4,[.agg [.int .i64 u.k,.str u.s,.int .i64 u.o,.aa false (ae u.l)]]⟩:aw),⟨.m,0,4,[.agg [.int .i64 u.k,.str u.s,.int .i64 u.o,.aa false (ae u.l)]]⟩,⟨.m,0,0,[]⟩,⟨.m,0,0,[]⟩,⟨.m,0,5,[.agg [.ak 7 0 0 1,.int .i64 0,.cD 2,.cD 3,.aa true []]]⟩,⟨.m,0,4,[.agg [.int .i64 u.k,.str u.s,.int .i64 u.o,.aa false (ae u.l)]]⟩,⟨.m,0,4,[.agg [.int .i64 u.k,.str u.s,.int .i64 u.o,.aa false (ae u.l)]]⟩,⟨.m,0,4,[.agg [.int .i64 u.k,.str u.s,.int .i64 u.o,.aa false (ae u.l)]]⟩]))) (.nx ⟨rfl,.inl ⟨rfl,rfl⟩⟩) ?_ ?_
 ·rintro p a q _ K ρ e ⟨rfl,hK⟩;obtain⟨rfl,G6,rfl⟩:=xc e;obtain rfl:K=[(⟨.m,0,4,[.agg [.int .i64 u.k,.str u.s,.int .i64 u.o,.aa false (ae u.l)]]⟩:aw),⟨.m,0,4,[.agg [.int .i64 u.k,.str u.s,.int .i64 u.o,.aa false (ae u.l)]]⟩,⟨.m,0,0,[]⟩,⟨.m,0,0,[]⟩,⟨.m,0,5,[.agg [.aa true [],.int .i64 0,.cD 2,.cD 3,.aa true []]]⟩,⟨.m,0,4,[.agg [.int .i64 u.k,.str u.s,.int .i64 u.o,.aa false (ae u.l)]]⟩]:=by rcases hK with h |h;exact h.2;exact absurd h.1 (by simp)
  refine wA ?_;refine .mk (.aa false [.agg [.int .i64 u.k,.str u.s,.int .i64 u.o,.aa false (ae u.l)]]) (by simpa[aR,b9,aZ]using hs) ?_;refine wA ?_;refine .sn (es:=[]) ?_ rfl (by simp);refine wA ?_;exact .nx ⟨rfl,.inr ⟨rfl,rfl⟩⟩
 ·rintro _ K ρ ⟨rfl,hK⟩;obtain rfl:K=[(⟨.m,0,4,[.agg [.int .i64 u.k,.str u.s,.int .i64 u.o,.aa false (ae u.l)]]⟩:aw),⟨.m,0,4,[.agg [.int .i64 u.k,.str u.s,.int .i64 u.o,.aa false (ae u.l)]]⟩,⟨.m,0,0,[]⟩,⟨.m,0,0,[]⟩,⟨.m,0,5,[.agg [.ak 7 0 0 1,.int .i64 0,.cD 2,.cD 3,.aa true []]]⟩,⟨.m,0,4,[.agg [.int .i64 u.k,.str u.s,.int .i64 u.o,.aa false (ae u.l)]]⟩,⟨.m,0,4,[.agg [.int .i64 u.k,.str u.s,.int .i64 u.o,.aa false (ae u.l)]]⟩,⟨.m,0,4,[.agg [.int .i64 u.k,.str u.s,.int .i64 u.o,.aa false (ae u.l)]]⟩]:=by rcases hK with h |h;exact absurd h.1 (by simp);exact h.2
  have eS:[(⟨.m,0,4,[.agg [.int .i64 u.k,.str u.s,.int .i64 u.o,.aa false (ae u.l)]]⟩:aw),⟨.m,0,4,[.agg [.int .i64 u.k,.str u.s,.int .i64 u.o,.aa false (ae u.l)]]⟩,⟨.m,0,0,[]⟩,⟨.m,0,0,[]⟩,⟨.m,0,5,[.agg [.ak 7 0 0 1,.int .i64 0,.cD 2,.cD 3,.aa true []]]⟩,⟨.m,0,4,[.agg [.int .i64 u.k,.str u.s,.int .i64 u.o,.aa false (ae u.l)]]⟩,⟨.m,0,4,[.agg [.int .i64 u.k,.str u.s,.int .i64 u.o,.aa false (ae u.l)]]⟩,⟨.m,0,4,[.agg [.int .i64 u.k,.str u.s,.int .i64 u.o,.aa false (ae u.l)]]⟩][7]?=some ⟨.m,0,4,ae [u]⟩:=by rw[wm];rfl
  have W3:=mM (ts:=[u]) eS (by simp) (λt ht=>by simp at ht;rw[ht];omega);have Bp:eD [u]=[u]:=rfl;rw[Bp,wm]at W3;refine wA ?_;refine aj.cS rfl W3 ?_;have hc:=qh _ rfl RM u [] ([(⟨.m,0,4,[.agg [.int .i64 u.k,.str u.s,.int .i64 u.o,.aa false (ae u.l)]]⟩:aw),⟨.m,0,4,[.agg [.int .i64 u.k,.str u.s,.int .i64 u.o,.aa false (ae u.l)]]⟩,⟨.m,0,0,[]⟩,⟨.m,0,0,[]⟩,⟨.m,0,5,[.agg [.ak 7 0 0 1,.int .i64 0,.cD 2,.cD 3,.aa true []]]⟩,⟨.m,0,4,[.agg [.int .i64 u.k,.str u.s,.int .i64 u.o,.aa false (ae u.l)]]⟩,⟨.m,0,4,[.agg [.int .i64 u.k,.str u.s,.int .i64 u.o,.aa false (ae u.l)]]⟩,⟨.m,0,4,[.agg [.int .i64 u.k,.str u.s,.int .i64 u.o,.aa false (ae u.l)]]⟩].set 7 ⟨.m,0,4,ae [u]⟩) (by rw[wm];exact aas) 7 0 rfl (by simp) (λt ht=>by simp at ht;rw[ht];omega);have Uu:dd [u]=[u]:=rfl;rw[Uu,wm]at hc;refine wA ?_;refine .ln hc (λr h' hr=>by obtain⟨_,_,_,rfl⟩:=hr;simp) (λr h' hr=>?_);obtain⟨rfl,tl,hv,rfl⟩:=hr;refine wA ?_;refine cO.zip T6 ([]:List Tm) (λp q L K=>L=[(5,.ptr 4 0 0 0),(53,.aa false []),(54,.int .i64 0),(55,.int .i64 p.length)]/\K=(([(⟨.m,0,4,[.agg [.int .i64 u.k,.str u.s,.int .i64 u.o,.aa false (ae u.l)]]⟩:aw),⟨.m,0,4,[.agg [.int .i64 u.k,.str u.s,.int .i64 u.o,.aa false (ae u.l)]]⟩,⟨.m,0,0,[]⟩,⟨.m,0,0,[]⟩,⟨.m,0,5,[.agg [.ak 7 0 0 1,.int .i64 0,.cD 2,.cD 3,.aa true []]]⟩,⟨.m,0,4,[.agg [.int .i64 u.k,.str u.s,.int .i64 u.o,.aa false (ae u.l)]]⟩,⟨.m,0,4,[.agg [.int .i64 u.k,.str u.s,.int .i64 u.o,.aa false (ae u.l)]]⟩,⟨.m,0,4,[.agg [.int .i64 u.k,.str u.s,.int .i64 u.o,.aa false (ae u.l)]]⟩].set 7 ⟨.m,0,4,ae [u]⟩).set 7 ⟨.m,0,4,[.agg [.int .i64 u.k,.str u.s,.int .i64 u.o,.aa false (ae u.l)]]++tl⟩).set 4 ⟨.m,0,5,[.agg [.ak 7 0 0 1,.int .i64 0,.cD 2,.cD 3,.aa true []]]⟩) (.nx ⟨rfl,rfl⟩) ?_ ?_
  ·rintro p u q _ K ρ e _
   cases p <;>cases e
  ·rintro _ _ ρ ⟨rfl,rfl⟩;refine wA ?_;refine⟨?_,by simp,λj hj=>(by obtain rfl:j=0:=(by omega);rfl),4,2,3,7,0,tl,rfl,by omega,⟨rfl,rfl,rfl,rfl,hv⟩⟩
   intro o ho
   have ho:o∈[(⟨.m,0,4,[.agg [.int .i64 u.k,.str u.s,.int .i64 u.o,.aa false (ae u.l)]]⟩:aw),⟨.m,0,4,[.agg [.int .i64 u.k,.str u.s,.int .i64 u.o,.aa false (ae u.l)]]⟩,⟨.m,0,0,[]⟩,⟨.m,0,0,[]⟩,⟨.m,0,5,[.agg [.ak 7 0 0 1,.int .i64 0,.cD 2,.cD 3,.aa true []]]⟩,⟨.m,0,4,[.agg [.int .i64 u.k,.str u.s,.int .i64 u.o,.aa false (ae u.l)]]⟩,⟨.m,0,4,[.agg [.int .i64 u.k,.str u.s,.int .i64 u.o,.aa false (ae u.l)]]⟩,⟨.m,0,4,[.agg [.int .i64 u.k,.str u.s,.int .i64 u.o,.aa false (ae u.l)]]++tl⟩]:=ho;simp only[abu,acB,or_false]at ho;have Ab:ar ([.agg [.int .i64 u.k,.str u.s,.int .i64 u.o,.aa false (ae u.l)]]++tl)=true:=by rw[dy,hv];simp
   rcases ho with rfl |rfl |rfl |rfl |rfl |rfl |rfl |rfl
   ·exact⟨by simp,bj _ _ (by simp)⟩
   ·exact⟨by simp,bj _ _ (by simp)⟩
   ·exact⟨by simp,rfl⟩
   ·exact⟨by simp,rfl⟩
   ·exact⟨by simp,by simp[bw,bq]⟩
   ·exact⟨by simp,bj _ _ (by simp)⟩
   ·exact⟨by simp,bj _ _ (by simp)⟩
   ·exact⟨by simp,bj _ _ Ab⟩
theorem Kz(u:Tm)(hv:valid u=0)(hu:ax u<10000000)(f1:db u hC=false)(f2:db u uM=false):aI C 276 [.aa false [],enc u] (.ct [.aa false [],.int .i64 4]):=by
 have g1:=yJ u hv hu;have g2:=RN u hu f1 f2;have wm:ae [u]=[.agg [.int .i64 u.k,.str u.s,.int .i64 u.o,.aa false (ae u.l)]]:=by rw[ae,ao];rfl
 rw[wm]at g1;rw[ao u]at g2 ⊢;refine aI.x T6 Tryz.func276 rfl ?_;refine wA ?_;refine .p g1 ?_;refine wA ?_;refine .fr (P:=λr h'=>∃x m1 m2 c ep tl,r=.ptr x 0 0 0/\1<=x/\Sys h' x m1 m2 c ep u tl) g2 (λr h hr hb=>?_) (λr h r1 r2 r3 r4=>?_)
 ·obtain⟨x,m1,m2,c,ep,tl,rfl,hx,_⟩:=hr;simp[dZ,cK,dY]at hb;omega
 obtain⟨x,m1,m2,c,ep,tl,rfl,hx,hS⟩:=r4;have h0:h[0]?=some ⟨.m,0,4,[.agg [.int .i64 u.k,.str u.s,.int .i64 u.o,.aa false (ae u.l)]]⟩:=r3 0 (by simp);have g3:=VY x m1 m2 c ep u tl hu f1 f2 h r1 hS;rw[ao u]at g3;refine wA ?_;refine .fr (P:=λr h'=>∃b,r=.ak b 0 0 1/\h.length<=b/\h'[b]?=some ⟨.m,0,1,[.int .u64 1]⟩) g3 (λr k hr hb=>?_) (λr k k1 k2 k3 k4=>?_)
 ·obtain⟨b,rfl,zW,_⟩:=hr;simp[dZ,cK,dY]at hb;omega
 obtain⟨b,rfl,zW,hb3⟩:=k4;have W4:Sys k x m1 m2 c ep u tl:=hS.of_eq h.length ⟨ag hS.hx,ag hS.h1,ag hS.h2,ag hS.hc⟩ k3;have g4:=VZ x m1 m2 c ep b u tl k k1 W4;refine wA ?_;refine .fr (P:=λr h'=>r=.ct [.ak b 0 0 1,.ak k.length 0 0 1]/\h'=k++[⟨.m,0,1,[.int .u64 0]⟩]) (g4.mono λr h' hr=>?_) (λr k hr hb=>?_) (λr h' _ _ _ k4=>?_)
 ·obtain⟨rfl,rfl⟩:=hr;exact⟨k1.dA (HV.one rfl),by simp,λj hj=>abj hj,rfl,rfl⟩
 ·obtain⟨rfl,_⟩:=hr;simp[dZ,cK,dY]at hb
 obtain⟨rfl,rfl⟩:=k4;have hS3:Sys (k++[(⟨.m,0,1,[.int .u64 0]⟩:aw)]) x m1 m2 c ep u tl:=W4.of_eq k.length ⟨ag W4.hx,ag W4.h1,ag W4.h2,ag W4.hc⟩ λj hj=>abj hj
 have hb4:(k++[(⟨.m,0,1,[.int .u64 0]⟩:aw)])[b]?=some ⟨.m,0,1,[.int .u64 1]⟩:=by rw[abj (ag hb3)];exact hb3
 have g5:=KG b _ hb4;have fx:=hS3.hx;have fc:=hS3.hc;refine wA ?_;refine .same (g5.mono λr h' h=>⟨h.1,h.2⟩) (λr hr=>?_);subst hr;refine wA ?_;exact⟨_,rfl,rfl⟩
end bE
open Go.Proofs
section
variable{C:cR}(T:lQ C.P){ops:Array Oper}{i d:Nat}{ty:TypeId}{pos:String}{af:Array Edge}{r:List Oper}{ρ:Nat->PV}{L:List (Nat×PV)}{h:ab}{L0:Nat}{own:List Nat}{Q:St->Prop}
set_option maxRecDepth 4000
theorem aY.sP{op:Op}(hs:xT T op L λv=>aY C ops (i+1) r ⟨⟨al ((d,v)::L) ρ,h⟩,L0,own⟩ Q):aY C ops i (⟨some d,op,ty,pos,af,none⟩::r) ⟨⟨al L ρ,h⟩,L0,own⟩ Q:=by
 obtain⟨hh,v,hv,k⟩:=qF T hs;exact aY.plain hh (λrun=>hv run 1 ρ h) k
theorem aY.sR{op:Op}(hs:vv T op L h λv=>aY C ops (i+1) r ⟨⟨al ((d,v)::L) ρ,h⟩,h.length,[]⟩ Q)(dw:aV h=true)(hv:Lk L h op.operands.toList):aY C ops i (⟨some d,op,ty,pos,af,none⟩::r) ⟨⟨al L ρ,h⟩,h.length,[]⟩ Q:=by
 obtain⟨hh,v,hc,k⟩:=lH T hs;exact aY.read hh dw (HT hv) ⟨0,λn lv _ _=>hc _ lv ρ⟩ k
theorem aY.sW{op:Op}(hh:cZ op=true)(hl:level ops (before ops) i=2)(hs:vY T op L h λv h'=>aY C ops (i+1) r ⟨⟨al ((d,v)::L) ρ,h'⟩,h'.length,[]⟩ Q):aY C ops i (⟨some d,op,ty,pos,af,none⟩::r) ⟨⟨al L ρ,h⟩,L0,own⟩ Q:=by
 obtain⟨v,h',hc,k⟩:=rf T hs;exact aY.two hh hl ⟨0,λn _=>hc _ ρ⟩ k
theorem aY.YR{x:Operand}{xs:List Operand}{Bh:Array TypeId}{f:FuncId}{args:List PV}{n:Nat}{P:ab->Prop}(hl:level ops (before ops) i=1)(dw:aV h=true)(hf:cM L x=some (.fn f []))(ha:zl L xs=some args)(hm:C.mode f=.opened)(ij:bw (aQ h) args=true)
  (a:ay C f args (h.map bS) (λr' h'=>r'=.ak h.length 0 0 n/\∃D,h'=h.map bS++D/\(∀o∈D,o.mu≠.l)/\P D))
  (k:∀D,P D->aY C ops (i+1) r ⟨⟨al ((d,.ak h.length 0 0 n)::L) ρ,h++D⟩,h.length,List.replicate D.length i⟩ Q):aY C ops i (⟨some d,.call ⟨.value x,xs.toArray,Bh⟩,ty,pos,af,none⟩::r) ⟨⟨al L ρ,h⟩,h.length,[]⟩ Q:=by
 obtain⟨r',h',⟨rfl,D,rfl,hD,hP⟩,n0,hn⟩:=a;refine aY.step ⟨n0,λm h1=>?_⟩ (k D hP);have hM:cy ((before ops).getD i 0).testBit h.length [] h=h:=by simp[cy]
 have he:=gV (ρ:=ρ) ha;have B8:(h.map bS++D).drop h.length=D:=by rw[acq (by simp),abR (by simp)];simp
 have hDl:(D.all λo=>decide (o.mu≠.l))=true:=by rw[abk];exact λo ho=>decide_eq_true (hD o ho)
 have hb:dZ h.length (.ak h.length 0 0 n)=false:=by simp[dZ,cK,dY]
 have Fl:dg C (fo C m) 1 f args h=some (.ak h.length 0 0 n,h++D):=by
  unfold dg;simp only[hm,ir,ek,hn m h1,B8,hDl];simp[hb]
 have kU:((Op.call ⟨.value x,xs.toArray,Bh⟩).operands.toList.all λy=>bq (aQ h) (ev (al L ρ) y))=true:=by
  rw[abk]
  intro y hy
  simp[Op.operands,Call.operands]at hy;rcases hy with rfl |hy
  ·rw[an hf];rfl
  ·rw[gj]at ij;have:ev (al L ρ) y∈args:=by rw[<-he];exact abZ.2 ⟨y,hy,rfl⟩
   exact abk.1 ij _ this
 have di:¬level ops (before ops) i=2:=by rw[hl];decide
 have jQ:au C (fo C m) 1 (.call ⟨.value x,xs.toArray,Bh⟩) (al L ρ) h=some (.ak h.length 0 0 n,h++D):=by
  simp only[au,gr,an hf,he,abJ,Fl]
 have Iz:(h++D).drop h.length=D:=by simp
 simp only[cz,bA,show cZ (.call ⟨.value x,xs.toArray,Bh⟩)=true from rfl,ab2,if_false,di,hM,dw,kU,and_self,if_true,jQ,Iz,hDl,cj,abT]
theorem vE{D:ab}(dw:aV h=true):aV (h++D.map eT)=true:=by
 unfold aV at dw ⊢;rw[abk]at dw ⊢
 intro o ho
 rcases abp.1 ho with ho |ho
 ·have:=dw o ho;rw[abN]at this ⊢;rcases this with h1 |h1
  ·exact .inl h1
  ·refine .inr (dW (λi hi=>?_) _ h1);unfold aQ at hi ⊢
   split at hi
   ·rename_i o ho
    rw[abj (ag ho),ho];exact hi
   ·cases hi
 ·obtain⟨o',_,rfl⟩:=abZ.1 ho;simp[eT]
theorem Bf{D:ab}{e:Nat->Bool}{j:Nat}(he:e j=false):cy e h.length (List.replicate D.length j) (h++D)=h++D.map eT:=by
 unfold cy;rw[List.take_left' rfl,List.drop_left' rfl]
 congr 1
 induction D with
 |nil=>rfl
 |cons o D ih=>simp[List.replicate_succ,he,ih]
theorem aY.bW{op:Op}{D:ab}{j:Nat}{v:PV}{E:ab}(hh:cZ op=true)(hl:level ops (before ops) i=1)(he:((before ops).getD i 0).testBit j=false)(dw:aV h=true)(kU:∀y∈op.operands.toList,aW (ev (al L ρ) y)=true)
  (hc:∀run,au C run 1 op (al L ρ) (h++D.map eT)=some (v,h++D.map eT++E)) (hE:∀o∈E,o.mu≠.l) (k:aY C ops (i+1) r ⟨⟨al ((d,v)::L) ρ,h++D++E⟩,h.length,List.replicate D.length j++List.replicate E.length i⟩ Q):
  aY C ops i (⟨some d,op,ty,pos,af,none⟩::r) ⟨⟨al L ρ,h++D⟩,h.length,List.replicate D.length j⟩ Q:=by
 refine aY.step ⟨0,λm _=>?_⟩ k;have di:¬level ops (before ops) i=2:=by rw[hl];decide
 have hM:cy ((before ops).getD i 0).testBit h.length (List.replicate D.length j) (h++D)=h++D.map eT:=Bf he
 have aaO:(op.operands.toList.all λy=>bq (aQ (h++D.map eT)) (ev (al L ρ) y))=true:=by
  rw[abk];exact λy hy=>wW _ _ (kU y hy)
 have B8:(h++D.map eT++E).drop (h++D).length=E:=by
  rw[acq (by simp),abR (by simp)];simp
 have hEl:(E.all λo=>decide (o.mu≠.l))=true:=by rw[abk];exact λo ho=>decide_eq_true (hE o ho)
 simp only[cz,bA,hh,ab2,if_false,di,hM,vE dw,aaO,and_self,if_true,hc,B8,hEl,cj]
theorem aY.VO{x:Operand}{t el:TypeId}{D:ab}{j:Nat}{full:Bool}{es:List PV}(hl:level ops (before ops) i=1)(he:((before ops).getD i 0).testBit j=false)(dw:aV h=true)(hx:cM L x=some (.aa full es))(hk:T.kd t=some (.sl el))
  (k:aY C ops (i+1) r ⟨⟨al ((d,.int .i64 es.length)::L) ρ,h++D⟩,h.length,List.replicate D.length j⟩ Q):aY C ops i (⟨some d,.call ⟨.builtin .len,#[x],#[t]⟩,ty,pos,af,none⟩::r) ⟨⟨al L ρ,h++D⟩,h.length,List.replicate D.length j⟩ Q:=by
 refine aY.bW (E:=[]) (v:=.int .i64 es.length) rfl hl he dw (λy hy=>?_) (λrun=>?_) (by simp) (by simpa using k)
 ·simp[Op.operands,Call.operands]at hy;subst hy;rw[an hx];rfl
 ·simp only[au,bt,abD,abM,an hx,pE,bz (T.cT _ _ hk),abw,abJ]
theorem aY.Rr{l:Operand}{t el:TypeId}{D:ab}{j:Nat}{kk:IntKind}{n sz gh:Nat}{z:PV}(hl:level ops (before ops) i=1)(he:((before ops).getD i 0).testBit j=false)(dw:aV h=true)(hx:cM L l=some (.int kk n))(hk:T.kd t=some (.sl el))(hs:T.ts el=some (sz+1))(hb:T.tb el=some gh)(hz:T.tz el=some z)
  (jo:gh<=65536) (Qs:(cells z).length=sz+1) (ho:(cells z).all bH=true) (hn:n<=1073741824)
  (k:aY C ops (i+1) r ⟨⟨al ((d,.ak (h.length+D.length) 0 0 n)::L) ρ,h++D++[⟨.m,0,sz+1,List.replicate n z⟩]⟩,h.length,List.replicate D.length j++[i]⟩ Q):aY C ops i (⟨some d,.makeSlice t l l,ty,pos,af,none⟩::r) ⟨⟨al L ρ,h++D⟩,h.length,List.replicate D.length j⟩ Q:=by
 refine aY.bW (E:=[⟨.m,0,sz+1,List.replicate n z⟩]) (v:=.ak (h.length+D.length) 0 0 n) rfl hl he dw (λy hy=>?_) (λrun=>?_) (by simp) k
 ·simp[Op.operands]at hy;subst hy;rw[an hx];rfl
 ·simp only[au,aC,an hx,jM,bz (T.cT _ _ hk),T.dV _ _ hs,T.rU _ _ hb,T.nt _ _ hz];rw[if_pos ⟨by omega,by omega,by omega,by omega,by omega,jo,Qs,ho⟩];simp[newObj]
end
attribute [local irreducible] aD az aL aJ Ev ah aj ay aY
set_option maxRecDepth 4000
theorem Rq(cs:List Tm)(x:List Pw)(H:ab)(hs:fv cs)(hl:cs.length<100000000)(hb:∀t∈cs,ax t<1000000000)(hx:FU x)(lx:x.length<100000000)(hm:∀p∈x,p.1∈cs):
  ay C 398 [.aa false (ae cs),.aa false (br x)] H (λr h'=>r=.ak H.length 0 0 cs.length/\∃J:ab,h'=H++⟨.m,0,1,fS (cs.map (vt x))⟩::J/\∀o∈J,o.mu=.m/\ar o.es=true):=by
 have cr:=ai cs;have ZV:=fh x;refine ay.x T6 Tryz.func398 rfl ?_;refine wA ?_
 refine cO.zip T6 x (λp q L h=>L=[(0,.aa false (ae cs)),(5,.ak H.length 0 0 (ae cs).length),(13,.aa false (br x)),(14,.int .i64 (br x).length),(15,.int .i64 p.length)]/\∃J:ab,h=H++⟨.m,0,1,fS (cs.map (vt p))⟩::J/\∀o∈J,o.mu=.m/\ar o.es=true)
  (.nx ⟨rfl,[],?_,by simp⟩) ?_ ?_
 ·have:fS (cs.map (vt []))=List.replicate (ae cs).length (.int .i64 0):=by rw[cr,fS,adh,<-List.map_const];rfl
  rw[this]
 ·rintro p ⟨u,n⟩ q _ h ρ e ⟨rfl,J,hJ,Yr⟩;have e1:h[H.length]?=some ⟨.m,0,1,fS (cs.map (vt p))⟩:=by rw[hJ];simp
  have h1:H.length<h.length:=by rw[hJ];simp
  have cm:=DH e;have di:=lenE e;obtain⟨A,B,hc⟩:=List.append_of_mem (hm (u,n) (by rw[e];simp));dsimp only at hc;have Kn:=EC cs A B u hc hs hl hb;rw[ao]at Kn;have QD:A.length<cs.length:=by rw[hc];simp
  have nf:(fS (cs.map (vt p)))[0+A.length]?=some (.int .i64 (vt p u)):=by rw[hc];simp[fS]
  have hlen:(fS (cs.map (vt p))).length=cs.length:=by simp
  have bN:∀y∈p,aT y.1 u≠0:=λy hy=>by
   rw[e]at hx;have:=(acU.1 hx).2.2 y hy (u,n) (by simp);simp only at this;omega
  refine wA ?_;refine .p Kn ?_;have eL:(fS (cs.map (vt p))).set (0+A.length) (.int .i64 n)=fS (cs.map (vt (p++[(u,n)]))):=by rw[abE];exact RX hc hs bN
  refine wA ?_;rw[eL];refine .nx ⟨rfl,J++[⟨.m,0,5,[.agg [.int .i64 u.k,.str u.s,.int .i64 u.o,.aa false (ae u.l),.int .i64 n]]⟩],?_,?_⟩
  ·rw[hJ,abI,abH,acA _ _ (abn _),acw,List.set_cons_zero]
  ·intro o ho
   rcases abp.1 ho with ho |ho
   ·exact Yr o ho
   ·rw[abP.1 ho];exact⟨rfl,by simp⟩
 ·rintro _ h ρ ⟨rfl,J,hJ,Yr⟩;refine wA ?_;exact⟨by rw[cr];rfl,J,hJ,Yr⟩
end Go.Pm
