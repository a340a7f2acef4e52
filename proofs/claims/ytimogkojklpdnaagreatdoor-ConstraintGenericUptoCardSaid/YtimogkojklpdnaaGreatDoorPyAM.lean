/-
  Pm, a part. Conditions: none.
-/
import Derived.Test.YtimogkojklpdnaaGreatDoorPyAL
set_option linter.unusedVariables false
set_option linter.unusedSimpArgs false
set_option linter.unnecessarySimpa false
set_option linter.unusedSectionVars false
namespace Go.Pm
set_option maxRecDepth 4000
theorem uZ{u:Tm}(h:kV u=true):dA u=false:=by
 obtain⟨h1,h2,_,_,_,h6⟩:=mw h;obtain⟨k,s,o,l⟩:=u
 have key:∀(n:ByteArray) (m:List UInt8),n.toList=m->fv (.mk k s o l) n=false->(decide (k=3)&&decide (s.toList=m))=false:=λn m e hh=>by
  subst e;simp only[fv,fu,Tm.k,Tm.s]at hh
  cases hk:decide (k=3)with
  |false=>rfl
  |true=>
   have e:k=3:=by simpa using hk
   subst e;simp at hh;simpa using hh
 have a1:=key xT uF Ly h1;have a2:=key xU mb Lz h2;have a3:=key rE uG LA h6;show(decide (k=3)&& (decide (s.toList=uF)||decide (s.toList=mb)||decide (s.toList=uG)))=false;rw[Bool.and_or_distrib_left,Bool.and_or_distrib_left,a1,a2,a3]
 rfl
theorem NZ{u:Tm}(h:dA u=false)(hv:valid u=0):Ir u=([(u,1)],0):=by
 obtain⟨k,s,o,l⟩:=u;have ha:arity (.mk k s o l)=true:=by rw[arity,if_pos h]
 have hc:gw [] (.mk k s o l) 1=[(.mk k s o l,1)]:=by rw[gw,if_pos h];rfl
 rw[Ir,if_neg (by omega),if_neg (by rw[ha];simp),hc,if_neg (by simp)]
namespace bh
open Go.Proofs
attribute [local irreducible] aD ay aJ aG Ev ah ai ax aZ bE
theorem DR(u:Tm):bq [(u,1)]=[.agg [.int .i64 u.k,.str u.s,.int .i64 u.o,.aa false (ae u.l),.int .i64 1]]:=by obtain⟨k,s,o,l⟩:=u;rfl
theorem QZ(s:List Tm)(hs:kC s)(u:Tm)(hu:az u<10000000)(id:Nat)(H:ab)(h0:H[id]?=some ⟨.m,0,1,[.aa false (ae s)]⟩):ax C 371 [.agg [.int .i64 u.k,.str u.s,.int .i64 u.o,.aa false (ae u.l),.int .i64 1],.ptr id 0 0 0] H (λr h'=>r=.bool (cm s u)/\fW H h'):=by
 have h1:=hs.has hu;have cL:=ag h0;rw[aw]at h1;refine ax.x T6 Tryz.func371 rfl ?_;refine wA ?_;refine .p h1 ?_;refine wA ?_;exact⟨rfl,(fW.refl _).c8 (HV.one (by simp[ao,aV]))⟩
theorem BW(s:List Tm)(hs:kC s)(u:Tm)(hu:az u<10000000)(hn:cm s u=false):aL C 327 [.aa false (ae s),.aa false (bq [(u,1)])] (.aa false (bq [(u,1)])):=by
 rw[DR];obtain⟨B,hB⟩:∃B:ab,B=[⟨.m,0,1,[.aa false (ae s)]⟩,⟨.m,0,5,[.agg [.int .i64 u.k,.str u.s,.int .i64 u.o,.aa false (ae u.l),.int .i64 1]]⟩]:=⟨_,rfl⟩;have WO:B[0]?=some ⟨.m,0,1,[.aa false (ae s)]⟩:=by rw[hB];rfl
 have Yx:B[1]?=some ⟨.m,0,5,[.agg [.int .i64 u.k,.str u.s,.int .i64 u.o,.aa false (ae u.l),.int .i64 1]]⟩:=by rw[hB];rfl
 have Jp:ax C 381 [.aj 1 0 0 1,.fn 371 [.ptr 0 0 0 0]] B (λr h'=>r=.int .i64 (-1)/\fW B h'):=by
  have WY:([]:List Tm).length=0:=rfl;have h01:[u].length=1:=rfl;refine ax.x T6 Tryz.func381 rfl ?_;refine wA ?_;refine dw.zip T6 [u] (λp q L K=>L=[(0,.aj 1 0 0 1),(1,.fn 371 [.ptr 0 0 0 0]),(7,.int .i64 1),(8,.int .i64 p.length)]/\fW B K) (.nx ⟨rfl,fW.refl _⟩) ?_ ?_
  ·rintro p a q _ K Y e ⟨rfl,hE⟩;obtain⟨rfl,Lo,rfl⟩:=wa e;have Lo:=Lo.symm;subst Lo;have To:=hE.at Yx;have hk:=QZ s hs u hu 0 K (hE.at WO);rw[hn]at hk;refine wA ?_;refine .ex hk (λh' PG=>?_);refine wA ?_;exact .nx ⟨rfl,hE.trans PG⟩
  ·rintro _ K Y ⟨rfl,hE⟩;refine wA ?_;exact⟨rfl,hE⟩
 have Fy:ax C 369 [.aj 1 0 0 1,.fn 371 [.ptr 0 0 0 0]] B (λr h'=>r=.aj 1 0 0 1/\fW B h'):=by
  refine ax.x T6 Tryz.func369 rfl ?_;refine wA ?_;refine .ex Jp (λh' hE=>?_);refine wA ?_;exact⟨rfl,hE⟩
 have NK:bB 5 [.aa false [.agg [.int .i64 u.k,.str u.s,.int .i64 u.o,.aa false (ae u.l),.int .i64 1]]] [⟨.m,0,1,[.aa false (ae s)]⟩]=some (.aj 1 0 0 1,B):=by rw[hB];rfl
 refine aL.x T6 Tryz.func327 rfl ?_;refine wA ?_;refine ai.cD rfl NK ?_;refine wA ?_;refine .ex Fy (λh' hE=>?_);have h1:=hE.at Yx;refine wA ?_;exact iq (tl:=[]) (es:=[.agg [.int .i64 u.k,.str u.s,.int .i64 u.o,.aa false (ae u.l),.int .i64 1]]) h1 rfl (by rw[<-DR];simp) (by rw[<-DR];simp)
theorem xX(s:List Tm)(hs:kC s)(hf:∀t∈s,kV t=true)(u:Tm)(hu:az u<10000000)(hn:cm s u=false)(Gy:kV u=true)(hv:valid u=0):aL C 280 [.aa false (ae s),.aa false (bq [(u,1)])] (.bool false):=by
 have cz:=ak s;have YP:=hs.len;have h1:=BW s hs u hu hn;obtain⟨x,h2⟩:=DS u hu (uZ Gy) hv;rw[DR]at h1 h2 ⊢;refine aL.x T6 Tryz.func280 rfl ?_;refine wA ?_;refine .p h1 ?_;refine wC (λhc=>?_) λhc=>?_;exfalso;simp at hc;refine dw.zip T6 s (λp q L H=>L=[(0,.aa false (ae s)),(1,.aa false [.agg [.int .i64 u.k,.str u.s,.int .i64 u.o,.aa false (ae u.l),.int .i64 1]]),(5,.aa true []),(18,.aa false (ae s)),(19,.int .i64 (ae s).length),(20,.int .i64 p.length)]/\HV H) (.nx ⟨rfl,HV.nil⟩) ?_ ?_
 ·rintro p t q _ H Y e ⟨rfl,hH⟩;have cC:=bD e;have dO:=lenE e;have h3:=AG t;obtain⟨g1,g2,_⟩:=mw (hf t (by rw[e];simp));rw[show DP t=false by simp[DP,g1,g2],aw]at h3;refine wA ?_;refine .p h3 ?_;refine wA ?_;exact .nx ⟨rfl,hH.c8 (HV.one (by simp))⟩
 ·rintro _ H Y ⟨rfl,hH⟩;refine wA ?_;refine .p h2 ?_;refine wA ?_;exact⟨_,rfl,rfl⟩
theorem vH(s:List Tm)(hs:kC s)(hf:∀t∈s,kV t=true)(u:Tm)(hu:az u<10000000)(hn:cm s u=false)(Gy:kV u=true)(hv:valid u=0):aL C 214 [.aa false (ae s),enc u] (.bool false):=by
 have h1:=(VB u (by omega)).nine;rw[NZ (uZ Gy) hv]at h1;have h2:=xX s hs hf u hu hn Gy hv;rw[DR]at h1 h2;rw[aw]at h1 ⊢;refine aL.x T6 Tryz.func214 rfl ?_;refine wA ?_;refine .p h1 ?_;refine wA ?_;refine .p h2 ?_;refine wA ?_;exact⟨_,rfl,rfl⟩
theorem DT(u:Tm)(Gy:kV u=true):aL C 277 [enc u] (.cy [enc u,.aa false []]):=by
 have h1:=nw u ⟨#[101,120,112]⟩;rw[show fv u ⟨#[101,120,112]⟩=false from(mw Gy).2.2.1]at h1;rw[aw]at h1 ⊢;refine aL.x T6 Tryz.func277 rfl ?_;refine wA ?_;refine .p h1 ?_;refine wA ?_;exact⟨_,rfl,by simp⟩
theorem Gz(u t:Tm)(hu:az u<10000000)(ht:az t<10000000)(hft:kV t=true)(bN:aW u t≠0)(i1 i2 i3:Nat)(H:ab)(hH:HV H)(h1:H[i1]?=some ⟨.m,0,4,[.agg [.int .i64 u.k,.str u.s,.int .i64 u.o,.aa false (ae u.l)]]⟩):
  ax C 278 [enc t,.ptr i1 0 0 0,.ptr i2 0 0 0,.ptr i3 0 0 0] H (λr h'=>r=.bool false/\fW H h'):=by
 have g1:=DT t hft;have g2:=nt u t (by omega) (by omega);have VC:=ag h1;rw[decide_eq_false bN]at g2;rw[aw]at g1 g2 ⊢;rw[aw t]at g2
 have f1:(H++[(⟨.m,0,4,[.agg [.int .i64 t.k,.str t.s,.int .i64 t.o,.aa false (ae t.l)]]⟩:au)]++[⟨.m,0,4,[.agg [.int .i64 t.k,.str t.s,.int .i64 t.o,.aa false (ae t.l)]]⟩])[i1]?=some ⟨.m,0,4,[.agg [.int .i64 u.k,.str u.s,.int .i64 u.o,.aa false (ae u.l)]]⟩:=by
  rw[aa3 (by simp;omega),aa3 VC];exact h1
 refine ax.x T6 Tryz.func278 rfl ?_;refine wA ?_;refine .p g1 ?_;refine wA ?_;refine .p g2 ?_;refine wA ?_;exact⟨rfl,((fW.refl _).c8 (HV.one (by simp))).c8 (HV.one (by simp))⟩
theorem DU(s:List Tm)(hs:kC s)(hf:∀t∈s,kV t=true)(u:Tm)(hu:az u<10000000)(hn:cm s u=false)(Gy:kV u=true):aL C 213 [.aa false (ae s),enc u] (.bool false):=by
 have h1:=DT u Gy;have hlen:=hs.len;obtain⟨B,hB⟩:∃B:ab,B=[⟨.m,0,1,[.aa false (ae s)]⟩,⟨.m,0,4,[.agg [.int .i64 u.k,.str u.s,.int .i64 u.o,.aa false (ae u.l)]]⟩,⟨.m,0,4,[.agg [.int .i64 u.k,.str u.s,.int .i64 u.o,.aa false (ae u.l)]]⟩,⟨.m,0,1,[.aa false []]⟩]:=⟨_,rfl⟩;have hB2:B[2]?=some ⟨.m,0,4,[.agg [.int .i64 u.k,.str u.s,.int .i64 u.o,.aa false (ae u.l)]]⟩:=by rw[hB];rfl
 have hBv:HV B:=by
  rw[hB];intro o ho;simp only[abc,acn,or_false]at ho;rcases ho with rfl |rfl |rfl |rfl <;>simp[ao,aV]
 have hc:=Is s 278 [.ptr 2 0 0 0,.ptr 3 0 0 0,.ptr 0 0 0 0] (λ_=>false) B (by omega) (λx hx=>hZ.opened λH' hE=>Gz u x hu (hs.bk x hx) (hf x hx) (λh0=>by
  have:=dq.2 ((dm h0)▸hx);rw[hn]at this;cases this) 2 3 0 H' (hE.hv hBv) (hE.at hB2))
 have ha:(s.any λ_=>false)=false:=by simp
 rw[ha]at hc;rw[aw]at h1 ⊢;refine aL.x T6 Tryz.func213 rfl ?_;refine wA ?_;refine .p h1 ?_;refine wA ?_;rw[<-hB];refine .ex hc (λh' hE=>?_);refine wA ?_;exact⟨_,rfl,rfl⟩
end bh
structure Cl(u s r:List Tm):Prop where
 CD:fZ r
 base:∀x∈s,x∈r
 TA:∀x∈r,x∈u/\zg u s x
def oM(u r:List Tm):Nat:=u.countP λt=>!cm r t
theorem Cl.len{u s r:List Tm}(U:N0 u)(h:Cl u s r):r.length<=u.length:=by
 have:r=u.filter (cm r):=oa h.CD (gH U.CD) λy=>by
  rw[abV,dq];exact⟨λhy=>⟨(h.TA y hy).1,hy⟩,λhy=>hy.2⟩
 rw[this];exact acm _ _
theorem N1{p q r:List Tm}{t:Tm}(h:cm r t=false):oM (p++t::q) (fo t r)<oM (p++t::q) r:=by
 have hm:∀l:List Tm,oM l (fo t r)<=oM l r:=λl=>by
  refine List.countP_mono_left λx _ hx=>?_;simp only[acD]at hx ⊢
  cases hh:cm r x with
  |false=>rfl
  |true=>
   rw[dq.2 ((nZ t r x).2 (.inr (dq.1 hh)))]at hx
   cases hx
 have ht:cm (fo t r) t=true:=dq.2 ((nZ t r t).2 (.inl rfl));have h1:=hm p;have h2:=hm q;unfold oM at *;rw[List.countP_append,List.countP_append,acQ,acQ,ht,h];simp;omega
theorem Cl.add{u s r:List Tm}(U:N0 u)(h:Cl u s r){t:Tm}(ht:t∈u)(hs:nA r t=true):Cl u s (fo t r):=by
 refine⟨wW h.CD,λx hx=>(nZ _ _ _).2 (.inr (h.base x hx)),λx hx=>?_⟩;rcases(nZ _ _ _).1 hx with rfl |hx;exact⟨ht,zg.step U h.TA ht hs⟩;exact h.TA x hx
namespace bh
open Go.Proofs
attribute [local irreducible] aD ay aJ aG Ev ah ai ax aZ bE
theorem Cl.ok{u s r:List Tm}(U:N0 u)(h:Cl u s r)(hl:u.length<10000000)(hb:∀b∈u,az b<10000000):kC r:=
 ⟨h.CD,by have:=h.len U;omega,λb ee=>hb b (h.TA b ee).1⟩
theorem DW(s:List Tm)(hs:kC s)(hf:∀t∈s,kV t=true)(u:Tm)(hu:az u<10000000)(hn:cm s u=false)(Gy:kV u=true)(hv:valid u=0):aL C 212 [.aa false (ae s),enc u] (.bool false):=by
 have cz:=ak s;have YP:=hs.len;have f1:=(mw Gy).2.2.2.2.1;have f2:=(mw Gy).2.2.2.1;have h1:=J' u hv hu f1 f2;have h2:=AI [u] (by simp) (λt ht=>by simp at ht;rw[ht];omega);have h3:=Ka u hv hu f1 f2;have hsu:jd [u]=[u]:=rfl;have vW:ae [u]=[.agg [.int .i64 u.k,.str u.s,.int .i64 u.o,.aa false (ae u.l)]]:=by rw[ae,aw];rfl
 rw[hsu]at h2;rw[vW]at h1 h2;have gh:kC [u]:=⟨by simp[fZ],by simp,λb hb=>by simp at hb;rw[hb];exact hu⟩;rw[aw]at h1 h3 ⊢;refine aL.x T6 Tryz.func212 rfl ?_;refine wA ?_;refine .p h1 ?_;refine wA ?_;refine dw.zip T6 s (λp q L H=>L=[(0,.aa false (ae s)),(3,.ptr 0 0 0 0),(5,.aa false [.agg [.int .i64 u.k,.str u.s,.int .i64 u.o,.aa false (ae u.l)]]),(22,.aa false (ae s)),(23,.int .i64 (ae s).length),(24,.int .i64 p.length)]/\HV H/\H[0]?=some ⟨.m,0,4,[.agg [.int .i64 u.k,.str u.s,.int .i64 u.o,.aa false (ae u.l)]]⟩) (.nx ⟨rfl,HV.one (by simp),rfl⟩) ?_ ?_
 ·rintro p t q _ H Y e ⟨rfl,hH,h0⟩;have cC:=bD e;have dO:=lenE e;have g1:=nw t ⟨#[120,111,114]⟩;rw[show fv t ⟨#[120,111,114]⟩=false from(mw (hf t (by rw[e];simp))).2.2.2.1,aw]at g1;refine wA ?_;refine .p g1 ?_;refine wA ?_;exact .nx ⟨rfl,hH.c8 (HV.one (by simp)),by rw[aa3 (ag h0)];exact h0⟩
 ·rintro _ H Y ⟨rfl,hH,h0⟩;refine wA ?_;refine .p h2 ?_;refine wA ?_;refine dw.zip T6 s (λp q L H=>L=[(3,.ptr 0 0 0 0),(11,.aa false [.agg [.int .i64 u.k,.str u.s,.int .i64 u.o,.aa false (ae u.l)]]),(12,.aa true []),(42,.aa false (ae s)),(43,.int .i64 (ae s).length),(44,.int .i64 p.length)]/\HV H/\H[0]?=some ⟨.m,0,4,[.agg [.int .i64 u.k,.str u.s,.int .i64 u.o,.aa false (ae u.l)]]⟩) (.nx ⟨rfl,hH,h0⟩) ?_ ?_
  ·rintro p t q _ H Y e ⟨rfl,hH,h0⟩;have cC:=bD e;have dO:=lenE e;have eA:t∈s:=by rw[e];simp
   have g1:=nw t ⟨#[120,111,114]⟩;have g2:=gh.has (hs.bk t eA)
   have ht1:cm [u] t=false:=by
    cases hh:cm [u] t with
    |false=>rfl
    |true=>
     have h4:=dq.1 hh;simp at h4;rw[<-h4,dq.2 eA]at hn
     cases hn
   rw[ht1,vW]at g2;rw[show fv t ⟨#[120,111,114]⟩=false from(mw (hf t eA)).2.2.2.1]at g1;rw[aw]at g1 g2;refine wA ?_;refine .p g1 ?_;refine wA ?_;refine .p g2 ?_;refine wA ?_;exact .nx ⟨rfl,hH.c8 (HV.one (by simp)),by rw[aa3 (ag h0)];exact h0⟩
  ·rintro _ H Y ⟨rfl,hH,h0⟩;refine wA ?_;refine .p h3 ?_;refine wA ?_;exact⟨_,rfl,rfl⟩
theorem N3(s:List Tm)(hs:kC s)(hf:∀t∈s,kV t=true)(Ga:∀t∈s,jc t=0)(u:Tm)(hu:az u<10000000)(Gy:kV u=true)(hv:valid u=0):aL C 164 [.aa false (ae s),enc u] (.bool (nA s u)):=by
 have P9:u.l.length<10000000:=by obtain⟨k,n,o,l⟩:=u;have:=bH l;simp only[az]at hu;simp only[Tm.l];omega
 have h1:=hs.has hu;have h2:=Gs u (by omega) (by omega);have h3:=BX s hs u hu;have h4:=GA s hs Ga u hu;have h5:=DW s hs hf u hu;have h6:=DU s hs hf u hu;have h7:=vH s hs hf u hu;have hR:nA s u=(cm s u ||xq u ||xY s u ||u5 s u):=rfl;rw[hR];rw[aw]at h1 h2 h3 h4 h5 h6 h7 ⊢;refine aL.x T6 Tryz.func164 rfl ?_;refine wA ?_;refine .p h1 ?_
 cases hn:cm s u
 ·refine wA ?_;refine .p h2 ?_
  cases xq u
  ·refine wA ?_;refine .p h3 ?_
   cases xY s u
   ·refine wA ?_;refine .p h4 ?_
    cases u5 s u
    ·refine wA ?_;refine .p (h5 hn Gy hv) ?_;refine wA ?_;refine .p (h6 hn Gy) ?_;refine wA ?_;refine .p (h7 hn Gy hv) ?_;refine wA ?_;exact⟨_,rfl,rfl⟩
    ·refine wA ?_;exact⟨_,rfl,rfl⟩
   ·refine wA ?_;exact⟨_,rfl,rfl⟩
  ·refine wA ?_;exact⟨_,rfl,rfl⟩
 ·refine wA ?_;exact⟨_,rfl,rfl⟩
theorem DX(u s:List Tm)(U:N0 u)(hs:fZ s)(hsu:∀x∈s,x∈u)(hl:u.length<10000000)(hb:∀b∈u,az b<10000000):aL C 115 [.aa false (ae s),.aa false (ae u)] (.aa false (ae (zA u s))):=by
 have cz:=ak u;refine aL.x T6 Tryz.func115 rfl ?_;refine wA ?_;refine dw.nat T6 (λn L H=>∃r g,n=oM u r+(if g then 1 else 0)/\L=[(0,.aa false (ae r)),(1,.aa false (ae u)),(5,.bool g)]/\Cl u s r/\(g=false->∀t∈u,nA r t=true->t∈r)/\HV H) (oM u s+1) (.nx ⟨s,true,rfl,rfl,⟨hs,λ_ h=>h,λx hx=>⟨hsu x hx,.base hx⟩⟩,by simp,HV.nil⟩) ?_;rintro n _ H Y ⟨r,g,rfl,rfl,hc,hg,hH⟩
 cases g with
 |false=>
  have hr:r=zA u s:=Q7 U hc.CD hc.TA λt ht hd=>zg.fix U hc.base (λx hx=>(hc.TA x hx).1) (hg rfl) hd
  refine wA ?_;exact⟨_,rfl,by rw[<-hr];simp[aT,bW,bg]⟩
 |true=>
  refine wA ?_;refine dw.zip T6 u (λp q L K=>∃r' g',L=[(0,.aa false (ae r')),(1,.aa false (ae u)),(5,.bool g'),(9,.aa false (ae u)),(10,.int .i64 (ae u).length),(11,.int .i64 p.length)]/\Cl u s r'/\(g'=true->oM u r'<oM u r)/\(g'=false->r'=r/\∀t∈p,nA r t=true->t∈r)/\HV K) (.nx ⟨r,false,rfl,hc,by simp,λ_=>⟨rfl,by simp⟩,hH⟩) ?_ ?_
  ·rintro p t q _ K Y e ⟨r',g',rfl,tF,VD,tH,hK⟩;have cC:=bD e;have dO:=lenE e;have N4:t∈u:=by rw[e];simp
   have gh:kC r':=Cl.ok U tF hl hb;have h1:=gh.has (hb t N4);have h2:=N3 r' gh (λx hx=>U.fr x (tF.TA x hx).1) (λx hx=>U.ok x (tF.TA x hx).1) t (hb t N4) (U.fr t N4) (iy.1 (U.ok t N4)).1;have h3:=JY r' t tF.CD gh.len (λb ee=>by have:=gh.bk b ee;omega) (by have:=hb t N4;omega);rw[aw]at h1 h2 h3;refine wA ?_;refine .p h1 ?_
   cases hh:cm r' t
   ·refine wA ?_;refine .p h2 ?_
    cases AJ:nA r' t
    ·refine wA ?_;refine .nx ⟨r',g',rfl,tF,VD,λh=>⟨(tH h).1,λx hx DY=>?_⟩,hK.c8 (HV.one (by simp))⟩;rcases aa9.1 hx with hx |hx;exact(tH h).2 x hx DY
     ·simp at hx;rw[hx,<-(tH h).1,AJ]at DY
      cases DY
    ·refine wA ?_;refine .p h3 ?_;refine wA ?_;refine .nx ⟨fo t r',true,rfl,tF.add U N4 AJ,λ_=>?_,by simp,hK.c8 (HV.one (by simp))⟩;have cL:oM u (fo t r')<oM u r':=by rw[e];exact N1 hh
     cases hg':g' with
     |true=>have:=VD hg';omega
     |false=>rw[(tH hg').1]at cL;rw[(tH hg').1];exact cL
   ·refine wA ?_;refine .nx ⟨r',g',rfl,tF,VD,λh=>⟨(tH h).1,λx hx DY=>?_⟩,hK.c8 (HV.one (by simp))⟩;rcases aa9.1 hx with hx |hx;exact(tH h).2 x hx DY
    ·simp at hx;rw[hx,<-(tH h).1];exact dq.1 hh
  ·rintro _ K Y ⟨r',g',rfl,tF,VD,tH,hK⟩;refine wA ?_;refine .nx ⟨oM u r'+(if g' then 1 else 0),?_,r',g',rfl,rfl,tF,λh=>?_,hK⟩
   ·cases g' with
    |true=>have:=VD rfl;simp;omega
    |false=>rw[(tH rfl).1];simp
   ·obtain⟨rfl,h2⟩:=tH h;exact h2
theorem zB(k:List Tm)(t:Tm)(hf:∀u∈k++[t],kV u=true)(hl:bF (k++[t])<10000000):
  aL C 58 [.aa false (ae k),enc t] (.cy [.bool (sF k t),.int .i64 (jR k t)]):=by
 have tO:=bH (k++[t]);simp only[aba,abg,abH]at tO;have PH:∀u∈k++[t],az u<10000000:=λu hu=>by have:=bU hu;omega
 have hUb:=AK PH;have hUl:=sY (k++[t]);have h1:=BY k t hf hl;have vW:ae [t]=[.agg [.int .i64 t.k,.str t.s,.int .i64 t.o,.aa false (ae t.l)]]:=by rw[ae,aw];rfl
 rw[vW]at h1
 by_cases hE:jR k t=0
 ·rw[if_neg (by omega),hE]at h1
  have hrk:jD (k++[t])=0:=by
   unfold jR at hE
   split at hE
   omega
   ·split at hE
    ·omega
    ·omega
  have U:N0 (jQ (k++[t])):=VE λx hx=>⟨(Kb (xZ hrk x hx)).1,hf x hx⟩
  have hks:∀x∈jd k,x∈jQ (k++[t]):=λx hx=>(fq _ _).2 (dR.2 ⟨x,by simp[(fq _ _).1 hx],ko x⟩)
  have h2:=AI k (by omega) (λx hx=>by have:=PH x (by simp[hx]);omega);have h3:=DX _ _ U (jo k) hks (by omega) hUb;have hd:kC (zA (jQ (k++[t])) (jd k)):=⟨gH U.CD,by have:=acm (λx=>@decide (zg (jQ (k++[t])) (jd k) x) (Classical.propDecidable _)) (jQ (k++[t]));unfold zA;omega,λb hb=>hUb b (H4.1 hb).1⟩;have h4:=hd.has (PH t (by simp));have hR:sF k t=cm (zA (jQ (k++[t])) (jd k)) t:=by rw[sF,decide_eq_true hE,aco]
  rw[hR,hE];rw[aw]at h4 ⊢;refine aL.x T6 Tryz.func58 rfl ?_;refine wA ?_;refine .p h1 ?_;refine wA ?_;refine .p h2 ?_;refine wA ?_;refine .p h3 ?_;refine wA ?_;refine .p h4 ?_;refine wA ?_;exact⟨_,rfl,rfl⟩
 ·rw[if_pos hE]at h1;have hR:sF k t=false:=by rw[sF,decide_eq_false hE,Bool.false_and]
  rw[hR,aw];refine aL.x T6 Tryz.func58 rfl ?_;refine wA ?_;refine .p h1 ?_;refine wA ?_;exact⟨_,rfl,rfl⟩
theorem atM{l p q:List Tm}{u:Tm}{tl:List PV}(e:l=p++u::q):(ae l++tl)[0+p.length]?=some (.agg [.int .i64 u.k,.str u.s,.int .i64 u.o,.aa false (ae u.l)]):=by
 rw[abp,aa3 (by have:=congrArg List.length e;simp at this;rw[ak];omega)];exact bD e
theorem Q8(l:List Tm)(tl:List PV)(g:FuncId)(p:Tm->Bool)(id ep:Nat)(H:ab)(e0:H[id]?=some ⟨.m,ep,4,ae l++tl⟩)(hl:l.length<1000000000)(hp:∀x∈l,aL C g [enc x] (.bool (p x)))(hm:C.mode g=.pure):
  ax C 142 [.aj id ep 0 l.length,.fn g []] H (λr h'=>r=.int .i64 (qM p l)/\fW H h'):=by
 have cz:=ak l;refine ax.x T6 Tryz.func142 rfl ?_;refine wA ?_;refine dw.zip T6 l (λa q L K=>L=[(0,.aj id ep 0 l.length),(1,.fn g []),(7,.int .i64 l.length),(8,.int .i64 a.length)]/\fW H K/\∀y∈a,p y=false) (.nx ⟨rfl,fW.refl _,by simp⟩) ?_ ?_
 ·rintro a x q _ K Y e ⟨rfl,hE,ha⟩;have cC:=atM (tl:=tl) e;have hK:=hE.at e0;have dO:=lenE e;have vF:=hp x (by rw[e];simp);have hla:(ae l++tl).length=l.length+tl.length:=by rw[aba,cz]
  rw[aw]at vF;refine wA ?_;refine ai.pure hm rfl (by simpa using vF) ?_
  cases hb:p x
  ·refine wA ?_;exact .nx ⟨rfl,hE,λy hy=>by rcases aa9.1 hy with h |h;exact ha y h;simp at h;rw[h];exact hb⟩
  ·refine wA ?_;exact⟨by rw[e,j4 ha hb];rfl,hE⟩
 ·rintro _ K Y ⟨rfl,hE,ha⟩;refine wA ?_;exact⟨by rw[gi ha];rfl,hE⟩
theorem _root_.Go.Pm.Td{C:cG}(T:kJ C.P){run:gW}{lv:Nat}{L:Al}{Y:Nat->PV}{h:ab}{t el:TypeId}{x lo:Operand}{k:IntKind}{id ep len sz a:Nat}{o:au}(hx:cO L x=some (.aj id ep 0 len))(zc:cO L lo=some (.int k a))(hk:T.kd t=some (.sl el))(hs:T.ts el=some sz)(hg:getM h id ep=some o)(gC:sz=o.bA)(hl:len<=o.es.length)(ha:a<len):ar C run lv (.slice t x (some lo) none none) (al L Y) h=some (.aj id ep a (len - a),h):=by
 have h1:cN (some (.int k a)) 0 len=some a:=by simp[cN];omega
 have h2:cd C.P h t (.aj id ep 0 len) (some (.int k a)) none none=some (.aj id ep a (len - a)):=by
  unfold cd;rw[bp (T.cQ _ _ hk)];simp only[T.eA _ _ hs,hg];rw[if_pos ⟨gC,by omega⟩];simp only[beyond,cN];rw[if_pos ⟨by omega,by omega⟩]
  by_cases h0:a=0
  subst h0;simp;simp[h0];omega
 simp[ar,aC,an hx,an zc,h2]
theorem _root_.Go.Pm.Tf{C:cG}(T:kJ C.P){run:gW}{lv:Nat}{L:Al}{Y:Nat->PV}{h:ab}{t el:TypeId}{x hi:Operand}{k:IntKind}{id ep len sz b:Nat}{o:au}(hx:cO L x=some (.aj id ep 0 len))(zd:cO L hi=some (.int k b))(hk:T.kd t=some (.sl el))(hs:T.ts el=some sz)(hg:getM h id ep=some o)(gC:sz=o.bA)(hl:len<=o.es.length)(hb:b<=len):ar C run lv (.slice t x none (some hi) none) (al L Y) h=some (.aj id ep 0 b,h):=by
 have h2:cd C.P h t (.aj id ep 0 len) none (some (.int k b)) none=some (.aj id ep 0 b):=by
  unfold cd;rw[bp (T.cQ _ _ hk)];simp only[T.eA _ _ hs,hg];rw[if_pos ⟨gC,by omega⟩];simp only[beyond,cN];rw[if_neg (by omega)];simp;rw[if_pos hb]
 simp[ar,aC,an hx,an zd,h2]
theorem _root_.Go.Pm.Te{C:cG}(T:kJ C.P){run:gW}{L:Al}{Y:Nat->PV}{h:ab}{t el:TypeId}{x:Operand}{id ep off len:Nat}{o:au}{z:PV}(hx:cO L x=some (.aj id ep off len))(hk:T.kd t=some (.sl el))(hs:T.ts el=some o.bA)(hz:T.tz el=some z)(hg:getM h id ep=some o)(hm:o.mu=.m)(hl:off+len<=o.es.length)(h1:(cells z).length=o.bA)(h2:(cells z).all bC=true):ar C run 2 (.call ⟨.builtin .clear,#[x],#[t]⟩) (al L Y) h=some (.cy [],h.set id {o with es:=o.es.take off++List.replicate len z++o.es.drop (off+len)}):=by
 have h3:mB C.P 2 h t (.aj id ep off len)=some (.cy [],h.set id {o with es:=o.es.take off++List.replicate len z++o.es.drop (off+len)}):=by
  unfold mB;rw[bp (T.cQ _ _ hk)];simp only[T.eA _ _ hs,T.mM _ _ hz,hg];rw[if_pos (by simp only[hm,h1,h2,hl,and_self,aa5])]
 simp[ar,br,an hx,h3]
theorem Q9(l:List Tm)(tl:List PV)(ht:ao tl=true)(g:FuncId)(p:Tm->Bool)(id ep:Nat)(H:ab)(hH:HR H)(e0:H[id]?=some ⟨.m,ep,4,ae l++tl⟩)(hl:l.length<1000000000)(hp:∀x∈l,aL C g [enc x] (.bool (p x)))(hm:C.mode g=.pure):
  ax C 104 [.aj id ep 0 l.length,.fn g []] H (λr h'=>(HR h'/\H.length<=h'.length/\∀j,j<H.length->j≠id->h'[j]?=H[j]?)/\r=.aj id ep 0 (l.filter λx=>!p x).length/\zC h' r (l.filter λx=>!p x)):=by
 have Jp:=Q8 l tl g p id ep H e0 hl hp hm;have cz:=ak l
 by_cases mF:∀y∈l,p y=false
 ·rw[gi mF]at Jp
  have FR:(l.filter λx=>!p x)=l:=by
   rw[ac5]
   intro x hx
   rw[mF x hx];rfl
  rw[FR];refine ax.x T6 Tryz.func104 rfl ?_;refine wA ?_;refine .ex Jp (λh' hE=>?_);obtain⟨J,hJ,rfl⟩:=hE;refine wA ?_;exact⟨⟨hH.dg hJ,by simp,λj hj _=>aa3 hj⟩,rfl,id,ep,tl,rfl,by rw[aa3 (ag e0)];exact e0,ht⟩
 ·obtain⟨a,x,b,e,ha,hx⟩:∃a x b,l=a++x::b/\(∀y∈a,p y=false)/\p x=true:=by
   clear Jp hp e0 cz hl
   induction l with
   |nil=>exact absurd (by simp) mF
   |cons y l ih=>
    cases hy:p y with
    |true=>exact⟨[],y,l,rfl,by simp,hy⟩
    |false=>
     obtain⟨a,x,b,rfl,h1,h2⟩:=ih (λh=>mF λz hz=>by rcases abc.1 hz with rfl |hz;exact hy;exact h z hz);exact⟨y::a,x,b,rfl,λz hz=>by rcases abc.1 hz with rfl |hz;exact hy;exact h1 z hz,h2⟩
  have hi:qM p l=a.length:=by rw[e];exact j4 ha hx
  rw[hi]at Jp
  have XJ:(a.filter λx=>!p x)=a:=by
   rw[ac5]
   intro y hy
   rw[ha y hy];rfl
  have o8:=lenE e;refine ax.x T6 Tryz.func104 rfl ?_;refine wA ?_;refine .ex Jp (λh' hE=>?_);obtain⟨J,hJ,rfl⟩:=hE;have Jq:=ag e0;have e1:(H++J)[id]?=some ⟨.m,ep,4,ae l++tl⟩:=by rw[aa3 Jq];exact e0
  refine wA ?_;refine dw.zip T6 b (λc q L K=>L=[(0,.aj id ep 0 l.length),(1,.fn g []),(5,.int .i64 (a++c.filter λx=>!p x).length),(6,.int .i64 (a.length+1+c.length))]/\(HR K/\H.length<=K.length/\∀j,j<H.length->j≠id->K[j]?=H[j]?)/\∃N,0<N.length/\K[id]?=some ⟨.m,ep,4,ae (a++c.filter λx=>!p x)++ae N++(ae q++tl)⟩/\(a++c.filter λx=>!p x).length+N.length+q.length=l.length) (.nx ⟨rfl,⟨hH.dg hJ,by simp,λj hj _=>aa3 hj⟩,[x],by simp,?_,?_⟩) ?_ ?_;rw[e1,e,cc,ae];simp[ae];simp;omega
  ·rintro c u q _ K Y e2 ⟨rfl,⟨hK,Qo,HT⟩,N,hM,hA,hn⟩;have vF:=hp u (by rw[e,e2];simp);rw[aw]at vF
   have hFs:a++(c++[u]).filter (λx=>!p x)=(a++c.filter λx=>!p x)++if p u then[]else[u]:=by
    rw[acw,abu]
    cases hb:p u <;>simp[hb]
   rw[hFs];obtain⟨F,hF⟩:∃F,F=a++c.filter λx=>!p x:=⟨_,rfl⟩
   rw[<-hF]at hA hn ⊢;have Ur:=ak F;have hNl:=ak N;have dO:=congrArg List.length e2;simp only[aba,abg]at dO hn;have dG:F.length+N.length=a.length+1+c.length:=by omega
   obtain⟨A,zr⟩:∃A,A=ae F++ae N++(ae (u::q)++tl):=⟨_,rfl⟩;rw[<-zr]at hA
   have cC:A[0+(a.length+1+c.length)]?=some (.agg [.int .i64 u.k,.str u.s,.int .i64 u.o,.aa false (ae u.l)]):=by
    rw[zr,abp,abd (by simp;omega)];simp only[aba];rw[show a.length+1+c.length - ((ae F).length+(ae N).length)=0 by omega,ae,aw]
    rfl
   have vT:A.length=l.length+tl.length:=by
    rw[zr];simp only[aba,abg,ak];omega
   have Us:=ag hA;have f0:(K++[(⟨.m,0,4,[.agg [.int .i64 u.k,.str u.s,.int .i64 u.o,.aa false (ae u.l)]]⟩:au)])[id]?=some ⟨.m,ep,4,A⟩:=by rw[aa3 Us];exact hA
   have fb:(K++[(⟨.m,0,4,[.agg [.int .i64 u.k,.str u.s,.int .i64 u.o,.aa false (ae u.l)]]⟩:au)])[K.length]?=some ⟨.m,0,4,[.agg [.int .i64 u.k,.str u.s,.int .i64 u.o,.aa false (ae u.l)]]⟩:=by simp
   have vW:ae (u::q)=.agg [.int .i64 u.k,.str u.s,.int .i64 u.o,.aa false (ae u.l)]::ae q:=by rw[ae,aw]
   have Jr:ae [u]=[.agg [.int .i64 u.k,.str u.s,.int .i64 u.o,.aa false (ae u.l)]]:=by rw[ae,aw];rfl
   refine wA ?_;refine ai.pure hm rfl (by simpa using vF) ?_
   cases hb:p u
   ·obtain⟨y,N2,rfl⟩:∃y N2,N=y::N2:=by
     cases N with
     |nil=>simp at hM
     |cons y M2=>exact⟨y,M2,rfl⟩
    have ey:A[0+F.length]?=some (.agg [.int .i64 y.k,.str y.s,.int .i64 y.o,.aa false (ae y.l)]):=by
     rw[zr,abp,abu,abd (by omega),Ur,acz,ae,aw];rfl
    have jm:A.set (0+F.length) (.agg [.int .i64 u.k,.str u.s,.int .i64 u.o,.aa false (ae u.l)])=ae (F++[u])++ae (N2++[u])++(ae q++tl):=by
     rw[zr,abp,abu,ack _ _ (by omega),Ur,acz,vW,cc,cc,Jr,ae];simp
    simp only[abg]at dG hn;rw[if_neg (by simp)];refine wA ?_;refine .nx ⟨rfl,⟨(hK.dg (HV.one (by simp))).set id (by simp) ?_,by simp;omega,λj h1 h2=>by rw[aa8 (by omega),aa3 (by omega)];exact HT j h1 h2⟩,N2++[u],by simp,?_,by simp at hn ⊢;omega⟩
    ·rw[jm];exact bt _ _ (by rw[ck,ck,ck,ht];simp)
    ·rw[<-jm];exact aa7 (ag f0)
   ·rw[if_pos rfl,abv];refine wA ?_;refine .nx ⟨rfl,⟨hK.dg (HV.one (by simp)),by simp;omega,λj h1 h2=>by rw[aa3 (by omega)];exact HT j h1 h2⟩,N++[u],by simp,?_,by simp at hn ⊢;omega⟩;rw[f0,zr,vW,cc,Jr];simp
  ·rintro _ K Y ⟨rfl,⟨hK,Qo,HT⟩,N,hM,hA,hn⟩;have oS:(l.filter λx=>!p x)=a++b.filter λx=>!p x:=by rw[e,acw,XJ,ads,if_neg (by simp[hx])]
   rw[oS];have Ur:=ak (a++b.filter λx=>!p x);have hNl:=ak N;generalize(a++b.filter λx=>!p x)=F at *;simp only[abH,acA]at hn;obtain⟨A,zr⟩:∃A,A=ae F++ae N++(ae []++tl):=⟨_,rfl⟩;rw[<-zr]at hA
   have vT:A.length=l.length+tl.length:=by
    rw[zr];simp only[aba,ae,abH];omega
   have hg:getM K id ep=some ⟨.m,ep,4,A⟩:=bm hA rfl (by simp)
   have jm:A.take F.length++List.replicate (l.length - F.length) (PV.agg [.int .i64 0,.str ByteArray.empty,.int .i64 0,.aa true []])++A.drop (F.length+(l.length - F.length))=ae F++(List.replicate (l.length - F.length) (PV.agg [.int .i64 0,.str ByteArray.empty,.int .i64 0,.aa true []])++tl):=by
    rw[zr,abq (by simp <;>omega),abq (by omega),abo (by omega),abu]
    congr 2
    rw[show ae F++ae N++(ae []++tl)=(ae F++ae N)++tl by simp[ae],ab1 (by simp <;>omega),List.drop_of_length_le (by simp <;>omega),abK]
   have vC:ao (List.replicate (l.length - F.length) (PV.agg [.int .i64 0,.str ByteArray.empty,.int .i64 0,.aa true []])++tl)=true:=by
    rw[ck,ht,acU,bj,aa4]
    intro y hy
    rw[abU hy];rfl
   refine wA ?_;refine .mk (λrun lv Y=>Td T6 (o:=⟨.m,ep,4,A⟩) rfl rfl rfl rfl hg rfl (by show _<=A.length;omega) (by omega)) ?_;refine wA ?_;refine .mk (λrun Y=>Te T6 (o:=⟨.m,ep,4,A⟩) rfl rfl rfl rfl hg rfl (by show _<=A.length;omega) rfl rfl) ?_;rw[show(⟨.m,ep,4,A.take F.length++List.replicate (l.length - F.length) (PV.agg [.int .i64 0,.str ByteArray.empty,.int .i64 0,.aa true []])++A.drop (F.length+(l.length - F.length))⟩:au)=⟨.m,ep,4,ae F++(List.replicate (l.length - F.length) (PV.agg [.int .i64 0,.str ByteArray.empty,.int .i64 0,.aa true []])++tl)⟩ by rw[jm]];have f1:(K.set id (⟨.m,ep,4,ae F++(List.replicate (l.length - F.length) (PV.agg [.int .i64 0,.str ByteArray.empty,.int .i64 0,.aa true []])++tl)⟩:au))[id]?=some ⟨.m,ep,4,ae F++(List.replicate (l.length - F.length) (PV.agg [.int .i64 0,.str ByteArray.empty,.int .i64 0,.aa true []])++tl)⟩:=aa7 (ag hA);have LW:(ae F++(List.replicate (l.length - F.length) (PV.agg [.int .i64 0,.str ByteArray.empty,.int .i64 0,.aa true []])++tl)).length=l.length+tl.length:=by simp only[aba,acj];omega
   have tH:=bm f1 rfl (by simp);refine wA ?_;refine .mk (λrun lv Y=>Tf T6 (o:=⟨.m,ep,4,ae F++(List.replicate (l.length - F.length) (PV.agg [.int .i64 0,.str ByteArray.empty,.int .i64 0,.aa true []])++tl)⟩) rfl rfl rfl rfl tH rfl (by rw[show(⟨.m,ep,4,ae F++(List.replicate (l.length - F.length) (PV.agg [.int .i64 0,.str ByteArray.empty,.int .i64 0,.aa true []])++tl)⟩:au).es.length=_ from LW];omega) (by omega)) ?_;refine wA ?_;exact⟨⟨hK.set id (by simp) (bt _ _ (by rw[ck,vC];simp)),by simp;omega,λj h1 h2=>by rw[aa8 (by omega)];exact HT j h1 h2⟩,rfl,id,ep,_,rfl,f1,vC⟩
theorem ai.del{f:FuncId}{args:List PV}{H:ab}{id ep:Nat}{F:List Tm}{Q:PV->ab->Prop}{X:ab->Prop}(hid:id<H.length)
  (a:ax C f args H (λr h'=>(HR h'/\H.length<=h'.length/\X h')/\r=.aj id ep 0 F.length/\zC h' r F))
  (q:∀k,HR k->zC k (.aj id ep 0 F.length) F->Q (.aj id ep 0 F.length) k) (hm:C.mode f=.opened:=by rfl):ai C 2 f args H Q:=by
 refine ai.sm a (λr h' p=>⟨p.1.1,p.1.2.1⟩) (λr h' p=>?_) (λr h' p hr=>?_) hm
 ·obtain⟨⟨h1,_⟩,rfl,h3⟩:=p;exact q _ h1 h3
 ·obtain⟨⟨h1,h2,_⟩,rfl,dF,h9,tl,e1,e2,e3⟩:=p
  cases e1
  exact q _ hr ⟨id,ep,tl,rfl,by rw[abE hid];exact e2,e3⟩
theorem zC.Jf{h:ab}{r:PV}{l:List Tm}(o:zC h r l):∃r1,rb h (aT [r])=some r1/\bW r1=.aa false (ae l):=by
 obtain⟨id,ep,tl,rfl,e,ht⟩:=o;exact iq e (by rw[ak]) (by simp) (by simp)
theorem Ra(H:ab)(hH:HR H):ax C 72 [.aa true []] H (λr h'=>r=.aa true []/\h'=H++[⟨.m,0,1,[.aa true []]⟩]):=by
 refine ax.x T6 Tryz.func72 rfl ?_;refine wA ?_;refine dw.zip T6 ([]:List Tm) (λp q L K=>L=[(3,.ptr H.length 0 0 0),(6,.aa true []),(7,.int .i64 0),(8,.int .i64 p.length)]/\K=H++[⟨.m,0,1,[.aa true []]⟩]) (.nx ⟨rfl,rfl⟩) ?_ ?_
 ·rintro p u q _ K Y e _
  cases p <;>cases e
 ·rintro _ _ Y ⟨rfl,rfl⟩;have e1:(H++[(⟨.m,0,1,[.aa true []]⟩:au)])[H.length]?=some ⟨.m,0,1,[.aa true []]⟩:=by simp
  refine wA ?_;refine .ln (u6 _) (λr h' hr=>by rw[hr.2]) (λr h' hr=>?_);obtain⟨rfl,rfl⟩:=hr;refine wA ?_;exact⟨rfl,rfl⟩
theorem Rb(g:FuncId)(H:ab):ax C 142 [.aa true [],.fn g []] H (λr h'=>r=.int .i64 (-1)/\h'=H):=by
 refine ax.x T6 Tryz.func142 rfl ?_;refine wA ?_;refine dw.zip T6 ([]:List Tm) (λp q L K=>L=[(0,.aa true []),(1,.fn g []),(7,.int .i64 0),(8,.int .i64 p.length)]/\K=H) (.nx ⟨rfl,rfl⟩) ?_ ?_
 ·rintro p u q _ K Y e _
  cases p <;>cases e
 ·rintro _ _ Y ⟨rfl,rfl⟩;refine wA ?_;exact⟨rfl,rfl⟩
theorem Rc(g:FuncId)(H:ab):ax C 104 [.aa true [],.fn g []] H (λr h'=>r=.aa true []/\h'=H):=by
 refine ax.x T6 Tryz.func104 rfl ?_;refine wA ?_;refine .ln (Rb g H) (λr h' hr=>by rw[hr.2]) (λr h' hr=>?_);obtain⟨rfl,rfl⟩:=hr;refine wA ?_;exact⟨rfl,rfl⟩
theorem Kc(t:Tm):aL C 105 [enc t] (.bool (decide (t.k≠1))):=by
 rw[aw];refine aL.x T6 Tryz.func105 rfl ?_;refine wC (λhc=>?_) λhc=>?_
 all_goals exact⟨_,rfl,by simp[aT, *]⟩
def eI(l:List cW):List Tm:=l.flatMap λd=>d.kn++[d.tm]
theorem qU(l:List cW)(hl:l.length<1000000)(hb:bF (eI l)<10000000):aL C 53 [.aa false (aQ l)] (.aa false (ae (bQ l))):=by
 have cz:=cj l
 have hR:bQ l=(jQ (eI l)).filter λx=>!(decide (x.k≠1)):=by
  unfold bQ eI
  congr 1
  funext x
  simp
 rw[hR];have cL:=bH (eI l);refine aL.x T6 Tryz.func53 rfl ?_;refine wA ?_;refine dw.zip T6 l (λp q L H=>∃v,L=[(3,v),(6,.aa false (aQ l)),(7,.int .i64 (aQ l).length),(8,.int .i64 p.length)]/\HV H/\Out 4 H v (ae (eI p))/\(p=[]->v=.aa true [])) (.nx ⟨_,rfl,HV.nil,.inl ⟨rfl,rfl⟩,λ_=>rfl⟩) ?_ ?_
 ·rintro p d q _ H Y e ⟨v,rfl,hH,ho,_⟩;have cC:=ir e;have dO:=lenE e;have tK:eI (p++[d])=eI p++(d.kn++[d.tm]):=by simp[eI]
  have YP:(eI p).length+(d.kn++[d.tm]).length<=(eI l).length:=by rw[e];simp[eI]
  have hle:=ak (eI p);have hlu:=ak (d.kn++[d.tm]);have Ij:=AL d (by simp at YP;omega);rw[jz]at Ij;have mj:=hH.c8 (HV.one (ep:=0) (n:=5) (es:=[PV.agg [.aa false (ae d.kn),.int .i64 d.tm.k,.str d.tm.s,.int .i64 d.tm.o,.aa false (ae d.tm.l)]]) (by simp));have HP:=ho.c8 [⟨.m,0,5,[PV.agg [.aa false (ae d.kn),.int .i64 d.tm.k,.str d.tm.s,.int .i64 d.tm.o,.aa false (ae d.tm.l)]]⟩];refine wA ?_;refine .p Ij ?_;refine wH λv H lp=>?_;refine .nx ⟨_,rfl,lp.hv,?_,by simp⟩;have:=lp.out;rw[tK,cc];exact this
 ·rintro _ H Y ⟨v,rfl,hH,ho,C2⟩;rcases ho with⟨rfl,e0⟩|⟨id,ep,rfl,e1⟩
  ·have e4:eI l=[]:=abj (by rw[<-ak,e0];rfl);rw[e4];refine wA ?_;refine ai.ex ((Ra H hH.hr).mono λr h' hr=>⟨hr.1,_,HV.one rfl,hr.2⟩) (λh' hE=>?_);refine wA ?_;refine .ln (Rc _ h') (λr h' hr=>by rw[hr.2]) (λr h' hr=>?_);obtain⟨rfl,rfl⟩:=hr;refine wA ?_;exact⟨_,rfl,rfl⟩
  by_cases h0:eI l=[]
  ·have:l=[]:=by
    cases l with
    |nil=>rfl
    |cons d l=>simp[eI]at h0
   cases C2 this
  ·have AJ:=sZ (eI l) h0 H hH.hr id ep e1 hb;rw[ak]at *;refine wA ?_;refine .fr AJ (λr h' hr hb=>?_) (λr h' r1 r2 r3 r4=>?_)
   ·obtain⟨_,id,ep,n,rfl,hid⟩:=hr;simp[eL,cS,eK]at hb;omega
   obtain⟨⟨id2,ep2,tl,rfl,e2,e3⟩,id3,ep3,n,e4,hid⟩:=r4;have hd:=Q9 (jQ (eI l)) tl e3 105 (λx=>decide (x.k≠1)) id2 ep2 h' r1 e2 (by have:=sY (eI l);omega) (λx _=>Kc x) rfl;refine wA ?_;refine ai.del (ag e2) hd (λk hk ho=>?_);refine wA ?_;exact ho.Jf
theorem Bh{S:List dp}:∀{l:List Tm},mG S l=0->∀t∈l,(cu S t).2=0
 |[],_,t,h=>by cases h
 |u::l,e,t,h=>by
  rw[mG]at e
  split at e
  ·rename_i hn;exact absurd e hn
  ·rcases abc.1 h with rfl |h
   ·omega
   ·exact Bh e t h
theorem Kn{S:List dp}{d:cW}(h:ru S d=0):mG S d.kn=0/\(cu S d.tm).2=0/\∀t∈(Uz S d).kn++[(Uz S d).tm],az t<=10000:=by
 unfold ru at h
 split at h
 ·rename_i h1;exact absurd h h1
 ·rename_i h1
  have h2:mG S d.kn=0:=by omega
  refine⟨h2,h,λt ht=>?_⟩;simp only[Uz,aa9,abC,eC,abB]at ht;rcases ht with⟨u,hu,rfl⟩|rfl;exact fE (te (Bh h2 u hu)).2.2;exact fE (te h).2.2
end bh
def x7(p:dp->Bool):List dp->Nat->Int
 |[],_=>-1
 |b::l,n=>if p b then n else x7 p l (n+1)
theorem Iu{p:dp->Bool}{b:dp}{q:List dp}(hb:p b=true):∀{a:List dp} {n:Nat},(∀y∈a,p y=false)->x7 p (a++b::q) n=((n+a.length:Nat):Int)
 |[],n,_=>by rw[abK,x7,if_pos hb];rfl
 |c::a,n,h=>by
  rw[abz,x7,if_neg (by rw[h c (by simp)];simp),Iu hb λy hy=>h y (by simp[hy])];simp only[abg]
  congr 1
  omega
theorem AM{p:dp->Bool}:∀{a:List dp} {n:Nat},(∀y∈a,p y=false)->x7 p a n=-1
 |[],n,_=>rfl
 |c::a,n,h=>by rw[x7,if_neg (by rw[h c (by simp)];simp),AM λy hy=>h y (by simp[hy])]
theorem D3(p:dp->Bool):∀(l:List dp) (n:Nat),decide (x7 p l n>=0)=l.any p
 |[],n=>by simp[x7]
 |b::l,n=>by
  rw[x7,acL]
  cases hb:p b with
  |true=>rw[if_pos rfl,decide_eq_true (by omega)];rfl
  |false=>rw[if_neg (by simp),D3 p l (n+1)];rfl
theorem Iv{α:Type}{l p q:List α}{x:α}{f:α->Bool}(e:l=p++x::q)(h:f x=true):l.any f=true:=by rw[e];simp[h]
namespace bh
open Go.Proofs
attribute [local irreducible] aD ay aJ aG Ev ah ai ax aZ bE
theorem VK(b:dp)(x:Tm)(hb:az b.v<1000000000)(hx:az x<1000000000)(id:Nat)(H:ab)(hH:HV H)(h0:H[id]?=some ⟨.m,0,4,[enc x]⟩):ax C 51 [rr b,.ptr id 0 0 0] H (λr h'=>r=.bool (decide (aW b.v x=0))/\fW H h'):=by
 have h1:=(eF b.v x hb hx).nine;have cL:=ag h0;rw[aw b.v,aw x]at h1;rw[aw x]at h0;rw[rr];refine ax.x T6 Tryz.func51 rfl ?_;refine wA ?_;refine .p h1 ?_;refine wC (λhc=>?_) λhc=>?_
 all_goals exact⟨by simp[aT, *],(fW.refl _).c8 (HV.one (by simp))⟩
theorem Ro(S:List dp)(x:Tm)(hS:S.length<1000000000)(hb:∀b∈S,az b.v<1000000000)(hx:az x<1000000000)(id:Nat)(H:ab)(hH:HV H)(h0:H[id]?=some ⟨.m,0,4,[enc x]⟩):ax C 100 [.aa false (bO S),.fn 51 [.ptr id 0 0 0]] H (λr h'=>r=.int .i64 (x7 (λb=>decide (aW b.v x=0)) S 0)/\fW H h'):=by
 have cz:=jO S;refine ax.x T6 Tryz.func100 rfl ?_;refine wA ?_;refine dw.zip T6 S (λa q L K=>L=[(0,.aa false (bO S)),(1,.fn 51 [.ptr id 0 0 0]),(7,.int .i64 (bO S).length),(8,.int .i64 a.length)]/\fW H K/\∀y∈a,decide (aW y.v x=0)=false) (.nx ⟨rfl,fW.refl _,by simp⟩) ?_ ?_
 ·rintro a b q _ K Y e ⟨rfl,hE,ha⟩;have cC:=nf e;have dO:=lenE e;have vF:=VK b x (hb b (by rw[e];simp)) hx id K (hE.hv hH) (hE.at h0);rw[rr]at vF;refine wA ?_;refine .ex vF (λh' PG=>?_)
  cases BU:decide (aW b.v x=0)
  ·refine wA ?_;exact .nx ⟨rfl,hE.trans PG,λy hy=>by rcases aa9.1 hy with h |h;exact ha y h;simp at h;rw[h];exact BU⟩
  ·refine wA ?_;exact⟨by rw[e,Iu (p:=λb:dp=>decide (aW b.v x=0)) BU ha];simp[aT],hE.trans PG⟩
 ·rintro _ K Y ⟨rfl,hE,ha⟩;refine wA ?_;exact⟨by rw[AM (p:=λb:dp=>decide (aW b.v x=0)) ha];rfl,hE⟩
theorem Rp(S:List dp)(x:Tm)(hS:S.length<1000000000)(hb:∀b∈S,az b.v<1000000000)(hx:az x<1000000000)(id:Nat)(H:ab)(hH:HV H)(h0:H[id]?=some ⟨.m,0,4,[enc x]⟩):ax C 50 [.aa false (bO S),.fn 51 [.ptr id 0 0 0]] H (λr h'=>r=.bool (QB S x)/\fW H h'):=by
 have hi:=Ro S x hS hb hx id H hH h0;have ha:decide (x7 (λb=>decide (aW b.v x=0)) S 0>=0)=QB S x:=D3 _ S 0;refine ax.x T6 Tryz.func50 rfl ?_;refine wA ?_;refine .ex hi (λh' hE=>?_);refine wC (λhc=>?_) λhc=>?_
 all_goals exact⟨by rw[<-ha];simp[aT, *],hE⟩
theorem N7(S:List dp)(x:Tm)(hS:S.length<1000000000)(hb:∀b∈S,az b.v<1000000000)(hx:az x<1000000000)(id:Nat)(H:ab)(hH:HV H)(h0:H[id]?=some ⟨.m,0,1,[.aa false (bO S)]⟩):ax C 49 [enc x,.ptr id 0 0 0] H (λr h'=>r=.bool (QB S x)/\fW H h'):=by
 have cL:=ag h0;have hc:=Rp S x hS hb hx H.length (H++[⟨.m,0,4,[enc x]⟩]) (hH.c8 (HV.one (by simp))) (by simp);rw[aw]at hc ⊢;refine ax.x T6 Tryz.func49 rfl ?_;refine wA ?_;refine .ex hc (λh' hE=>?_);refine wA ?_;exact⟨rfl,fW.trans ((fW.refl _).c8 (HV.one (by simp))) hE⟩
end bh
theorem D6{S:List dp}{n:Bool×Int}{d:cW}{q:List cW}(h1:jq S (d::q)=n):∀{p:List cW},(∀u∈p,ru S u=0/\jR (b9 S u.kn) (cx S u.tm)=0/\sF (b9 S u.kn) (cx S u.tm)=true)->jq S (p++d::q)=n
 |[],_=>h1
 |u::p,h=>by
  obtain⟨a,b,c⟩:=h u (by simp);rw[abz,jq,if_neg (by omega),if_neg (by omega),if_neg (by rw[c];simp)];exact D6 h1 λx hx=>h x (by simp[hx])
theorem AN{S:List dp}:∀{p:List cW},(∀u∈p,ru S u=0/\jR (b9 S u.kn) (cx S u.tm)=0/\sF (b9 S u.kn) (cx S u.tm)=true)->jq S p=(true,0)
 |[],_=>rfl
 |u::p,h=>by
  obtain⟨a,b,c⟩:=h u (by simp);rw[jq,if_neg (by omega),if_neg (by omega),if_neg (by rw[c];simp)];exact AN λx hx=>h x (by simp[hx])
namespace bh
open Go.Proofs
attribute [local irreducible] aD ay aJ aG Ev ah ai ax aZ bE
theorem JL(l:List cW)(S:List dp)(hl:l.length<1000000)(hb:bF (eI l)<10000000)(hls:S.length<1000000)(C1:∀b∈S,az b.v<10000000/\az b.t<10000000)(E7:∀b∈S,kV b.t=true):
  aL C 14 [.aa false (aQ l),.aa false (bO S)] (.cy [.bool (ot l S).1,.int .i64 (ot l S).2]):=by
 have cz:=cj l;have gK:=jO S;have fy:∀d∈l,∀t∈d.kn++[d.tm],t∈eI l:=λd hd t ht=>abY.2 ⟨d,hd,ht⟩
 have TF:∀t∈eI l,az t<10000000:=λt ht=>by have:=bU ht;omega
 have FU:∀d∈l,d.kn.length<10000000:=λd hd=>by
  obtain⟨p,q,e⟩:=adH hd;have h1:=bH (eI l);have h2:d.kn.length<=(eI l).length:=by rw[e];simp[eI];omega
  omega
 have h1:=xv l (by omega) (λd hd=>⟨FU d hd,λt ht=>TF t (fy d hd t ht)⟩);have h2:=ya S (by omega) (λb hb=>by have:=C1 b hb;omega);have h3:=qU l hl hb;have hvb:∀x∈bQ l,az x<10000000:=λx hx=>AK TF x (abV.1 hx).1
 have MZ:(bQ l).length<10000000:=by have:=sY (eI l);have:=acm (λt=>decide (t.k=1)) (jQ (eI l));unfold bQ;unfold eI at *;omega
 have qn:=ak (bQ l);refine aL.x T6 Tryz.func14 rfl ?_;refine wA ?_;refine .p h1 ?_;refine wC (λhc=>?_) λhc=>?_
 ·have Hx:iv l=0:=by omega
  obtain⟨zm,hlz⟩:=Af Hx;refine .p h2 ?_;refine wC (λhc=>?_) λhc=>?_
  ·have hS:lY S=0:=by omega
   refine .p h3 ?_;refine wA ?_;refine dw.zip T6 (bQ l) (λp q L H=>L=[(0,.aa false (aQ l)),(3,.ptr 0 0 0 0),(8,.fn 49 [.ptr 0 0 0 0]),(34,.aa false (ae (bQ l))),(35,.int .i64 (ae (bQ l)).length),(36,.int .i64 p.length)]/\HV H/\H[0]?=some ⟨.m,0,1,[.aa false (bO S)]⟩/\∀x∈p,QB S x=true) (.nx ⟨rfl,HV.one (by simp),rfl,by simp⟩) ?_ ?_
   ·rintro p x q _ H Y e ⟨rfl,hH,h0,hp⟩;have cC:=bD e;have dO:=lenE e;have hx:=N7 S x (by omega) (λb hb=>by have:=C1 b hb;omega) (by have:=hvb x (by rw[e];simp);omega) 0 (H++[⟨.m,0,4,[enc x]⟩]) (hH.c8 (HV.one (by simp))) (by rw[aa3 (ag h0)];exact h0);rw[aw]at hx;refine wA ?_;refine .ex hx (λh' hE=>?_)
    cases BU:QB S x
    ·have hM:ot l S=(false,13):=by
      have:(bQ l).all (QB S)=false:=by rw[e];simp[BU]
      have hs:sH l S=13:=by rw[sH,if_neg (by omega),if_pos this]
      rw[ot,if_neg (by omega),if_pos (by omega),hs]
     refine wA ?_;exact⟨_,rfl,by rw[hM];rfl⟩
    ·obtain⟨J,hJ,rfl⟩:=hE;refine wA ?_;refine .nx ⟨rfl,(hH.c8 (HV.one (by simp))).c8 hJ,by rw[abu,aa3 (ag h0)];exact h0,λy hy=>?_⟩;rcases aa9.1 hy with h |h;exact hp y h;simp at h;rw[h];exact BU
   ·rintro _ H Y ⟨rfl,hH,h0,hp⟩;have HE:(bQ l).all (QB S)=true:=aa4.2 hp;refine wA ?_;refine dw.zip T6 S (λp q L H=>L=[(0,.aa false (aQ l)),(3,.ptr 0 0 0 0),(45,.aa false (bO S)),(46,.int .i64 (bO S).length),(47,.int .i64 p.length)]/\HV H/\H[0]?=some ⟨.m,0,1,[.aa false (bO S)]⟩/\∀b∈p,bz b.t=[]) (.nx ⟨rfl,hH,h0,by simp⟩) ?_ ?_
    ·rintro p b q _ H Y e ⟨rfl,hH,h0,hp⟩;have cC:=nf e;have dO:=lenE e;have hv:=lL b.t (C1 b (by rw[e];simp)).2;have hvn:=ak (bz b.t);rw[aw]at hv;refine wA ?_;refine .p hv ?_;refine wC (λhc=>?_) λhc=>?_
     ·have hM:ot l S=(false,13):=by
       have h5:bz b.t≠[]:=λhh=>by
        have h0:(ae (bz b.t)).length=0:=by rw[hh];rfl
        omega
       have h6:S.any (λb=>decide (bz b.t≠[]))=true:=Iv e (decide_eq_true h5);have hs:sH l S=13:=by rw[sH,if_neg (by omega),if_neg (by rw[HE];simp),if_pos h6]
       rw[ot,if_neg (by omega),if_pos (by omega),hs]
      exact⟨_,rfl,by rw[hM];rfl⟩
     ·have h5:bz b.t=[]:=abj (by omega);refine .nx ⟨rfl,hH.c8 (HV.one (by simp)),by rw[aa3 (ag h0)];exact h0,λy hy=>?_⟩;rcases aa9.1 hy with h |h;exact hp y h;simp at h;rw[h];exact h5
    ·rintro _ H Y ⟨rfl,hH,h0,hp⟩
     have Xr:¬S.any (λb=>decide (bz b.t≠[]))=true:=by
      rw[ab3];rintro⟨b,hb,h⟩;exact of_decide_eq_true h (hp b hb)
     refine wA ?_;refine dw.zip T6 S (λp q L H=>L=[(0,.aa false (aQ l)),(3,.ptr 0 0 0 0),(57,.aa false (bO S)),(58,.int .i64 (bO S).length),(59,.int .i64 p.length)]/\HV H/\H[0]?=some ⟨.m,0,1,[.aa false (bO S)]⟩/\∀b∈p,jc b.t=0) (.nx ⟨rfl,hH,h0,by simp⟩) ?_ ?_
     ·rintro p b q _ H Y e ⟨rfl,hH,h0,hp⟩;have cC:=nf e;have dO:=lenE e;have hbS:b∈S:=by rw[e];simp
      have hv:=AF b.t (E7 b hbS) (by have:=(C1 b hbS).2;omega);rw[aw]at hv;refine wA ?_;refine .p hv ?_
      by_cases ht:jc b.t=0
      ·rw[decide_eq_true ht];refine wA ?_;refine .nx ⟨rfl,hH.c8 (HV.one (by simp)),by rw[aa3 (ag h0)];exact h0,λy hy=>?_⟩;rcases aa9.1 hy with h |h;exact hp y h;simp at h;rw[h];exact ht
      ·rw[decide_eq_false ht]
       have hM:ot l S=(false,10):=by
        have h6:S.any (λb=>decide (jc b.t≠0))=true:=Iv e (decide_eq_true ht);have hs:sH l S=10:=by rw[sH,if_neg (by omega),if_neg (by rw[HE];simp),if_neg Xr,if_pos h6]
        rw[ot,if_neg (by omega),if_pos (by omega),hs]
       refine wA ?_;exact⟨_,rfl,by rw[hM];rfl⟩
     ·rintro _ H Y ⟨rfl,hH,h0,hp⟩
      have hs3:¬S.any (λb=>decide (jc b.t≠0))=true:=by
       rw[ab3];rintro⟨b,hb,h⟩;exact of_decide_eq_true h (hp b hb)
      have aaV:sH l S=0:=by rw[sH,if_neg (by omega),if_neg (by rw[HE];simp),if_neg Xr,if_neg hs3]
      have hMM:ot l S=jq S l:=by rw[ot,if_neg (by omega),if_neg (by omega)]
      rw[hMM];refine wA ?_;refine dw.zip T6 l (λp q L H=>L=[(3,.ptr 0 0 0 0),(68,.aa false (aQ l)),(69,.int .i64 (aQ l).length),(70,.int .i64 p.length)]/\HV H/\H[0]?=some ⟨.m,0,1,[.aa false (bO S)]⟩/\∀u∈p,ru S u=0/\jR (b9 S u.kn) (cx S u.tm)=0/\sF (b9 S u.kn) (cx S u.tm)=true) (.nx ⟨rfl,hH,h0,by simp⟩) ?_ ?_
      ·rintro p u q _ H Y e ⟨rfl,hH,h0,hp⟩;have cC:=ir e;have dO:=lenE e;obtain⟨VT,Od⟩:=hlz u (by rw[e];simp);have vT:=Oe S hS u.kn (by omega) (λt ht=>by have:=dP (Od t (by simp[ht]));omega);have lW:=GH S hS u.tm (by have:=dP (Od u.tm (by simp));omega);have hdm:ru S u=if mG S u.kn≠0 then mG S u.kn else(cu S u.tm).2:=rfl;have hG:∀n,jq S (u::q)=n->jq S l=n:=λn h=>by rw[e];exact D6 h hp
       have Rz:ru S u≠0->jq S l=(false,ru S u):=λh=>hG _ (by rw[jq,if_pos h])
       rw[aw u.tm]at lW;obtain⟨w,hw⟩:∃w,w=(cu S u.tm).1:=⟨_,rfl⟩;have hw2:(cu S u.tm).2=0->w=cx S u.tm:=λh=>by rw[hw,(te h).1]
       rw[<-hw]at lW;rw[aw w]at lW;refine wA ?_;refine .p vT ?_;refine wC (λhc=>?_) λhc=>?_
       ·have TG:mG S u.kn=0:=by omega
        rw[if_neg (by omega)]
        skip
        refine .p lW ?_;refine wC (λhc=>?_) λhc=>?_
        ·have hd0:ru S u=0:=by rw[hdm,if_neg (by omega)];omega
         have hww:=hw2 (by omega);obtain⟨_,_,hdb⟩:=Kn hd0;have hkn:(b9 S u.kn++[w]).length<=41:=by rw[aba,lf];simp;omega
         have BU:bF (b9 S u.kn++[w])<10000000:=by
          have:=xI (B:=10000) (l:=b9 S u.kn++[w]) (by rw[hww];exact hdb);have:=abN 10000 hkn;omega
         have hfw:∀t∈b9 S u.kn++[w],kV t=true:=λt ht=>by
          rcases aa9.1 ht with h |h
          ·rw[eC]at h;obtain⟨y,hy,rfl⟩:=abB.1 h;exact It E7 y (AH (Od y (by simp[hy])))
          ·simp at h;rw[h,hww];exact It E7 u.tm (AH (Od u.tm (by simp)))
         have E1:=zB (b9 S u.kn) w hfw BU;rw[aw w]at E1;have aak:jR (b9 S u.kn) w≠0->jq S l=(false,jR (b9 S u.kn) w):=λh=>hG _ (by rw[jq,if_neg (by omega),<-hww,if_pos h])
         have aal:jR (b9 S u.kn) w=0->sF (b9 S u.kn) w=false->jq S l=(false,0):=λh h'=>hG _ (by rw[jq,if_neg (by omega),<-hww,if_neg (by omega),if_pos h'])
         refine .p E1 ?_
         cases hdk:sF (b9 S u.kn) w
         ·refine wA ?_
          by_cases hu:jR (b9 S u.kn) w=0
          exact⟨_,rfl,by rw[aal hu hdk,hu];rfl⟩;exact⟨_,rfl,by rw[aak hu];rfl⟩
         ·have hu0:jR (b9 S u.kn) w=0:=by
           unfold sF at hdk;simp at hdk;exact hdk.1
          rw[hu0];refine wA ?_;refine .nx ⟨rfl,?_,?_,λy hy=>?_⟩;exact(hH.c8 (HV.one (by simp))).c8 (HV.one (by simp));rw[abu,aa3 (ag h0)];exact h0
          ·rcases aa9.1 hy with h |h
           ·exact hp y h
           ·simp at h;rw[h,<-hww];exact⟨hd0,hu0,hdk⟩
        ·have hde:ru S u=(cu S u.tm).2:=by rw[hdm,if_neg (by omega)]
         exact⟨_,rfl,by rw[Rz (by omega),hde];rfl⟩
       ·have hde:ru S u=mG S u.kn:=by rw[hdm,if_pos (by omega)]
        exact⟨_,rfl,by rw[Rz (by omega),hde];rfl⟩
      ·rintro _ H Y ⟨rfl,hH,h0,hp⟩;refine wA ?_;exact⟨_,rfl,by rw[AN hp];rfl⟩
  ·have hM:ot l S=(false,lY S):=by
    have hs:sH l S=lY S:=by rw[sH,if_pos (by omega)]
    rw[ot,if_neg (by omega),if_pos (by omega),hs]
   exact⟨_,rfl,by rw[hM];rfl⟩
 ·have hM:ot l S=(false,iv l):=by rw[ot,if_pos (by omega)]
  exact⟨_,rfl,by rw[hM];rfl⟩
theorem Lc(p a:List Tm)(u:Tm):qL (p++[u]) a=fo u (qL p a):=by simp[qL]
theorem EP(l:List Tm)(hl:l.length<1000000)(hb:∀t∈l,az t<100000000):aL C 70 [.aa false (ae l)] (.aa false (ae (jd l))):=by
 have cz:=ak l;refine aL.x T6 Tryz.func70 rfl ?_;refine wA ?_;refine dw.zip T6 l (λp q L H=>∃f,L=[(0,.aa false (ae l)),(3,.aa f (ae (qL p []))),(4,.int .i64 p.length)]/\H=[]) (.nx ⟨true,rfl,rfl⟩) ?_ ?_
 ·rintro p u q _ _ Y e ⟨f,rfl,rfl⟩;have cC:=bD e;have dO:=lenE e;have h1:=wV p [];simp only[abH]at h1
  have had:=(LV u (qL p []) (by have:=hb u (by rw[e];simp);omega) (λx hx=>by
   rcases C6 hx with h |h;have:=hb x (by rw[e];simp[h]);omega
   cases h) (by omega)).nine
  rw[aw]at had;refine wA ?_;refine .p had ?_;refine wA ?_;exact .nx ⟨_,by rw[Lc],rfl⟩
 ·rintro _ _ Y ⟨f,rfl,rfl⟩;refine wA ?_;exact⟨_,rfl,by simp[aT,bW,jd]⟩
theorem Ld(t:Tm)(n:Int)(hb:az t<1000000):aL C 124 [enc t,.int .i64 n] (.aa false (ae (qT n t))):=by
 have h1:=EJ t (by omega);have oH:=vX t;have cz:=ak (pre t);have hse:=EP (vL n (pre t)) (by have:=we n (pre t);omega) (λu hu=>by have:=pG t u (abV.1 hu).1;omega);rw[aw]at h1 ⊢;refine aL.x T6 Tryz.func124 rfl ?_;refine wA ?_;refine .p h1 ?_;refine wA ?_;refine dw.zip T6 (pre t) (λp q L H=>∃v,L=[(1,.int .i64 n),(5,v),(6,.aa false (ae (pre t))),(7,.int .i64 p.length)]/\HV H/\Out 4 H v (ae (vL n p))) (.nx ⟨_,rfl,HV.one (by simp),.inl ⟨rfl,rfl⟩⟩) ?_ ?_
 ·rintro p u q _ H Y e ⟨v,rfl,hH,ho⟩;have cC:=bD e;have dO:=lenE e;have hol:=we n p;have hle:=ak (vL n p);have e9:ae (vL n p)++[.agg [.int .i64 u.k,.str u.s,.int .i64 u.o,.aa false (ae u.l)]]=ae (vL n p++[u]):=by rw[cc,<-aw];rfl
  have tK:=IR n p [u];rw[EQ]at tK;refine wK (λhc v H lp=>?_) λhc=>?_
  ·rw[if_pos (by assumption)]at tK;refine .nx ⟨_,rfl,lp.hv,?_⟩;have:=lp.out;rw[e9]at this;rw[tK];exact this
  ·rw[if_neg (by assumption)]at tK;refine .nx ⟨_,rfl,hH,?_⟩;rw[tK];simpa[vL]using ho
 ·rintro _ H Y ⟨v,rfl,hH,ho⟩;refine wA ?_;refine .pl (.inl ho) hse (λh' fz=>?_);refine wA ?_;exact⟨_,rfl,by simp[aT,bW,qT,vL]⟩
theorem qA(t:Tm)(hb:az t<1000000):aL C 67 [enc t] (.aa false (ae (bz t))):=by
 have h1:=Ld t 1 hb;rw[aw]at h1 ⊢;refine aL.x T6 Tryz.func67 rfl ?_;refine wA ?_;refine .p h1 ?_;refine wA ?_;exact⟨_,rfl,by simp[aT,bz]⟩
theorem yQ(l:List Tm)(t:Tm)(ht:az t<1000000000)(hl:l.length<1000000000)(hb:∀u∈l,az u<1000000000):aL C 91 [.aa false (ae l),enc t] (.bool (cm l t)):=by
 have cz:=ak l;rw[aw];refine aL.x T6 Tryz.func91 rfl ?_;refine wA ?_;refine dw.zip T6 l (λp q L H=>L=[(0,.aa false (ae l)),(3,.ptr 0 0 0 0),(5,.int .i64 p.length)]/\H=[⟨.m,0,4,[.agg [.int .i64 t.k,.str t.s,.int .i64 t.o,.aa false (ae t.l)]]⟩]/\∀u∈p,aW u t≠0) (.nx ⟨rfl,rfl,by simp⟩) ?_ ?_
 ·rintro p u q _ _ Y e ⟨rfl,rfl,hp⟩;have cC:=bD e;have dO:=lenE e;have WT:=(ur u t (hb u (by rw[e];simp)) ht).nine;rw[aw,aw t]at WT;refine wA ?_;refine .p WT ?_
  by_cases hc:aW u t=0
  ·rw[decide_eq_true hc];refine wA ?_;have hh:cm l t=true:=dq.2 (by rw[<-dm hc,e];simp);exact⟨_,rfl,by rw[hh];rfl⟩
  ·rw[decide_eq_false hc];refine wA ?_;exact .nx ⟨rfl,rfl,λw hw=>by rcases aa9.1 hw with h |h;exact hp w h;simp at h;rw[h];exact hc⟩
 ·rintro _ _ Y ⟨rfl,rfl,hp⟩;refine wA ?_
  have hh:cm l t=false:=by
   cases hx:cm l t with
   |false=>rfl
   |true=>exact absurd (cH t) (hp t (dq.1 hx))
  exact⟨_,rfl,by rw[hh];rfl⟩
theorem uT(l:List Tm)(hl:(l.flatMap bz).length<1000000)(o8:l.length<1000000)(hb:∀t∈l,az t<1000000):aL C 21 [.aa false (ae l)] (.aa false (ae (jd (l.flatMap bz)))):=by
 have cz:=ak l
 have hse:=EP (l.flatMap bz) hl (λu hu=>by
  obtain⟨t,ht,hu⟩:=abY.1 hu;have:=jP hu;have:=hb t ht;omega)
 refine aL.x T6 Tryz.func21 rfl ?_;refine wA ?_;refine dw.zip T6 l (λp q L H=>∃v,L=[(0,.aa false (ae l)),(3,v),(4,.int .i64 p.length)]/\HV H/\Out 4 H v (ae (p.flatMap bz))) (.nx ⟨_,rfl,HV.nil,.inl ⟨rfl,rfl⟩⟩) ?_ ?_
 ·rintro p u q _ H Y e ⟨v,rfl,hH,ho⟩;have cC:=bD e;have dO:=lenE e;have Ij:=qA u (hb u (by rw[e];simp));have tK:(p++[u]).flatMap bz=p.flatMap bz++bz u:=by simp
  have YP:(p.flatMap bz).length+(bz u).length<=(l.flatMap bz).length:=by rw[e];simp
  have hle:=ak (p.flatMap bz);have hlu:=ak (bz u);rw[aw]at Ij;refine wA ?_;refine .p Ij ?_;refine wH λv H lp=>?_;refine .nx ⟨_,rfl,lp.hv,?_⟩;have:=lp.out;rw[tK,cc];exact this
 ·rintro _ H Y ⟨v,rfl,hH,ho⟩;refine wA ?_;refine .pl (.inl ho) hse (λh' fz=>?_);refine wA ?_;exact⟨_,rfl,by simp[aT,bW]⟩
theorem yR(t:Tm)(hb:az t<10000000):aL C 144 [enc t] (.int .i64 (cq t)):=by
 have h1:=EH t (by omega);have h2:=Hb t (by omega)
 have Ij:jc t=0->valid t=0:=λh=>by
  unfold jc at h
  split at h
  ·rename_i hn;exact absurd h hn
  omega
 have h3:jc t=0->aL C 67 [enc t] (.aa false (ae (bz t))):=λh=>qA t (by have:=fE (Ij h);omega)
 have h4:=(sq t (by omega)).nine;have MZ:=fj t;have cz:=ak (bz t);rw[aw]at h1 h2 h3 h4 ⊢;refine aL.x T6 Tryz.func144 rfl ?_;refine wA ?_;refine .p h1 ?_;refine wC (λhc=>?_) λhc=>?_
 ·have hth:jc t=0:=by omega
  have h3:=h3 hth;have O9:cq t=if km t=false\/(bz t).any CG=true then 10 else if 60<size t then 3 else 0:=by rw[cq,if_neg (by omega)]
  refine .p h3 ?_;refine wA ?_;refine dw.zip T6 (bz t) (λp q L H=>L=[(1,.ptr 0 0 0 0),(4,.aa false (ae (bz t))),(5,.int .i64 p.length)]/\H=[⟨.m,0,4,[.agg [.int .i64 t.k,.str t.s,.int .i64 t.o,.aa false (ae t.l)]]⟩]/\∀u∈p,CG u=false) (.nx ⟨rfl,rfl,by simp⟩) ?_ ?_
  ·rintro p u q _ _ Y e ⟨rfl,rfl,hp⟩;have cC:=bD e;have dO:=lenE e;have hx:CG u=true->cq t=10:=λh=>by rw[O9,if_pos (.inr (ab3.2 ⟨u,by rw[e];simp,h⟩))]
   have hn:CG u=false->∀w∈p++[u],CG w=false:=λh w hw=>by rcases aa9.1 hw with h1 |h1;exact hp w h1;simp at h1;rw[h1];exact h
   refine wI (λhc=>?_) (λhc hc=>?_) λhc hc=>?_;exact⟨_,rfl,by rw[hx (by simp[CG, *])];rfl⟩;exact⟨_,rfl,by rw[hx (by simp[CG, *])];rfl⟩;exact .nx ⟨rfl,rfl,hn (by simp[CG, *])⟩
  ·rintro _ _ Y ⟨rfl,rfl,hp⟩;have ha:(bz t).any CG=false:=by rw[ab9];intro u hu;simp[hp u hu]
   refine wA ?_;refine .p h2 ?_
   cases hf:km t
   ·refine wA ?_;exact⟨_,rfl,by rw[O9,if_pos (.inl hf)];rfl⟩
   ·rw[hf,ha,if_neg (by simp)]at O9;refine wA ?_;refine .p h4 ?_;refine wC (λhc=>?_) λhc=>?_;exact⟨_,rfl,by rw[O9,if_pos (by omega)];rfl⟩;exact⟨_,rfl,by rw[O9,if_neg (by omega)];rfl⟩
 exact⟨_,rfl,by rw[cq,if_pos (by assumption)];rfl⟩
theorem ES{l:List Tm}{t:Tm}(h:∀u∈l,cq u=0):fT (l++[t])=cq t:=by
 induction l with
 |nil=>
  show(if cq t≠0 then cq t else 0)=cq t
  split
  rfl
  omega
 |cons v l ih=>
  show(if cq v≠0 then cq v else fT (l++[t]))=_;rw[if_neg (by rw[h v (by simp)];simp)];exact ih λu hu=>h u (by simp[hu])
def bC(d:cW):Int:=if 40<d.kn.length then 3 else fT (d.kn++[d.tm])
theorem Pe(d:cW)(hl:d.kn.length<1000000000)(hb:∀t∈d.kn++[d.tm],az t<10000000):aL C 90 [jz d] (.int .i64 (bh.bC d)):=by
 have cz:=ak d.kn;have TR:=yR d.tm (hb d.tm (by simp));rw[aw]at TR;rw[oh];refine aL.x T6 Tryz.func90 rfl ?_;refine wC (λhc=>?_) λhc=>?_;exact⟨_,rfl,by rw[bh.bC,if_pos (by omega)];rfl⟩;have ho:bh.bC d=fT (d.kn++[d.tm]):=by rw[bh.bC,if_neg (by omega)]
 refine dw.zip T6 d.kn (λp q L H=>L=[(1,.ptr 0 0 0 0),(3,.int .i64 p.length)]/\H=[⟨.m,0,5,[.agg [.aa false (ae d.kn),.int .i64 d.tm.k,.str d.tm.s,.int .i64 d.tm.o,.aa false (ae d.tm.l)]]⟩]/\∀u∈p,cq u=0) (.nx ⟨rfl,rfl,by simp⟩) ?_ ?_
 ·rintro p u q _ _ Y e ⟨rfl,rfl,hp⟩;have cC:=bD e;have dO:=lenE e;have W7:=yR u (hb u (by rw[e];simp));have hx:=Bb (l:=d.kn++[d.tm]) (p:=p) (q:=q++[d.tm]) (u:=u) (by rw[e];simp) hp;rw[aw]at W7;refine wA ?_;refine .p W7 ?_;refine wC (λhc=>?_) λhc=>?_;exact .nx ⟨rfl,rfl,λw hw=>by rcases aa9.1 hw with h |h;exact hp w h;simp at h;rw[h];assumption⟩;exact⟨_,rfl,by rw[ho,hx (by assumption)];rfl⟩
 ·rintro _ _ Y ⟨rfl,rfl,hp⟩;refine wA ?_;refine .p TR ?_;refine wA ?_;exact⟨_,rfl,by rw[ho,ES hp];rfl⟩
theorem iQ(s:ByteArray)(n:Int):aL C 44 [.str s,.int .i64 n] (enc (.mk 2 s n [])):=by
 rw[bo];refine aL.x T6 Tryz.func44 rfl ?_;refine wA ?_;exact⟨_,rfl,by simp[aT,bW,aU]⟩
theorem JF:aL C 66 [] (.aa false (ae rB)):=aL.iE (n:=40) (by kernel_rfl)
theorem Gb(x:List Nat):aL C 63 [.aa false (eN x)] (.bool (decide (20<x.length))):=by
 have cz:=lH x;refine aL.x T6 Tryz.func63 rfl ?_;refine wC (λhc=>?_) λhc=>?_;exact⟨_,rfl,by rw[decide_eq_true (by omega)];rfl⟩;exact⟨_,rfl,by rw[decide_eq_false (by omega)];rfl⟩
theorem Ib{h:ab}{k o:Int}{n:ByteArray}{es:List PV}{x:PV}(hv:ao es=true:=by simp)(hm:aU es=es:=by simp)(hx:kY h x=some x:=by rfl)(hn:bW x=x:=by rfl):∃r1,rb h (aT [.agg (List.take (3+1) (List.drop 0 (cells (.agg [.int .i64 k,.str n,.int .i64 o,.aa false es])))),x])=some r1/\bW r1=.cy [.agg [.int .i64 k,.str n,.int .i64 o,.aa false es],x]:=by
 refine⟨.cy [.agg [.int .i64 k,.str n,.int .i64 o,.aa false es],x],?_,by simp[bW,aU,hn,hm]⟩;simp only[aT,rb,ie,hx];simp[kY,nP,oE,cells,aV]
theorem WJ:enc FZ=.agg [.int .i64 2,.str ⟨#[97]⟩,.int .i64 1,.aa false []]:=by rw[FZ,bo,sM]
theorem exB:enc Tp=.agg [.int .i64 2,.str ⟨#[98]⟩,.int .i64 1,.aa false []]:=by rw[Tp,bo,sM]
theorem Ic(s:ByteArray)(t:Tm){v:PV}(h:enc t=v):aL C 43 [.str s,.aa false [v]] (.agg [.int .i64 3,.str s,.int .i64 0,.aa false [v]]):=by
 have a:=(pN s [t] (by simp)).nine;rw[bo,ae,h]at a;exact a
theorem Tt(s:ByteArray)(t u:Tm){v w:PV}(h:enc t=v)(h2:enc u=w):aL C 43 [.str s,.aa false [v,w]] (.agg [.int .i64 3,.str s,.int .i64 0,.aa false [v,w]]):=by
 have a:=(pN s [t,u] (by simp)).nine;rw[bo,ae,ae,h,h2]at a;exact a
theorem exS(a:Tm){v:PV}(h:enc a=v):enc (.mk 3 zx 0 [a])=.agg [.int .i64 3,.str ⟨#[115,107]⟩,.int .i64 0,.aa false [v]]:=by
 rw[bo,show ae [a]=[enc a] by simp[ae],h]
 rfl
theorem exP(a:Tm){v:PV}(h:enc a=v):enc (.mk 3 JD 0 [.mk 3 zx 0 [a]])=.agg [.int .i64 3,.str ⟨#[112,107]⟩,.int .i64 0,.aa false [.agg [.int .i64 3,.str ⟨#[115,107]⟩,.int .i64 0,.aa false [v]]]]:=by
 rw[bo,show ae [Tm.mk 3 zx 0 [a]]=[enc (.mk 3 zx 0 [a])] by simp[ae],exS a h]
 rfl
theorem vW(t:Tm):ae [t]=[.agg [.int .i64 t.k,.str t.s,.int .i64 t.o,.aa false (ae t.l)]]:=by rw[ae,aw];rfl
theorem Jr(t u:Tm):ae [t,u]=[.agg [.int .i64 t.k,.str t.s,.int .i64 t.o,.aa false (ae t.l)],.agg [.int .i64 u.k,.str u.s,.int .i64 u.o,.aa false (ae u.l)]]:=by rw[ae,ae,aw,aw];rfl
theorem xD(H:ab)(hH:HR H):ax C 65 [] H (λr h'=>r=.aa true (ae tI)/\fW H h'):=by
 have aA:=iQ ⟨#[97]⟩ 1;have aB:=iQ ⟨#[98]⟩ 1;have aN:=iQ ⟨#[110,35,48]⟩ 2;have aM:=iQ ⟨#[109,35,49]⟩ 2;have aK:=iQ ⟨#[107,35,48]⟩ 3;have aH:=iQ ⟨#[104,105]⟩ 5;have aS:=Tt ⟨#[115,104,107]⟩ FZ Tp WJ exB;have aX:=Ic ⟨#[115,107]⟩ Tp exB;have aP:=Ic ⟨#[112,107]⟩ (.mk 3 zx 0 [Tp]) (exS Tp exB);rw[bo,sM]at aA aB aN aM aK aH;refine ax.x T6 Tryz.func65 rfl ?_;refine wA ?_;refine .p aA ?_;refine wA ?_;refine .p aB ?_;have hJ:List.set (List.set (H++[(⟨.m,0,4,[.agg [.int .i64 0,.str ByteArray.empty,.int .i64 0,.aa true []]]⟩:au)]++[(⟨.m,0,4,[.agg [.int .i64 0,.str ByteArray.empty,.int .i64 0,.aa true []]]⟩:au)]) H.length ⟨.m,0,4,[.agg [.int .i64 2,.str ⟨#[97]⟩,.int .i64 1,.aa false []]]⟩) (H++[(⟨.m,0,4,[.agg [.int .i64 0,.str ByteArray.empty,.int .i64 0,.aa true []]]⟩:au)]).length ⟨.m,0,4,[.agg [.int .i64 2,.str ⟨#[98]⟩,.int .i64 1,.aa false []]]⟩=H++[⟨.m,0,4,[.agg [.int .i64 2,.str ⟨#[97]⟩,.int .i64 1,.aa false []]]⟩,⟨.m,0,4,[.agg [.int .i64 2,.str ⟨#[98]⟩,.int .i64 1,.aa false []]]⟩]:=by simp
 refine wA ?_;refine .mk ?_ (bm (o:=(⟨.m,0,4,[.agg [.int .i64 0,.str ByteArray.empty,.int .i64 0,.aa true []]]⟩:au)) (by simp) rfl (by simp));refine wA ?_;rw[hJ];clear hJ;have hA:(H++[(⟨.m,0,4,[.agg [.int .i64 2,.str ⟨#[97]⟩,.int .i64 1,.aa false []]]⟩:au),⟨.m,0,4,[.agg [.int .i64 2,.str ⟨#[98]⟩,.int .i64 1,.aa false []]]⟩])[H.length]?=some ⟨.m,0,4,[.agg [.int .i64 2,.str ⟨#[97]⟩,.int .i64 1,.aa false []]]⟩:=by simp
 have hB:(H++[(⟨.m,0,4,[.agg [.int .i64 2,.str ⟨#[97]⟩,.int .i64 1,.aa false []]]⟩:au),⟨.m,0,4,[.agg [.int .i64 2,.str ⟨#[98]⟩,.int .i64 1,.aa false []]]⟩])[(H++[(⟨.m,0,4,[.agg [.int .i64 0,.str ByteArray.empty,.int .i64 0,.aa true []]]⟩:au)]).length]?=some ⟨.m,0,4,[.agg [.int .i64 2,.str ⟨#[98]⟩,.int .i64 1,.aa false []]]⟩:=by simp
 have oR:HR (H++[(⟨.m,0,4,[.agg [.int .i64 2,.str ⟨#[97]⟩,.int .i64 1,.aa false []]]⟩:au),⟨.m,0,4,[.agg [.int .i64 2,.str ⟨#[98]⟩,.int .i64 1,.aa false []]]⟩]):=hH.dg (HV.xE ⟨by simp,by simp⟩ ⟨by simp,by simp⟩);refine .mk _ (by simpa[aU,bW]using aN) ?_;refine wA ?_;refine .mk _ (by simpa[aU,bW]using aM) ?_;refine wA ?_;refine .mk _ (by simpa[aU,bW]using aK) ?_;refine wA ?_;refine .mk _ (by simpa[aU,bW]using aS) ?_;refine wA ?_;refine .mk _ (by simpa[aU,bW]using aX) ?_;refine wA ?_;refine .mk _ (by simpa[aU,bW]using aP) ?_;refine wA ?_;refine .mk _ (by simpa[aU,bW]using aH) ?_;refine wA ?_;exact⟨by simp[aT,tI,ae,lfN,lfM,lfK,lfS,lfP,lfH,WJ,exB,bo];exact⟨rfl,rfl,rfl⟩,_,HV.xE ⟨by simp,by simp⟩ ⟨by simp,by simp⟩,rfl⟩
theorem qy(b:List Nat)(l:List Tm)(B:Nat)(hb:JG b)(CA:b.length<100000000)(h0:0<l.length)(o8:l.length<100000000)(hF:zy B l):∀(f d i:Nat),d+f=3->i<=100000 * d->
  aL C 64 [.aa false (eN b),.int .i64 i,.int .i64 d,.aa false (ae l)] (.cy [enc (ia b l f i).1,.int .i64 (ia b l f i).2])
 |0,d,i,hd,hi=>by
  have cz:=ak l;have heu:=lH b;have hn:=BK hb i;have hq:((gr b i:Nat):Int).tdiv 2=((gr b i / 2:Nat):Int):=UE (gr b i) 2;have ht:((gr b i:Nat):Int).tmod 2=((gr b i % 2:Nat):Int):=Jy (gr b i) 2;have na:=xF (l:=l) (i:=gr b i / 2 % (ae l).length) (by rw[cz];exact adz _ h0);have hR:ia b l 0 i=(l.getD (gr b i / 2 % (ae l).length) fL,i+1):=by rw[cz];rfl
  rw[hR];dsimp only;generalize l.getD (gr b i / 2 % (ae l).length) fL=g at *;rw[aw]at na;rw[aw]
  by_cases E6:i<b.length
  ·have cC:=np E6;refine aL.x T6 Tryz.func64 rfl ?_;refine wA ?_;exact mr
  ·have hz:=BL E6;rw[hz,Nat.zero_div,Nat.zero_mod]at na;refine aL.x T6 Tryz.func64 rfl ?_;refine wA ?_;refine .raw 0 rfl ?_;refine wA ?_;exact mr
 |f+1,d,i,hd,hi=>by
  have cz:=ak l;have heu:=lH b;have hn:=BK hb i;have hq:((gr b i:Nat):Int).tdiv 2=((gr b i / 2:Nat):Int):=UE (gr b i) 2;have ht:((gr b i:Nat):Int).tmod 2=((gr b i % 2:Nat):Int):=Jy (gr b i) 2;have h6:(((gr b i:Nat):Int).tdiv 2).tmod 6=((gr b i / 2 % 6:Nat):Int):=by rw[hq];exact Jy (gr b i / 2) 6
  have na:=xF (l:=l) (i:=gr b i / 2 % (ae l).length) (by rw[cz];exact adz _ h0);have hgl:Nb b l i=l.getD (gr b i / 2 % (ae l).length) fL:=by rw[cz];rfl
  by_cases qn:gr b i % 2=0
  ·have hR:ia b l (f+1) i=(Nb b l i,i+1):=by rw[ia,if_pos qn]
   rw[hR,hgl];dsimp only;generalize l.getD (gr b i / 2 % (ae l).length) fL=g at *;rw[aw]at na;rw[aw]
   by_cases E6:i<b.length
   ·have cC:=np E6;refine aL.x T6 Tryz.func64 rfl ?_;refine wA ?_;exact mr
   ·have hz:=BL E6;rw[hz,Nat.zero_div,Nat.zero_mod]at na;refine aL.x T6 Tryz.func64 rfl ?_;refine wA ?_;refine .raw 0 rfl ?_;refine wA ?_;exact mr
  ·have E6:i<b.length:=by
    by_cases h:i<b.length
    exact h;rw[BL h]at qn;omega
   have cC:=np E6;have gh:=xA (b:=b) h0 hF f (i+1);have h2f:2^ (f+1)<=8:=Nat.pow_le_pow_right (by omega) (show f+1<=3 by omega);have hX:=qy b l B hb CA h0 o8 hF f (d+1) (i+1) (by omega) (by omega);have hY:=qy b l B hb CA h0 o8 hF f (d+1) (ia b l f (i+1)).2 (by omega) (by omega);have hR1:gr b i / 2 % 6=0->ia b l (f+1) i=(.mk 3 xw 0 [(ia b l f (i+1)).1],(ia b l f (i+1)).2):=λh=>by rw[ia,if_neg qn,if_pos h]
   have WK:gr b i / 2 % 6≠0->gr b i / 2 % 6<=2->ia b l (f+1) i=(.mk 3 jT 0 [(ia b l f (i+1)).1,(ia b l f (ia b l f (i+1)).2).1],(ia b l f (ia b l f (i+1)).2).2):=λh h'=>by rw[ia,if_neg qn,if_neg h,if_pos h']
   have hR3:gr b i / 2 % 6=3->ia b l (f+1) i=(.mk 3 gb 0 [(ia b l f (i+1)).1,Na],(ia b l f (ia b l f (i+1)).2).2):=λh=>by rw[ia,if_neg qn,if_neg (by omega),if_neg (by omega),if_pos h]
   have hR4:¬gr b i / 2 % 6<=2->gr b i / 2 % 6≠3->ia b l (f+1) i=(.mk 3 ky 0 [(ia b l f (i+1)).1,(ia b l f (ia b l f (i+1)).2).1],(ia b l f (ia b l f (i+1)).2).2):=λh h'=>by rw[ia,if_neg qn,if_neg (by omega),if_neg h,if_neg h']
   generalize ia b l (f+1) i=R at *;generalize ia b l f (ia b l f (i+1)).2=gF at *;generalize ia b l f (i+1)=X at *;obtain⟨x,nx⟩:=X;obtain⟨y,ny⟩:=gF;simp only at hX hY hR1 WK hR3 hR4
   push_cast at hX hY
   have a1:=(pN ⟨#[104,97,115,104]⟩ [x] (by simp)).nine;have a2:=(pN ⟨#[101,110,99]⟩ [x,y] (by simp)).nine;have a4:=(pN ⟨#[112,97,105,114]⟩ [x,y] (by simp)).nine;rw[aw]at hX hY;rw[bo,vW]at a1;rw[bo,Jr]at a2 a4;refine aL.x T6 Tryz.func64 rfl ?_;refine wA ?_;refine .p hX ?_;refine wC (λhc=>?_) λhc=>?_
   ·rw[hR1 (by omega),bo,vW];refine .p a1 ?_;refine wA ?_;exact Ib
   ·refine .p hY ?_;refine wI (λhc=>?_) (λhc hc=>?_) λhc hc=>?_
    ·rw[WK (by omega) (by omega),bo,Jr];refine .p a2 ?_;refine wA ?_;exact Ib
    ·rw[hR3 (by omega)]
     have e3:enc (.mk 3 gb 0 [x,Na])=.agg [.int .i64 3,.str ⟨#[97,101,110,99]⟩,.int .i64 0,.aa false [.agg [.int .i64 x.k,.str x.s,.int .i64 x.o,.aa false (ae x.l)],.agg [.int .i64 3,.str ⟨#[112,107]⟩,.int .i64 0,.aa false [.agg [.int .i64 3,.str ⟨#[115,107]⟩,.int .i64 0,.aa false [.agg [.int .i64 2,.str ⟨#[97]⟩,.int .i64 1,.aa false []]]]]]]]:=by
      rw[bo,show ae [x,Na]=[enc x,enc Na] by simp[ae],Na,exP FZ WJ,aw]
      rfl
     have b1:=iQ ⟨#[97]⟩ 1;have b2:=Ic ⟨#[115,107]⟩ FZ WJ;have b3:=Ic ⟨#[112,107]⟩ (.mk 3 zx 0 [FZ]) (exS FZ WJ);have b4:=Tt ⟨#[97,101,110,99]⟩ x Na (aw x) (exP FZ WJ);rw[bo,sM]at b1;rw[e3]
     skip
     refine .mk _ (by simpa[aU,bW]using b1) ?_;refine wA ?_;refine .mk _ (by simpa[aU,bW]using b2) ?_;refine wA ?_;refine .mk _ (by simpa[aU,bW]using b3) ?_;refine wA ?_;refine .p b4 ?_;refine wA ?_;exact Ib
    ·rw[hR4 (by omega) (by omega),bo,Jr];refine .p a4 ?_;refine wA ?_;exact Ib
theorem Wc{l:List Tm}(h:∀t∈l,cq t=0):(l.flatMap bz).length<=l.length * 10000:=by
 induction l with
 |nil=>simp
 |cons t l ih=>
  have h1:=ih λx hx=>h x (by simp[hx])
  have h2:=fj t;have h3:=dP (h t (by simp));simp only[acM,aba,abg]at h1 ⊢;omega
theorem Sn(b l:List Tm):CH b l=(jd (l.flatMap bz)).all λx=>cm b x:=by
 rw[Bool.eq_iff_iff];unfold CH;simp only[aa4,fq,abY];exact⟨λh x ⟨t,ht,hx⟩=>h t ht x hx,λh t ht x hx=>h x ⟨t,ht,hx⟩⟩
theorem M'(l:List cW)(hl:l.length<1000000000)(hb:∀d∈l,d.kn.length<10000000/\∀t∈d.kn++[d.tm],az t<10000000):aL C 31 [.aa false (aQ l)] (.int .i64 (iv l)):=by
 have cz:=cj l;refine aL.x T6 Tryz.func31 rfl ?_;refine wC (λhc=>?_) λhc=>?_;exact⟨_,rfl,by rw[iv,if_pos (by omega)];rfl⟩;have VH:iv l=mo none [] l:=by rw[iv,if_neg (by omega)]
 refine dw.zip T6 l (λp q L H=>∃v,L=[(0,.aa false (aQ l)),(3,v),(4,.int .i64 p.length)]/\HV H/\Out 4 H v (ae (eR p))/\iv l=mo (nH p) (eR p) q/\∀d∈p,cq d.tm=0) (.nx ⟨_,rfl,HV.nil,.inl ⟨rfl,rfl⟩,VH,by simp⟩) ?_ ?_
 ·rintro p d q _ H Y e ⟨v,rfl,hH,ho,hs,hp⟩;have cC:=ir e;have dO:=lenE e;obtain⟨FU,CF⟩:=hb d (by rw[e];simp);have hon:=Pe d (by omega) CF;have hek:=ak d.kn;rw[oh]at hon
  have Rz:bh.bC d≠0->iv l=bh.bC d:=λh=>by
   rw[hs,mo];unfold bh.bC at h ⊢
   by_cases h1:40<d.kn.length
   rw[if_pos h1,if_pos h1]
   ·rw[if_neg h1]at h ⊢;rw[if_neg h1,if_pos h]
  have Zk:bh.bC d=0->d.kn.length<=40/\(∀t∈d.kn++[d.tm],cq t=0)/\iv l=if kept (nH p) d.kn=false then 9 else if CH (eR p) d.kn=false then 13 else mo (some d.kn) (eR p++bz d.tm) q:=λh=>by
   unfold bh.bC at h
   split at h
   cases h
   ·rename_i h1
    exact⟨by omega,pI h,by rw[hs,mo,if_neg h1,if_neg (by omega)]⟩
  refine wA ?_;refine .p hon ?_;refine wC (λhc=>?_) λhc=>?_
  ·obtain⟨aa0,Wd,hs⟩:=Zk (by omega);have BU:=Bc hp;have CA:=EN hp;have oH:p.length<41:=by omega
   have LZ:=ak (eR p);have FR:=Wc (l:=d.kn) λt ht=>Wd t (by simp[ht])
   have hvo:=uT d.kn (by omega) (by omega) (λt ht=>by have:=dP (Wd t (by simp[ht]));omega);have YP:=sw (d.kn.flatMap bz);have gK:=ak (jd (d.kn.flatMap bz))
   have WU:∀x∈jd (d.kn.flatMap bz),az x<=10000:=λx hx=>by
    obtain⟨t,ht,hx⟩:=abY.1 ((fq _ _).1 hx);have:=jP hx;have:=dP (Wd t (by simp[ht]));omega
   have TF:=dP (Wd d.tm (by simp));have Jo:=qA d.tm (by omega);have MZ:=fj d.tm;have qn:=ak (bz d.tm);have C1:=Sn (eR p) d.kn;rw[aw]at Jo
   by_cases JX:p=[]
   ·have Pu:kept (nH p) d.kn=true:=by rw[JX];rfl
    rw[Pu,if_neg (by simp)]at hs;have Uf:p.length=0:=by rw[JX];rfl
    refine dw.zip T6 ([]:List Tm) (λp2 q2 L K=>L=[(0,.aa false (aQ l)),(3,v),(4,.int .i64 p.length),(6,.int .i64 p2.length)]/\H=K) (.nx ⟨rfl,rfl⟩) ?_ ?_
    ·rintro p2 u q2 _ K Y e2 _
     cases p2 <;>cases e2
    ·rintro _ _ Y ⟨rfl,rfl⟩;refine wA ?_;refine .p hvo ?_;refine wA ?_;refine dw.zip T6 (jd (d.kn.flatMap bz)) (λp4 q4 L K=>L=[(0,.aa false (aQ l)),(3,v),(4,.int .i64 p.length),(7,.aa false (ae (jd (d.kn.flatMap bz)))),(8,.int .i64 p4.length)]/\H=K/\∀x∈p4,cm (eR p) x=true) (.nx ⟨rfl,rfl,by simp⟩) ?_ ?_
     ·rintro p4 x q4 _ _ Y e4 ⟨rfl,rfl,Hm⟩;have Mv:=bD e4;have Qa:=lenE e4;have hxb:=WU x (by rw[e4];simp);have TS:=yQ (eR p) x (by omega) (by omega) (λt ht=>by have:=BU t ht;omega);rw[aw]at TS;refine wA ?_;refine .plS (.inl ho) TS ?_
      cases hh:cm (eR p) x
      ·have rU:CH (eR p) d.kn=false:=by
        rw[C1,acN];exact⟨x,by rw[e4];simp,by simp[hh]⟩
       refine wA ?_;exact⟨_,rfl,by rw[hs,if_pos rU];rfl⟩
      ·refine wA ?_;exact .nx ⟨rfl,rfl,λw hw=>by rcases aa9.1 hw with h |h;exact Hm w h;simp at h;rw[h];exact hh⟩
     ·rintro _ _ Y ⟨rfl,rfl,Hm⟩
      have rU:CH (eR p) d.kn=true:=by
       rw[C1,aa4];exact Hm
      rw[rU,if_neg (by simp)]at hs;refine wA ?_;refine .p Jo ?_;refine wH λv H lp=>?_;refine .nx ⟨_,rfl,lp.hv,?_,by rw[j0,iY];exact hs,λw hw=>by rcases aa9.1 hw with h |h;exact hp w h;simp at h;rw[h];exact Wd d.tm (by simp)⟩;have:=lp.out;rw[iY,cc];exact this
   ·obtain⟨p',e0,va⟩:∃p' e0,p=p'++[e0]:=by
     rcases adu p with h |⟨a,b,h⟩;exact absurd h JX;exact⟨a,b,by rw[h];simp⟩
    have sj:=ir (l:=l) (p:=p') (d:=e0) (q:=d::q) (by rw[e,va];simp);have Uf:p.length=p'.length+1:=by rw[va];simp
    have BQ:nH p=some e0.kn:=by rw[va,j0]
    have he0:=hb e0 (by rw[e,va];simp);have aa1:=ak e0.kn;have Da:(aQ l)[p.length]?=some (.agg [.aa false (ae d.kn),.int .i64 d.tm.k,.str d.tm.s,.int .i64 d.tm.o,.aa false (ae d.tm.l)]):=cC;refine dw.zip T6 e0.kn (λp2 q2 L K=>L=[(0,.aa false (aQ l)),(3,v),(4,.int .i64 p.length),(6,.int .i64 p2.length)]/\H=K/\∀t∈p2,cm d.kn t=true) (.nx ⟨rfl,rfl,by simp⟩) ?_ ?_
    ·rintro p2 u q2 _ _ Y e2 ⟨rfl,rfl,Kr⟩;have na:=bD e2;have CB:=lenE e2;have TS:=yQ d.kn u (by have:=he0.2 u (by rw[e2];simp);omega) (by omega) (λt ht=>by have:=dP (Wd t (by simp[ht]));omega);rw[aw]at TS;refine wA ?_;refine .mk (n:=p'.length) ?_ (by omega) sj rfl;refine wA ?_;refine .mk (n:=p'.length) ?_ (by omega) sj rfl;refine wA ?_;refine .p TS ?_
     cases hh:cm d.kn u
     ·have Wa:kept (nH p) d.kn=false:=by
       rw[BQ];show(e0.kn.all λt=>cm d.kn t)=false;rw[acN];exact⟨u,by rw[e2];simp,by simp[hh]⟩
      refine wA ?_;exact⟨_,rfl,by rw[hs,if_pos Wa];rfl⟩
     ·refine wA ?_;exact .nx ⟨rfl,rfl,λw hw=>by rcases aa9.1 hw with h |h;exact Kr w h;simp at h;rw[h];exact hh⟩
    ·rintro _ _ Y ⟨rfl,rfl,Kr⟩
     have Wa:kept (nH p) d.kn=true:=by
      rw[BQ];show(e0.kn.all λt=>cm d.kn t)=true;rw[aa4];exact Kr
     rw[Wa,if_neg (by simp)]at hs;refine wA ?_;refine .mk (n:=p'.length) ?_ (by omega) sj rfl;refine wA ?_;refine .p hvo ?_;refine wA ?_;refine dw.zip T6 (jd (d.kn.flatMap bz)) (λp4 q4 L K=>L=[(0,.aa false (aQ l)),(3,v),(4,.int .i64 p.length),(7,.aa false (ae (jd (d.kn.flatMap bz)))),(8,.int .i64 p4.length)]/\H=K/\∀x∈p4,cm (eR p) x=true) (.nx ⟨rfl,rfl,by simp⟩) ?_ ?_
     ·rintro p4 x q4 _ _ Y e4 ⟨rfl,rfl,Hm⟩;have Mv:=bD e4;have Qa:=lenE e4;have hxb:=WU x (by rw[e4];simp);have TS:=yQ (eR p) x (by omega) (by omega) (λt ht=>by have:=BU t ht;omega);rw[aw]at TS;refine wA ?_;refine .plS (.inl ho) TS ?_
      cases hh:cm (eR p) x
      ·have rU:CH (eR p) d.kn=false:=by
        rw[C1,acN];exact⟨x,by rw[e4];simp,by simp[hh]⟩
       refine wA ?_;exact⟨_,rfl,by rw[hs,if_pos rU];rfl⟩
      ·refine wA ?_;exact .nx ⟨rfl,rfl,λw hw=>by rcases aa9.1 hw with h |h;exact Hm w h;simp at h;rw[h];exact hh⟩
     ·rintro _ _ Y ⟨rfl,rfl,Hm⟩
      have rU:CH (eR p) d.kn=true:=by
       rw[C1,aa4];exact Hm
      rw[rU,if_neg (by simp)]at hs;refine wA ?_;refine .p Jo ?_;refine wH λv H lp=>?_;refine .nx ⟨_,rfl,lp.hv,?_,by rw[j0,iY];exact hs,λw hw=>by rcases aa9.1 hw with h |h;exact hp w h;simp at h;rw[h];exact Wd d.tm (by simp)⟩;have:=lp.out;rw[iY,cc];exact this
  ·have hx:=Rz (by assumption);exact⟨_,rfl,by rw[hx];rfl⟩
 ·rintro _ H Y ⟨v,rfl,hH,ho,hs,hp⟩;refine wA ?_;exact⟨_,rfl,by rw[hs,mo];rfl⟩
structure Ih(H:ab)(vo vk vb:PV)(s:Px)(ids:List Nat)(es:List PV):Prop where
 hr:HR H
 oo:Out 5 H vo es
 CK:vZ H ids es s.out
 ok:Out 4 H vk (ae s.kn)
 ob:Out 4 H vb (ae s.bd)
 d1:∀i∈cg vo,i∉cg vk/\i∉cg vb/\i∉ids
 d2:∀i∈cg vb,i∉cg vk/\i∉ids
theorem Ih.aR{H H':ab}{vo vk vb:PV}{s:Px}{ids:List Nat}{es:List PV}(M:Ih H vo vk vb s ids es)(hr:HR H')(E7:∀j,j<H.length->H'[j]?=H[j]?):Ih H' vo vk vb s ids es:=
 ⟨hr,M.oo.of_eq λi hi=>E7 i (M.oo.oU i hi),M.CK.of_eq λi hi=>E7 i (M.CK.lt i hi),M.ok.of_eq λi hi=>E7 i (M.ok.oU i hi),M.ob.of_eq λi hi=>E7 i (M.ob.oU i hi),M.d1,M.d2⟩
structure Tu(H:ab)(bi ep:Nat)(b:List Nat)(vo vk vb:PV)(ids:List Nat):Prop where
 at_:∃mu,H[bi]?=some ⟨mu,ep,1,eN b⟩/\(mu=.m\/mu=.f)
 nb:bi∉cg vo/\bi∉cg vk/\bi∉cg vb/\bi∉ids
theorem Tu.aR{H H':ab}{bi ep:Nat}{b:List Nat}{vo vk vb:PV}{ids:List Nat}(B:Tu H bi ep b vo vk vb ids)(E7:∀j,j<H.length->H'[j]?=H[j]?):Tu H' bi ep b vo vk vb ids:=by
 obtain⟨⟨mu,e,hm⟩,nb⟩:=B;exact⟨⟨mu,(E7 bi (ag e)).trans e,hm⟩,nb⟩
theorem JI(l:List Nat):dj 1 (eN l):=by
 unfold dj;rw[aa4]
 intro v hv
 obtain⟨n,_,rfl⟩:=abB.1 hv
 rfl
theorem BO{H h':ab}{v r:PV}{sz:Nat}{es:List PV}(a:LR H v sz es r h'){j:Nat}(hj:j<H.length)(hv:j∉cg v):h'[j]?=H[j]?/\j∉cg r:=by
 refine⟨a.fr j hj λep n h=>hv (by rw[h];simp[cg]),λhh=>?_⟩;rcases a.cg j hh with h |h;exact hv h;omega
structure Yn(h:ab)(vk:PV)(kn:List Tm)(g:Tm)(r1:PV)(G1:ab)(r2:PV)(G2:ab):Prop where
 Ql:bJ C.P 2 (cE [h.length] (h++[(⟨.m,0,4,[.agg [.int .i64 g.k,.str g.s,.int .i64 g.o,.aa false (ae g.l)]]⟩:au)])) 31 31 (.aa true []) vk=some (r1,G1)
 le1:(cE [h.length] (h++[(⟨.m,0,4,[.agg [.int .i64 g.k,.str g.s,.int .i64 g.o,.aa false (ae g.l)]]⟩:au)])).length<=G1.length
 kp1:∀(j:Nat) (o:au),(cE [h.length] (h++[(⟨.m,0,4,[.agg [.int .i64 g.k,.str g.s,.int .i64 g.o,.aa false (ae g.l)]]⟩:au)]))[j]?=some o->o.mu≠.m->G1[j]?=some o
 at0:(cE [h.length] (h++[(⟨.m,0,4,[.agg [.int .i64 g.k,.str g.s,.int .i64 g.o,.aa false (ae g.l)]]⟩:au)]))[h.length]?=some ⟨.l,0,4,[.agg [.int .i64 g.k,.str g.s,.int .i64 g.o,.aa false (ae g.l)]]⟩
 at1:G1[h.length]?=some ⟨.l,0,4,[.agg [.int .i64 g.k,.str g.s,.int .i64 g.o,.aa false (ae g.l)]]⟩
 Qm:bJ C.P 2 G1 31 31 r1 (.aa true [.agg [.int .i64 g.k,.str g.s,.int .i64 g.o,.aa false (ae g.l)]])=some (r2,G2)
 le2:G1.length<=G2.length
 kp2:∀(j:Nat) (o:au),G1[j]?=some o->o.mu≠.m->G2[j]?=some o
 nl:∀(j:Nat) (o:au),G2[j]?=some o->o.mu≠.l\/(cE [h.length] (h++[(⟨.m,0,4,[.agg [.int .i64 g.k,.str g.s,.int .i64 g.o,.aa false (ae g.l)]]⟩:au)]))[j]?=some o
 hr:HR (dW [h.length] (h++[(⟨.m,0,4,[.agg [.int .i64 g.k,.str g.s,.int .i64 g.o,.aa false (ae g.l)]]⟩:au)]) G2)
 fr:∀j,j<h.length->(dW [h.length] (h++[(⟨.m,0,4,[.agg [.int .i64 g.k,.str g.s,.int .i64 g.o,.aa false (ae g.l)]]⟩:au)]) G2)[j]?=h[j]?
 out:Out 4 (dW [h.length] (h++[(⟨.m,0,4,[.agg [.int .i64 g.k,.str g.s,.int .i64 g.o,.aa false (ae g.l)]]⟩:au)]) G2) r2 (ae (kn++[g]))
 vd:∀i∈cg r2,h.length<=i
theorem Yo{h:ab}(hR:HR h){vk:PV}{kn:List Tm}(o:Out 4 h vk (ae kn))(hn:kn.length<100000000)(g:Tm):∃r1 G1 r2 G2,Yn h vk kn g r1 G1 r2 G2:=by
 have cz:=ak kn;have tO:(cE [h.length] (h++[(⟨.m,0,4,[.agg [.int .i64 g.k,.str g.s,.int .i64 g.o,.aa false (ae g.l)]]⟩:au)])).length=h.length+1:=by rw[BJ];simp
 have WN:HR (h++[(⟨.m,0,4,[.agg [.int .i64 g.k,.str g.s,.int .i64 g.o,.aa false (ae g.l)]]⟩:au)]):=hR.dg (HV.one (by simp));have hRL:HR (cE [h.length] (h++[(⟨.m,0,4,[.agg [.int .i64 g.k,.str g.s,.int .i64 g.o,.aa false (ae g.l)]]⟩:au)])):=WN.QK;have at0:(cE [h.length] (h++[(⟨.m,0,4,[.agg [.int .i64 g.k,.str g.s,.int .i64 g.o,.aa false (ae g.l)]]⟩:au)]))[h.length]?=some ⟨.l,0,4,[.agg [.int .i64 g.k,.str g.s,.int .i64 g.o,.aa false (ae g.l)]]⟩:=Nk (by simp);have FR:∀j,j<h.length->(cE [h.length] (h++[(⟨.m,0,4,[.agg [.int .i64 g.k,.str g.s,.int .i64 g.o,.aa false (ae g.l)]]⟩:au)]))[j]?=h[j]?:=λj hj=>by rw[Vf (by omega),aa3 hj]
 have oL:Out 4 (cE [h.length] (h++[(⟨.m,0,4,[.agg [.int .i64 g.k,.str g.s,.int .i64 g.o,.aa false (ae g.l)]]⟩:au)])) vk (ae kn):=o.of_eq λi hi=>FR i (o.oU i hi)
 obtain⟨r1,G1,Ql,a1⟩:=Bz T6 (H:=cE [h.length] (h++[(⟨.m,0,4,[.agg [.int .i64 g.k,.str g.s,.int .i64 g.o,.aa false (ae g.l)]]⟩:au)])) (st:=31) (xt:=31) (v:=.aa true []) (u:=vk) (es:=[]) (ys:=ae kn) rfl rfl rfl rfl rfl (by decide) rfl rfl (.inl ⟨rfl,rfl⟩) oL.cf (by simp[cg]) (iS _) (by simp;omega)
 have zq:∀i∈cg r1,h.length+1<=i:=λi hi=>by
  rcases a1.cg i hi with h1 |h1;simp[cg]at h1;omega
 obtain⟨r2,G2,Qm,a2⟩:=Bz T6 (H:=G1) (st:=31) (xt:=31) (v:=r1) (u:=.aa true [.agg [.int .i64 g.k,.str g.s,.int .i64 g.o,.aa false (ae g.l)]]) (es:=[]++ae kn) (ys:=[.agg [.int .i64 g.k,.str g.s,.int .i64 g.o,.aa false (ae g.l)]]) rfl rfl rfl rfl rfl (by decide) rfl rfl a1.out rfl (by simp[cg]) rfl (by simp;omega)
 have E0:∀i∈cg r2,h.length+1<=i:=λi hi=>by
  rcases a2.cg i hi with h1 |h1;exact zq i h1;have:=a1.len;omega
 have Yp:=a1.hr hRL (bt _ _ (by simp));have h2R:=a2.hr Yp (bt _ _ (by simp));have dO:h.length+1<=G2.length:=by have:=a1.len;have:=a2.len;omega
 have he:[]++ae kn++[.agg [.int .i64 g.k,.str g.s,.int .i64 g.o,.aa false (ae g.l)]]=ae (kn++[g]):=by rw[cc,abK,vW]
 have o2:=a2.out;rw[he]at o2;refine⟨r1,G1,r2,G2,Ql,a1.len,a1.aR,at0,a1.aR _ _ at0 (by simp),Qm,a2.len,a2.aR,λj o hj=>?_,h2R.QL WN (by simp;omega),λj hj=>?_,o2.of_eq λi hi=>BA (by have:=E0 i hi;omega),λi hi=>by have:=E0 i hi;omega⟩
 ·rcases a2.FM j o hj with h1 |h1
  ·exact .inl h1
  ·exact a1.FM j o h1
 ·rw[BA (by omega),a2.fr j (by have:=a1.len;omega) (λhh=>by have:=zq j hh;omega),a1.fr j (by omega) (by simp[cg])];exact FR j hj
structure kv(h:ab)(vo vk vb:PV)(s:Px)(ids:List Nat)(es:List PV)(g:Tm)(w:PV)(J1:ab)(u:PV)(G3:ab)(r:PV)(G2:ab):Prop where
 Ql:bJ C.P 1 (h++[(⟨.m,0,4,[.agg [.int .i64 g.k,.str g.s,.int .i64 g.o,.aa false (ae g.l)]]⟩:au)]) 31 31 (.aa true []) vk=some (w,h++[(⟨.m,0,4,[.agg [.int .i64 g.k,.str g.s,.int .i64 g.o,.aa false (ae g.l)]]⟩:au)]++J1)
 jl:(J1.all λo=>decide (o.mu≠.l))=true
 ow:Out 4 (h++[(⟨.m,0,4,[.agg [.int .i64 g.k,.str g.s,.int .i64 g.o,.aa false (ae g.l)]]⟩:au)]++J1) w (ae s.kn)
 vkv:bw (aO (h++[(⟨.m,0,4,[.agg [.int .i64 g.k,.str g.s,.int .i64 g.o,.aa false (ae g.l)]]⟩:au)])) vk=true
 bs:(ao [.agg [w,.int .i64 g.k,.str g.s,.int .i64 g.o,.aa false (ae g.l)]]=true/\u=.aa true [.agg [w,.int .i64 g.k,.str g.s,.int .i64 g.o,.aa false (ae g.l)]]/\G3=h++[(⟨.m,0,4,[.agg [.int .i64 g.k,.str g.s,.int .i64 g.o,.aa false (ae g.l)]]⟩:au)]++J1)\/(ao [.agg [w,.int .i64 g.k,.str g.s,.int .i64 g.o,.aa false (ae g.l)]]=false/\u=.aj (h++[(⟨.m,0,4,[.agg [.int .i64 g.k,.str g.s,.int .i64 g.o,.aa false (ae g.l)]]⟩:au)]++J1).length 0 0 1/\G3=newObj (h++[(⟨.m,0,4,[.agg [.int .i64 g.k,.str g.s,.int .i64 g.o,.aa false (ae g.l)]]⟩:au)]++J1) 5 [.agg [w,.int .i64 g.k,.str g.s,.int .i64 g.o,.aa false (ae g.l)]])
 Qm:bJ C.P 2 G3 22 22 vo u=some (r,G2)
 md:Ih G2 r vk vb ⟨s.kn,s.bd,s.out++[⟨s.kn,g⟩]⟩ (ids++cg w) (es++[.agg [w,.int .i64 g.k,.str g.s,.int .i64 g.o,.aa false (ae g.l)]])
 cell:G2[h.length]?=some (⟨.m,0,4,[.agg [.int .i64 g.k,.str g.s,.int .i64 g.o,.aa false (ae g.l)]]⟩:au)
theorem kL{h:ab}{vo vk vb:PV}{s:Px}{ids:List Nat}{es:List PV}(M:Ih h vo vk vb s ids es)(hn:s.kn.length<100000000)(Qk:s.out.length<100000000)(g:Tm):∃w J1 u G3 r G2,kv h vo vk vb s ids es g w J1 u G3 r G2:=by
 have cz:=ak s.kn;have WN:HR (h++[(⟨.m,0,4,[.agg [.int .i64 g.k,.str g.s,.int .i64 g.o,.aa false (ae g.l)]]⟩:au)]):=M.hr.dg (HV.one (by simp));have MG:=M.aR WN λj hj=>aa3 hj
 have hgl:(h++[(⟨.m,0,4,[.agg [.int .i64 g.k,.str g.s,.int .i64 g.o,.aa false (ae g.l)]]⟩:au)]).length=h.length+1:=by simp
 obtain⟨w,J1,Ql,_,hJ,zq,HP⟩:=FK T6 (lv:=1) (by omega) (H:=h++[(⟨.m,0,4,[.agg [.int .i64 g.k,.str g.s,.int .i64 g.o,.aa false (ae g.l)]]⟩:au)]) (st:=31) (xt:=31) (u:=vk) (es:=[]) (ys:=ae s.kn) rfl rfl rfl rfl rfl (by decide) rfl rfl MG.ok.cf rfl (iS _) (by simp;omega);have HP:=HP rfl;have Yq:HV J1:=by rcases hJ with rfl |rfl;exact HV.nil;exact HV.one (by simp)
 have Yp:HR (h++[(⟨.m,0,4,[.agg [.int .i64 g.k,.str g.s,.int .i64 g.o,.aa false (ae g.l)]]⟩:au)]++J1):=WN.dg Yq;have M1:=MG.aR Yp λj hj=>aa3 hj
 have hwo:=HP.bC;have hwv:=HP.bw;have yY:(h++[(⟨.m,0,4,[.agg [.int .i64 g.k,.str g.s,.int .i64 g.o,.aa false (ae g.l)]]⟩:au)]++J1).length=h.length+1+J1.length:=by simp;omega
 have gh:dj 5 [.agg [w,.int .i64 g.k,.str g.s,.int .i64 g.o,.aa false (ae g.l)]]:=by
  unfold dj;rw[abZ,acH];show((decide ((5:Nat)=5)&& (Pm.bC w&& (true&& (true&& (true&& (true&&true))))))&&true)=true;rw[hwo.1]
  rfl
 have zc:es.length=s.out.length:=M.CK.len
 obtain⟨u,G3,bs,hu,Jr,h3R,h3f,h3l⟩:∃u G3,((ao [.agg [w,.int .i64 g.k,.str g.s,.int .i64 g.o,.aa false (ae g.l)]]=true/\u=.aa true [.agg [w,.int .i64 g.k,.str g.s,.int .i64 g.o,.aa false (ae g.l)]]/\G3=h++[(⟨.m,0,4,[.agg [.int .i64 g.k,.str g.s,.int .i64 g.o,.aa false (ae g.l)]]⟩:au)]++J1)\/(ao [.agg [w,.int .i64 g.k,.str g.s,.int .i64 g.o,.aa false (ae g.l)]]=false/\u=.aj (h++[(⟨.m,0,4,[.agg [.int .i64 g.k,.str g.s,.int .i64 g.o,.aa false (ae g.l)]]⟩:au)]++J1).length 0 0 1/\G3=newObj (h++[(⟨.m,0,4,[.agg [.int .i64 g.k,.str g.s,.int .i64 g.o,.aa false (ae g.l)]]⟩:au)]++J1) 5 [.agg [w,.int .i64 g.k,.str g.s,.int .i64 g.o,.aa false (ae g.l)]]))/\cf G3 u=some [.agg [w,.int .i64 g.k,.str g.s,.int .i64 g.o,.aa false (ae g.l)]]/\(∀i∈cg u,h.length+1<=i)/\HR G3/\(∀j,j<(h++[(⟨.m,0,4,[.agg [.int .i64 g.k,.str g.s,.int .i64 g.o,.aa false (ae g.l)]]⟩:au)]++J1).length->G3[j]?=(h++[(⟨.m,0,4,[.agg [.int .i64 g.k,.str g.s,.int .i64 g.o,.aa false (ae g.l)]]⟩:au)]++J1)[j]?)/\(h++[(⟨.m,0,4,[.agg [.int .i64 g.k,.str g.s,.int .i64 g.o,.aa false (ae g.l)]]⟩:au)]++J1).length<=G3.length:=by
  cases vC:ao [.agg [w,.int .i64 g.k,.str g.s,.int .i64 g.o,.aa false (ae g.l)]]
  ·refine⟨_,_,.inr ⟨rfl,rfl,rfl⟩,by simp[cf,getM,newObj],λi hi=>(by simp only[cg,abC]at hi;omega),Yp.Nj (by simp) ?_,λj hj=>by rw[newObj,aa3 hj],by simp[newObj]⟩;simp only[bL,bw,acU];exact xG (f:=λi=>decide (i<(h++[(⟨.m,0,4,[.agg [.int .i64 g.k,.str g.s,.int .i64 g.o,.aa false (ae g.l)]]⟩:au)]++J1).length)) (λi hi=>by have:=of_decide_eq_true hi;exact decide_eq_true (by omega)) _ hwv
  exact⟨_,_,.inl ⟨rfl,rfl,rfl⟩,rfl,by simp[cg],Yp,λ_ _=>rfl,aa5 _⟩
 have M3:=M1.aR h3R h3f;have Lm:Out 4 G3 w (ae s.kn):=HP.of_eq λi hi=>h3f i (HP.oU i hi)
 obtain⟨r,G2,Qm,a2⟩:=Bz T6 (H:=G3) (st:=22) (xt:=22) (v:=vo) (u:=u) (es:=es) (ys:=[.agg [w,.int .i64 g.k,.str g.s,.int .i64 g.o,.aa false (ae g.l)]]) rfl rfl rfl rfl rfl (by decide) rfl rfl M3.oo hu (λi hi h=>by have:=M.oo.oU i hi;have:=Jr i h;omega) gh (by simp;omega)
 have iG:bL (λi=>decide (i<G3.length)) (es++[.agg [w,.int .i64 g.k,.str g.s,.int .i64 g.o,.aa false (ae g.l)]])=true:=by
  rw[gj,ab5,<-gj,M3.CK.PA];simp only[abZ,acH,bw,bL,acU,aco];exact Lm.bw
 have h2R:=a2.hr h3R iG;have Yr:∀i∈cg r,i∈cg vo\/G3.length<=i:=a2.cg;have Ys:∀i∈cg w,i<G3.length:=Lm.oU;have Yt:∀i∈cg w,i∉cg vo:=λi hi h=>by have:=zq i hi;have:=M.oo.oU i h;omega
 have f3:∀j,j<h.length+1->G3[j]?=(h++[(⟨.m,0,4,[.agg [.int .i64 g.k,.str g.s,.int .i64 g.o,.aa false (ae g.l)]]⟩:au)])[j]?:=λj hj=>by rw[h3f j (by omega),aa3 (by omega)]
 have fin:∀j,j<h.length->j∉cg vo->G2[j]?=h[j]?:=λj hj hv=>by
  rw[a2.fr j (by omega) hv,f3 j (by omega),aa3 hj]
 refine⟨w,J1,u,G3,r,G2,Ql,?_,HP,?_,bs,Qm,⟨h2R,a2.out,.snoc (w:=w) (d:=⟨s.kn,g⟩) (M.CK.of_eq λi hi=>fin i (M.CK.lt i hi) λhh=>(M.d1 i hh).2.2 hi) (Lm.of_eq λi hi=>a2.fr i (Ys i hi) (Yt i hi)),M.ok.of_eq λi hi=>fin i (M.ok.oU i hi) λhh=>(M.d1 i hh).1 hi,M.ob.of_eq λi hi=>fin i (M.ob.oU i hi) λhh=>(M.d1 i hh).2.1 hi,λi hi=>?_,λi hi=>⟨(M.d2 i hi).1,λhh=>?_⟩⟩,?_⟩;rcases hJ with rfl |rfl <;>simp
 ·have:=MG.ok.bw;exact xG (λi hi=>WN.PA (of_decide_eq_true hi)) _ this
 ·rcases Yr i hi with h1 |h1
  ·obtain⟨q1,q2,q3⟩:=M.d1 i h1;refine⟨q1,q2,λhh=>?_⟩;rcases aa9.1 hh with hh |hh;exact q3 hh;exact Yt i hh h1
  ·refine⟨λhh=>by have:=M.ok.oU i hh;omega,λhh=>by have:=M.ob.oU i hh;omega,λhh=>?_⟩;rcases aa9.1 hh with hh |hh;have:=M.CK.lt i hh;omega;have:=Ys i hh;omega
 ·rcases aa9.1 hh with hh |hh
  ·exact(M.d2 i hi).2 hh
  ·have:=zq i hh;have:=M.ob.oU i hi;omega
 ·rw[a2.fr h.length (by omega) (λhh=>by have:=M.oo.oU _ hh;omega),f3 _ (by omega)];simp
theorem qw(e:Nat->Bool)(h:ab):cB e h.length [] h=h:=by simp[cB]
theorem Ii{C:cG}{T:kJ C.P}{M:ab}{t:TypeId}{c n sz:Nat}{mu:Mu}{cs:List PV}(hb:M[c]?=some ⟨mu,0,n,[.agg cs]⟩)(hm:mu≠.x)(hs:T.ts t=some (sz+1))(ht:T.ta t=some true)(hl:cs.length=sz+1):loadT T M t (.ptr c 0 0 0)=some (.agg cs):=by
 have hp:cR M (.ptr c 0 0 0)=some cs:=by simp[cR,bm hb rfl hm,cells]
 unfold loadT;rw[hs,ht,hp];have:Nat.ble (sz+1) cs.length=true:=Nat.ble_eq_true_of_le (by omega);simp only[this,if_true];rw[abo (by omega)]
theorem _root_.Go.Pm.aZ.Nq{C:cG}{ops:Array Oper}{i d:Nat}{ty:TypeId}{pos:String}{af:Array Edge}{r:List Oper}{Y:Nat->PV}{L:Al}{h:ab}{L0:Nat}{own:List Nat}{Q:St->Prop}{op:Op}{v:PV}{h':ab}(M J Hn:ab)(Yu:List Nat)
  (hc:∃n0,∀n,n0<=n->ar C (fa C n) 1 op (al L Y) M=some (v,h')) (k:aZ C ops (i+1) r ⟨⟨al ((d,v)::L) Y,Hn⟩,L0,Yu⟩ Q) (hHn:h++J=Hn) (ho:own++List.replicate J.length i=Yu) (hM:cB ((before ops).getD i 0).testBit L0 own h=M) (hJ:h'.drop h.length=J) (dG:aY M=true) (lz:(op.operands.toList.all λy=>bw (aO M) (ev (al L Y) y))=true)
  (tO:(J.all λo=>decide (o.mu≠.l))=true) (hh:c9 op=true:=by rfl) (hl:(level ops (before ops) i==2)=false:=by rfl):aZ C ops i (⟨some d,op,ty,pos,af,none⟩::r) ⟨⟨al L Y,h⟩,L0,own⟩ Q:=
 aZ.Dy M J hc (by rw[hHn,ho];exact k) hM hJ dG lz tO hh hl
theorem Ih.CH{J H3:ab}{vo vk vb vb3:PV}{s:Px}{ids:List Nat}{es:List PV}{V:List Tm}(M:Ih J vo vk vb s ids es)(l:LR J vb 4 (ae s.bd++ae V) vb3 H3):Ih H3 vo vk vb3 ⟨s.kn,s.bd++V,s.out⟩ ids es:=by
 have fr:∀i,i<J.length->i∉cg vb->H3[i]?=J[i]?:=λi hi hv=>(BO l hi hv).1
 have ob:=l.out;rw[<-cc]at ob;refine⟨l.hr,M.oo.of_eq λi hi=>fr i (M.oo.oU i hi) (M.d1 i hi).2.1,M.CK.of_eq λi hi=>fr i (M.CK.lt i hi) λhh=>(M.d2 i hh).2 hi,M.ok.of_eq λi hi=>fr i (M.ok.oU i hi) λhh=>(M.d2 i hh).1 hi,ob,λi hi=>?_,λi hi=>?_⟩
 ·obtain⟨q1,q2,q3⟩:=M.d1 i hi;exact⟨q1,(BO l (M.oo.oU i hi) q2).2,q3⟩
 ·rcases l.cg i hi with h1 |h1
  ·exact M.d2 i h1
  ·exact⟨λhh=>by have:=M.ok.oU i hh;omega,λhh=>by have:=M.CK.lt i hh;omega⟩
theorem xH{H:ab}{bi ep:Nat}{mu:Mu}{b:List Nat}{i n:Int}{r R:PV}{l:List Tm}{Q:PV->ab->Prop}(hb:H[bi]?=some ⟨mu,ep,1,eN b⟩)(hm:mu=.m\/mu=.f)(hr:Ls 4 H r (ae l))(a:aL C 64 [.aa false (eN b),.int .i64 i,.int .i64 n,.aa false (ae l)] R)(q:∀h',Py (bi::cg r) H h'->Q R h'):ai C 2 64 [.aj bi ep 0 (eN b).length,.int .i64 i,.int .i64 n,r] H Q:=by
 obtain⟨a2,b2,c2⟩:=hr.kY (by simp);have Az:mu≠.x:=by rcases hm with rfl |rfl <;>simp
 have ht:List.take b.length (eN b)=eN b:=abo (by simp);have xg:kY H (.aj bi ep 0 (eN b).length)=some (.aa false (eN b)):=by simp[kY,oE,bm hb rfl Az,hm,ht]
 have i1:∀n:Int,kY H (.int .i64 n)=some (.int .i64 n):=λ_=>rfl
 have Fh:jA [.aj bi ep 0 (eN b).length,.int .i64 i,.int .i64 n,r]=bi::cg r:=by
  rcases hr with(⟨rfl,_⟩|⟨i,e,rfl,_⟩)|⟨f,rfl⟩ <;>rfl
 refine ai.Yj (args':=[.aa false (eN b),.int .i64 i,.int .i64 n,a2]) (by simp only[ie,xg,i1,b2]) (by simp[ao,aV]) (λid hid=>?_) (by simpa[aU,bW,c2]using a) (λh' z=>q h' (Fh▸z));rw[Fh]at hid;rcases abc.1 hid with rfl |hid;exact⟨_,hb,by simp,hm⟩
 ·rcases hr with(⟨rfl,_⟩|⟨j,e,rfl,hj⟩)|⟨f,rfl⟩
  ·simp[cg]at hid
  ·simp[cg]at hid;subst hid;exact⟨_,hj,by simp,.inl rfl⟩
  ·simp[cg]at hid
theorem Ih.Pz{H H':ab}{l:List Nat}{vo vk vb:PV}{s:Px}{ids:List Nat}{es:List PV}(M:Ih H vo vk vb s ids es)(z:Py l H H')(h:∀j∈l,j∉cg vo/\j∉cg vk/\j∉cg vb/\j∉ids):Ih H' vo vk vb s ids es:=
 ⟨z.hr M.hr,M.oo.of_eq λi hi=>z.same i λhh=>(h i hh).1 hi,M.CK.of_eq λi hi=>z.same i λhh=>(h i hh).2.2.2 hi,M.ok.of_eq λi hi=>z.same i λhh=>(h i hh).2.1 hi,M.ob.of_eq λi hi=>z.same i λhh=>(h i hh).2.2.1 hi,M.d1,M.d2⟩
theorem Tu.Pz{H H':ab}{l:List Nat}{bi ep:Nat}{b:List Nat}{vo vk vb:PV}{ids:List Nat}(B:Tu H bi ep b vo vk vb ids)(z:Py l H H'):Tu H' bi ep b vo vk vb ids:=by
 obtain⟨⟨mu,e,hm⟩,nb⟩:=B;obtain⟨QM,e',JJ⟩:=z.nL bi _ e;refine⟨⟨QM,e',?_⟩,nb⟩;rcases JJ with rfl |rfl;exact hm;exact .inr rfl
theorem Nr(bs:List (List Nat))(C1:∀b∈bs,JG b/\b.length<1000000)(hl:bs.length<1000000):
  ax C 19 [.aa false (dZ bs)] [] (λr H=>∃vk vb ids es,Ih H r vk vb (cP (bs.take 5)) ids es):=by
 have cz:=qz bs;refine ax.x T6 Tryz.func19 rfl ?_;refine wA ?_;refine dw.zip T6 (bs.take 5) (λp q L H=>∃vo vk vb ids es,L=[(0,.aa false (dZ bs)),(3,vo),(4,vk),(5,vb),(6,.int .i64 p.length)]/\Ih H vo vk vb (cP p) ids es) (.nx ⟨_,_,_,[],[],rfl,HV.nil.hr,.inl ⟨rfl,rfl⟩,.nil,.inl ⟨rfl,rfl⟩,.inl ⟨rfl,rfl⟩,by simp[cg],by simp[cg]⟩) ?_ ?_
 ·rintro p x q _ H Y e ⟨vo,vk,vb,ids,es,rfl,M⟩;have dO:=congrArg List.length e;simp only[aba,abg,ab7]at dO;have e2:bs=p++x::(q++bs.drop 5):=by have:=(acJ 5 bs).symm;rw[e]at this;simpa using this
  have cC:=DB e2;have hH:=M.hr;obtain⟨hx8,PB⟩:=C1 x (by rw[e2];simp);have hex:=lH x;refine wA ?_;refine .lr (λv1 h1 l1=>?_) (.inl ⟨rfl,rfl⟩) (JI x) (by rw[lH];simp;omega);have mj:=l1.hr;refine wA ?_;refine .lr (λv2 h2 l2=>?_) l1.out rfl (by simp;omega) (by exact bt _ _ (by simp));have oR:=l2.hr;have hle:H.length<=h2.length:=abQ l1.len l2.len
  have Vm:∀j,j<H.length->h2[j]?=H[j]?/\j∉cg v2:=λj hj=>by
   obtain⟨a1,a2⟩:=BO l1 hj (by simp[cg]);obtain⟨b1,b2⟩:=BO l2 (by have:=l1.len;omega) a2;exact⟨b1.trans a1,b2⟩
  have ME:[]++eN x++[.int .u8 0,.int .u8 0]=eN (iR x):=by simp[iR,Nn];rfl
  have Aa:=l2.out;rw[ME]at Aa
  obtain⟨bi,ep,rfl,hbi⟩:∃bi ep,v2=.aj bi ep 0 (eN (iR x)).length/\h2[bi]?=some ⟨.m,ep,1,eN (iR x)⟩:=by
   rcases Aa with⟨_,h⟩|h
   ·have:=congrArg List.length h;simp[iR]at this
   exact h
  have M2:=M.aR oR λj hj=>(Vm j hj).1
  have Ns:∀j,j<H.length->j≠bi:=λj hj hh=>(Vm j hj).2 (by simp[cg,hh])
  have B2:Tu h2 bi ep (iR x) vo vk vb ids:=⟨⟨.m,hbi,.inl rfl⟩,λh=>Ns bi (M.oo.oU bi h) rfl,λh=>Ns bi (M.ok.oU bi h) rfl,λh=>Ns bi (M.ob.oU bi h) rfl,λh=>Ns bi (M.CK.lt bi h) rfl⟩;clear Vm Ns hbi;have WO:=BK (l:=iR x) (by intro n hn;rcases aa9.1 hn with h |h;exact hx8 n h;simp at h;omega) 0;have aaP:(eN (iR x))[0+0]?=some (.int .u8 (gr (iR x) 0:Int)):=np (by simp[iR]);have ht3:((gr (iR x) 0:Nat):Int).tmod 3=((gr (iR x) 0 % 3:Nat):Int):=Jy _ 3;have hlen:2<=(eN (iR x)).length:=by simp[iR]
  refine wA ?_;refine dw.zip T6 (List.range (gr (iR x) 0 % 3)) (λa r L K=>∃PC,L=[(0,.aa false (dZ bs)),(3,vo),(4,PC),(5,vb),(6,.int .i64 p.length),(7,.aj bi ep 0 (eN (iR x)).length),(8,.int .i64 a.length)]/\Ih K vo PC vb ⟨(cP p).kn++Ln (iR x) (cP p).bd a.length,(cP p).bd,(cP p).out⟩ ids es/\Tu K bi ep (iR x) vo PC vb ids) (.nx ⟨_,rfl,by simpa[Ln]using M2,B2⟩) ?_ ?_
  ·rintro a k r _ K Y e3 ⟨PC,rfl,M3,B3⟩;have hk2:=congrArg List.length e3;simp only[aba,abg,List.length_range]at hk2;obtain⟨mu,hmb,oZ⟩:=B3.at_;have Az:mu≠Mu.x:=by rcases oZ with rfl |rfl <;>simp
   have hK:=M3.hr;refine wA ?_;refine .ex (xD K hK) (λh' hE=>?_);obtain⟨J,hJ,rfl⟩:=hE;have M4:=M3.aR (hK.dg hJ) (λj hj=>aa3 hj);have B4:=B3.aR (H':=K++J) (λj hj=>aa3 hj);clear M3 B3;have aaJ:(cP p).bd.length<=1000:=by have:=(nm _ p rfl).bl;omega
   have hfb:=(nm _ p rfl).bf;rcases M4.ob with⟨rfl,rU⟩|⟨ib,eb,rfl,E6⟩
   case' inl=>
    refine wA ?_;refine .nn ?_ rfl;have lC:(cP p).bd=[]:=abj (by have:=congrArg List.length rU;simpa using this);obtain⟨r',QN⟩:∃r,r=PV.aa true (ae tI):=⟨_,rfl⟩;rw[<-QN];have WQ:Ls (3+1) (K++J) r' (ae (tI++(cP p).bd)):=.inr ⟨true,by rw[QN,lC,abv]⟩;have Yv:∀j∈cg r',j∉cg vo/\j∉cg PC/\j∉cg (.aa true [])/\j∉ids:=by rw[QN];simp[cg]
    have M5:=M4;have B5:=B4;have Yw:=M4.hr;generalize K++J=HH at *;clear M4 B4
   case' inr=>
    obtain⟨r',J2,ha,WQ,Qe,Yr,_⟩:=FK T6 (lv:=2) (by omega) (H:=K++J) (st:=31) (xt:=31) (es:=ae tI) (u:=.aj ib eb 0 (ae (cP p).bd).length) (ys:=ae (cP p).bd) rfl rfl rfl rfl rfl (by decide) rfl rfl M4.ob.cf (iS _) (iS _) (by rw[ak,ak,mq];omega);have Yw:HR (K++J++J2):=M4.hr.dg (by rcases Qe with rfl |rfl;exact HV.nil;exact HV.one (by simp));have M5:=M4.aR Yw (λj hj=>aa3 hj);have B5:=B4.aR (H':=K++J++J2) (λj hj=>aa3 hj);rw[<-cc]at WQ
    have Yv:∀j∈cg r',j∉cg vo/\j∉cg PC/\j∉cg (.aj ib eb 0 (ae (cP p).bd).length)/\j∉ids:=λj hj=>by
     have h0:=Yr j hj;exact⟨λh=>by have:=M4.oo.oU j h;omega,λh=>by have:=M4.ok.oU j h;omega,λh=>by have:=M4.ob.oU j h;omega,λh=>by have:=M4.CK.lt j h;omega⟩
    refine wA ?_;refine .mk (λrun Y=>vE rfl rfl ha) ?_;generalize K++J++J2=HH at *;clear ha Qe Yr M4 B4
   all_goals
    obtain⟨mu2,Vn,Vo⟩:=B5.at_;have QO:=qy (iR x) (tI++(cP p).bd) 170 (by intro n hn;rcases aa9.1 hn with h |h;exact hx8 n h;simp at h;omega) (by simp[iR];omega) (by simp[mq];omega) (by simp[mq];omega) ((BF.mono (by omega)).c8 hfb) 2 1 (1+3 * a.length) rfl (by omega)
    push_cast at QO
    rw[aw]at QO;refine wA ?_;refine xH Vn Vo WQ QO (λh' z=>?_)
    have M6:=M5.Pz z (λj hj=>by
     rcases abc.1 hj with rfl |hj;exact B5.nb;exact Yv j hj)
    have B6:=B5.Pz z;clear M5 B5 z QO;have FU:(cP p).kn.length<=1000:=by have:=(nm _ p rfl).kl;omega
    have hks:=Nd (iR x) (cP p).bd a.length;have hkn:=vY (iR x) (cP p).bd a.length;obtain⟨r1,G1,r2,G2,cp⟩:=Yo M6.hr M6.ok (by simp;omega) (ia (iR x) (tI++(cP p).bd) 2 (1+3 * a.length)).1;generalize ia (iR x) (tI++(cP p).bd) 2 (1+3 * a.length)=gg at *;obtain⟨g,gn⟩:=gg;dsimp only at *;refine wA ?_;refine .calm ?_ _ (HQ (λ_=>rfl) rfl (by simp) cp.nl (λrun Y=>?_)) ?_
    rotate_left
    ·refine(rT (Xu rfl rfl rfl (Qf T6 (by exact rfl) rfl))).trans ?_;refine(rT (kP T6 (by exact rfl))).trans ?_;refine(rT (SX rfl rfl rfl rfl (vE rfl rfl cp.Ql) cp.le1 cp.kp1)).trans ?_;refine(rT (kLd T6 (v:=.agg [.int .i64 g.k,.str g.s,.int .i64 g.o,.aa false (ae g.l)]) rfl cp.at0 (by simp) (by(conv=>whnf);exact .mk (o:=⟨.l,0,4,[.agg [.int .i64 g.k,.str g.s,.int .i64 g.o,.aa false (ae g.l)]]⟩) (.go (.mk (.go (by conv=>whnf)) rfl)) (bm cp.at1 rfl (by simp))))).trans ?_;refine(rT (Xu rfl rfl rfl (Qf T6 (by exact rfl) (by simp)))).trans ?_;refine(rT (SX rfl rfl rfl rfl (vE rfl rfl cp.Qm) cp.le2 cp.kp2)).trans ?_;refine(rT (kP T6 (by exact rfl))).trans ?_;exact rfl
    ·refine wA ?_;have M7:=M6.aR cp.hr cp.fr;have B7:=B6.aR cp.fr;refine .nx ⟨r2,rfl,⟨M7.hr,M7.oo,M7.CK,?_,M7.ob,λi hi=>⟨λh=>?_,(M7.d1 i hi).2⟩,λi hi=>⟨λh=>?_,(M7.d2 i hi).2⟩⟩,B7.at_,B7.nb.1,λh=>?_,B7.nb.2.2⟩
     ·have:=cp.out;rw[aba,List.length_singleton,hks,<-abu];exact this
     have:=cp.vd i h;have:=M6.oo.oU i hi;omega;have:=cp.vd i h;have:=M6.ob.oU i hi;omega
     ·have:=cp.vd bi h;obtain⟨_,e9,_⟩:=B6.at_;have:=ag e9;omega
  ·rintro _ K Y ⟨PC,rfl,M3,B3⟩;obtain⟨mu,hmb,oZ⟩:=B3.at_;have Az:mu≠Mu.x:=by rcases oZ with rfl |rfl <;>simp
   have hK:=M3.hr;have hrl:(List.range (gr (iR x) 0 % 3)).length=gr (iR x) 0 % 3:=List.length_range;rw[hrl]at M3 ⊢;refine wA ?_;refine .ex (xD K hK) (λh' hE=>?_);obtain⟨J,hJ,rfl⟩:=hE;have Yw:HR (K++J++[⟨.m,0,4,ae tI++ae rB⟩]):=(hK.dg hJ).dg (HV.one (by simp));have M4:=(M3.aR (hK.dg hJ) (λj hj=>aa3 hj)).aR Yw (λj hj=>aa3 hj);have B4:=(B3.aR (H':=K++J) (λj hj=>aa3 hj)).aR (H':=K++J++[⟨.m,0,4,ae tI++ae rB⟩]) (λj hj=>aa3 hj)
   have hvK:∀j,(K++J).length<=j->j∉cg vo/\j∉cg PC/\j∉cg vb/\j∉ids:=λj hj=>by
    have h0:K.length<=j:=by simp at hj;omega
    exact⟨λh=>by have:=M3.oo.oU j h;omega,λh=>by have:=M3.ok.oU j h;omega,λh=>by have:=M3.ob.oU j h;omega,λh=>by have:=M3.CK.lt j h;omega⟩
   clear M3 B3;have dv:=JF;refine wA ?_;refine .p dv ?_;refine wA ?_;refine .sn (es:=ae tI) ?_ rfl (by rw[ak,ak,mq,sL];omega)
   have WQ:Ls 4 (K++J++[⟨.m,0,4,ae tI++ae rB⟩]) (.aj (K++J).length 0 0 ((ae tI).length+(ae rB).length)) (ae (tI++rB)):=by
    rw[cc];exact .inl (.inr ⟨(K++J).length,0,by rw[show(ae tI++ae rB).length=(ae tI).length+(ae rB).length from aba],by rw[abd (aa5 _)];simp⟩)
   obtain⟨mu2,Vn,Vo⟩:=B4.at_;have QO:=qy (iR x) (tI++rB) 20 (by intro n hn;rcases aa9.1 hn with h |h;exact hx8 n h;simp at h;omega) (by simp[iR];omega) (by simp[mq];omega) (by simp[mq,sL]) (BF.c8 xz) 2 1 7 rfl (by omega);rw[aw]at QO;refine wA ?_;refine xH Vn Vo WQ QO (λh' z=>?_)
   have M6:=M4.Pz z (λj hj=>by
    rcases abc.1 hj with rfl |hj;exact B4.nb
    ·simp[cg]at hj;exact hvK j (by simp;omega))
   have B6:=B4.Pz z;clear M4 B4 WQ hvK Yw z;have mg:JG (iR x):=by intro n hn;rcases aa9.1 hn with h |h;exact hx8 n h;simp at h;omega
   have Yx:=BK mg 1;have aaQ:(eN (iR x))[0+1]?=some (.int .u8 (gr (iR x) 1:Int)):=np (by simp[iR]);have hq3:((gr (iR x) 0:Nat):Int).tdiv 3=((gr (iR x) 0 / 3:Nat):Int):=UE _ 3;have hqt:(((gr (iR x) 0:Nat):Int).tdiv 3).tmod 3=((gr (iR x) 0 / 3 % 3:Nat):Int):=by rw[hq3];exact Jy _ 3
   have Tr:=xF (l:=rB) (i:=gr (iR x) 1 % 4) (by rw[sL];omega);have hT:Vb (iR x)=if gr (iR x) 0 / 3 % 3=0 then rB.getD (gr (iR x) 1 % 4) fL else(ia (iR x) (tI++rB) 2 7).1:=rfl;have hTo:=Nf (iR x);have hfo:=uS p x;generalize ia (iR x) (tI++rB) 2 7=gg at *;obtain⟨g0,gn⟩:=gg;dsimp only at *;generalize rB.getD (gr (iR x) 1 % 4) fL=g1 at *;rw[aw]at Tr;obtain⟨mu3,aaR,mh⟩:=B6.at_;have aaS:mu3≠Mu.x:=by rcases mh with rfl |rfl <;>simp
   have hRc:HR (h'++[⟨.m,0,4,[.agg [.int .i64 g0.k,.str g0.s,.int .i64 g0.o,.aa false (ae g0.l)]]⟩]):=M6.hr.dg (HV.one (by simp))
   by_cases hz:gr (iR x) 0 / 3 % 3=0
   case' pos=>
    rw[if_pos hz]at hT;refine wA ?_;refine .raw _ (Th (by omega) (by omega)) ?_;refine wG ?_;refine .mk ?_;refine wG ?_;refine .mk _ (by simpa[aU,bW]using dv) ?_;refine wG ?_;clear hRc;generalize g1=g at *
   case' neg=>
    rw[if_neg hz]at hT;refine wA ?_;refine .raw _ (Th (by omega) (by omega)) ?_;refine wG ?_;clear hRc;generalize g0=g at *
   all_goals
    have hRc:HR (h'++[(⟨.m,0,4,[.agg [.int .i64 g.k,.str g.s,.int .i64 g.o,.aa false (ae g.l)]]⟩:au)]):=M6.hr.dg (HV.one (by simp));have dG:=hRc.closed;have ok:=nm _ p rfl;have FU:=ok.kl;have hol:=ok.ol;have CA:=ok.bl;have hkn:=vY (iR x) (cP p).bd (gr (iR x) 0 % 3);obtain⟨w,J1,u,G3,r2,G2,cp⟩:=kL M6 (by simp;omega) (by dsimp only;omega) g;have M7:=cp.md;have hR7:=M7.hr;have jB:=cp.cell;have Ij:=qA g (by rw[<-hT];omega);have MZ:=ak (bz g);have hgb:az g<=170:=by rw[<-hT];exact hTo.2
    have hbv:=fj g;have qn:=ak (cP p).bd;rw[aw]at Ij;refine .raw (λY'=>?_);refine D.move rfl ?_;refine .Nq (h'++[(⟨.m,0,4,[.agg [.int .i64 g.k,.str g.s,.int .i64 g.o,.aa false (ae g.l)]]⟩:au)]) [] (h'++[(⟨.m,0,4,[.agg [.int .i64 g.k,.str g.s,.int .i64 g.o,.aa false (ae g.l)]]⟩:au)]) [] ⟨0,λn _=>JK T6 (vs:=[]) (by exact rfl) rfl⟩ ?_ (by simp) rfl (qw _ _) (by simp) dG rfl rfl;refine D.move rfl ?_;refine .Nq (h'++[(⟨.m,0,4,[.agg [.int .i64 g.k,.str g.s,.int .i64 g.o,.aa false (ae g.l)]]⟩:au)]) J1 (h'++[(⟨.m,0,4,[.agg [.int .i64 g.k,.str g.s,.int .i64 g.o,.aa false (ae g.l)]]⟩:au)]++J1) (List.replicate J1.length 3) ⟨0,λn _=>vE rfl rfl cp.Ql⟩ ?_ rfl (by simp) (qw _ _) (by simp) dG (by show(true&& (bw (aO (h'++[(⟨.m,0,4,[.agg [.int .i64 g.k,.str g.s,.int .i64 g.o,.aa false (ae g.l)]]⟩:au)])) PC &&true))=true;rw[cp.vkv];rfl) cp.jl;refine .Nq (h'++[(⟨.m,0,4,[.agg [.int .i64 g.k,.str g.s,.int .i64 g.o,.aa false (ae g.l)]]⟩:au)]++J1.map ez) [] (h'++[(⟨.m,0,4,[.agg [.int .i64 g.k,.str g.s,.int .i64 g.o,.aa false (ae g.l)]]⟩:au)]++J1) (List.replicate J1.length 3) ⟨0,λn _=>Gc T6 (v:=.agg [.int .i64 g.k,.str g.s,.int .i64 g.o,.aa false (ae g.l)]) rfl (Ii (mu:=.m) (n:=4) (by simp) (by simp) rfl rfl rfl)⟩ ?_ (by simp) (by simp) (ug rfl) (by simp) (pQ dG) (by show(aO (h'++[(⟨.m,0,4,[.agg [.int .i64 g.k,.str g.s,.int .i64 g.o,.aa false (ae g.l)]]⟩:au)]++J1.map ez) h'.length&&true)=true;simp[aO]) rfl
    rcases cp.ow with⟨hw,_⟩|⟨iw,ew,hw,_⟩ <;>subst hw
    all_goals
     refine aZ.sP T6 ?_
     conv=>whnf
     skip
     refine aZ.two rfl ?_ ⟨0,λn _=>Yk T6 (z:=5) ?_ cp.bs⟩ ?_
     rfl
     exact⟨rfl,rfl⟩;refine aZ.two rfl rfl ⟨0,λn _=>vE rfl rfl cp.Qm⟩ ?_;refine D.assign rfl ?_;refine aZ.nil ⟨_,_,rfl,?_⟩
     conv=>whnf
     refine wA ?_;refine .p Ij ?_;refine wA ?_;refine .lr (λvb3 H3 l3=>?_) M7.ob (iS _) (by dsimp only;omega) (bt _ _ (by simp));refine wA ?_;have Yy:cP (p++[x])=⟨(cP p).kn++Ln (iR x) (cP p).bd (gr (iR x) 0 % 3),(cP p).bd++bz g,(cP p).out++[⟨(cP p).kn++Ln (iR x) (cP p).bd (gr (iR x) 0 % 3),g⟩]⟩:=by rw[hfo,uf,hT]
     have M8:=M7.CH l3;dsimp only at M8;rw[<-Yy]at M8;exact .nx ⟨r2,PC,vb3,_,_,rfl,M8⟩
 ·rintro _ H Y ⟨vo,vk,vb,ids,es,rfl,M⟩;have hl6:(bs.take 5).length=min 5 bs.length:=by simp
  refine wC (λhc=>?_) λhc=>?_
  all_goals exact⟨_,_,_,_,M⟩
end bh
variable[iD:Inhabited Prop]
theorem ba.X8{w w':World}{F:Nat->Prop}{Z:List (Nat×Nat)}{h:ab}(H:ba w F Z h)(g:dD w w'){b cap:Nat}{o:au}(hb:w.heap.size<=b)(hm:o.mu=.m)
  (hR:dU w h Z w' (h++[o]) (Z++[(b,cap)])->jK w' (Av F (h++[o]) (Z++[(b,cap)])) (Z++[(b,cap)]) (h++[o]) o (b,cap)):
  ba w' F (Z++[(b,cap)]) (h++[o])/\dU w h Z w' (h++[o]) (Z++[(b,cap)]):=by
 have hlen:=H.len
 have hC:∀id,id<h.length->(h++[o])[id]?=h[id]?/\(Z++[(b,cap)])[id]?=Z[id]?:=λid hid=>
  ⟨aa3 hid,aa3 (by omega)⟩
 have at_new:(h++[o])[h.length]?=some o/\(Z++[(b,cap)])[h.length]?=some (b,cap):=by
  constructor
  simp;rw[<-hlen];simp
 have split:∀id (o':au) (cK:Nat×Nat),(h++[o])[id]?=some o'->(Z++[(b,cap)])[id]?=some cK->
   (id<h.length/\h[id]?=some o'/\Z[id]?=some cK)\/(id=h.length/\o'=o/\cK=(b,cap)):=by
  intro id o' cK e1 e2
  by_cases hid:id<h.length
  ·left;rw[(hC id hid).1]at e1;rw[(hC id hid).2]at e2;exact⟨hid,e1,e2⟩
  ·right
   have:id<(h++[o]).length:=ag e1;obtain rfl:id=h.length:=by simp at this;omega
   rw[at_new.1]at e1;rw[at_new.2]at e2;exact⟨rfl,(aa2 e1).symm,(aa2 e2).symm⟩
 have hs:dU w h Z w' (h++[o]) (Z++[(b,cap)]):=by
  refine⟨g.size,by simp,λc hc _=>g.aR c hc,?_,?_,?_,g.os,g.tape,g.output,g.drawn⟩
  ·rintro c hc ⟨id,o',cK,e1,e2,e3,rfl⟩;rcases split id o' cK e1 e2 with⟨_,f1,f2⟩|⟨_,rfl,rfl⟩;exact⟨id,o',cK,f1,f2,e3,rfl⟩;simp at hc;omega
  ·intro id o' cK e1 e2 e3
   have hid:=ag e1;exact⟨o',cK,by rw[(hC id hid).1];exact e1,by rw[(hC id hid).2];exact e2,e3,⟨aa5 _,λh=>h⟩,λ_=>⟨rfl,λ_=>rfl,rfl⟩⟩
  ·intro id o' e1 _
   have hid:=ag e1;exact⟨by rw[(hC id hid).1];exact e1,(hC id hid).2⟩
 refine⟨⟨by simp[hlen],λc hc=>abO (H.fin c hc) g.size,?_,?_,?_,H.fA.Cy hs⟩,hs⟩
 ·intro id o' cK e1 e2 e3
  rcases split id o' cK e1 e2 with⟨_,f1,f2⟩|⟨_,rfl,rfl⟩
  ·have r:=H.obj id o' cK f1 f2 e3;exact jK.mono hs (g.aR _ r.lt) r
  exact hR hs
 ·intro id dF o1 o2 HX xp bN e1 e2 e3 e4 m1 m2
  rcases split id o1 HX e1 e3 with⟨_,f1,f2⟩|⟨hid,rfl,rfl⟩ <;>rcases split dF o2 xp e2 e4 with⟨_,g1,g2⟩|⟨Qw,rfl,rfl⟩
  exact H.gY id dF o1 o2 HX xp bN f1 g1 f2 g2 m1 m2
  ·have:=Mb.lt H ⟨id,o1,HX,f1,f2,m1,rfl⟩;simp;omega
  ·have:=(H.obj dF o2 xp g1 g2 m2).lt;simp;omega
  omega
 ·intro id o' cK e1 e2 e3
  rcases split id o' cK e1 e2 with⟨_,f1,f2⟩|⟨_,rfl,rfl⟩;exact H.out id o' cK f1 f2 e3
  intro hf;have:=H.fin _ hf;simp at this;omega
theorem JB{C:cG}(K:eY C)(KC:iB C){n:Nat}{f:FuncId}(hk:∀(fn:Func) (c:Code),C.P.funcs[f]?=some fn->fn.body=some c->codeOk fn.ntmps c=true)
  {args:List PV} (hv:ao args=true) {id ep:Nat} {hc:ab} {o:au} (e:fa C (n+1) f args []=some (.aj id ep 0 o.es.length,hc)) (ho:hc[id]?=some o) (hm:o.mu=.m) (MA:o.ep=ep)
  {es':List PV} (hl:es'.length=o.es.length)
  (jB:∀(i:Nat) (x y:PV),o.es[i]?=some x->es'[i]?=some y->(cells y).length=(cells x).length/\∀(j:Nat) (p q:PV),(cells x)[j]?=some p->(cells y)[j]?=some q->id∉rX p/\∃q0,oE hc p=some q0/\bW q0=q)
  {h:ab} {w:World} {F:Nat->Prop} {Z:List (Nat×Nat)} {vs:List Value} (H:ba w F Z h) (ha:L2 (aE w (Av F h Z) Z h) vs args):
  kM C.P 2 w F Z h f vs (.aj h.length 0 0 o.es.length) (h++[⟨.m,0,o.bA,es'⟩]):=by
 have hA:∀b,Av F h Z b->b<w.heap.size:=λb hb=>Av.lt H hb
 have T8:∀b,Av (Av F h Z) [] [] b↔Av F h Z b:=λb=>⟨λhh=>hh.elim (λx=>x) (λhh=>absurd hh (mS b)),.inl⟩
 have kF:L2 (aE w (Av (Av F h Z) [] []) [] []) vs args:=⟨ha.1,λj hj=>.val (((ha.2 j hj).EZ (by
  rw[bj]at hv;exact aa4.1 hv _ (by rw[abt,aa6 hj];simp))).kL (λb hb=>(T8 b).1 hb))⟩
 refine(rA K KC (pu K KC n) hk args [] _ hc e w (Av F h Z) [] vs (ba.empty w _ hA H.fA) kF).mono ?_;rintro en w' ⟨v,Z',rfl,q1,q2,q3,_⟩;have g:=mi q3;obtain⟨bc,hb⟩:=db q2.len ho;obtain⟨h1,h2,h3⟩:=q1.dL;obtain⟨cap,rfl,c2⟩:=h3 o bc ho hb (by rw[hm];simp) MA (by simp);obtain⟨T,sb,k1,k2,k3,k4,k5⟩:=(q2.obj id o bc ho hb (by rw[hm];simp)).c (h2 o ho).2
 have F3:w.heap.size<=bc.1:=by
  rcases abJ bc.1 w.heap.size with cL |z7;exact absurd (q3.shr _ cL ⟨id,o,bc,ho,hb,hm,rfl⟩) (mS _);exact z7
 obtain⟨r1,r2⟩:=H.X8 (o:=⟨.m,0,o.bA,es'⟩) (cap:=bc.2) g F3 rfl (λhs=>.inl ⟨T,sb,k1,by simpa[hl]using k2,k3,k4,λi y hy=>by
  have hi:i<o.es.length:=by have:=ag hy;simp only at this;omega
  have hx:=aa6 hi;obtain⟨n1,n2⟩:=k5 i _ hx;obtain⟨m1,m2⟩:=jB i _ y hx hy;refine⟨by simp only;omega,λj q hq=>?_⟩;have hj:j<(cells o.es[i]).length:=by have:=ag hq;omega
  have hp:=aa6 hj;obtain⟨u,u1,u2⟩:=n2 j _ hp;obtain⟨t1,q0,t2,rfl⟩:=m2 j _ q hp hq;refine⟨u,u1,.val (Bq q2 (A':=Av F (h++[⟨.m,0,o.bA,es'⟩]) (Z++[(bc.1,bc.2)])) ?_ u2 t2 ?_).bW⟩
  ·intro b hbw LJ tL
   refine LJ ?_;rcases tL with tL |⟨dF,o',cK,e1,e2,e3,rfl⟩;exact .inl (.inl tL)
   ·by_cases hid:dF<h.length
    ·rw[aa3 hid]at e1;rw[aa3 (by have:=H.len;omega)]at e2;exact .inl (.inr ⟨dF,o',cK,e1,e2,e3,rfl⟩)
    ·obtain rfl:dF=h.length:=by have:=ag e1;simp at this;omega
     rw[<-H.len]at e2;simp at e2;subst e2;exact .inr ⟨id,o,bc,ho,hb,hm,rfl⟩
  ·rintro id2 o2 xp rp e2 b2 EY hav;have bN:id≠id2:=λhh=>t1 (by rw[hh];exact rp)
   have Aa:¬Av F h Z xp.1:=q2.out id2 o2 xp e2 b2 EY;rcases hav with tL |⟨dF,o',cK,e1,e3,e4,e5⟩;exact Aa (.inl tL)
   ·by_cases hid:dF<h.length
    ·rw[aa3 hid]at e1;rw[aa3 (by have:=H.len;omega)]at e3;exact Aa (.inr ⟨dF,o',cK,e1,e3,e4,e5⟩)
    ·obtain rfl:dF=h.length:=by have:=ag e1;simp at this;omega
     rw[<-H.len]at e3;simp at e3;subst e3;exact q2.gY id id2 o o2 bc xp bN ho e2 hb b2 hm (by rcases EY with h |h <;>rw[h] <;>simp) e5⟩)
 have c3:cap=bc.2:=by omega
 subst c3;refine⟨_,Z++[(bc.1,bc.2)],rfl,?_,r1,r2,λhh=>by omega⟩;refine r1.X9 ⟨_,_,_,rfl⟩ (by simp) ?_ ?_ ?_
 ·intro o' h'
  simp at h';subst h';exact⟨aa5 _,(h2 o ho).2⟩
 ·intro o' h'
  simp at h';subst h';simp
 ·intro o' cK h' b' _ _
  simp at h';rw[<-H.len]at b';simp at b';subst b';refine⟨bc.2,by simp,by simp⟩
theorem Qx{w:World}{A:Nat->Prop}{v:Value}{f:Bool}{es:List PV}(h:bZ w A v (.aa f es)):bZ w A v (.aa false es):=by
 cases h with
 |gp a cap _ hf=>exact .gp a cap false (λh=>by cases h)
 |aa b off cap sz _ _ oP h1 h2 h3 h4 h5 h6 h7 h8=>exact .aa b off cap sz false es oP h1 h2 (λh=>by cases h) h4 h5 h6 h7 h8
theorem MQ{C:cG}(K:eY C)(KC:iB C){n:Nat}{f:FuncId}(hk:∀(fn:Func) (c:Code),C.P.funcs[f]?=some fn->fn.body=some c->codeOk fn.ntmps c=true)
  {args:List PV} (hv:ao args=true) {r0 r1:PV} {hc:ab} (e:fa C (n+1) f args []=some (r0,hc)) (h1:Bm hc r0=some r1)
  {h:ab} {w:World} {F:Nat->Prop} {Z:List (Nat×Nat)} {vs:List Value} (H:ba w F Z h) (ha:L2 (aE w (Av F h Z) Z h) vs args):kM C.P 2 w F Z h f vs (bW r1) h:=by
 have hA:∀b,Av F h Z b->b<w.heap.size:=λb hb=>Av.lt H hb
 have T8:∀b,Av (Av F h Z) [] [] b↔Av F h Z b:=λb=>⟨λhh=>hh.elim (λx=>x) (λhh=>absurd hh (mS b)),.inl⟩
 have kF:L2 (aE w (Av (Av F h Z) [] []) [] []) vs args:=⟨ha.1,λj hj=>.val (((ha.2 j hj).EZ (by
  rw[bj]at hv;exact aa4.1 hv _ (by rw[abt,aa6 hj];simp))).kL (λb hb=>(T8 b).1 hb))⟩
 refine(rA K KC (pu K KC n) hk args [] _ hc e w (Av F h Z) [] vs (ba.empty w _ hA H.fA) kF).mono ?_;rintro en w' ⟨v,Z',rfl,q1,q2,q3,_⟩;have g:=mi q3;refine⟨v,Z,rfl,.val ?_,H.I3 g,g.Cy h Z,λhh=>by omega⟩;refine(Br q2 (λb _ hb ha=>hb (.inl ha)) q1 h1 (λid o bc m1 m2 m3=>?_)).bW;rcases m3 with m3 |m3;exact q2.out id o bc m1 m2 (.inl m3);exact q2.out id o bc m1 m2 (.inr m3)
def LG(md:FuncId->Mode)(ps:List (FuncId× (List PV->ab->Option (PV×ab))))(f:FuncId):Mode:=match ps.lookup f with |some g=>.cD g |none=>md f
def T4(C:cG)(ps:List (FuncId× (List PV->ab->Option (PV×ab)))):cG:=⟨C.P,LG C.mode ps⟩
theorem jI(md:FuncId->Mode)(ps:List (FuncId× (List PV->ab->Option (PV×ab))))(f:FuncId):(∃g,(f,g)∈ps/\LG md ps f=.cD g)\/LG md ps f=md f:=by
 unfold LG
 cases h:ps.lookup f with
 |none=>exact .inr rfl
 |some g=>exact .inl ⟨g,bh.wy h,rfl⟩
theorem wz{md:FuncId->Mode}{ps:List (FuncId× (List PV->ab->Option (PV×ab)))}(hn:∀x∈ps,md x.1=.no):wM md (LG md ps):=λf=>by
 rcases jI md ps f with⟨g,h,_⟩|h;exact .inl (hn _ h);exact .inr h.symm
theorem PQ {C : cG} {ps : List (FuncId × (List PV → ab → Option (PV × ab)))} (K : eY C) (hs : ∀ x ∈ ps, eE C.P x.1 x.2) (hf : ∀ x ∈ ps, ∃ fn, C.P.funcs[x.1]? = some fn ∧ fn.body.isSome = true ∧ (fn.name == "runtime.NumGoroutine") = false) : eY (T4 C ps) where
 enters f Wp bN:=by
  rcases jI C.mode ps f with⟨g,h,_⟩|h;exact hf _ h;exact K.enters f (λh2=>Wp (h.trans h2)) (λg h2=>bN g (h.trans h2))
 pf f g hh:=by
  rcases jI C.mode ps f with⟨g',_,h⟩|h
  cases h.symm.trans hh
  exact K.pf f g (h.symm.trans hh)
 cD f g hh:=by
  rcases jI C.mode ps f with⟨g',h1,h⟩|h
  ·obtain rfl:=Mode.cD.inj (h.symm.trans hh);exact hs _ h1
  exact K.cD f g (h.symm.trans hh)
 ext f g hh:=by
  rcases jI C.mode ps f with⟨g',_,h⟩|h
  cases h.symm.trans hh
  exact K.ext f g (h.symm.trans hh)
theorem Fc{C:cG}{ps:List (FuncId× (List PV->ab->Option (PV×ab)))}(K:iB C):iB (T4 C ps) where
 mixed:=K.mixed
 sa f fn c hm hf hb:=by
  rcases jI C.mode ps f with⟨g',_,h⟩|h;rcases hm with hm |hm <;>cases h.symm.trans hm
  exact K.sa f fn c (hm.imp (λh2=>h.symm.trans h2) (λh2=>h.symm.trans h2)) hf hb
theorem ai.prL{C:cG}{f:FuncId}{g:List PV->ab->Option (PV×ab)}{args:List PV}{h:ab}{r:PV}{h':ab}{Q:PV->ab->Prop}(hg:g args h=some (r,h'))(q:Q r h')(hm:C.mode f=.cD g:=by rfl):ai C 2 f args h Q:=
 ⟨r,h',q,0,λn _=>by unfold di;rw[hm];simp only[dI,aa5,if_true,hg]⟩
end Go.Pm
namespace Go.Pm
namespace Wz
open Go.Proofs
variable[iD:Inhabited Prop]
set_option maxRecDepth 4000
def okB(bs:List (List Nat)):Prop:=(∀b∈bs,JG b/\b.length<1000000)/\bs.length<1000000
theorem Ec:∀{a b:List Nat},eN a=eN b->a=b
 |[],[],_=>rfl
 |[],_::_,h=>by simp[eN]at h
 |_::_,[],h=>by simp[eN]at h
 |x::a,y::b,h=>by
  simp only[eN,abk,List.cons.injEq,PV.int.injEq,true_and]at h;rw[Ec (a:=a) (b:=b) h.2,Int.ofNat_inj.1 h.1]
theorem AR:∀{a b:List (List Nat)},dZ a=dZ b->a=b
 |[],[],_=>rfl
 |[],_::_,h=>by simp[dZ]at h
 |_::_,[],h=>by simp[dZ]at h
 |x::a,y::b,h=>by
  simp only[dZ,abk,List.cons.injEq,PV.aa.injEq,true_and]at h;rw[AR (a:=a) (b:=b) h.2,Ec h.1]
open Classical in
noncomputable def pC:List PV->ab->Option (PV×ab)
 |[.aa _ es],h=>if hx:∃bs,es=dZ bs/\okB bs then
   (if fM (Classical.choose hx)=[]then some (.aa false [],h)else some (.aj h.length 0 0 (aQ (fM (Classical.choose hx))).length,h++[⟨.m,0,5,aQ (fM (Classical.choose hx))⟩]))else none
 |_,_=>none
theorem RA{bs:List (List Nat)}(hb:okB bs)(f:Bool)(h:ab):pC [.aa f (dZ bs)] h=if fM bs=[]then some (.aa false [],h)else some (.aj h.length 0 0 (aQ (fM bs)).length,h++[⟨.m,0,5,aQ (fM bs)⟩]):=by
 have hx:∃bs',dZ bs=dZ bs'/\okB bs':=⟨bs,rfl,hb⟩;have hc:Classical.choose hx=bs:=(AR (Classical.choose_spec hx).1).symm;simp only[pC,dif_pos hx,hc]
theorem vZ.cells{h:ab}{ids:List Nat}{es:List PV}{ds:List cW}(n:vZ h ids es ds){id:Nat}:id∉ids->∀(i:Nat) (x y:PV),es[i]?=some x->(aQ ds)[i]?=some y->
  (Pm.cells y).length=(Pm.cells x).length/\∀(j:Nat) (p q:PV),(Pm.cells x)[j]?=some p->(Pm.cells y)[j]?=some q->id∉rX p/\∃q0,oE h p=some q0/\bW q0=q:=by
 induction n with
 |nil=>intro _ i x y hx;simp at hx
 |snoc n o ih=>
  rename_i ids es ds w d
  intro hn i x y hx hy
  have hl:=n.len;have cz:=cj ds;have he:aQ (ds++[d])=aQ ds++[jz d]:=by simp[aQ]
  rw[he]at hy
  by_cases hi:i<es.length
  ·rw[aa3 hi]at hx;rw[aa3 (by omega)]at hy;exact ih (λhh=>hn (by simp[hh])) i x y hx hy
  ·obtain rfl:i=es.length:=by have:=ag hx;simp at this;omega
   rw[abd (aa5 _),acz]at hx;rw[abd (by omega),show es.length - (aQ ds).length=0 by omega]at hy;simp only[ab0,abw]at hx hy;subst hx hy;refine⟨rfl,λj p q hp hq=>?_⟩;have nr:∀l:List Tm,bW (.aa false (ae l))=.aa false (ae l):=λl=>by simp[bW,bg]
   rw[jz]at hq
   match j with
   |0=>
    simp only[Pm.cells,ab0,abw]at hp hq;subst hp hq;rcases o with⟨rfl,h0⟩|⟨k,ep,rfl,hk⟩
    ·rw[h0];exact⟨by simp[rX],_,rfl,by simp[bW,aU]⟩
    ·refine⟨λhh=>hn (by simp[rX]at hh;simp[cg,hh]),.aa false (ae d.kn),?_,nr _⟩;have hg:=bm hk rfl (by simp);have ht:List.take d.kn.length (ae d.kn)=ae d.kn:=abo (by simp);simp[oE,hg,ht]
   |1=>
    simp only[Pm.cells,acf,ab0,abw]at hp hq;subst hp hq;exact⟨by simp[rX],_,rfl,rfl⟩
   |2=>
    simp only[Pm.cells,acf,ab0,abw]at hp hq;subst hp hq;exact⟨by simp[rX],_,rfl,rfl⟩
   |3=>
    simp only[Pm.cells,acf,ab0,abw]at hp hq;subst hp hq;exact⟨by simp[rX],_,rfl,rfl⟩
   |4=>
    simp only[Pm.cells,acf,ab0,abw]at hp hq;subst hp hq;exact⟨by simp[rX],.aa false (ae d.tm.l),by simp[oE],nr _⟩
   |j+5=>simp[Pm.cells]at hp
theorem AS(fn:Func)(c:Code)(h1:bh.C.P.funcs[19]?=some fn)(h2:fn.body=some c):codeOk fn.ntmps c=true:=by
 obtain rfl:=aa2 ((Tryz.func19).symm.trans h1);obtain rfl:=aa2 ((show _=some _ from rfl).symm.trans h2)
 kernel_rfl
theorem Mp:eE bh.C.P 19 pC:=by
 intro args h r h' e w F Z vs H ha
 unfold pC at e
 split at e
 ·rename_i fl es
  split at e
  ·rename_i hx
   obtain⟨gK,hb⟩:=Classical.choose_spec hx;generalize Classical.choose hx=bs at *;subst gK;obtain⟨r0,hc,⟨vk,vb,ids,es0,M⟩,n0,hn⟩:=bh.Nr bs hb.1 hb.2;have e1:=hn (n0+1) (by omega);have vC:ao [PV.aa false (dZ bs)]=true:=by simp[ao,aV]
   have ha2:L2 (aE w (Av F h Z) Z h) vs [.aa false (dZ bs)]:=⟨ha.1,λj hj=>by
    obtain rfl:j=0:=by simpa using hj
    have h0:=ha.2 0 (by simp);exact .val (Qx (h0.EZ (by simp[aV])))⟩
   have qN:(cP (bs.take 5)).out=fM bs:=rfl
   split at e
   ·rename_i h0
    obtain⟨rfl,rfl⟩:=abe (aa2 e);obtain⟨r1,e2,e3⟩:=M.CK.ret M.oo;have:=MQ bh.FH bh.xe AS vC e1 e2 H ha2;rw[show bW r1=.aa false [] by rw[e3,qN,h0];rfl]at this;exact this
   ·rename_i h0
    obtain⟨rfl,rfl⟩:=abe (aa2 e);have hl:=M.CK.len;rw[qN]at hl;have cz:=cj (fM bs);rcases M.oo with⟨_,gK⟩|⟨id,ep,rfl,hid⟩
    ·rw[gK]at hl;exact absurd (abj (by simpa using hl.symm)) h0
    ·have:=JB bh.FH bh.xe AS vC e1 hid rfl rfl (es':=aQ (fM bs)) (by simp only;omega) (λi x y hx hy=>vZ.cells M.CK ((M.d1 id (by simp[cg])).2.2) i x y hx hy) H ha2;simp only at this;rw[show es0.length=(aQ (fM bs)).length by omega]at this;exact this
  cases e
 cases e
end Wz
end Go.Pm
