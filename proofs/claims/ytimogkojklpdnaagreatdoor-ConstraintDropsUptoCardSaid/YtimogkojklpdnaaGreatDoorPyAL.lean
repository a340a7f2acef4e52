/-
  A part of the library Pm (joined by program). Conditions: none.
-/
import Derived.Test.YtimogkojklpdnaaGreatDoorPyAA
import Derived.Test.YtimogkojklpdnaaGreatDoorPyAK
import Derived.Test.YtimogkojklpdnaaGreatDoorPyAI
import Derived.Test.YtimogkojklpdnaaGreatDoorPyAG
import Derived.Test.YtimogkojklpdnaaGreatDoorPyAE
import Derived.Test.YtimogkojklpdnaaGreatDoorPyAD
import Derived.Test.YtimogkojklpdnaaGreatDoorPyAH
set_option linter.unusedVariables false
set_option linter.unusedSimpArgs false
set_option linter.unnecessarySimpa false
namespace Go.Pm
namespace bP
open Go.Proofs
attribute [local irreducible] aE az aI aJ Ev ah ai ax aW bZ
set_option maxRecDepth 4000
theorem QQ{h:ab}{k o:Int}{n:ByteArray}{l:List Tm}:∃r1,rb h (aY [.agg (List.take (3+1) (List.drop 0 (cells (.agg [.int .i64 k,.str n,.int .i64 o,.aa false (ae l)]))))])=some r1/\cf r1=.agg [.int .i64 k,.str n,.int .i64 o,.aa false (ae l)]:=by
 refine⟨.agg [.int .i64 k,.str n,.int .i64 o,.aa false (ae l)],?_,by simp[cf,aQ]⟩;simp[aY,rb,j',oz,qs,cells]
theorem PM{A B:List Tm}{x y:Tm}{n:Nat}(h:n=A.length):(A++x::B).set n y=A++y::B:=by
 subst h
 induction A with
 |nil=>rfl
 |cons a A ih=>simpa using ih
theorem lE{l:List Tm}(h0:l≠[])(hl:l.length<1000000000)(H:ab):bq 4 [.aa false (ae l)] H=some (.ak H.length 0 0 l.length,H++[⟨.m,0,4,ae l⟩]):=by
 have cX:=aj l;have h1:(ae l).isEmpty=false:=by cases l with |nil=>exact absurd rfl h0 |cons=>rfl
 simp only[bq,h1,aad,if_false];rw[if_pos ⟨nC _,by omega⟩,cX]
 rfl
theorem Js(k s o l)(hl:l.length<100000000)(ih:∀t∈l,aO C 202 [enc t] (enc t)):aO C 202 [enc (.mk k s o l)] (enc (.mk k s o l)):=by
 have cX:=aj l;rw[bj];refine aO.x T6 Tryz.func202 rfl ?_
 by_cases h0:l=[]
 ·subst h0;refine wXA ?_;refine ai.cz rfl rfl ?_;refine wXA ?_
  have Gc:HR [⟨.m,0,4,[.agg [.int .i64 k,.str s,.int .i64 o,.aa true []]]⟩,⟨.m,0,4,[.agg [.int .i64 0,.str ByteArray.empty,.int .i64 0,.aa true []]]⟩]:=by
   intro x hx
   simp at hx;rcases hx with rfl |rfl <;>simp[bz,bt]
  refine eD.zip T6 ([]:List Tm) (λp q L K=>L=[(1,.ptr 0 0 0 0),(2,.ptr 1 0 0 0),(10,.aa true []),(11,.int .i64 0),(12,.int .i64 p.length)]/\K=[⟨.m,0,4,[.agg [.int .i64 k,.str s,.int .i64 o,.aa true []]]⟩,⟨.m,0,4,[.agg [.int .i64 0,.str ByteArray.empty,.int .i64 0,.aa true []]]⟩]) (.nx ⟨rfl,rfl⟩) ?_ ?_
  ·rintro p u q _ K ρ e _
   cases p <;>cases e
  ·rintro _ K ρ ⟨rfl,rfl⟩;refine wXA ?_;exact⟨_,rfl,rfl⟩
 ·refine wXA ?_;refine ai.cz rfl (lE h0 (by omega) _) ?_;refine wXA ?_
  have Gc:HR [⟨.m,0,4,[.agg [.int .i64 k,.str s,.int .i64 o,.ak 2 0 0 l.length]]⟩,⟨.m,0,4,[.agg [.int .i64 0,.str ByteArray.empty,.int .i64 0,.aa true []]]⟩,⟨.m,0,4,ae l⟩]:=by
   intro x hx
   simp at hx;rcases hx with rfl |rfl |rfl
   ·simp[bz,bt]
   ·simp[bz,bt]
   ·exact⟨by simp,br _ _ (by simp)⟩
  refine eD.zip T6 l (λp q L H=>L=[(1,.ptr 0 0 0 0),(2,.ptr 1 0 0 0),(10,.ak 2 0 0 l.length),(11,.int .i64 l.length),(12,.int .i64 p.length)]/\HR H/\H[0]?=some ⟨.m,0,4,[.agg [.int .i64 k,.str s,.int .i64 o,.ak 2 0 0 l.length]]⟩/\H[1]?=some ⟨.m,0,4,[.agg [.int .i64 0,.str ByteArray.empty,.int .i64 0,.aa true []]]⟩/\H[2]?=some ⟨.m,0,4,ae l⟩) (.nx ⟨rfl,Gc,rfl,rfl,rfl⟩) ?_ ?_
  ·rintro p u q _ H ρ e ⟨rfl,hH,g0,g1,g2⟩;have wg:=bW e;have cY:(ae l)[0+p.length]?=some (.agg [.int .i64 u.k,.str u.s,.int .i64 u.o,.aa false (ae u.l)]):=by rw[aan];exact wg
   have kC:=cW cY;have cE:=congrArg List.length e;simp only[Z2,Z4]at cE;have hi:=ih u (by rw[e];simp);rw[aw]at hi;have oa:HR (H++[⟨.m,0,4,[.agg [.int .i64 u.k,.str u.s,.int .i64 u.o,.aa false (ae u.l)]]⟩]):=hH.dq (HV.one (by simp));refine wXA ?_;refine .p hi ?_;refine wXA ?_;rw[kC];have k2:=ag g2;exact .nx ⟨rfl,oa.set 2 (by simp) (br _ _ (by simp)),by rw[Z7 (by omega),Z0 (by omega)];exact g0,by rw[Z7 (by omega),Z0 (by omega)];exact g1,Z6 (by simp;omega)⟩
  ·rintro _ H ρ ⟨rfl,hH,g0,g1,g2⟩;have k1:=ag g1;have e2:=Z6 (a:=(⟨.m,0,4,[.agg [.int .i64 k,.str s,.int .i64 o,.ak 2 0 0 l.length]]⟩:au)) k1;refine wXA ?_;refine .mk ?_ (pu (T:=T6) rfl e2 rfl rfl rfl rfl);exact⟨PN (.inr ⟨2,0,by rw[cX],(Z7 (by omega)).trans g2⟩) (by simp) (by simp)⟩
theorem FW(t:Tm)(hb:ay t<100000000):aO C 202 [enc t] (enc t):=by
 induction t using Tm.ind with
 |h k s o l ih=>
  have:=bE l;simp only[ay]at hb;exact Js k s o l (by omega) λt ht=>ih t ht (by have:=bS ht;omega)
structure x8(s:List c9):Prop where
 Bx:Nd s
 len:s.length<100000000
 v:∀b∈s,ay b.v<10000000
 t:∀b∈s,ay b.t<10000000
theorem x8.get{s:List c9}(h:x8 s){x:Tm}(hx:ay x<10000000):ay (lO s x)<10000000:=by
 have:=AG (B:=9999999) (x:=x) (s:=s) λb hb=>by have:=h.t b hb;omega
 omega
theorem PO(S:List c9)(hS:x8 S)(k s o l)(hb:ay (.mk k s o l)<10000000)(ih:∀t∈l,aO C 157 [.aa false (bM S),enc t] (enc (bw S t))):aO C 157 [.aa false (bM S),enc (.mk k s o l)] (enc (bw S (.mk k s o l))):=by
 have cX:=aj l;have ua:=bE l;have hl:l.length<10000000:=by simp only[ay]at hb;omega
 have Yf:=Jr S (.mk k s o l) hS.Bx hS.len (λb hb=>by have:=hS.v b hb;omega) (by omega);have dp:=FW (lO S (.mk k s o l)) (by have:=hS.get hb;omega);obtain⟨g,hg⟩:∃g,g=lO S (.mk k s o l):=⟨_,rfl⟩;have hpv:k=1->bw S (.mk k s o l)=g:=λh=>by rw[bw,if_pos h,hg]
 have hpt:k≠1->bw S (.mk k s o l)=.mk k s o (bG S l):=λh=>by rw[bw,if_neg h]
 rw[<-hg]at Yf dp;rw[aw g]at Yf dp;rw[bj]at Yf ⊢;refine aO.x T6 Tryz.func157 rfl ?_
 by_cases hk:k=1
 ·rw[hpv hk,aw];refine wXA ?_;refine .p Yf ?_;refine wXA ?_;refine .p dp ?_;refine wXA ?_;exact QQ
 ·rw[hpt hk,bj]
  by_cases h0:l=[]
  ·subst h0;refine wXA ?_;refine ai.cz rfl rfl ?_;refine wXA ?_;refine eD.zip T6 ([]:List Tm) (λp q L K=>L=[(0,.aa false (bM S)),(3,.ptr 0 0 0 0),(4,.ptr 1 0 0 0),(25,.aa true []),(26,.int .i64 0),(27,.int .i64 p.length)]/\K=[⟨.m,0,4,[.agg [.int .i64 k,.str s,.int .i64 o,.aa true []]]⟩,⟨.m,0,4,[.agg [.int .i64 0,.str ByteArray.empty,.int .i64 0,.aa true []]]⟩]) (.nx ⟨rfl,rfl⟩) ?_ ?_
   ·rintro p u q _ K ρ e _
    cases p <;>cases e
   ·rintro _ K ρ ⟨rfl,rfl⟩;refine wXA ?_;exact⟨_,rfl,rfl⟩
  ·refine wXA ?_;refine ai.cz rfl (lE h0 (by omega) _) ?_;refine wXA ?_
   have Gc:HR [⟨.m,0,4,[.agg [.int .i64 k,.str s,.int .i64 o,.ak 2 0 0 l.length]]⟩,⟨.m,0,4,[.agg [.int .i64 0,.str ByteArray.empty,.int .i64 0,.aa true []]]⟩,⟨.m,0,4,ae l⟩]:=by
    intro x hx
    simp at hx;rcases hx with rfl |rfl |rfl
    ·simp[bz,bt]
    ·simp[bz,bt]
    ·exact⟨by simp,br _ _ (by simp)⟩
   refine eD.zip T6 l (λp q L H=>L=[(0,.aa false (bM S)),(3,.ptr 0 0 0 0),(4,.ptr 1 0 0 0),(25,.ak 2 0 0 l.length),(26,.int .i64 l.length),(27,.int .i64 p.length)]/\HR H/\H[0]?=some ⟨.m,0,4,[.agg [.int .i64 k,.str s,.int .i64 o,.ak 2 0 0 l.length]]⟩/\H[1]?=some ⟨.m,0,4,[.agg [.int .i64 0,.str ByteArray.empty,.int .i64 0,.aa true []]]⟩/\H[2]?=some ⟨.m,0,4,ae (bG S p++q)⟩) (.nx ⟨rfl,Gc,rfl,rfl,rfl⟩) ?_ ?_
   ·rintro p u q _ H ρ e ⟨rfl,hH,g0,g1,g2⟩;have nI:=gy S p;have cY:(ae (bG S p++u::q))[0+p.length]?=some (.agg [.int .i64 u.k,.str u.s,.int .i64 u.o,.aa false (ae u.l)]):=by rw[aan,<-nI];exact bW rfl
    have kC:(ae (bG S p++u::q)).set (0+p.length) (enc (bw S u))=ae (bG S (p++[u])++q):=by
     rw[wo,aan,PM nI.symm,bN,bN,aaS];simp
    have cE:=congrArg List.length e;simp only[Z2,Z4]at cE;have qR:(ae (bG S p++u::q)).length=l.length:=by rw[aj];simp;omega
    have hi:=ih u (by rw[e];simp);rw[aw u,aw (bw S u)]at hi;rw[aw (bw S u)]at kC;have oa:HR (H++[⟨.m,0,4,[.agg [.int .i64 u.k,.str u.s,.int .i64 u.o,.aa false (ae u.l)]]⟩]):=hH.dq (HV.one (by simp));refine wXA ?_;refine .p hi ?_;refine wXA ?_;rw[kC];have k2:=ag g2;exact .nx ⟨rfl,oa.set 2 (by simp) (br _ _ (by simp)),by rw[Z7 (by omega),Z0 (by omega)];exact g0,by rw[Z7 (by omega),Z0 (by omega)];exact g1,Z6 (by simp;omega)⟩
   ·rintro _ H ρ ⟨rfl,hH,g0,g1,g2⟩;rw[aao]at g2;have nI:=gy S l;have k1:=ag g1;have e2:=Z6 (a:=(⟨.m,0,4,[.agg [.int .i64 k,.str s,.int .i64 o,.ak 2 0 0 l.length]]⟩:au)) k1;refine wXA ?_;refine .mk ?_ (pu (T:=T6) rfl e2 rfl rfl rfl rfl);exact⟨PN (.inr ⟨2,0,by rw[aj,nI],(Z7 (by omega)).trans g2⟩) (by simp) (by simp)⟩
theorem Nh(S:List c9)(hS:x8 S)(t:Tm)(hb:ay t<10000000):aO C 157 [.aa false (bM S),enc t] (enc (bw S t)):=by
 induction t using Tm.ind with
 |h k s o l ih=>
  refine PO S hS k s o l hb λt ht=>ih t ht ?_;have:=bS ht;simp only[ay]at hb;omega
end bP
set_option maxRecDepth 4000
theorem Ni{s:ByteArray}(h:eK s=true):1<=s.size:=by
 rw[<-bsize];unfold eK AF at h
 cases e:s.toList with
 |nil=>rw[e]at h;simp at h
 |cons c l=>simp
theorem DI{s:List c9}{B:Nat}:∀{l:List Tm},(∀t∈l,2 * ay (bw s t)<=ay t * B)->2 * bF (bG s l)<=bF l * B
 |[],_=>by simp[bG,bF]
 |t::l,h=>by
  have h1:=h t (by simp);have h2:=DI (l:=l) λu hu=>h u (by simp[hu])
  simp only[bG,bF,aaO];omega
theorem Jt{s:List c9}{B:Nat}(hB:2<=B)(hs:∀b∈s,ay b.t<=B)(t:Tm):nodes t=0->2 * ay (bw s t)<=ay t * B:=by
 induction t using Tm.ind with
 |h k n o l ih=>
  intro h0
  obtain⟨q1,q2⟩:=oU h0;have hn:=Ni (zn q1).1;have yy:2<=ay (.mk k n o l):=by simp only[ay];omega
  have h1:ay (.mk k n o l) * 2<=ay (.mk k n o l) * B:=Nat.mul_le_mul_left _ hB;have h2:2 * B<=ay (.mk k n o l) * B:=aaC _ yy;unfold bw
  split
  ·have:=AG (x:=.mk k n o l) hs;omega
  ·have h3:=DI (s:=s) (B:=B) (l:=l) λt ht=>ih t ht (nw q2 t ht)
   simp only[ay,aaO]at h1 ⊢;have h4:n.size * 2<=n.size * B:=Nat.mul_le_mul_left _ hB;omega
theorem x8.of{s:List c9}(h:lN s=0):bP.x8 s:=by
 obtain⟨h1,h2,h3⟩:=sX h;refine⟨h3,by omega,λb hb=>?_,λb hb=>?_⟩
 ·have:=eL (oY (h2 b hb)).1;omega
 ·have:=eL (oY (h2 b hb)).2.2.1;omega
theorem PQ{s:List c9}(h:lN s=0){t:Tm}(ht:valid t=0):ay (bw s t)<=50000000:=by
 obtain⟨h1,h2,h3⟩:=sX h;have h4:=Jt (s:=s) (B:=10000) (by omega) (λb hb=>eL (oY (h2 b hb)).2.2.1) t (fX.1 ht).1;have h5:=eL ht;have h6:ay t * 10000<=10000 * 10000:=aaC _ h5;omega
namespace bP
open Go.Proofs
attribute [local irreducible] aE az aI aJ Ev ah ai ax aW bZ
theorem sg:enc eU=.agg [.int .i64 0,.str ByteArray.empty,.int .i64 0,.aa false (ae [])]:=rfl
theorem x9(S:List c9)(hS:lN S=0)(t:Tm)(hb:ay t<10000000):aO C 112 [.aa false (bM S),enc t] (.cx [enc (b8 S t).1,.int .i64 (b8 S t).2]):=by
 have fN:=x8.of hS;have h1:=(fu t (by omega)).nine;have h2:=Nh S fN t hb;have h3:valid t=0->aO C 98 [enc (bw S t)] (.int .i64 (valid (bw S t))):=λh=>(fu (bw S t) (by have:=PQ hS h;omega)).nine
 have a1:valid t≠0->b8 S t=(eU,valid t):=λh=>by rw[b8,if_pos h]
 have a2:valid t=0->valid (bw S t)≠0->b8 S t=(eU,valid (bw S t)):=λh h'=>by rw[b8,if_neg (by omega),if_pos h']
 have a3:valid t=0->valid (bw S t)=0->b8 S t=(bw S t,0):=λh h'=>by rw[b8,if_neg (by omega),if_neg (by omega)]
 generalize b8 S t=A at *;generalize bw S t=u at *;rw[aw t]at h1 h2 ⊢;rw[aw u]at h2 h3;refine aO.x T6 Tryz.func112 rfl ?_;refine wXA ?_;refine .p h1 ?_;refine wXC (λhc=>?_) λhc=>?_
 ·have hv:valid t=0:=by omega
  refine .p h2 ?_;refine wXA ?_;refine .p (h3 hv) ?_;refine wXC (λhc=>?_) λhc=>?_
  ·rw[a3 hv (by omega),aw];exact lY
  ·rw[a2 hv (by omega),sg];exact⟨_,rfl,rfl⟩
 ·rw[a1 (by omega),sg];exact⟨_,rfl,rfl⟩
theorem ls{S:List c9}{t:Tm}(h:(b8 S t).2=0):b8 S t=(bw S t,0)/\valid t=0/\valid (bw S t)=0:=by
 unfold b8 at h ⊢
 split at h
 ·rename_i h1;exact absurd h h1
 ·rename_i h1
  split at h
  ·rename_i h2;exact absurd h h2
  ·rename_i h2
   rw[if_neg h1,if_neg h2];exact⟨rfl,by omega,by omega⟩
theorem PR{S:List c9}{l p q:List Tm}{u:Tm}(e:l=p++u::q)(hp:∀v∈p,(b8 S v).2=0)(hu:(b8 S u).2≠0):js S l=(b8 S u).2:=by
 subst e
 induction p with
 |nil=>simp only[aaL,js];rw[if_pos hu]
 |cons v p ih=>
  simp only[aau,js];rw[if_neg (by rw[hp v (by simp)];simp),ih (λw hw=>hp w (by simp[hw]))]
theorem An{S:List c9}:∀{l:List Tm},(∀v∈l,(b8 S v).2=0)->js S l=0
 |[],_=>rfl
 |v::l,h=>by
  rw[js,if_neg (by rw[h v (by simp)];simp)];exact An λu hu=>h u (by simp[hu])
theorem Hg{S:List c9}(hS:lN S=0):aO C 48 [.aa false (bM S)] (.int .i64 0):=by
 obtain⟨h1,h2,h3⟩:=sX hS
 have:=xv S (by omega) λb hb=>by
  have h4:=eL (oY (h2 b hb)).1;have h5:=eL (oY (h2 b hb)).2.2.1;exact⟨by omega,by omega⟩
 rwa[hS]at this
theorem wY(S:List c9)(hS:lN S=0)(t:Tm)(hb:ay t<10000000):aO C 57 [.aa false (bM S),enc t] (.cx [enc (b8 S t).1,.int .i64 (b8 S t).2]):=by
 have h1:=Hg hS;have h2:=x9 S hS t hb;generalize b8 S t=A at *;obtain⟨u,n⟩:=A;dsimp only at h2 ⊢;rw[aw t,aw u]at h2;rw[aw t,aw u];refine aO.x T6 Tryz.func57 rfl ?_;refine wXA ?_;refine .p h1 ?_;refine wXA ?_;refine .p h2 ?_;refine wXA ?_;exact lY
theorem CC(S:List c9)(hS:lN S=0)(l:List Tm)(hl:l.length<=200)(hb:∀t∈l,ay t<10000000):aO C 56 [.aa false (bM S),.aa false (ae l)] (.cx [.aa false (ae (if js S l≠0 then[]else bG S l)),.int .i64 (js S l)]):=by
 have h1:=Hg hS;have cX:=aj l;refine aO.x T6 Tryz.func56 rfl ?_;refine wXA ?_;refine .p h1 ?_;refine wXA ?_;refine eD.zip T6 l (λp q L H=>∃v,L=[(0,.aa false (bM S)),(7,v),(20,.aa false (ae l)),(21,.int .i64 (ae l).length),(22,.int .i64 p.length)]/\HV H/\Out 4 H v (ae (bG S p))/\∀u∈p,(b8 S u).2=0) (.nx ⟨_,rfl,HV.nil,.inl ⟨rfl,rfl⟩,by simp⟩) ?_ ?_
 ·rintro p u q _ H ρ e ⟨v,rfl,hH,ho,hp⟩;have cY:=bW e;have cE:=congrArg List.length e;simp only[Z2,Z4]at cE;have mq:=x9 S hS u (hb u (by rw[e];simp));have nI:=gy S p;have hle:=aj (bG S p);have h0:(b8 S u).2=0->(b8 S u).1=bw S u:=λh=>by rw[(ls h).1]
  have hx:(b8 S u).2≠0->js S l=(b8 S u).2:=PR e hp;have oJ:bG S (p++[u])=bG S p++[bw S u]:=by rw[bN,bN];simp
  have hpn:(b8 S u).2=0->∀w∈p++[u],(b8 S w).2=0:=λh w hw=>by
   rcases Z8.1 hw with h1 |h1
   ·exact hp w h1
   ·simp at h1;rw[h1];exact h
  generalize(b8 S u).1=w at *;generalize(b8 S u).2=n at *;rw[aw u,aw w]at mq;have Eo:=(ho.cC [⟨.m,0,4,[.agg [.int .i64 u.k,.str u.s,.int .i64 u.o,.aa false (ae u.l)]]⟩]).cC [⟨.m,0,4,[.agg [.int .i64 w.k,.str w.s,.int .i64 w.o,.aa false (ae w.l)]]⟩];refine wXA ?_;have oa:HV (H++[⟨.m,0,4,[.agg [.int .i64 u.k,.str u.s,.int .i64 u.o,.aa false (ae u.l)]]⟩]++[⟨.m,0,4,[.agg [.int .i64 w.k,.str w.s,.int .i64 w.o,.aa false (ae w.l)]]⟩]):=(hH.cC (HV.one (by simp))).cC (HV.one (by simp));refine .p mq ?_;refine wXM (λhc v H lp=>?_) λhc=>?_
  ·have hw:=h0 (by omega);refine .nx ⟨_,rfl,lp.hv,?_,hpn (by omega)⟩;have:=lp.out;have e9:ae (bG S p)++[.agg [.int .i64 w.k,.str w.s,.int .i64 w.o,.aa false (ae w.l)]]=ae (bG S p++[w]):=by rw[cc,<-aw];rfl
   rw[oJ,<-hw,<-e9];exact this
  ·have hxx:=hx (by omega);exact⟨_,rfl,by rw[hxx,if_pos (by omega)];rfl⟩
 ·rintro _ H ρ ⟨v,rfl,hH,ho,hp⟩;have he:=An hp;rw[he,if_neg (by simp)];refine wXA ?_;exact Ls.TN (.inl ho)
end bP
theorem UN:(cO Wp).k=3/\(cO Ws).k=3/\(cO Wt).k=3/\(cO QI).k=3/\(cO QJ).k=3/\(cO QK).k=3:=by refine⟨?_,?_,?_,?_,?_,?_⟩ <;>kernel_rfl
theorem GM{s:ByteArray}(h:Bz s=true):uR s=false/\(cO s).k≠3:=by
 simpa[Bz]using h
theorem Tz{s:ByteArray}(h:Bz s=true):¬s.toList=(⟨#[102,115,116]⟩:ByteArray).toList/\¬s.toList=(⟨#[115,110,100]⟩:ByteArray).toList/\¬s.toList=(⟨#[100,101,99]⟩:ByteArray).toList/\¬s.toList=(⟨#[97,100,101,99]⟩:ByteArray).toList/\¬s.toList=(⟨#[111,112,101,110]⟩:ByteArray).toList/\¬s.toList=(⟨#[114,101,97,100]⟩:ByteArray).toList/\
  ¬s.toList=(⟨#[120,111,114]⟩:ByteArray).toList/\¬s.toList=(⟨#[109,117,108]⟩:ByteArray).toList/\¬s.toList=(⟨#[105,110,118]⟩:ByteArray).toList/\¬s.toList=(⟨#[111,110,101]⟩:ByteArray).toList/\¬s.toList=(⟨#[101,120,112]⟩:ByteArray).toList/\¬s.toList=(⟨#[122,101,114,111]⟩:ByteArray).toList:=by
 obtain⟨h1,h2⟩:=GM h;have d:∀n:ByteArray,(cO n).k=3->¬s.toList=n.toList:=λn hn e=>h2 (by rw[bP.CO e];exact hn)
 simp only[uR,aci]at h1;obtain⟨⟨⟨⟨⟨a1,a2⟩,a3⟩,a4⟩,a5⟩,a6⟩:=h1;have a:∀n:ByteArray,gO s n=false->¬s.toList=n.toList:=λn hn e=>by rw[bP.qC e]at hn;cases hn
 exact⟨d Wp UN.1,d Ws UN.2.1,d Wt UN.2.2.1,d QI UN.2.2.2.1,d QJ UN.2.2.2.2.1,d QK UN.2.2.2.2.2,a xj a1,a AZ a4,a A0 a5,a tE a6,a LV a3,a jx a2⟩
theorem LW{k:Int}{s:ByteArray}{o:Int}{l:List Tm}(h:valid (.mk k s o l)=0)(hk:k=3):o=0:=by
 have h1:=(oU (fX.1 h).1).1;simp only[node]at h1
 split at h1
 ·cases h1
 ·omega
namespace bP
open Go.Proofs
attribute [local irreducible] aE az aI aJ Ev ah ai ax aW bZ
theorem QL{h:ab}{v:PV}{k o n:Int}{s:ByteArray}{es:List PV}(ho:Out 4 h v es)(hv:ao es=true)(hn:aQ es=es):∃r1,rb h (aY [.agg [.int .i64 k,.str s,.int .i64 o,v],.int .i64 n])=some r1/\cf r1=.cx [.agg [.int .i64 k,.str s,.int .i64 o,.aa false es],.int .i64 n]:=by
 obtain⟨r,h1,h2⟩:∃r,qs h v=some r/\cf r=.aa false es:=by
  rcases ho with⟨rfl,rfl⟩|⟨id,ep,rfl,e2⟩
  ·exact⟨_,rfl,rfl⟩
  ·exact⟨.aa false es,by simp[qs,getM,e2,hv],by simp[cf,hn]⟩
 refine⟨.cx [.agg [.int .i64 k,.str s,.int .i64 o,r],.int .i64 n],?_,by simp[cf,aQ,h2]⟩;simp only[aY,rb,gI,j',oz,h1]
 rfl
theorem IC(s:ByteArray)(l:List Tm)(hf:Bz s=true)(hl:l.length<100000000)(ih:∀t∈l,aO C 155 [enc t] (.cx [enc t,.int .i64 0])):aO C 155 [enc (.mk 3 s 0 l)] (.cx [enc (.mk 3 s 0 l),.int .i64 0]):=by
 have cX:=aj l;obtain⟨n1,n2,n3,n4,n5,n6,n7,n8,n9,n10,n11,n12⟩:=Tz hf;rw[bj];refine aO.x T6 Tryz.func155 rfl ?_;refine wXA ?_
 have Gc:HR [⟨.m,0,4,[.agg [.int .i64 3,.str s,.int .i64 0,.aa false (ae l)]]⟩,⟨.m,0,4,[.agg [.int .i64 0,.str ByteArray.empty,.int .i64 0,.aa true []]]⟩,⟨.m,0,4,[.agg [.int .i64 3,.str s,.int .i64 0,.aa true []]]⟩]:=by
  intro x hx
  simp at hx;rcases hx with rfl |rfl |rfl <;>simp[bz,bt,br]
 refine eD.zip T6 l (λp q L H=>∃v,L=[(1,.ptr 0 0 0 0),(2,.ptr 1 0 0 0),(4,.ptr 2 0 0 0),(19,.aa false (ae l)),(20,.int .i64 (ae l).length),(21,.int .i64 p.length)]/\HR H/\H[0]?=some ⟨.m,0,4,[.agg [.int .i64 3,.str s,.int .i64 0,.aa false (ae l)]]⟩/\H[1]?=some ⟨.m,0,4,[.agg [.int .i64 0,.str ByteArray.empty,.int .i64 0,.aa true []]]⟩/\H[2]?=some ⟨.m,0,4,[.agg [.int .i64 3,.str s,.int .i64 0,v]]⟩/\Out 4 H v (ae p)/\∀i∈cq v,3<=i) (.nx ⟨.aa true [],rfl,Gc,rfl,rfl,rfl,.inl ⟨rfl,rfl⟩,by simp[cq]⟩) ?_ ?_
 ·rintro p u q _ H ρ e ⟨v,rfl,hH,h0,h1,h2,ho,hv⟩;have cY:=bW e;have cE:=congrArg List.length e;simp only[Z2,Z4]at cE;have hi:=ih u (by rw[e];simp);have hle:=aj p;have kY:HR (H++[⟨.m,0,4,[.agg [.int .i64 u.k,.str u.s,.int .i64 u.o,.aa false (ae u.l)]]⟩]):=hH.dq (HV.one (by simp));have oa:HR (H++[⟨.m,0,4,[.agg [.int .i64 u.k,.str u.s,.int .i64 u.o,.aa false (ae u.l)]]⟩]++[⟨.m,0,4,[.agg [.int .i64 u.k,.str u.s,.int .i64 u.o,.aa false (ae u.l)]]⟩]):=kY.dq (HV.one (by simp));have Eo:=(ho.cC [⟨.m,0,4,[.agg [.int .i64 u.k,.str u.s,.int .i64 u.o,.aa false (ae u.l)]]⟩]).cC [⟨.m,0,4,[.agg [.int .i64 u.k,.str u.s,.int .i64 u.o,.aa false (ae u.l)]]⟩];have JF:=ag h2;have oJ:ae p++[.agg [.int .i64 u.k,.str u.s,.int .i64 u.o,.aa false (ae u.l)]]=ae (p++[u]):=by rw[cc,<-aw];rfl
  rw[aw]at hi;refine wXA ?_;refine .p hi ?_;refine wXA ?_;refine .lr (λv' h' lr=>?_) Eo;have NC:∀j,j<3->∀ep n,v≠.ak j ep 0 n:=λj hj ep n hh=>by have:=hv j (by rw[hh];simp[cq]);omega
  have gt:∀j,j<3->h'[j]?=H[j]?:=λj hj=>by
   rw[lr.fr j (by simp;omega) (NC j hj),Z0 (by simp;omega),Z0 (by omega)]
  have g0:=(gt 0 (by omega)).trans h0;have g1:=(gt 1 (by omega)).trans h1;have g2:=(gt 2 (by omega)).trans h2;have hr3:=lr.hr
  have Wu:∀i∈cq v',3<=i:=λi hi=>by
   rcases lr.cq i hi with h |h
   ·exact hv i h
   ·simp at h;omega
  have lo:=lr.out;rw[oJ]at lo;have TA:=lo.bt;rcases lo with⟨_,hx⟩|⟨id,ep,rfl,bU⟩
  ·have:=congrArg List.length hx;rw[aj]at this;simp at this
  have k2:=ag g2;refine wXA ?_;have Um:=Wu id (by simp[cq]);exact .nx ⟨_,rfl,hr3.set _ (by simp) (by simpa[bz,bt]using TA),(Z7 (by omega)).trans g0,(Z7 (by omega)).trans g1,Z6 k2,.inr ⟨id,ep,rfl,(Z7 (by omega)).trans bU⟩,Wu⟩
 ·rintro _ H ρ ⟨v,rfl,hH,h0,h1,h2,ho,hv⟩;have k1:=ag h1;have e2:=Z6 (a:=(⟨.m,0,4,[.agg [.int .i64 3,.str s,.int .i64 0,v]]⟩:au)) k1;have Ep:Out 4 (H.set 1 ⟨.m,0,4,[.agg [.int .i64 3,.str s,.int .i64 0,v]]⟩) v (ae l):=ho.of_eq λi hi=>Z7 (by have:=hv i hi;omega)
  rcases ho with⟨rfl,he⟩|⟨id,ep,rfl,bU⟩
  ·refine wXA ?_;refine .mk ?_ (pu (T:=T6) rfl e2 rfl rfl rfl rfl);exact⟨QL Ep (by simp) (by simp)⟩
  ·refine wXA ?_;refine .mk ?_ (pu (T:=T6) rfl e2 rfl rfl rfl rfl);exact⟨QL Ep (by simp) (by simp)⟩
theorem Fa(t:Tm):ky t=0->iP t=true->ay t<100000000->aO C 155 [enc t] (.cx [enc t,.int .i64 0]):=by
 induction t using Tm.ind with
 |h k s o l ih=>
  intro hv hf hb
  by_cases hk:k=3
  ·subst hk;obtain rfl:=LW (mS.1 hv).1 rfl;have:=bE l;simp only[ay]at hb;refine IC s l ((wE.1 hf).1 rfl) (by omega) λt ht=>ih t ht (rZ hv ht) ((wE.1 hf).2 t ht) (by have:=bS ht;omega)
  ·rw[bj];refine aO.x T6 Tryz.func155 rfl ?_;refine wXA ?_;exact lY
theorem CP(t:Tm)(hf:iP t=true)(hb:ay t<100000000):aO C 107 [enc t] (.cx [enc (if ky t=0 then t else eU),.int .i64 (ky t)]):=by
 have h1:=sf t hb;have h2:=λh=>Fa t h hf hb
 have h3:=λh:ky t=0=>(fu t (by omega)).nine
 have hz:=sg;rw[aw t]at h1 h2 h3 ⊢
 by_cases hv:ky t=0
 ·have h2:=h2 hv;have h3:=h3 hv;rw[(mS.1 hv).1]at h3;rw[if_pos hv,hv,aw];rw[hv]at h1;refine aO.x T6 Tryz.func107 rfl ?_;refine wXA ?_;refine .p h1 ?_;refine wXA ?_;refine .p h2 ?_;refine wXA ?_;refine .p h3 ?_;refine wXA ?_;exact lY
 ·rw[if_neg hv,hz];refine aO.x T6 Tryz.func107 rfl ?_;refine wXA ?_;refine .p h1 ?_;refine wXA ?_;exact⟨_,rfl,rfl⟩
theorem Fb(s:ByteArray):aO C 110 [.str s] (.bool (decide ((cO s).k≠3))):=by
 have hs:=pw s;rw[A3]at hs;refine aO.x T6 Tryz.func110 rfl ?_;refine wXA ?_;refine .p hs ?_;refine wXC (λhc=>?_) λhc=>?_
 all_goals exact⟨_,rfl,by simp[aY, *]⟩
theorem ID{t:Tm}(h:iP t=true):every (λs=>decide ((cO s).k≠3)) t=true:=by
 unfold iP at h;rw[sV,Z1]at h ⊢
 intro u hu
 have:=h u hu;simp only[aaq]at this ⊢;exact this.imp id λx=>decide_eq_true (GM x).2
theorem zP(t:Tm)(hf:iP t=true)(hb:ay t<100000000):aO C 55 [enc t] (.bool (decide (ky t=0))):=by
 have h1:=CP t hf hb;have h2:=xk 110 _ rfl Fb t (by omega);rw[ID hf]at h2
 by_cases hv:ky t=0
 ·have h3:aO C 108 [enc t,enc t] (.bool true):=by
   have h4:=(dZ t t (by omega) (by omega)).nine;rw[dI]at h4;rw[aw]at h4 ⊢;refine aO.x T6 Tryz.func108 rfl ?_;refine wXA ?_;refine .p h4 ?_;refine wXA ?_;exact⟨_,rfl,rfl⟩
  rw[if_pos hv,hv]at h1;rw[hv];rw[aw]at *;refine aO.x T6 Tryz.func55 rfl ?_;refine wXA ?_;refine .p h1 ?_;refine wXA ?_;refine .p h3 ?_;refine wXA ?_;refine .p h2 ?_;refine wXA ?_;exact⟨_,rfl,rfl⟩
 ·rw[if_neg hv,sg]at h1;rw[aw]at h1 ⊢;refine aO.x T6 Tryz.func55 rfl ?_;refine wXA ?_;refine .p h1 ?_;refine wXA ?_;exact⟨_,rfl,by simp[aY,hv]⟩
end bP
def lz(l:List ByteArray):List PV:=l.map PV.str
@[simp] theorem IE(l:List ByteArray):(lz l).length=l.length:=by simp[lz]
@[simp] theorem O0(l:List ByteArray):ao (lz l)=true:=by rw[bu];simp[lz,aV]
@[simp] theorem TC(l:List ByteArray):aQ (lz l)=lz l:=by rw[cL];simp[lz,cf]
theorem LX{l p q:List ByteArray}{d:ByteArray}(e:l=p++d::q):(lz l)[p.length]?=some (.str d):=by rw[lz,e];simp
def CQ(t:Tm):Bool:=eV t AZ ||eV t A0
theorem l6{t:Tm}(h:iP t=true):eV t AZ=false/\eV t A0=false/\eV t LV=false/\eV t xj=false/\eV t jx=false/\eV t tE=false:=by
 have key:∀n:ByteArray,Bz n=false->eV t n=false:=λn hn=>by
  cases hh:eV t n
  ·rfl
  ·obtain⟨h1,h2⟩:=rY hh;have:=O1 h h1;rw[h2,hn]at this
   cases this
 refine⟨key _ ?_,key _ ?_,key _ ?_,key _ ?_,key _ ?_,key _ ?_⟩ <;>kernel_rfl
namespace bP
open Go.Proofs
attribute [local irreducible] aE az aI aJ Ev ah ai ax aW bZ
theorem Fc(ns:List ByteArray)(s:ByteArray)(hl:ns.length<1000000):aO C 148 [.aa false (lz ns),.str s] (.int .i64 (uQ (λn=>gO s n) ns)):=by
 have cX:=IE ns;refine aO.x T6 Tryz.func148 rfl ?_;refine wXA ?_;refine eD.zip T6 ns (λp q L H=>L=[(0,.aa false (lz ns)),(1,.str s),(7,.int .i64 (lz ns).length),(8,.int .i64 p.length)]/\H=[]/\∀y∈p,gO s y=false) (.nx ⟨rfl,rfl,by simp⟩) ?_ ?_
 ·rintro p n q _ _ ρ e ⟨rfl,rfl,hp⟩;have cY:=LX e;have cE:=congrArg List.length e;simp only[Z2,Z4]at cE;refine wXC (λhc=>?_) λhc=>?_
  ·exact⟨_,rfl,by rw[e,p8 hp (qC (by assumption))];rfl⟩
  ·exact .nx ⟨rfl,rfl,λy hy=>by rcases Z8.1 hy with h |h;exact hp y h;simp at h;rw[h];exact mR (by assumption)⟩
 ·rintro _ _ ρ ⟨rfl,rfl,hp⟩;refine wXA ?_;exact⟨_,rfl,by rw[kM hp];rfl⟩
theorem IF(ns:List ByteArray)(s:ByteArray)(hl:ns.length<1000000):aO C 147 [.aa false (lz ns),.str s] (.bool (ns.any λn=>gO s n)):=by
 have h1:=Fc ns s hl;have ha:=rU (λn=>gO s n) ns;refine aO.x T6 Tryz.func147 rfl ?_;refine wXA ?_;refine .p h1 ?_;refine wXC (λhc=>?_) λhc=>?_
 all_goals exact⟨_,rfl,by rw[<-ha];simp[aY, *]⟩
theorem se(t:Tm)(ns:List ByteArray)(hl:ns.length<1000000):aO C 206 [enc t,.aa false (lz ns)] (.bool (decide (t.k=3)&&ns.any λn=>gO t.s n)):=by
 have h1:=IF ns t.s hl;rw[aw];refine aO.x T6 Tryz.func206 rfl ?_;refine wXC (λhc=>?_) λhc=>?_
 ·refine .p h1 ?_;refine wXA ?_;exact⟨_,rfl,by simp[aY, *]⟩
 ·exact⟨_,rfl,by simp[aY, *]⟩
theorem mT(t:Tm)(n:ByteArray):aO C 206 [enc t,.aa false [.str n]] (.bool (eV t n)):=by
 have:=se t [n] (by simp);simpa[lz,eV]using this
theorem zQ(t:Tm):aO C 205 [enc t] (.bool (CQ t)):=by
 have h1:aO C 206 [enc t,.aa false [.str ⟨#[109,117,108]⟩,.str ⟨#[105,110,118]⟩]] (.bool (CQ t)):=by
  have:=se t [AZ,A0] (by simp);have e:CQ t=(decide (t.k=3)&& [AZ,A0].any λn=>gO t.s n):=by cases h:decide (t.k=3) <;>simp[CQ,eV,h]
  rw[e];exact this
 rw[aw]at h1 ⊢;refine aO.x T6 Tryz.func205 rfl ?_;refine wXA ?_;refine .p h1 ?_;refine wXA ?_;exact⟨_,rfl,rfl⟩
theorem Fe(t:Tm)(hf:iP t=true)(hb:ay t<10000000):aO C 204 [enc t] (.int .i64 (uS t)):=by
 have h1:=sf t (by omega);have h2:=lA t hb;have h3:=zP t hf (by omega);have cX:=aj (bV t);have hr:uS t=if ky t≠0 then ky t else if bV t≠[]then 13 else 0:=rfl;rw[aw]at h1 h2 h3 ⊢;refine aO.x T6 Tryz.func204 rfl ?_;refine wXA ?_;refine .p h1 ?_;refine wXC (λhc=>?_) λhc=>?_
 ·have hz:ky t=0:=by omega
  rw[hz]at h3;rw[if_neg (by omega)]at hr;refine .p h2 ?_;refine wXC (λhc=>?_) λhc=>?_
  ·have hn:bV t≠[]:=by
    intro hh
    have h0:(ae (bV t)).length=0:=by rw[cX,hh];rfl
    omega
   rw[if_pos hn]at hr;exact⟨_,rfl,by rw[hr];rfl⟩
  ·have hn:bV t=[]:=aaf (by omega);rw[if_neg (by simp[hn])]at hr;refine .p h3 ?_;refine wXA ?_;exact⟨_,rfl,by rw[hr];rfl⟩
 ·exact⟨_,rfl,by rw[hr,if_pos (by assumption)];rfl⟩
theorem LY{l p q:List Tm}{u:Tm}(e:l=p++u::q)(hp:∀v∈p,uS v=0)(hu:uS u≠0):lB l=uS u:=by
 subst e
 induction p with
 |nil=>simp only[aaL,lB];rw[if_pos hu]
 |cons v p ih=>
  simp only[aau,lB];rw[if_neg (by rw[hp v (by simp)];simp),ih (λw hw=>hp w (by simp[hw]))]
theorem xl:∀{l:List Tm},(∀v∈l,uS v=0)->lB l=0
 |[],_=>rfl
 |v::l,h=>by
  rw[lB,if_neg (by rw[h v (by simp)];simp)];exact xl λu hu=>h u (by simp[hu])
theorem CR(l:List Tm)(hf:∀t∈l,iP t=true)(hl:l.length<10000000)(hb:∀t∈l,ay t<10000000):aO C 159 [.aa false (ae l)] (.int .i64 (lB l)):=by
 have cX:=aj l;refine aO.x T6 Tryz.func159 rfl ?_;refine wXA ?_;refine eD.zip T6 l (λp q L H=>L=[(6,.aa false (ae l)),(7,.int .i64 (ae l).length),(8,.int .i64 p.length)]/\HV H/\∀v∈p,uS v=0) (.nx ⟨rfl,HV.nil,by simp⟩) ?_ ?_
 ·rintro p u q _ H ρ e ⟨rfl,hH,hp⟩;have cY:=bW e;have cE:=congrArg List.length e;simp only[Z2,Z4]at cE;have h1:=Fe u (hf u (by rw[e];simp)) (hb u (by rw[e];simp));rw[aw]at h1;refine wXA ?_;refine .p h1 ?_;refine wXC (λhc=>?_) λhc=>?_
  ·exact .nx ⟨rfl,hH.cC (HV.one (by simp)),λv hv=>by rcases Z8.1 hv with h |h;exact hp v h;simp at h;rw[h];omega⟩
  ·exact⟨_,rfl,by rw[LY e hp (by assumption)];rfl⟩
 ·rintro _ H ρ ⟨rfl,hH,hp⟩;refine wXA ?_;exact⟨_,rfl,by rw[xl hp];rfl⟩
theorem IG(u:List Tm)(hf:∀t∈u,iP t=true)(hl:u.length<10000000):aO C 160 [.aa false (ae u)] (.int .i64 (if 200<u.length then 3 else 0)):=by
 have cX:=aj u;refine aO.x T6 Tryz.func160 rfl ?_;refine wXA ?_;refine eD.zip T6 u (λp q L H=>L=[(0,.aa false (ae u)),(3,.int .i64 0),(4,.aa true []),(11,.aa false (ae u)),(12,.int .i64 (ae u).length),(13,.int .i64 p.length)]/\HV H) (.nx ⟨rfl,HV.nil⟩) ?_ ?_
 ·rintro p t q _ H ρ e ⟨rfl,hH⟩;have cY:=bW e;have cE:=congrArg List.length e;simp only[Z2,Z4]at cE;obtain⟨f1,f2,f3,_⟩:=l6 (hf t (by rw[e];simp));have h1:=zQ t;have h2:=mT t ⟨#[101,120,112]⟩;have e2:eV t ⟨#[101,120,112]⟩=false:=f3;have e1:CQ t=false:=by simp[CQ,f1,f2]
  rw[e1]at h1;rw[e2]at h2;rw[aw]at h1 h2;refine wXA ?_;refine .p h1 ?_;refine wXA ?_;refine .p h2 ?_;refine wXA ?_;exact .nx ⟨rfl,hH.cC (HV.one (by simp))⟩
 ·rintro _ H ρ ⟨rfl,hH⟩;refine wXC (λhc=>?_) λhc=>?_
  ·exact⟨_,rfl,by rw[if_pos (by omega)];rfl⟩
  ·exact⟨_,rfl,by rw[if_neg (by omega)];rfl⟩
end bP
open Go.Proofs
theorem Qt{n:Int}(h1:0<=n)(h2:n<256):IntKind.u8.wrap n=n:=by
 have:IntKind.u8.wrap n=n % 256:=by simp[IntKind.wrap,IntKind.bits,IntKind.signed]
 rw[this];omega
attribute [local irreducible] aE az aI aJ Ev ah ai ax aW
theorem Oq(a b:Nat):Int.tdiv (a:Int) (b:Int)=((a / b:Nat):Int):=by rw[Int.tdiv_eq_ediv_of_nonneg (by omega)];exact(Int.natCast_ediv a b).symm
theorem EG(a b:Nat):Int.tmod (a:Int) (b:Int)=((a % b:Nat):Int):=by rw[Int.tmod_eq_emod_of_nonneg (by omega)];exact(Int.natCast_emod a b).symm
end Go.Pm
namespace Go.Pm
open Go.Proofs
set_option maxRecDepth 4000
def YP(S:List Row)(P:List Int):Prop:=∀(c:Nat) (i:Int),P[c]?=some i->-1<=i/\(0<=i->∃b u,S[i.toNat]?=some (b,u)/\atR b c≠0)
end Go.Pm
namespace Go.Pm
theorem Ot{a b:List Int}{q:Int}{c:Nat}(h:a.length=b.length):atR (HZ a b q) c=atR a c - q * atR b c:=by
 unfold atR HZ;simp only[List.getD,abn]
 by_cases hc:c<a.length
 ·rw[Z3 hc,Z3 (by omega)];simp
 ·rw[aag (by omega),aag (by omega)];simp
structure uP(w c:Nat)(S:List Row)(P:List Int):Prop where
 len:∀R∈S,R.1.length=w
 pl:P.length=c
 pv:∀(k:Nat) (i:Int),P[k]?=some i->-1<=i/\(0<=i->∃b,S[i.toNat]?=some (b,true)/\atR b k≠0/\∀j,j<k->atR b j=0)
 un:∀b,(b,false)∈S->∀k,k<c->atR b k=0
 us:∀(j:Nat) (b:List Int),S[j]?=some (b,true)->∃k:Nat,P[k]?=some (j:Int)
theorem uP.ok{w c:Nat}{S:List Row}{P:List Int}(h:uP w c S P):YP S P:=λk i hi=>by
 obtain⟨h1,h2⟩:=h.pv k i hi;exact⟨h1,λh0=>by obtain⟨b,e1,e2,_⟩:=h2 h0;exact⟨b,true,e1,e2⟩⟩
theorem zw{c bi:Nat}{b:List Int}{S:List Row}{R:Row}(h:R∈ud c b bi S):R∈S\/∃a,(a,false)∈S/\R=(HZ a b ((atR a c).tdiv (atR b c)),false):=by
 obtain⟨i,hi⟩:=aaZ h;rw[zx]at hi
 cases hS:S[i]? with
 |none=>rw[hS]at hi;cases hi
 |some Q=>
  rw[hS]at hi;have hQ:=aae hS;simp only[aab,aax]at hi
  split at hi
  ·exact .inl (hi▸hQ)
  ·unfold KG at hi
   split at hi
   ·rename_i hc
    obtain⟨a,u⟩:=Q;have hu:u=false:=by simp[kg]at hc;exact hc.1
    subst hu;exact .inr ⟨a,hQ,hi.symm⟩
   ·exact .inl (hi▸hQ)
theorem wA{c bi j:Nat}{b a:List Int}{S:List Row}:(ud c b bi S)[j]?=some (a,true)↔S[j]?=some (a,true):=by
 rw[zx]
 cases hS:S[j]? with
 |none=>simp
 |some Q=>
  obtain⟨x,u⟩:=Q;simp only[aab,aax]
  split
  ·exact Iff.rfl
  ·cases u
   ·unfold KG;split <;>simp
   ·simp[KG,kg]
theorem uP.step{w c:Nat}{S:List Row}{P:List Int}{bi:Nat}{b:List Int}(h:uP w c S P)(hb:yG c S bi b):uP w c (ud c b bi S) P:=by
 have Qr:=aae hb.at_;have Nv:=h.len _ Qr;refine⟨λR hR=>?_,h.pl,λk i hi=>?_,λa ha k hk=>?_,λj a ha=>h.us j a (wA.1 ha)⟩
 ·rcases zw hR with hR |⟨a,ha,rfl⟩
  ·exact h.len R hR
  ·have:=h.len _ ha;dsimp only at *;rw[KF (by omega)];exact this
 ·obtain⟨h1,h2⟩:=h.pv k i hi;exact⟨h1,λh0=>by obtain⟨x,e1,e2⟩:=h2 h0;exact⟨x,wA.2 e1,e2⟩⟩
 ·rcases zw ha with hR |⟨x,hx,he⟩
  ·exact h.un a hR k hk
  ·have e:=congrArg Prod.fst he;dsimp only at e;have h1:=h.len _ hx;dsimp only at h1 Nv;rw[e,Ot (by omega),h.un x hx k hk,h.un b Qr k hk];simp
theorem uP.col{w c st:Nat}{S:List Row}{P:List Int}{r:Option (List Row×Int)}(hc:Qu c st S r):uP w c S P->∀S' i,r=some (S',i)->uP w (c+1) S' (P++[i]):=by
 induction hc with
 | @zero S hz=>
  rintro h _ _ ⟨⟩;have h0:=Cf hz;refine⟨h.len,by simp[h.pl],λk i hi=>?_,λa ha k hk=>?_,λj a ha=>?_⟩
  ·rcases abr k P.length with h1 |h1 |h1
   ·rw[Z0 h1]at hi;exact h.pv k i hi
   ·subst h1;simp at hi;subst hi;exact⟨by omega,λhh=>by omega⟩
   ·rw[aag (by simp;omega)]at hi;cases hi
  ·by_cases hkc:k=c
   ·subst hkc;have:=h0 _ ha;simpa[kg]using this
   ·exact h.un a ha k (by omega)
  ·obtain⟨k,hk⟩:=h.us j a ha;exact⟨k,by rw[Z0 (ag hk)];exact hk⟩
 | @one S bi b hb h1=>
  rintro h _ _ ⟨⟩;have Qr:=aae hb.at_;have cI:=ag hb.at_
  have only:∀(j:Nat) (a:List Int),S[j]?=some (a,false)->atR a c≠0->j=bi:=λj a ha hn=>by
   have hca:kg c (a,false)=true:=by simp[kg,hn]
   have h2:(NA c S).length=1:=by rw[Ou,h1]
   obtain⟨x,hx⟩:=List.length_eq_one_iff.1 h2;have m1:j∈NA c S:=Gk.2 ⟨_,ha,hca⟩;have m2:bi∈NA c S:=Gk.2 ⟨_,hb.at_,hb.isc⟩;rw[hx,aav]at m1 m2;rw[m1,m2]
  have get:∀j R,(S.set bi (b,true))[j]?=some R->(j=bi/\R=(b,true))\/(j≠bi/\S[j]?=some R):=λj R hR=>by
   rw[List.getElem?_set]at hR
   split at hR
   ·rename_i hj;subst hj;(try rw[if_pos cI]at hR);exact .inl ⟨rfl,by simpa using hR.symm⟩
   ·rename_i hj;exact .inr ⟨λhh=>hj hh.symm,hR⟩
  have setb:(S.set bi (b,true))[bi]?=some (b,true):=by rw[Z6 cI]
  refine⟨λR hR=>?_,by simp[h.pl],λk i hi=>?_,λa ha k hk=>?_,λj a ha=>?_⟩
  ·rcases abc hR with hR |rfl
   ·exact h.len R hR
   ·have:=h.len _ Qr;exact this
  ·rcases abr k P.length with h1 |h1 |h1
   ·rw[Z0 h1]at hi;obtain⟨g1,g2⟩:=h.pv k i hi;refine⟨g1,λh0=>?_⟩;obtain⟨x,e1,e2⟩:=g2 h0;refine⟨x,?_,e2⟩;rw[List.getElem?_set]
    split
    ·rename_i hj;rw[<-hj,hb.at_]at e1;cases e1
    ·exact e1
   ·have hk:k=c:=by rw[h1,h.pl]
    subst h1;simp only[aac (Z5 _),abO,List.getElem?_cons_zero,aax]at hi;subst hi;refine⟨by omega,λ_=>⟨b,by simpa using setb,by rw[hk];exact hb.nz,λj hj=>h.un b Qr j (by omega)⟩⟩
   ·rw[aag (by simp;omega)]at hi;cases hi
  ·obtain⟨j,hj⟩:=aaZ ha;rcases get j _ hj with⟨_,he⟩|⟨bJ,hS⟩
   ·cases he
   ·by_cases hkc:k=c
    ·subst hkc;exact abY λhn=>bJ (only j a hS hn)
    ·exact h.un a (aae hS) k (by omega)
  ·rcases get j _ ha with⟨rfl,_⟩|⟨bJ,hS⟩
   ·exact⟨P.length,by simp⟩
   ·obtain⟨k,hk⟩:=h.us j a hS;exact⟨k,by rw[Z0 (ag hk)];exact hk⟩
 |KH=>rintro _ _ _ ⟨⟩
 |step hb h2 h3 h4 ih=>exact λh S' i e=>ih (h.step hb) S' i e
theorem uP.el{w n c:Nat}{S:List Row}{P:List Int}{r:Option (List Row×List Int)}(hE:El n c S P r):uP w c S P->∀S' P',r=some (S',P')->uP w n S' P':=by
 induction hE with
 |done=>rintro h _ _ ⟨⟩;exact h
 |KH=>rintro _ _ _ ⟨⟩
 |next h1 h2 h3 ih=>exact λh S' P' e=>ih (uP.col h2 h _ _ rfl) S' P' e
open Go.Proofs
set_option maxRecDepth 4000
theorem ai.same{C:cP}{f:FuncId}{args:List PV}{H:ab}{P:PV->Prop}{Q:PV->ab->Prop}(a:ax C f args H (λr h'=>P r/\h'=H))(q:∀r,P r->Q r H)(hm:C.mode f=.opened:=by rfl):ai C 2 f args H Q:=by
 refine ai.opened hm (a.mono λr k hr=>?_);obtain⟨hp,rfl⟩:=hr
 split
 ·rw[aaW];exact q r hp
 ·exact q r hp
end Go.Pm
namespace Go.Pm
set_option maxRecDepth 4000
theorem CL(u:ByteArray)(a b:Nat):(u.extract a b).toList=(u.toList.take b).drop a:=by
 rw[ByteArray.toList_eq,ByteArray.toList_eq,ByteArray.data_extract,Array.toList_extract];simp[List.extract_eq_take_drop,acq]
def LH:ByteArray:=⟨#[48,49,50,51,52,53,54,55,56,57]⟩
def jj:List PV:=(List.range 256).map λi=>.bool (decide (48<=i)&&decide (i<=57))
theorem Iz{n:Nat}(h:n<256):jj[n]?=some (.bool (decide (48<=n)&&decide (n<=57))):=by
 unfold jj;rw[aaj,acn h]
 rfl
theorem ax.kb{C:cP}{f:FuncId}{args:List PV}{h h':ab}{r:PV}{n:Nat}{Q:PV->ab->Prop}(e:fe C n f args h=some (r,h'))(q:Q r h'):ax C f args h Q:=⟨r,h',q,n,λm hm=>zO C hm f args h _ e⟩
theorem CM:∀{n:Nat} {l:List PV} {k:List PV->Prop},n<=l.length->k (l.drop n)->nW n l k
 |0,l,k,_,h=>h
 |n+1,_::l,k,h1,h=>CM (n:=n) (by simpa using h1) h
 |_+1,[],_,h1,_=>by simp at h1
theorem LI{u:ByteArray}(h:0<u.size):∃c,u[u.size - 1]?=some c/\u.toList=(u.extract 0 (u.size - 1)).toList++[c]:=by
 have hl:=bsize u;have h1:u.toList≠[]:=by intro hh;rw[hh]at hl;simp at hl;omega
 refine⟨u.toList.getLast h1,LJ ?_,?_⟩
 ·rw[<-hl,List.getLast_eq_getElem,Z3]
 ·rw[CL,aaV,<-hl,<-List.dropLast_eq_take,List.dropLast_concat_getLast]
theorem LK{u:ByteArray}(h:0<u.size):∃c,u[0]?=some c/\u.toList=c::(u.extract 1 u.size).toList:=by
 have hl:=bsize u
 cases e:u.toList with
 |nil=>rw[e]at hl;simp at hl;omega
 |cons c r=>
  refine⟨c,LJ (by rw[e];rfl),?_⟩;rw[CL,<-hl,aaW,e]
  rfl
def lQ(c:UInt8):Bool:=pt c.toNat
namespace bP
open Go.Proofs
attribute [local irreducible] aE az aI aJ Ev ah ai ax aW bZ
theorem IA:(fe C 400 359 [.str LH] []).map (·.1)=some (.cx [.agg jj,.bool true]):=by kernel_rfl
theorem LL:ax C 359 [.str LH] [] (λr h'=>r=.cx [.agg jj,.bool true]):=by
 have h:=IA
 cases e:fe C 400 359 [.str LH] []with
 |none=>rw[e]at h;cases h
 |some x=>
  obtain⟨r,h'⟩:=x;rw[e]at h;exact ax.kb e (ZZ h)
section
attribute [local irreducible] nW
theorem um(c:UInt8):ax C 382 [.ptr 0 0 0 0,.int .u8 c.toNat] [(⟨.m,0,256,[.agg jj]⟩:au)] (λr h'=>r=.bool (lQ c)/\h'=[(⟨.m,0,256,[.agg jj]⟩:au)]):=by
 have hc:c.toNat<256:=c.toNat_lt
 have hb:lQ c=(decide (48<=c.toNat)&&decide (c.toNat<=57)):=by
  unfold lQ pt
  by_cases h1:48<=c.toNat <;>by_cases h2:c.toNat<=57 <;>simp[h1,h2] <;>omega
 have cY:=Iz hc;rw[<-hb]at cY;generalize hA:jj=A at cY ⊢
 have vY:A.drop (0+c.toNat * 1)=.bool (lQ c)::A.drop (c.toNat+1):=by
  have cI:=ag cY;rw[aan,Nat.mul_one,abB cI];rw[Z3 cI]at cY;rw[ZZ cY]
 refine ax.x T6 Tryz.func382 rfl ?_;refine wXA ?_;refine CM (by show _<=A.length;have:=ag cY;omega) ?_;show xh T6 _ (A.drop (0+c.toNat * 1)) _;rw[vY];refine Rn.out ?_;refine wXA ?_;exact⟨rfl,rfl⟩
end
theorem CN(u:ByteArray)(a b:Nat):(u.extract a b).size=min b u.size - a:=by
 rw[<-bsize,CL,abS,aa0,bsize]
theorem LM(s:ByteArray)(hs:s.size<1000000000):ax C 361 [.str s,.ptr 0 0 0 0] [(⟨.m,0,256,[.agg jj]⟩:au)] (λr h'=>h'=[(⟨.m,0,256,[.agg jj]⟩:au)]/\∃u d,r=.str u/\s.toList=u.toList++d/\d.all lQ=true/\u.size<=s.size/\(∀c,u.toList.getLast?=some c->lQ c=false)):=by
 refine ax.x T6 Tryz.func361 rfl ?_;refine wXA ?_;refine eD.nat T6 (λk L H=>∃u d,L=[(0,.str u),(1,.ptr 0 0 0 0)]/\H=[(⟨.m,0,256,[.agg jj]⟩:au)]/\k=u.size/\s.toList=u.toList++d/\d.all lQ=true/\u.size<=s.size) s.size (.nx ⟨s,[],rfl,rfl,rfl,by simp,rfl,Z5 _⟩) ?_;rintro k _ _ ρ ⟨u,d,rfl,rfl,rfl,e1,e2,e3⟩
 by_cases hu:0<u.size
 ·obtain⟨c,h1,h2⟩:=LI hu;have hx:=CN u 0 (u.size - 1);have hc:=um c;refine wXA ?_;refine .mk (n:=u.size - 1) ?_ (by omega) h1;refine wXA ?_;refine .same (hc.mono λr h' h=>⟨h.1,h.2⟩) (λr hr=>?_);subst hr
  cases hd:lQ c
  ·refine wXA ?_;refine⟨rfl,u,d,rfl,e1,e2,e3,λc' sG=>?_⟩;rw[h2,List.getLast?_append]at sG;simp at sG;rw[<-sG];exact hd
  ·refine wXA ?_;rw[show((u.size:Int) - 1).toNat=u.size - 1 by omega];refine .nx ⟨_,?_,u.extract 0 (u.size - 1),c::d,rfl,rfl,rfl,by rw[e1,h2];simp,by simp[hd,e2],by omega⟩;omega
 ·refine wXA ?_;refine⟨rfl,u,d,rfl,e1,e2,e3,λc hc=>?_⟩;have:=bsize u;have h0:u.toList=[]:=aaf (by omega);rw[h0]at hc;simp at hc
theorem LN(s:ByteArray)(hs:s.size<1000000000):ax C 360 [.str s,.ptr 0 0 0 0] [(⟨.m,0,256,[.agg jj]⟩:au)] (λr h'=>h'=[(⟨.m,0,256,[.agg jj]⟩:au)]/\∃u d,r=.str u/\s.toList=d++u.toList/\d.all lQ=true/\(∀c,u.toList.head?=some c->lQ c=false)):=by
 refine ax.x T6 Tryz.func360 rfl ?_;refine wXA ?_;refine eD.nat T6 (λk L H=>∃u d,L=[(0,.str u),(1,.ptr 0 0 0 0)]/\H=[(⟨.m,0,256,[.agg jj]⟩:au)]/\k=u.size/\s.toList=d++u.toList/\d.all lQ=true/\u.size<=s.size) s.size (.nx ⟨s,[],rfl,rfl,rfl,by simp,rfl,Z5 _⟩) ?_;rintro k _ _ ρ ⟨u,d,rfl,rfl,rfl,e1,e2,e3⟩
 by_cases hu:0<u.size
 ·obtain⟨c,h1,h2⟩:=LK hu;have hx:=CN u 1 u.size;have hc:=um c;refine wXA ?_;refine .same (hc.mono λr h' h=>⟨h.1,h.2⟩) (λr hr=>?_);subst hr
  cases hd:lQ c
  ·refine wXA ?_;refine⟨rfl,u,d,rfl,e1,e2,λc' sG=>?_⟩;rw[h2]at sG;simp at sG;rw[<-sG];exact hd
  ·refine wXA ?_;refine .nx ⟨_,?_,u.extract 1 u.size,d++[c],rfl,rfl,rfl,by rw[e1,h2];simp,by simp[hd,e2],by omega⟩;omega
 ·refine wXA ?_;refine⟨rfl,u,d,rfl,e1,e2,λc hc=>?_⟩;have:=bsize u;have h0:u.toList=[]:=aaf (by omega);rw[h0]at hc;simp at hc
theorem LO{s u u':List UInt8}{d d':List UInt8}(e1:s=u++d)(h1:d.all lQ=true)(l1:∀c,u.getLast?=some c->lQ c=false)(e2:u=d'++u')(h2:d'.all lQ=true)(l2:∀c,u'.head?=some c->lQ c=false):u'=[]↔s.all lQ=true:=by
 constructor
 ·rintro rfl;rw[e1,e2];simp[h1,h2]
 ·intro h
  rw[e1,abj,Z9]at h
  have hu:u=[]:=by
   cases hl:u.getLast? with
   |none=>exact List.getLast?_eq_none_iff.1 hl
   |some c=>
    have h3:=l1 c hl;have h4:=Z1.1 h.1 c (List.mem_of_getLast? hl);rw[h3]at h4;cases h4
  rw[hu]at e2;exact(List.append_eq_nil_iff.1 e2.symm).2
theorem Wm:iQ C.P 290=some (.agg (List.replicate 256 (.bool false))):=by kernel_rfl
theorem LQ(s:ByteArray)(hs:s.size<1000000000):∃r:ByteArray,(r.toList=[]↔s.toList.all lQ=true)/\aO C 319 [.str s,.str LH] (.str r):=by
 have key:∃x,(∃r:ByteArray,x=.str r/\(r.toList=[]↔s.toList.all lQ=true))/\aO C 319 [.str s,.str LH] x:=by
  refine aO.ex (F:=id) ?_;refine ax.x T6 Tryz.func319 rfl ?_;refine wXI (λhc=>?_) (λhc hc=>?_) λhc hc=>?_
  ·refine⟨.str s,⟨s,rfl,?_⟩,_,rfl,rfl⟩;have h0:s.toList=[]:=by rw[hc,ByteArray.toList_eq]
   rw[h0];simp
  ·exact absurd hc (by rw[ByteArray.toList_eq,ByteArray.toList_eq];decide)
  ·refine .opened rfl (LL.mono λr h' hr=>?_);subst hr;rw[if_pos (by simp[dQ,cH,dP,jj,aV])];rw[show List.take ([]:ab).length h'=[]from rfl];refine wXA ?_;refine .mk (v:=.ptr 0 0 0 0) (h':=[⟨.m,0,256,[.agg (List.replicate 256 (.bool false))]⟩]) (λrun ρ=>?_) ?_
   ·simp only[ar,aC,Wm];rw[if_pos ⟨by decide,by decide,by decide⟩]
    rfl
   refine wXA ?_;refine .same ((LM s hs).mono λr h' h=>⟨h.2,h.1⟩) (λr hr=>?_);obtain⟨u,d,rfl,e1,e2,e3,l1⟩:=hr;refine wXA ?_;refine .same ((LN u (by omega)).mono λr h' h=>⟨h.2,h.1⟩) (λr hr=>?_);obtain⟨u',d',rfl,f1,f2,l2⟩:=hr;refine wXA ?_;exact⟨.str u',⟨u',rfl,LO e1 e2 l1 f1 f2 l2⟩,_,rfl,rfl⟩
 obtain⟨x,⟨r,rfl,h1⟩,h2⟩:=key;exact⟨r,h1,h2⟩
theorem E7(s:ByteArray)(hs:s.size<1000000000):aO C 269 [.str s] (.bool (LS s.toList)):=by
 obtain⟨r,h1,h2⟩:=LQ s hs;have h2:aO C 319 [.str s,.str ⟨#[48,49,50,51,52,53,54,55,56,57]⟩] (.str r):=h2;have hd:LS s.toList=(!s.toList.isEmpty&&s.toList.all lQ):=rfl;refine aO.x T6 Tryz.func269 rfl ?_;refine wXC (λhc=>?_) λhc=>?_
 ·have h0:s.toList=[]:=by rw[hc,ByteArray.toList_eq]
  exact⟨_,rfl,by rw[hd,h0];rfl⟩
 ·have h0:s.toList≠[]:=λhh=>by exact hc (by rw[hh,ByteArray.toList_eq])
  have h3:s.toList.isEmpty=false:=by cases h:s.toList with |nil=>exact absurd h h0 |cons=>rfl
  rw[h3]at hd;refine .p h2 ?_;refine wXC (λhc=>?_) λhc=>?_
  ·have h4:r.toList=[]:=by rw[hc,ByteArray.toList_eq]
   exact⟨_,rfl,by rw[hd,h1.1 h4];rfl⟩
  ·have h4:r.toList≠[]:=λhh=>by exact hc (by rw[hh,ByteArray.toList_eq])
   have h5:s.toList.all lQ=false:=by
    cases h:s.toList.all lQ
    ·rfl
    ·exact absurd (h1.2 h) h4
   exact⟨_,rfl,by rw[hd,h5];rfl⟩
end bP
theorem ai.rbS{C:cP}{f:FuncId}{args args' Md:List PV}{h:ab}{r:PV}{Q:PV->ab->Prop}(hb:gI h args=some args')(hn:aQ args'=Md)(a:aO C f Md r)(q:Q r h)(hs:dU r=true:=by rfl)(hm:C.mode f=.pure:=by rfl):ai C 2 f args h Q:=by
 subst hn;obtain⟨n0,hn⟩:=a;refine⟨r,h,q,n0,λn h1=>?_⟩;obtain⟨r0,hc,r1,e1,e2,e3⟩:=hn n h1;unfold dg;rw[hm]
 cases hv:ao args
 ·have yZ:dU r1=true:=by
   have:=jI r1;rw[e3,hs]at this;exact this.symm
  simp only[dD,hv,aad,if_false,hb,e1,e2,yZ,ab3,if_true,e3]
 ·rw[mO hv]at hb;obtain rfl:=ZZ hb;simp only[dD,hv,if_true,e1,e2,e3]
namespace bP
open Go.Proofs
attribute [local irreducible] aE az aI aJ Ev ah ai ax aW bZ
structure KV(b:Nat)(H:ab)(v:PV)(a:List Tm)(h':ab):Prop where
 hr:HR h'
 len:H.length<=h'.length
 var:∃v',h'[b]?=some ⟨.m,0,1,[v']⟩/\Out 4 h' v' (ae a)/\∀i∈cq v',i∈cq v\/H.length<=i
 fr:∀j,j<H.length->j≠b->j∉cq v->h'[j]?=H[j]?
theorem KV.take{b:Nat}{H h':ab}{v:PV}{a:List Tm}(s:KV b H v a h')(h3:b<H.length)(hr:HR (h'.take H.length)):KV b H v a (h'.take H.length):=by
 have hl:=s.len;have cI:(h'.take H.length).length=H.length:=by simp;omega
 obtain⟨v',e1,e2,e3⟩:=s.var;have g1:(h'.take H.length)[b]?=some ⟨.m,0,1,[v']⟩:=by rw[aaF (by omega)];exact e1
 have im:=(hr _ (aae g1)).2;refine⟨hr,by omega,⟨v',g1,e2.of_eq λi hi=>?_,e3⟩,λj h1 h2 h3=>by rw[aaF (by omega)];exact s.fr j h1 h2 h3⟩;rw[aaF];rcases e2 with⟨rfl,_⟩|⟨id,ep,rfl,_⟩
 ·simp[cq]at hi
 ·simp[cq]at hi;subst hi;simp[bz,bt]at im;omega
theorem KV.trans{b:Nat}{H h1 h2:ab}{v v1:PV}{a c:List Tm}(s:KV b H v a h1)(e:h1[b]?=some ⟨.m,0,1,[v1]⟩)(t:KV b h1 v1 c h2):KV b H v c h2:=by
 obtain⟨v',q1,q2,q3⟩:=s.var;rw[q1]at e
 cases e
 obtain⟨v2,r1,r2,r3⟩:=t.var;have:=s.len;refine⟨t.hr,aaQ s.len t.len,⟨v2,r1,r2,λi hi=>?_⟩,λj h1 h2 h3=>?_⟩
 ·rcases r3 i hi with h |h
  ·exact q3 i h
  ·omega
 ·rw[t.fr j (by omega) h2 (λhh=>by rcases q3 j hh with h |h;exact h3 h;omega)];exact s.fr j h1 h2 h3
theorem ai.kv{b:Nat}{f:FuncId}{args:List PV}{H:ab}{v:PV}{c:List Tm}{Q:PV->ab->Prop}(a:ax C f args H (λr h'=>r=.cx []/\KV b H v c h'))(h3:b<H.length)(q:∀h',KV b H v c h'->Q (.cx []) h')(hm:C.mode f=.opened:=by rfl):ai C 2 f args H Q:=
 ai.sm a (λr h' p=>⟨p.2.hr,p.2.len⟩) (λr h' p=>by rw[p.1];exact q h' p.2) (λr h' p hr=>by rw[p.1];exact q _ (p.2.take h3 hr)) hm
theorem KV.uK{b:Nat}{H J h':ab}{v:PV}{a:List Tm}(s:KV b (H++J) v a h'):KV b H v a h':=by
 have hl:=s.len;rw[Z2]at hl;obtain⟨v',e1,e2,e3⟩:=s.var;refine⟨s.hr,by omega,⟨v',e1,e2,λi hi=>?_⟩,λj h1 h2 h3=>by rw[s.fr j (by simp;omega) h2 h3,Z0 h1]⟩;rcases e3 i hi with h |h
 ·exact .inl h
 ·exact .inr (by simp at h;omega)
theorem Ph(b:Nat)(u:Tm)(H:ab)(v:PV)(a:List Tm)(hH:HR H)(h2:H[b]?=some ⟨.m,0,1,[v]⟩)(ho:Out 4 H v (ae a))(hv:b∉cq v)(hn:a.length<100000000):
  ax C 129 [enc u,.ptr b 0 0 0] H (λr h'=>r=.cx []/\KV b H v (a++[u]) h'):=by
 have hle:=aj a;have cI:=ag h2;have hu:ae a++[.agg [.int .i64 u.k,.str u.s,.int .i64 u.o,.aa false (ae u.l)]]=ae (a++[u]):=by rw[cc,<-aw];rfl
 rw[aw];refine ax.x T6 Tryz.func129 rfl ?_;refine wXA ?_;refine Qn.apd h2 ho (λi hi hh=>hv (hh▸hi)) (by omega) (λid ep h' ap=>?_);refine wXA ?_;refine⟨rfl,?_⟩;have hl:=ap.len;have bU:=ag ap.at';have hg:∀j,j<H.length->j≠id->j≠b->h'[j]?=H[j]?:=λj g1 g2 g3=>by rw[ap.fr j g2 g3,Z0 g1]
 refine⟨λo ho=>?_,by omega,⟨_,ap.var,.inr ⟨id,ep,by rw[aj];simp,by rw[<-hu];exact ap.at'⟩,λi hi=>?_⟩,λj g1 g2 g3=>hg j g1 (λhh=>?_) g2⟩
 ·obtain⟨j,hj⟩:=aaZ ho
  by_cases j1:j=id
  ·subst j1;rw[ap.at']at hj;cases hj;exact⟨by simp,br _ _ (by rw[hu];simp)⟩
  by_cases j2:j=b
  ·subst j2;rw[ap.var]at hj;cases hj;exact⟨by simp,by simp[bz,bt];omega⟩
  rw[ap.fr j j1 j2]at hj;have:=(hH.dq (HV.one (ep:=0) (n:=4) (es:=[.agg [.int .i64 u.k,.str u.s,.int .i64 u.o,.aa false (ae u.l)]]) (by simp))) o (aae hj);exact⟨this.1,eG (λi hi=>by have:=of_decide_eq_true hi;simp at this;exact decide_eq_true (by omega)) _ this.2⟩
 ·simp[cq]at hi;subst hi;rcases ap.XC with h |h
  ·exact .inl h
  ·exact .inr (by omega)
 ·subst hh;rcases ap.XC with h |h
  ·exact g3 h
  ·omega
theorem Me (b:Nat) (k s o l) (ih:∀t∈l,∀(H:ab) (v:PV) (a:List Tm),HR H->H[b]?=some ⟨.m,0,1,[v]⟩->Out 4 H v (ae a)->b∉cq v->a.length+ay t<100000000->
   ax C 128 [enc t,.fn 129 [.ptr b 0 0 0]] H (λr h'=>r=.cx []/\KV b H v (a++pre t) h'))
  (H:ab) (v:PV) (a:List Tm) (hH:HR H) (h2:H[b]?=some ⟨.m,0,1,[v]⟩) (ho:Out 4 H v (ae a)) (hv:b∉cq v) (hn:a.length+ay (.mk k s o l)<100000000):
  ax C 128 [enc (.mk k s o l),.fn 129 [.ptr b 0 0 0]] H (λr h'=>r=.cx []/\KV b H v (a++pre (.mk k s o l)) h'):=by
 have cX:=aj l;have ua:=bE l;simp only[ay]at hn;have cI:=ag h2;have TL:HR (H++[⟨.m,0,4,[enc (.mk k s o l)]⟩]):=hH.dq (HV.one (by simp));have b2:(H++[⟨.m,0,4,[enc (.mk k s o l)]⟩])[b]?=some ⟨.m,0,1,[v]⟩:=by rw[Z0 cI];exact h2
 have pk:=Ph b (.mk k s o l) (H++[⟨.m,0,4,[enc (.mk k s o l)]⟩]) v a TL b2 (ho.cC _) hv (by omega);rw[bj]at pk ⊢;refine ax.x T6 Tryz.func128 rfl ?_;refine wXA ?_;refine ai.kv pk (by simp;omega) (λh' ks=>?_);refine wXA ?_;have kw:=ks.uK
 have eW:h'[H.length]?=some ⟨.m,0,4,[.agg [.int .i64 k,.str s,.int .i64 o,.aa false (ae l)]]⟩:=by
  rw[ks.fr H.length (by simp) (by omega) (λhh=>by have:=ho.mI _ hh;omega)];simp
 refine wXA ?_;have Fk:a++[Tm.mk k s o l]=a++(.mk k s o l::ch []):=rfl;rw[Fk]at kw;refine eD.zip T6 l (λp q L K=>L=[(1,.fn 129 [.ptr b 0 0 0]),(10,.aa false (ae l)),(11,.int .i64 (ae l).length),(12,.int .i64 p.length)]/\KV b H v (a++(.mk k s o l::ch p)) K) (.nx ⟨rfl,kw⟩) ?_ ?_
 ·rintro p u q _ K ρ e ⟨rfl,kp⟩;have cY:=bW e;have cE:=congrArg List.length e;simp only[Z2,Z4]at cE;obtain⟨v1,q1,q2,q3⟩:=kp.var;have QE:=kp.len;have WB:=kp.hr
  have qZ:b∉cq v1:=λhi=>by
   rcases q3 b hi with h |h
   ·exact hv h
   ·omega
  have TG:bF l=bF p+(ay u+bF q):=by rw[e,qc];simp[bF]
  have nI:(ch p).length<=bF p:=oX p;have ih1:=ih u (by rw[e];simp) (K++[⟨.m,0,4,[enc u]⟩]) v1 (a++(Tm.mk k s o l::ch p)) (WB.dq (HV.one (by simp))) (by rw[Z0 (ag q1)];exact q1) (q2.cC _) qZ (by simp only[Z2,Z4];omega);rw[aw]at ih1;refine wXA ?_;refine ai.kv ih1 (by simp;omega) (λh' ks=>?_);refine wXA ?_;refine .nx ⟨rfl,?_⟩;have:=kp.trans q1 ks.uK;rwa[aat,show Tm.mk k s o l::ch p++pre u=Tm.mk k s o l::ch (p++[u]) by rw[mW];simp[ch]]at this
 ·rintro _ K ρ ⟨rfl,kp⟩;refine wXA ?_;exact⟨rfl,by rw[pre];exact kp⟩
theorem Mf(b:Nat)(t:Tm):∀(H:ab) (v:PV) (a:List Tm),HR H->H[b]?=some ⟨.m,0,1,[v]⟩->Out 4 H v (ae a)->b∉cq v->a.length+ay t<100000000->
   ax C 128 [enc t,.fn 129 [.ptr b 0 0 0]] H (λr h'=>r=.cx []/\KV b H v (a++pre t) h'):=by
 induction t using Tm.ind with
 |h k s o l ih=>exact Me b k s o l ih
def yN(h:ab)(r:PV)(l:List Tm):Prop:=∃id ep tl,r=.ak id ep 0 l.length/\h[id]?=some ⟨.m,ep,4,ae l++tl⟩/\ao tl=true
theorem Pj{l:List Tm}(h:l≠[]):ch l≠[]:=by
 cases l with
 |nil=>exact absurd rfl h
 |cons t l=>intro hh;have:=gf t;rw[ch]at hh;rw[(List.append_eq_nil_iff.1 hh).1]at this;cases this
theorem nP(l:List Tm)(h0:l≠[])(H:ab)(hH:HR H)(id0 WC:Nat)(e0:H[id0]?=some ⟨.m,WC,4,ae l⟩)(hl:bF l<10000000):ax C 72 [.ak id0 WC 0 l.length] H (λr h'=>HR h'/\H.length<=h'.length/\(∀j,j<H.length->h'[j]?=H[j]?)/\yN h' r (fi l)/\∃id ep n,r=.ak id ep 0 n/\H.length<=id):=by
 have cX:=aj l;have ua:=bE l;have Y':=ag e0;obtain⟨H1,kY⟩:∃H1:ab,H1=H++[⟨.m,0,1,[.aa true []]⟩]:=⟨_,rfl⟩;have Za:H1.length=H.length+1:=by rw[kY];simp
 have TM:HR H1:=by rw[kY];exact hH.dq (HV.one rfl)
 have Zb:H1[H.length]?=some ⟨.m,0,1,[.aa true []]⟩:=by rw[kY];simp
 have Zc:H1[id0]?=some ⟨.m,WC,4,ae l⟩:=by rw[kY,Z0 Y'];exact e0
 refine ax.x T6 Tryz.func72 rfl ?_;refine wXA ?_;rw[<-kY];refine eD.zip T6 l (λp q L K=>L=[(3,.ptr H.length 0 0 0),(6,.ak id0 WC 0 l.length),(7,.int .i64 l.length),(8,.int .i64 p.length)]/\KV H.length H1 (.aa true []) (ch p) K) (.nx ⟨rfl,TM,Z5 _,⟨_,Zb,.inl ⟨rfl,rfl⟩,λi hi=>.inl hi⟩,λ_ _ _ _=>rfl⟩) ?_ ?_
 ·rintro p u q _ K ρ e ⟨rfl,kp⟩;have cY:(ae l)[0+p.length]?=some (.agg [.int .i64 u.k,.str u.s,.int .i64 u.o,.aa false (ae u.l)]):=by rw[aan];exact bW e
  have cE:=congrArg List.length e;simp only[Z2,Z4]at cE;obtain⟨v1,q1,q2,q3⟩:=kp.var;have QE:=kp.len;have WB:=kp.hr;have hK0:K[id0]?=some ⟨.m,WC,4,ae l⟩:=by rw[kp.fr id0 (by omega) (by omega) (by simp[cq])];exact Zc
  have qZ:H.length∉cq v1:=λhi=>by
   rcases q3 _ hi with h |h
   ·simp[cq]at h
   ·omega
  have TG:bF l=bF p+(ay u+bF q):=by rw[e,qc];simp[bF]
  have nI:(ch p).length<=bF p:=oX p;have ih1:=Mf H.length u (K++[⟨.m,0,4,[enc u]⟩]) v1 (ch p) (WB.dq (HV.one (by simp))) (by rw[Z0 (ag q1)];exact q1) (q2.cC _) qZ (by omega);rw[aw]at ih1;refine wXA ?_;refine ai.kv ih1 (by simp;omega) (λh' ks=>?_);refine wXA ?_;refine .nx ⟨rfl,?_⟩;have:=kp.trans q1 ks.uK;rwa[show ch p++pre u=ch (p++[u]) by rw[mW];simp[ch]]at this
 ·rintro _ K ρ ⟨rfl,kp⟩;obtain⟨v',e1,e2,e3⟩:=kp.var;have hh:=kp.hr;have QE:=kp.len;have nI:=oX l;have cU:dd (eg (ch l))=fi l:=EC _;rcases e2 with⟨rfl,e9⟩|⟨id,ep,rfl,e2⟩
  ·exact absurd (aaf (by rw[<-aj,e9];rfl)) (Pj h0)
  ·have ho:=xr K hh id ep (ch l) e2 (by omega) (λu hu=>by obtain⟨t,ht,hu⟩:=bT.1 hu;have:=oW t u hu;have:=bS ht;omega);rw[aj]at e1
   have bU:H.length+1<=id:=by
    rcases e3 id (by simp[cq])with h |h
    ·simp[cq]at h
    ·omega
   refine wXA ?_;refine .ln ho (λr h' hr=>by obtain⟨_,_,_,rfl⟩:=hr;simp) (λr h' hr=>?_);obtain⟨rfl,tl,hv,rfl⟩:=hr;rw[cU];have e5:=Z6 (a:=(⟨.m,ep,4,ae (fi l)++tl⟩:au)) (ag e2);refine wXA ?_;refine⟨hh.set _ (by simp) (br _ _ (by rw[du,hv];simp)),by simp;omega,λj hj=>?_,⟨id,ep,tl,rfl,e5,hv⟩,id,ep,_,rfl,by omega⟩;rw[Z7 (by omega),kp.fr j (by omega) (by omega) (by simp[cq]),kY,Z0 hj]
theorem _root_.Go.Pm.ai.op{f:FuncId}{rest pz:List PV}{h:ab}{v rv:PV}{l:List Tm}{Q:PV->ab->Prop}(o:yN h v l)(a:aO C f (.aa false (ae l)::pz) rv)(q:Q rv h)(hs:dU rv=true:=by rfl)(hr:ao rest=true:=by simp)(hn:aQ rest=pz:=by simp)(hm:C.mode f=.pure:=by rfl):ai C 2 f (v::rest) h Q:=by
 obtain⟨id,ep,tl,rfl,e,ht⟩:=o;have OQ:(ae l++tl).take l.length=ae l:=by rw[aaA (by rw[aj];omega),aar (by rw[aj];omega)]
 refine ai.rbS (args':=.aa false (ae l)::rest) ?_ (by subst hn;simp[aQ,cf]) a q hs hm;simp only[gI,j',qs,getM,e];simp only[and_self,if_true,aan,Z2,aj];rw[if_pos ⟨by simp,by simp⟩];simp only[aaV,OQ];rw[if_pos ⟨by first |omega |(rw[Z2,aj];omega),by simp,by simp⟩,mO hr]
theorem yN.TN{h:ab}{r:PV}{l:List Tm}{k:IntKind}{n:Int}(o:yN h r l):∃r1,rb h (aY [r,.int k n])=some r1/\cf r1=.cx [.aa false (ae l),.int k n]:=by
 obtain⟨id,ep,tl,rfl,e,ht⟩:=o;have OQ:(ae l++tl).take l.length=ae l:=by rw[aaA (by rw[aj];omega),aar (by rw[aj];omega)]
 refine⟨.cx [.aa false (ae l),.int k n],?_,by simp[cf,aQ,ba]⟩;simp[aY,rb,gI,j',qs,getM,e,OQ,aV]
theorem zS(l:List Tm)(hl:l.length<10000000)(hb:∀t∈l,ay t<100000000):aO C 114 [.aa false (ae l)] (.aa false (ae (jb l))):=by
 have cX:=aj l;have cU:dd (eg l)=jb l:=EC _;refine aO.x T6 Tryz.func114 rfl ?_;refine wXA ?_
 cases l with
 |nil=>
  refine ai.cz rfl (h':=[]) (rv:=.aa true []) rfl ?_;refine wXA ?_;refine ai.cz rfl rfl ?_;refine wXA ?_;refine .ln (sj _ _) (λr h' hr=>by rw[hr.2]) (λr h' hr=>?_);obtain⟨rfl,rfl⟩:=hr;refine wXA ?_;exact⟨_,rfl,rfl⟩
 |cons y l0=>
  refine ai.cz rfl (lE (l:=y::l0) (by simp) (by simp at hl ⊢;omega) []) ?_;generalize hL:y::l0=l at *;refine wXA ?_;have e1:([]++[⟨.m,0,4,ae l⟩]:ab)[0]?=some ⟨.m,0,4,ae l⟩:=rfl;refine ai.cz rfl (lV e1 (by omega) (λt ht=>by have:=hb t ht;omega)) ?_;have e2:(([]++[⟨.m,0,4,ae l⟩]:ab).set 0 ⟨.m,0,4,ae (eg l)⟩)[0]?=some ⟨.m,0,4,ae (eg l)⟩:=rfl;have yi:=(fh l).length_eq;have ez:∀t∈eg l,ay t<100000000:=λt ht=>hb t ((fh _).mem_iff.1 ht)
  rw[<-yi]at cX hl ⊢;generalize eg l=S at *
  cases S with
  |nil=>rw[<-hL]at yi;simp at yi
  |cons x r=>
   have hc:=pA _ rfl E6 x r _ (HV.one (by simp)).hr 0 0 e2 (by simp at hl;omega) (λt ht=>by have:=ez t ht;omega);rw[aj]at hc;refine wXA ?_;refine .ln hc (λr h' hr=>by obtain⟨_,_,_,rfl⟩:=hr;simp) (λr h' hr=>?_);obtain⟨rfl,tl,hv,rfl⟩:=hr;rw[cU];refine wXA ?_;exact gV (tl:=tl) rfl (by rw[aj]) (by simp) (by simp)
theorem pp(l:List Tm):(fi l).length<=bF l:=by
 have h1:=wu (ch l);have h2:=oX l;unfold fi;omega
theorem tn{l:List Tm}{B:Nat}(h:∀t∈l,ay t<B):∀y∈fi l,ay y<B:=λy hy=>by
 obtain⟨t,ht,hy⟩:=bT.1 ((db _ _).1 hy);have:=oW t y hy;have:=h t ht;omega
theorem A6(k:List Tm)(t:Tm)(hf:∀u∈k++[t],iP u=true)(hl:bF (k++[t])<10000000):
  aO C 113 [.aa false (ae k),.aa false (ae [t])] (.cx [.aa false (ae (if gW k t≠0 then[]else fi (k++[t]))),.int .i64 (gW k t)]):=by
 have cX:=aj k;have yk:=bE (k++[t]);simp only[Z2,Z4,aaE]at yk;have NN:∀u∈k++[t],ay u<10000000:=λu hu=>by have:=bS hu;omega
 have h1:=CR (k++[t]) hf (by simp;omega) NN
 have h3:=IG (fi (k++[t])) (λy hy=>by
  obtain⟨a,ha,hb⟩:=bT.1 ((db _ _).1 hy);exact AK (hf a ha) hb) (by have:=pp (k++[t]);omega)
 have hE:gW k t=if 60<k.length then 3 else if lB (k++[t])≠0 then lB (k++[t])else if 200<(fi (k++[t])).length then 3 else 0:=rfl;have CZ:X2 [] (.aa true [.aa false (ae k),.aa false (ae [t])]) (.aa false (ae k)) (.aa false (ae [t])):=.inl rfl;have Pk:=(zg k [t] [] _ _ _ CZ (.inr ⟨_,rfl⟩) (.inr ⟨_,rfl⟩) (by simp;omega)).nine;generalize hU:fi (k++[t])=U at *;have XJ:gW k t=0->(if gW k t≠0 then[]else U)=U:=λh=>if_neg (by omega)
 have Uz:gW k t≠0->(if gW k t≠0 then[]else U)=[]:=λh=>if_pos h
 generalize(if gW k t≠0 then[]else U)=R at *;refine aO.x T6 Tryz.func113 rfl ?_;refine wXC (λhc=>?_) λhc=>?_
 ·rw[if_pos (by omega)]at hE;exact⟨_,rfl,by rw[Uz (by omega),hE];rfl⟩
 ·rw[if_neg (by omega)]at hE;refine .opened rfl (Pk.mono λr h' hr=>?_)
  obtain⟨ep,rfl,rfl⟩:∃ep,r=.ak 0 ep 0 (ae (k++[t])).length/\h'=[⟨.m,ep,4,ae (k++[t])⟩]:=by
   rcases hr with⟨h,_⟩|⟨ep,h1,h2⟩
   ·simp at h
   ·exact⟨ep,h1,h2⟩
  rw[if_neg (by simp[dQ,cH,dP])];have ho:Out 4 [⟨.m,ep,4,ae (k++[t])⟩] (.ak 0 ep 0 (ae (k++[t])).length) (ae (k++[t])):=.inr ⟨0,ep,rfl,rfl⟩;refine wXA ?_;refine .plS (.inl ho) h1 ?_;refine wXC (λhc=>?_) λhc=>?_
  ·have hz:lB (k++[t])=0:=by omega
   rw[if_neg (by omega)]at hE;have yu:=nP (k++[t]) (by simp) [⟨.m,ep,4,ae (k++[t])⟩] (HV.one (by simp)).hr 0 ep rfl hl;rw[aj]at *;refine .fr (yu.mono λr h' hr=>⟨hr.1,hr.2.1,hr.2.2.1,hr.2.2.2⟩) (λr h' hr hb=>?_) (λr h' r1 r2 r3 r4=>?_)
   ·obtain⟨_,id,ep,n,rfl,bU⟩:=hr;simp[dQ,cH,dP]at hb;simp at bU;omega
   obtain⟨kV,_⟩:=r4;rw[hU]at kV;refine wXA ?_;refine ai.op kV h3 ?_ (by split <;>rfl);refine wXC (λhc=>?_) λhc=>?_
   ·rw[XJ (by omega),show gW k t=0 by omega];exact kV.TN
   ·exact⟨_,rfl,by rw[Uz (by omega),hE];rfl⟩
  ·rw[if_pos (by assumption)]at hE;exact⟨_,rfl,by rw[Uz (by omega),hE];rfl⟩
end bP
def xi(s:ByteArray):Bool:=s.toList.take 2==[101,35]
def sE:ByteArray:=⟨#[101,35]⟩
theorem Wn:sE.toList=[101,35]:=by rw[ByteArray.toList_eq];rfl
namespace bP
open Go.Proofs
attribute [local irreducible] aE az aI aJ Ev ah ai ax aW bZ
theorem E8(s:ByteArray)(hs:s.size<1000000000):aO C 356 [.str s,.str sE] (.bool (xi s)):=by
 have hl:=bsize s;have hp:xi s=(s.toList.take 2==[101,35]):=rfl;have hx:(s.extract 0 2).toList=s.toList.take 2:=by rw[CL,aaV]
 refine aO.x T6 Tryz.func356 rfl ?_;refine wXK (λhc hc=>?_) (λhc hc=>?_) λhc=>?_
 ·have hh:(s.extract 0 2).toList=sE.toList:=by assumption
  exact⟨_,rfl,by rw[hp,<-hx,hh,Wn];rfl⟩
 ·have hh:¬(s.extract 0 2).toList=sE.toList:=by assumption
  rw[hx,Wn]at hh;exact⟨_,rfl,by rw[hp];simp[aY,hh]⟩
 ·have h3:sE.size=2:=rfl
  have hh:s.toList.take 2≠[101,35]:=λh=>by
   have:=congrArg List.length h;simp at this;omega
  exact⟨_,rfl,by rw[hp];simp[aY,hh]⟩
theorem LU(s:ByteArray)(hs:s.size<1000000000):∃r:ByteArray,(xi s=true->r.toList=s.toList.drop 2)/\r.size<=s.size/\aO C 268 [.str s,.str ⟨#[101,35]⟩] (.cx [.str r,.bool (xi s)]):=by
 have h1:=E8 s hs
 have key:∃r:ByteArray,(xi s=true->r.toList=s.toList.drop 2)/\r.size<=s.size/\aO C 318 [.str s,.str sE] (.cx [.str r,.bool (xi s)]):=by
  cases hp:xi s
  ·refine⟨s,λh=>(by cases h),Z5 _,?_⟩;rw[hp]at h1;refine aO.x T6 Tryz.func318 rfl ?_;refine wXA ?_;refine .p h1 ?_;refine wXA ?_;exact⟨_,rfl,rfl⟩
  ·have h2:2<=s.size:=by
    have:=congrArg List.length (eq_of_beq (show(s.toList.take 2==[101,35])=true from hp));have:=bsize s;simp at *;omega
   have hx:(s.extract 2 s.size).toList=s.toList.drop 2:=by rw[CL,<-bsize,aaW]
   refine⟨s.extract 2 s.size,λ_=>hx,by rw[<-bsize,hx,abS,bsize];omega,?_⟩;rw[hp]at h1;have h3:sE.size=2:=rfl;refine aO.x T6 Tryz.func318 rfl ?_;refine wXA ?_;refine .p h1 ?_;refine wXA ?_;exact⟨_,rfl,rfl⟩
 obtain⟨r,q1,q2,q3⟩:=key;refine⟨r,q1,q2,?_⟩;have q3:aO C 318 [.str s,.str ⟨#[101,35]⟩] (.cx [.str r,.bool (xi s)]):=q3;refine aO.x T6 Tryz.func268 rfl ?_;refine wXA ?_;refine .p q3 ?_;refine wXA ?_;exact⟨_,rfl,rfl⟩
theorem E9(t:Tm)(hb:ay t<100000000)(hl:t.l.length<100000000):aO C 209 [enc t] (.bool (ti t)):=by
 have hss:t.s.size<100000000:=by obtain⟨k,s,o,l⟩:=t;simp only[ay]at hb;simp only[Tm.s];omega
 obtain⟨r,h1,h2,h3⟩:=LU t.s (by omega);have h4:=E7 r (by omega)
 have h5:aO C 206 [enc t,.aa false [.str ⟨#[122,101,114,111]⟩,.str ⟨#[111,110,101]⟩]] (.bool (decide (t.k=3)&& (gO t.s jx ||gO t.s tE))):=by
  have:=se t [jx,tE] (by simp);have e:(decide (t.k=3)&& (gO t.s jx ||gO t.s tE))=(decide (t.k=3)&& [jx,tE].any λn=>gO t.s n):=by simp
  rw[e];exact this
 have cX:=aj t.l
 have hO:IB t.s.toList=(xi t.s&&LS r.toList):=by
  unfold IB
  cases hp:xi t.s
  ·have:(t.s.toList.take 2==[101,35])=false:=hp;rw[this];rfl
  ·have:(t.s.toList.take 2==[101,35])=true:=hp;rw[this,h1 hp]
 have hP:ti t=if t.k=3 then(gO t.s jx ||gO t.s tE)&&t.l.isEmpty else if t.k≠2 then false else if t.o=1\/t.o=5 then true else if t.o=4 then gO t.s nG ||IB t.s.toList else if t.o=0\/t.o=2\/t.o=3 then IB t.s.toList else false:=rfl;rw[hO]at hP;generalize xi t.s=P at *;generalize LS r.toList=D at *;have XY:t.l.isEmpty=decide ((ae t.l).length=0):=by rw[cX];cases t.l <;>simp
 rw[aw]at h5 ⊢;refine aO.x T6 Tryz.func209 rfl ?_;refine wXI (λhc=>?_) (λhc hc=>?_) λhc hc=>?_
 ·have hk:t.k=3:=by omega
  rw[if_pos hk]at hP;rw[decide_eq_true hk,abd]at h5;refine .p h5 ?_
  cases hz:gO t.s jx ||gO t.s tE
  ·refine wXA ?_;exact⟨_,rfl,by rw[hP,hz];rfl⟩
  ·refine wXC (λhc=>?_) λhc=>?_
   ·rw[decide_eq_true (by omega)]at XY;exact⟨_,rfl,by rw[hP,hz,XY];rfl⟩
   ·rw[decide_eq_false (by omega)]at XY;exact⟨_,rfl,by rw[hP,hz,XY];rfl⟩
 ·rw[if_neg (by omega)]at hP;refine .p h3 ?_
  (repeat' (first |(refine Rn.go ?_;conv=>whnf)|refine .mk ?_ |refine .mk (λhc=>?_) λhc=>?_ |fail))
  ·rw[if_neg (by omega),if_pos (by omega)]at hP;exact⟨_,rfl,by rw[hP];rfl⟩
  ·rw[if_neg (by omega),if_pos (by omega)]at hP;exact⟨_,rfl,by rw[hP];rfl⟩
  ·have hg:gO t.s nG=true:=qC (by assumption);rw[if_neg (by omega),if_neg (by omega),if_pos (by omega),hg]at hP;exact⟨_,rfl,by rw[hP];rfl⟩
  ·have hg:gO t.s nG=false:=mR (by assumption);rw[if_neg (by omega),if_neg (by omega),if_pos (by omega),hg]at hP
   cases Wo:P
   ·rw[Wo]at hP
    skip
    exact⟨_,rfl,by rw[hP];rfl⟩
   ·rw[Wo]at hP
    skip
    refine .p h4 ?_;refine wXA ?_;exact⟨_,rfl,by rw[hP];rfl⟩
  all_goals first
   |have hq:ti t=(P&&D):=by rw[hP,if_neg (by omega),if_neg (by omega),if_neg (by omega),if_pos (by omega)]
    cases Wo:P
    ·rw[Wo]at hq
     skip
     exact⟨_,rfl,by rw[hq];rfl⟩
    ·rw[Wo]at hq
     skip
     refine .p h4 ?_;refine wXA ?_;exact⟨_,rfl,by rw[hq];rfl⟩
   |exact⟨_,rfl,by rw[hP,if_neg (by omega),if_neg (by omega),if_neg (by omega),if_neg (by omega)];rfl⟩
   |exact⟨_,rfl,by rw[hP,if_pos (by omega)];rfl⟩
 ·exact⟨_,rfl,by rw[hP,if_neg (by omega),if_pos (by omega)];rfl⟩
theorem Pd(l:List Tm)(g:FuncId)(cs:List PV)(p:Tm->Bool)(H:ab)(hl:l.length<1000000000)(hp:∀x∈l,gM H g cs (enc x) (p x)):
  ax C 320 [.aa false (ae l),.fn g cs] H (λr h'=>r=.int .i64 (uQ p l)/\fQ H h'):=by
 have cX:=aj l;refine ax.x T6 Tryz.func320 rfl ?_;refine wXA ?_;refine eD.zip T6 l (λa q L K=>L=[(0,.aa false (ae l)),(1,.fn g cs),(7,.int .i64 (ae l).length),(8,.int .i64 a.length)]/\fQ H K/\∀y∈a,p y=false) (.nx ⟨rfl,fQ.refl _,by simp⟩) ?_ ?_
 ·rintro a x q _ K ρ e ⟨rfl,hE,ha⟩;have cY:=bW e;have cE:=congrArg List.length e;simp only[Z2,Z4]at cE;have AO:=hp x (by rw[e];simp) _ hE;rw[aw]at AO;refine wXA ?_;refine AO _ (λh' NM=>?_)
  cases hb:p x
  ·refine wXA ?_;exact .nx ⟨rfl,hE.trans NM,λy hy=>by rcases Z8.1 hy with h |h;exact ha y h;simp at h;rw[h];exact hb⟩
  ·refine wXA ?_;exact⟨by rw[e,p8 ha hb];rfl,hE.trans NM⟩
 ·rintro _ K ρ ⟨rfl,hE,ha⟩;refine wXA ?_;exact⟨by rw[kM ha];rfl,hE⟩
theorem GO(l:List Tm)(g:FuncId)(cs:List PV)(p:Tm->Bool)(H:ab)(hl:l.length<1000000000)(hp:∀x∈l,gM H g cs (enc x) (p x)):
  ax C 271 [.aa false (ae l),.fn g cs] H (λr h'=>r=.bool (l.any p)/\fQ H h'):=by
 have hi:=Pd l g cs p H hl hp;have ha:=rU p l;refine ax.x T6 Tryz.func271 rfl ?_;refine wXA ?_;refine .ex hi (λh' hE=>?_);refine wXC (λhc=>?_) λhc=>?_
 all_goals exact⟨by rw[<-ha];simp[aY, *],hE⟩
structure j8(s:List Tm):Prop where
 Bx:fO s
 len:s.length<10000000
 bk:∀b∈s,ay b<10000000
theorem j8.has{s:List Tm}(h:j8 s){t:Tm}(ht:ay t<10000000):aO C 116 [.aa false (ae s),enc t] (.bool (cN s t)):=LD s t h.Bx (by have:=h.len;omega) (λb hb=>by have:=h.bk b hb;omega) (by omega)
theorem Ma(s:List Tm)(hs:j8 s)(x:Tm)(hx:ay x<10000000)(id:Nat)(H:ab)(h0:H[id]?=some ⟨.m,0,1,[.aa false (ae s)]⟩):ax C 270 [enc x,.ptr id 0 0 0] H (λr h'=>r=.bool (!cN s x)/\fQ H h'):=by
 have h1:=hs.has hx;have cI:=ag h0;rw[aw]at h1 ⊢;refine ax.x T6 Tryz.func270 rfl ?_;refine wXA ?_;refine .p h1 ?_
 cases cN s x
 all_goals(
  refine wXA ?_;exact⟨rfl,(fQ.refl _).cC (HV.one (by simp))⟩)
theorem A5(s:List Tm)(hs:j8 s)(u:Tm)(hu:ay u<10000000):aO C 210 [.aa false (ae s),enc u] (.bool (xn s u)):=by
 obtain⟨B,hB⟩:∃B:ab,B=[⟨.m,0,1,[.aa false (ae s)]⟩,⟨.m,0,4,[.agg [.int .i64 u.k,.str u.s,.int .i64 u.o,.aa false (ae u.l)]]⟩]:=⟨_,rfl⟩;have UE:B[0]?=some ⟨.m,0,1,[.aa false (ae s)]⟩:=by rw[hB];rfl
 have Nw:u.l.length<10000000:=by obtain⟨k,n,o,l⟩:=u;have:=bE l;simp only[ay]at hu;simp only[Tm.l];omega
 have hub:∀x∈u.l,ay x<10000000:=λx hx=>by obtain⟨k,n,o,l⟩:=u;have:=bS hx;simp only[ay]at hu;simp only[Tm.l]at this;omega
 have hc:=qb u.l 270 [.ptr 0 0 0 0] (λx=>!cN s x) B (by omega) (λx hx=>gM.opened λH' hE=>Ma s hs x (hub x hx) 0 H' (hE.at UE));have hn:(u.l.any λx=>!cN s x)= !(u.l.all (cN s)):=by rw[List.all_eq_not_any_not];simp
 rw[hn]at hc
 have h5:aO C 206 [enc u,.aa false [.str ⟨#[112,97,105,114]⟩,.str ⟨#[101,110,99]⟩,.str ⟨#[97,101,110,99]⟩,.str ⟨#[112,107]⟩,.str ⟨#[115,105,103,110]⟩,.str ⟨#[104,97,115,104]⟩]] (.bool (qx u)):=by
  have:=se u [j3,jG,fK,H6,mV,wB] (by simp);have e:qx u=(decide (u.k=3)&& [j3,jG,fK,H6,mV,wB].any λn=>gO u.s n):=by simp[qx,QP,Bool.or_assoc]
  rw[e];exact this
 have hR:xn s u=(qx u&&u.l.all (cN s)):=rfl;rw[hR];rw[aw]at h5 ⊢;refine aO.x T6 Tryz.func210 rfl ?_;refine wXA ?_;refine .p h5 ?_
 cases qx u
 ·refine wXA ?_;exact⟨_,rfl,rfl⟩
 ·refine wXA ?_;rw[<-hB];refine .ex hc (λh' hE=>?_)
  cases u.l.all (cN s)
  all_goals(
   refine wXA ?_;exact⟨_,rfl,rfl⟩)
theorem xo(t:Tm)(n:ByteArray):aO C 245 [enc t,.str n] (.bool (eV t n)):=by
 rw[aw];refine aO.x T6 Tryz.func245 rfl ?_;refine wXK (λhc hc=>?_) (λhc hc=>?_) λhc=>?_
 ·exact⟨_,rfl,by simp[aY,eV,gO, *]⟩
 ·exact⟨_,rfl,by simp[aY,eV,gO, *]⟩
 ·exact⟨_,rfl,by simp[aY,eV,gO, *]⟩
theorem TJ(t:Tm)(hb:ay t<10000000):aO C 364 [enc t,.aa false []] (.cx [enc t,.int .i64 0]):=by
 have h1:=mH t (by omega);rw[aw]at h1 ⊢;refine aO.x T6 Tryz.func364 rfl ?_;refine wXA ?_;obtain⟨B,hB⟩:∃B:ab,B=[⟨.m,0,4,[.agg [.int .i64 t.k,.str t.s,.int .i64 t.o,.aa false (ae t.l)]]⟩,⟨.m,0,4,[.agg [.int .i64 0,.str ByteArray.empty,.int .i64 0,.aa true []]]⟩]:=⟨_,rfl⟩;refine eD.zip T6 ([]:List Tm) (λp q L K=>L=[(2,.ptr 0 0 0 0),(4,.ptr 1 0 0 0),(8,.aa false []),(9,.int .i64 0),(10,.int .i64 p.length)]/\K=[⟨.m,0,4,[.agg [.int .i64 t.k,.str t.s,.int .i64 t.o,.aa false (ae t.l)]]⟩,⟨.m,0,4,[.agg [.int .i64 0,.str ByteArray.empty,.int .i64 0,.aa true []]]⟩]) (.nx ⟨rfl,rfl⟩) ?_ ?_
 ·rintro p u q _ K ρ e _
  cases p <;>cases e
 ·rintro _ _ ρ ⟨rfl,rfl⟩;refine wXA ?_;refine .p h1 ?_;refine wXA ?_;exact lY
theorem xp(t:Tm)(hb:ay t<10000000):aO C 321 [enc t] (enc t):=by
 have h1:=TJ t hb;rw[aw]at h1 ⊢;refine aO.x T6 Tryz.func321 rfl ?_;refine wXA ?_;refine .p h1 ?_;refine wXA ?_;exact QQ
theorem re{t:Tm}{i:Nat}(h:i<t.l.length):(ae t.l)[i]?=some (.agg [.int .i64 (fy t i).k,.str (fy t i).s,.int .i64 (fy t i).o,.aa false (ae (fy t i).l)]):=by
 refine gw ?_;rw[fy,aam,Z3 h]
 rfl
theorem mj{t:Tm}{i:Nat}(h:i<t.l.length):fy t i∈t.l:=by
 rw[fy,aam,Z3 h];exact aay h
theorem gX{t x:Tm}(h:x∈t.l):ay x<ay t:=by
 obtain⟨k,n,o,l⟩:=t;have:=bS h;simp only[ay,Tm.l]at *;omega
theorem IN{t:Tm}{n:ByteArray}(h:ky t=0)(hn:eV t n=true)(h2:(cO n).a=2/\(cO n).b=2):t.l.length=2:=by
 obtain⟨a,b,e⟩:=kD h hn h2;rw[e];rfl
theorem Pe(t:Tm)(hb:ay t<10000000):aO C 274 [enc t] (.cx [enc (oe t),.int .i64 (pg t)]):=by
 have h1:=sf t (by omega);have h2:=xo t ⟨#[101,110,99]⟩;have h3:=xo t ⟨#[97,101,110,99]⟩;have hE:pg t=if ky t≠0 then ky t else if eV t jG=true then 0 else if eV t fK=false then 10 else if eV (fy t 1) H6=false then 4 else 0:=rfl;have hV:oe t=if pg t≠0 then eU else if eV t jG=true then fy t 1 else fy (fy t 1) 0:=rfl;have n1:eV t ⟨#[101,110,99]⟩=eV t jG:=rfl;have n2:eV t ⟨#[97,101,110,99]⟩=eV t fK:=rfl;rw[n1]at h2;rw[n2]at h3;have hz:=sg;rw[aw t]at h1 h2 h3 ⊢
 by_cases hv:ky t=0
 ·rw[if_neg (by omega)]at hE
  cases hn:eV t jG
  ·rw[hn]at h2 hE hV;rw[if_neg (by simp)]at hE
   cases ha:eV t fK
   ·rw[ha,if_pos rfl]at hE;rw[ha]at h3;rw[if_pos (by omega)]at hV;rw[hV,hE,hz];refine aO.x T6 Tryz.func274 rfl ?_;refine wXA ?_;refine .p h1 ?_;refine wXA ?_;refine .p h2 ?_;refine wXA ?_;refine .p h3 ?_;refine wXA ?_;exact⟨_,rfl,rfl⟩
   ·rw[ha,if_neg (by simp)]at hE;rw[ha]at h3;have cE:=IN hv ha BB.2.2.1;have cY:=re (t:=t) (i:=1) (by omega);have h4:=xo (fy t 1) ⟨#[112,107]⟩;have n3:eV (fy t 1) ⟨#[112,107]⟩=eV (fy t 1) H6:=rfl;rw[n3,aw]at h4
    cases hp:eV (fy t 1) H6
    ·rw[hp,if_pos rfl]at hE;rw[hp]at h4;rw[if_pos (by omega)]at hV;rw[hV,hE,hz];refine aO.x T6 Tryz.func274 rfl ?_;refine wXA ?_;refine .p h1 ?_;refine wXA ?_;refine .p h2 ?_;refine wXA ?_;refine .p h3 ?_;refine wXA ?_;refine .p h4 ?_;refine wXA ?_;exact⟨_,rfl,rfl⟩
    ·rw[hp,if_neg (by simp)]at hE;rw[hp]at h4;rw[if_neg (by omega),if_neg (by simp)]at hV;have jr:=mj (t:=t) (i:=1) (by omega);obtain⟨c,Tt⟩:=vt (rZ hv jr) hp BB.2.2.2.2;have yg:(fy t 1).l.length=1:=by rw[Tt];rfl
     have oQ:=re (t:=fy t 1) (i:=0) (by omega);have b1:=gX jr;have b2:=gX (mj (t:=fy t 1) (i:=0) (by omega));have h5:=xp (fy (fy t 1) 0) (by omega);rw[hV,hE];generalize hK:fy (fy t 1) 0=K at *;generalize hM:fy t 1=M at *;rw[aw]at h5 ⊢;refine aO.x T6 Tryz.func274 rfl ?_;refine wXA ?_;refine .p h1 ?_;refine wXA ?_;refine .p h2 ?_;refine wXA ?_;refine .p h3 ?_;refine wXA ?_;refine .p h4 ?_;refine wXA ?_;refine .p h5 ?_;refine wXA ?_;exact lY
  ·rw[hn,if_pos rfl]at hE;rw[hn]at h2 hV;rw[if_neg (by omega),if_pos rfl]at hV;have cE:=IN hv hn BB.2.1;have cY:=re (t:=t) (i:=1) (by omega);have b1:=gX (mj (t:=t) (i:=1) (by omega));have h5:=xp (fy t 1) (by omega);rw[hV,hE];generalize hM:fy t 1=M at *;rw[aw]at h5 ⊢;refine aO.x T6 Tryz.func274 rfl ?_;refine wXA ?_;refine .p h1 ?_;refine wXA ?_;refine .p h2 ?_;refine wXA ?_;refine .p h5 ?_;refine wXA ?_;exact lY
 ·rw[if_pos hv]at hE;rw[if_pos (by omega)]at hV;rw[hV,hE,hz];refine aO.x T6 Tryz.func274 rfl ?_;refine wXA ?_;refine .p h1 ?_;refine wXA ?_;exact⟨_,rfl,rfl⟩
theorem Fj(s:List Tm)(hs:j8 s)(u t:Tm)(hu:ay u<10000000)(ht:ay t<10000000)(hv:ky t=0)(i1 i2:Nat)(H:ab)(hH:HV H)(h1:H[i1]?=some ⟨.m,0,4,[.agg [.int .i64 u.k,.str u.s,.int .i64 u.o,.aa false (ae u.l)]]⟩)(h2:H[i2]?=some ⟨.m,0,1,[.aa false (ae s)]⟩):
  ax C 272 [enc t,.ptr i1 0 0 0,.ptr i2 0 0 0] H (λr h'=>r=.bool (uv s u t)/\fQ H h'):=by
 have g1:=mT t ⟨#[112,97,105,114]⟩;have g2:=mT t ⟨#[115,105,103,110]⟩
 have g3:aO C 206 [enc t,.aa false [.str ⟨#[101,110,99]⟩,.str ⟨#[97,101,110,99]⟩]] (.bool (eV t jG ||eV t fK)):=by
  have:=se t [jG,fK] (by simp);have e:(eV t jG ||eV t fK)=(decide (t.k=3)&& [jG,fK].any λn=>gO t.s n):=by cases h:decide (t.k=3) <;>simp[eV,h]
  rw[e];exact this
 have n1:eV t ⟨#[112,97,105,114]⟩=eV t j3:=rfl;have n2:eV t ⟨#[115,105,103,110]⟩=eV t mV:=rfl;rw[n1]at g1;rw[n2]at g2;have TF:=ag h1;have Y9:=ag h2;have hO:uv s u t=if eV t j3=true then decide (aU (fy t 0) u=0)||decide (aU (fy t 1) u=0)else if eV t mV=true then decide (aU (fy t 0) u=0)else if eV t jG ||eV t fK then decide (pg t=0)&&decide (aU (fy t 0) u=0)&&cN s (oe t)else false:=rfl;have k0:=Pe t ht;have dp:aT (H++[⟨.m,0,4,[.agg [.int .i64 t.k,.str t.s,.int .i64 t.o,.aa false (ae t.l)]]⟩])=true:=(hH.cC (HV.one (by simp))).closed;have f1:(H++[⟨.m,0,4,[.agg [.int .i64 t.k,.str t.s,.int .i64 t.o,.aa false (ae t.l)]]⟩])[i1]?=some ⟨.m,0,4,[.agg [.int .i64 u.k,.str u.s,.int .i64 u.o,.aa false (ae u.l)]]⟩:=by rw[Z0 TF];exact h1
 rw[aw t]at g1 g2 g3 k0 ⊢
 cases hp:eV t j3
 ·rw[hp,if_neg (by simp)]at hO;rw[hp]at g1
  cases hg:eV t mV
  ·rw[hg,if_neg (by simp)]at hO;rw[hg]at g2
   cases he:eV t jG ||eV t fK
   ·rw[he,if_neg (by simp)]at hO;rw[he]at g3;rw[hO];refine ax.x T6 Tryz.func272 rfl ?_;refine wXA ?_;refine .p g1 ?_;refine wXA ?_;refine .p g2 ?_;refine wXA ?_;refine .p g3 ?_;refine wXA ?_;exact⟨rfl,(fQ.refl _).cC (HV.one (by simp))⟩
   ·rw[he,if_pos rfl]at hO;rw[he]at g3
    have cE:t.l.length=2:=by
     rw[aaq]at he;rcases he with he |he
     ·exact IN hv he BB.2.1
     ·exact IN hv he BB.2.2.1
    have cY:=re (t:=t) (i:=0) (by omega);have b1:=gX (mj (t:=t) (i:=0) (by omega));have q1:=mQ (fy t 0) u (by omega) (by omega);generalize hM:fy t 0=M at *;rw[hO]
    by_cases hkE:pg t=0
    ·have hbK:ay (oe t)<10000000:=by
      obtain⟨_,hk⟩:=mN hkE;rcases hk with⟨_,e⟩|⟨_,e1,e⟩
      ·rw[e];have:=gX (mj (t:=t) (i:=1) (by omega));omega
      ·have jr:=mj (t:=t) (i:=1) (by omega);obtain⟨c,Tt⟩:=vt (rZ hv jr) e1 BB.2.2.2.2;rw[e];have b2:=gX jr;have b3:=gX (mj (t:=fy t 1) (i:=0) (by rw[Tt];simp));omega
     have q2:=hs.has hbK;generalize oe t=K at *;have E0:aT (H++[⟨.m,0,4,[.agg [.int .i64 t.k,.str t.s,.int .i64 t.o,.aa false (ae t.l)]]⟩]++[⟨.m,0,4,[.agg [.int .i64 K.k,.str K.s,.int .i64 K.o,.aa false (ae K.l)]]⟩])=true:=((hH.cC (HV.one (by simp))).cC (HV.one (by simp))).closed;have f3:(H++[⟨.m,0,4,[.agg [.int .i64 t.k,.str t.s,.int .i64 t.o,.aa false (ae t.l)]]⟩]++[⟨.m,0,4,[.agg [.int .i64 K.k,.str K.s,.int .i64 K.o,.aa false (ae K.l)]]⟩])[i1]?=some ⟨.m,0,4,[.agg [.int .i64 u.k,.str u.s,.int .i64 u.o,.aa false (ae u.l)]]⟩:=by rw[Z0 (by simp;omega)];exact f1
     have f4:(H++[⟨.m,0,4,[.agg [.int .i64 t.k,.str t.s,.int .i64 t.o,.aa false (ae t.l)]]⟩]++[⟨.m,0,4,[.agg [.int .i64 K.k,.str K.s,.int .i64 K.o,.aa false (ae K.l)]]⟩])[i2]?=some ⟨.m,0,1,[.aa false (ae s)]⟩:=by rw[Z0 (by simp;omega),Z0 Y9];exact h2
     rw[aw K]at k0 q2;rw[aw M,aw u]at q1;rw[hkE]at k0 ⊢;refine ax.x T6 Tryz.func272 rfl ?_;refine wXA ?_;refine .p g1 ?_;refine wXA ?_;refine .p g2 ?_;refine wXA ?_;refine .p g3 ?_;refine wXA ?_;refine .p k0 ?_;refine wXA ?_;refine .p q1 ?_
     by_cases hq:aU M u=0
     ·rw[decide_eq_true hq];refine wXA ?_;refine .p q2 ?_;refine wXA ?_;exact⟨by cases cN s K <;>rfl,((fQ.refl _).cC (HV.one (by simp))).cC (HV.one (by simp))⟩
     ·rw[decide_eq_false hq];refine wXA ?_;exact⟨rfl,((fQ.refl _).cC (HV.one (by simp))).cC (HV.one (by simp))⟩
    ·rw[aw (oe t)]at k0;rw[decide_eq_false hkE];generalize oe t=K at *;have E0:aT (H++[⟨.m,0,4,[.agg [.int .i64 t.k,.str t.s,.int .i64 t.o,.aa false (ae t.l)]]⟩]++[⟨.m,0,4,[.agg [.int .i64 K.k,.str K.s,.int .i64 K.o,.aa false (ae K.l)]]⟩])=true:=((hH.cC (HV.one (by simp))).cC (HV.one (by simp))).closed;refine ax.x T6 Tryz.func272 rfl ?_;refine wXA ?_;refine .p g1 ?_;refine wXA ?_;refine .p g2 ?_;refine wXA ?_;refine .p g3 ?_;refine wXA ?_;refine .p k0 ?_;refine wXA ?_;exact⟨rfl,((fQ.refl _).cC (HV.one (by simp))).cC (HV.one (by simp))⟩
  ·rw[hg,if_pos rfl]at hO;rw[hg]at g2;have cE:=IN hv hg BB.2.2.2.1;have cY:=re (t:=t) (i:=0) (by omega);have b1:=gX (mj (t:=t) (i:=0) (by omega));have q1:=mQ (fy t 0) u (by omega) (by omega);generalize hM:fy t 0=M at *;rw[hO];rw[aw M,aw u]at q1;refine ax.x T6 Tryz.func272 rfl ?_;refine wXA ?_;refine .p g1 ?_;refine wXA ?_;refine .p g2 ?_;refine wXA ?_;refine .p q1 ?_;refine wXA ?_;exact⟨rfl,(fQ.refl _).cC (HV.one (by simp))⟩
 ·rw[hp,if_pos rfl]at hO;rw[hp]at g1;have cE:=IN hv hp BB.1;have cY:=re (t:=t) (i:=0) (by omega);have En:=re (t:=t) (i:=1) (by omega);have b1:=gX (mj (t:=t) (i:=0) (by omega));have b2:=gX (mj (t:=t) (i:=1) (by omega));have q1:=mQ (fy t 0) u (by omega) (by omega);have q2:=mQ (fy t 1) u (by omega) (by omega);generalize hM:fy t 0=M at *;generalize XF:fy t 1=M1 at *;rw[hO];rw[aw M,aw u]at q1;rw[aw M1,aw u]at q2;refine ax.x T6 Tryz.func272 rfl ?_;refine wXA ?_;refine .p g1 ?_;refine wXA ?_;refine .p q1 ?_
  by_cases hq:aU M u=0
  ·rw[decide_eq_true hq];refine wXA ?_;exact⟨rfl,(fQ.refl _).cC (HV.one (by simp))⟩
  ·rw[decide_eq_false hq];refine wXA ?_;refine .p q2 ?_;refine wXA ?_;exact⟨by rw[abA];rfl,(fQ.refl _).cC (HV.one (by simp))⟩
theorem Fh(s:List Tm)(hs:j8 s)(hv:∀t∈s,ky t=0)(u:Tm)(hu:ay u<10000000):aO C 211 [.aa false (ae s),enc u] (.bool (uq s u)):=by
 have hlen:=hs.len;obtain⟨B,hB⟩:∃B:ab,B=[⟨.m,0,1,[.aa false (ae s)]⟩,⟨.m,0,4,[.agg [.int .i64 u.k,.str u.s,.int .i64 u.o,.aa false (ae u.l)]]⟩]:=⟨_,rfl⟩;have UE:B[0]?=some ⟨.m,0,1,[.aa false (ae s)]⟩:=by rw[hB];rfl
 have V':B[1]?=some ⟨.m,0,4,[.agg [.int .i64 u.k,.str u.s,.int .i64 u.o,.aa false (ae u.l)]]⟩:=by rw[hB];rfl
 have hBv:HV B:=by rw[hB];exact HV.wI ⟨by simp,by simp⟩ ⟨by simp,by simp⟩
 have hc:=GO s 272 [.ptr 1 0 0 0,.ptr 0 0 0 0] (uv s u) B (by omega) (λx hx=>gM.opened λH' hE=>Fj s hs u x hu (hs.bk x hx) (hv x hx) 1 0 H' (hE.hv hBv) (hE.at V') (hE.at UE));have hR:uq s u=s.any (uv s u):=rfl;rw[hR];rw[aw];refine aO.x T6 Tryz.func211 rfl ?_;refine wXA ?_;rw[<-hB];refine .ex hc (λh' hE=>?_);refine wXA ?_;exact⟨_,rfl,rfl⟩
theorem C3(t:Tm)(hb:ay t<10000000):aO C 308 [enc t,.aa false [],enc t] (.cx [enc t,.int .i64 0]):=by
 have h1:=mH t (by omega);rw[aw]at h1 ⊢;refine aO.x T6 Tryz.func308 rfl ?_;refine wXA ?_;refine .p h1 ?_;refine wXA ?_;refine eD.zip T6 ([]:List Tm) (λp q L K=>L=[(5,.ptr 1 0 0 0),(6,.ptr 2 0 0 0),(8,.ptr 3 0 0 0),(9,.ptr 3 0 0 0),(14,.aa false []),(15,.int .i64 0),(16,.int .i64 p.length)]/\K=[⟨.m,0,4,[.agg [.int .i64 t.k,.str t.s,.int .i64 t.o,.aa false (ae t.l)]]⟩,⟨.m,0,4,[.agg [.int .i64 t.k,.str t.s,.int .i64 t.o,.aa false (ae t.l)]]⟩,⟨.m,0,4,[PV.agg [.int .i64 0,.str ByteArray.empty,.int .i64 0,.aa true []]]⟩,⟨.m,0,4,[.agg [.int .i64 t.k,.str t.s,.int .i64 t.o,.aa false (ae t.l)]]⟩]) (.nx ⟨rfl,rfl⟩) ?_ ?_
 ·rintro p u q _ K ρ e _
  cases p <;>cases e
 ·rintro _ _ ρ ⟨rfl,rfl⟩;refine wXA ?_;refine .p h1 ?_;refine wXA ?_;exact lY
def ow(u:Tm):PV:=.agg [.int .i64 u.k,.str u.s,.int .i64 u.o,if u.l.length=0 then .aa true []else .aa false (ae u.l)]
theorem TO(u:Tm):cf (ow u)=enc u:=by
 rw[aw];unfold ow
 split
 ·rename_i h
  have:u.l=[]:=aaf h;simp[cf,aQ,this,ae]
 ·simp[cf,aQ,ba]
theorem Fl(u:Tm):aV (ow u)=true:=by
 unfold ow
 split <;>simp[aV,ao]
theorem Mg(l:List Tm)(hl:l.length<10000000)(hb:∀t∈l,ay t<10000000)(ih:∀t∈l,aO C 249 [.aa false (ae t.l)] (.aa false (ae t.l))):aO C 249 [.aa false (ae l)] (.aa false (ae l)):=by
 have cX:=aj l;refine aO.x T6 Tryz.func249 rfl ?_;refine wXA ?_;refine eD.zip T6 l (λp q L H=>L=[(3,.ak 0 0 0 (ae l).length),(9,.aa false (ae l)),(10,.int .i64 (ae l).length),(11,.int .i64 p.length)]/\HV H/\H[0]?=some ⟨.m,0,4,p.map ow++List.replicate q.length (PV.agg [.int .i64 0,.str ByteArray.empty,.int .i64 0,.aa true []])⟩) (.nx ⟨rfl,HV.one (by rw[bu,Z1];intro y hy;rw[aaT hy];rfl),by rw[cX];rfl⟩) ?_ ?_
 ·rintro p u q _ H ρ e ⟨rfl,hH,h0⟩;have cY:=bW e;have cE:=congrArg List.length e;simp only[Z2,Z4]at cE;have hu:u∈l:=by rw[e];simp
  have h1:=C3 u (hb u hu);have h2:=ih u hu;have Nw:=aj u.l;rw[aw]at h1;have nI:(p.map ow).length=p.length:=aa6 _
  have e0:(p.map ow++List.replicate (u::q).length (PV.agg [.int .i64 0,.str ByteArray.empty,.int .i64 0,.aa true []]))[0+p.length]?=some (PV.agg [.int .i64 0,.str ByteArray.empty,.int .i64 0,.aa true []]):=by
   rw[aan,aac (by omega),nI,abO];rfl
  have f0:(H++[⟨.m,0,4,[.agg [.int .i64 u.k,.str u.s,.int .i64 u.o,.aa false (ae u.l)]]⟩])[0]?=some ⟨.m,0,4,p.map ow++List.replicate (u::q).length (PV.agg [.int .i64 0,.str ByteArray.empty,.int .i64 0,.aa true []])⟩:=by rw[Z0 (ag h0)];exact h0
  have TL:(H++[⟨.m,0,4,[.agg [.int .i64 u.k,.str u.s,.int .i64 u.o,.aa false (ae u.l)]]⟩])[H.length]?=some ⟨.m,0,4,[.agg [.int .i64 u.k,.str u.s,.int .i64 u.o,.aa false (ae u.l)]]⟩:=by simp
  have ua:(p.map ow++List.replicate (u::q).length (PV.agg [.int .i64 0,.str ByteArray.empty,.int .i64 0,.aa true []])).length=(ae l).length:=by simp[cX,cE]
  refine wXA ?_;refine .p h1 ?_;refine wXA ?_;obtain⟨bx,WD⟩:∃bx:au,bx=⟨.m,0,4,[.agg [.int .i64 u.k,.str u.s,.int .i64 u.o,.aa false (ae u.l)]]⟩:=⟨_,rfl⟩;obtain⟨A1,BR⟩:∃A1:List PV,A1=(p.map ow++List.replicate (u::q).length (PV.agg [.int .i64 0,.str ByteArray.empty,.int .i64 0,.aa true []])).set (0+p.length) (.agg [.int .i64 u.k,.str u.s,.int .i64 u.o,.aa false (ae u.l)]):=⟨_,rfl⟩;obtain⟨K1,NH⟩:∃K1:ab,K1=(H++[(⟨.m,0,4,[.agg [.int .i64 u.k,.str u.s,.int .i64 u.o,.aa false (ae u.l)]]⟩:au)]).set 0 (⟨.m,0,4,A1⟩:au):=⟨_,rfl⟩;have F5:=ag h0;have c0:K1[0]?=some ⟨.m,0,4,A1⟩:=by rw[NH];exact Z6 (by simp)
  have cb:K1[H.length]?=some bx:=by rw[NH,Z7 (by omega),WD];exact TL
  have ea:A1[0+p.length]?=some (.agg [.int .i64 u.k,.str u.s,.int .i64 u.o,.aa false (ae u.l)]):=by rw[BR];exact Z6 (by rw[ua];omega)
  have NK:A1.length=(ae l).length:=by rw[BR,ach];exact ua
  rw[<-BR,<-NH];rw[WD]at cb;refine wXA ?_;refine .p h2 ?_;refine wXA ?_;rw[cW ea,cW c0];have hw:ow u=.agg [.int .i64 u.k,.str u.s,.int .i64 u.o,if u.l.length=0 then .aa true []else .aa false (ae u.l)]:=rfl
  have GU:∀x:PV,(p.map ow++List.replicate (u::q).length (PV.agg [.int .i64 0,.str ByteArray.empty,.int .i64 0,.aa true []])).set (0+p.length) x=(p.map ow++[x])++List.replicate q.length (PV.agg [.int .i64 0,.str ByteArray.empty,.int .i64 0,.aa true []]):=λx=>by
   rw[aan,abp _ _ (by omega),nI,abO];simp[List.replicate_succ]
  have WE:HV K1:=by
   rw[NH];refine(hH.cC (HV.one (by simp))).set 0 (by simp) ?_;rw[BR,GU,du,du];have v1:ao (p.map ow)=true:=by rw[bu,Z1];intro y hy;obtain⟨t,_,rfl⟩:=aak.1 hy;exact Fl t
   have v2:ao (List.replicate q.length (PV.agg [.int .i64 0,.str ByteArray.empty,.int .i64 0,.aa true []]))=true:=by rw[bu,Z1];intro y hy;rw[aaT hy];rfl
   rw[v1,v2];simp[ao,aV]
  refine wXC (λhc=>?_) λhc=>?_
  ·have h0u:u.l.length=0:=by omega
   refine .nx ⟨rfl,WE.set 0 (by simp) ?_,?_⟩
   ·show ao (A1.set (0+p.length) (.agg [.int .i64 u.k,.str u.s,.int .i64 u.o,.aa true []]))=true;rw[BR,aaY,GU,du,du];have v1:ao (p.map ow)=true:=by rw[bu,Z1];intro y hy;obtain⟨t,_,rfl⟩:=aak.1 hy;exact Fl t
    have v2:ao (List.replicate q.length (PV.agg [.int .i64 0,.str ByteArray.empty,.int .i64 0,.aa true []]))=true:=by rw[bu,Z1];intro y hy;rw[aaT hy];rfl
    rw[v1,v2];rfl
   ·rw[Z6 (ag c0)]
    have:A1.set (0+p.length) (.agg [.int .i64 u.k,.str u.s,.int .i64 u.o,.aa true []])=(p++[u]).map ow++List.replicate q.length (PV.agg [.int .i64 0,.str ByteArray.empty,.int .i64 0,.aa true []]):=by
     rw[BR,aaY,GU,aaS,aah,aas,hw,if_pos h0u]
    rw[<-this]
  ·have h0u:¬u.l.length=0:=by omega
   refine .nx ⟨rfl,WE,?_⟩;rw[c0,BR,GU,aaS,aah,aas,hw,if_neg h0u]
 ·rintro _ H ρ ⟨rfl,hH,h0⟩;have h0:H[0]?=some ⟨.m,0,4,l.map ow++[]⟩:=h0;refine wXA ?_;exact gV h0 (by simp[cX]) (by rw[bu,Z1];intro y hy;obtain⟨t,_,rfl⟩:=aak.1 hy;exact Fl t) (by rw[cL,ab4,cZ];exact aba λt _=>TO t)
theorem Pl(t:Tm):ay t<10000000->aO C 249 [.aa false (ae t.l)] (.aa false (ae t.l)):=by
 induction t using Tm.ind with
 |h k s o l ih=>
  intro hb
  have:=bE l;simp only[ay]at hb;exact Mg l (by omega) (λt ht=>by have:=bS ht;omega) λt ht=>ih t ht (by have:=bS ht;omega)
theorem Mh(u:Tm)(hb:ay u<10000000):aO C 249 [.aa false (ae [u])] (.aa false (ae [u])):=
 Mg [u] (by simp) (λt ht=>by simp at ht;rw[ht];exact hb) λt ht=>by simp at ht;rw[ht];exact Pl u hb
theorem nS(u:Tm)(h1:eV u jx=false)(h2:eV u xj=false):aO C 248 [enc u] (.aa false (ae [u])):=by
 have e1:eV u jx=(decide (u.k=3)&& (u.s.toList==(⟨#[122,101,114,111]⟩:ByteArray).toList)):=rfl;have e2:eV u xj=(decide (u.k=3)&& (u.s.toList==(⟨#[120,111,114]⟩:ByteArray).toList)):=rfl;rw[h1]at e1;rw[h2]at e2;have hu:ae [u]=[.agg [.int .i64 u.k,.str u.s,.int .i64 u.o,.aa false (ae u.l)]]:=by rw[ae,aw];rfl
 rw[hu,aw]
 by_cases hk:u.k=3
 ·rw[decide_eq_true hk,abd]at e1 e2;have n1:¬u.s.toList=(⟨#[122,101,114,111]⟩:ByteArray).toList:=by simpa using e1.symm
  have n2:¬u.s.toList=(⟨#[120,111,114]⟩:ByteArray).toList:=by simpa using e2.symm
  refine aO.x T6 Tryz.func248 rfl ?_;refine wXA ?_;exact⟨_,rfl,by simp[aY,cf,aQ,ba]⟩
 ·refine aO.x T6 Tryz.func248 rfl ?_;refine wXA ?_;exact⟨_,rfl,by simp[aY,cf,aQ,ba]⟩
theorem xu(u:Tm)(hv:valid u=0)(hb:ay u<10000000):aO C 246 [.aa false [],.aa false (ae [u])] (.int .i64 0):=by
 have h1:=(fu u (by omega)).nine;rw[hv]at h1;have CZ:X2 [] (.aa true [.aa false [],.aa false (ae [u])]) (.aa false []) (.aa false (ae [u])):=.inl rfl;have Pk:=(zg [] [u] [] _ _ _ CZ (.inr ⟨_,rfl⟩) (.inr ⟨_,rfl⟩) (by simp)).nine;have hu:ae [u]=[.agg [.int .i64 u.k,.str u.s,.int .i64 u.o,.aa false (ae u.l)]]:=by rw[ae,aw];rfl
 rw[aw]at h1;rw[aaL]at Pk;refine aO.x T6 Tryz.func246 rfl ?_;refine wXA ?_;refine .opened rfl (Pk.mono λr h' hr=>?_)
 obtain⟨ep,rfl,rfl⟩:∃ep,r=.ak 0 ep 0 (ae [u]).length/\h'=[⟨.m,ep,4,ae [u]⟩]:=by
  rcases hr with⟨h,_⟩|⟨ep,h1,h2⟩
  ·simp at h
  ·exact⟨ep,h1,h2⟩
 rw[if_neg (by simp[dQ,cH,dP])];have ho:Out 4 [⟨.m,ep,4,ae [u]⟩] (.ak 0 ep 0 (ae [u]).length) (ae [u]):=.inr ⟨0,ep,rfl,rfl⟩;rw[hu]at ho ⊢;refine wXA ?_;refine eD.zip T6 [u] (λp q L H=>L=[(14,.ak 0 ep 0 1),(15,.int .i64 1),(16,.int .i64 p.length)]/\HV H/\H[0]?=some ⟨.m,ep,4,[.agg [.int .i64 u.k,.str u.s,.int .i64 u.o,.aa false (ae u.l)]]⟩) (.nx ⟨rfl,HV.one (by simp),rfl⟩) ?_ ?_
 ·rintro p x q _ H ρ e ⟨rfl,hH,h0⟩
  obtain⟨rfl,rfl,rfl⟩:p=[]/\x=u/\q=[]:=by
   cases p with
   |nil=>simp at e;exact⟨rfl,e.1.symm,e.2⟩
   |cons a p=>simp at e
  have UO:([]:List Tm).length=0:=rfl;refine wXA ?_;refine .p h1 ?_;refine wXA ?_;exact .nx ⟨rfl,hH.cC (HV.one (by simp)),by rw[Z0 (ag h0)];exact h0⟩
 ·rintro _ H ρ ⟨rfl,hH,h0⟩;have XZ:[u].length=1:=rfl;refine wXA ?_;exact⟨_,rfl,rfl⟩
theorem IH(u:Tm)(hv:valid u=0)(hb:ay u<10000000)(h1:eV u jx=false)(h2:eV u xj=false):aO C 275 [enc u] (.cx [.aa false (ae [u]),.int .i64 0]):=by
 have g1:=xu u hv hb;have g2:=nS u h1 h2;have g3:=Mh u hb;have hu:ae [u]=[.agg [.int .i64 u.k,.str u.s,.int .i64 u.o,.aa false (ae u.l)]]:=by rw[ae,aw];rfl
 rw[hu]at g1 g2 g3 ⊢;rw[aw]at g2 ⊢;refine aO.x T6 Tryz.func275 rfl ?_;refine wXA ?_;refine .p g1 ?_;refine wXA ?_;refine .p g2 ?_;refine wXA ?_;refine .p g3 ?_;refine wXA ?_;exact⟨_,rfl,by simp[aY,cf,aQ,ba]⟩
end bP
open Go.Proofs
theorem T2{cs A B:List Tm}{u:Tm}(e:cs=A++u::B)(hs:fO cs){m:Nat}{w:Tm}(hm:cs[m]?=some w):aU w u<0↔m<A.length:=by
 subst e;have h:=ack.1 hs;rcases abr m A.length with h1 |h1 |h1
 ·rw[Z0 h1]at hm;exact⟨λ_=>h1,λ_=>h.2.2 w (aae hm) u (by simp)⟩
 ·subst h1;simp at hm;subst hm;rw[dI];omega
 ·rw[aac (by omega)]at hm
  have h2:(u::B)[m - A.length]?=B[m - A.length - 1]?:=by
   rw[show m - A.length=(m - A.length - 1)+1 by omega];simp
  rw[h2]at hm;have h3:=(aal.1 h.2.1).1 w (aae hm);have ng:=ee u w;omega
theorem Dr{p:List Pw}{u t:Tm}{n:Int}(h:aU u t≠0):tX (p++[(u,n)]) t=tX p t:=by
 induction p with
 |nil=>simp[tX,h]
 |cons y p ih=>rw[aau,tX,tX,ih]
theorem PA{cs A B:List Tm}{u:Tm}{p:List Pw}{n:Int}(e:cs=A++u::B)(hs:fO cs)(hp:∀y∈p,aU y.1 u≠0):(fD (cs.map (tX p))).set A.length (.int .i64 n)=fD (cs.map (tX (p++[(u,n)]))):=by
 subst e;have h:=ack.1 hs;have hA:A.map (tX p)=A.map (tX (p++[(u,n)])):=aba λt ht=>(Dr (by have:=h.2.2 t ht u (by simp);have:=ee t u;omega)).symm
 have hB:B.map (tX p)=B.map (tX (p++[(u,n)])):=aba λt ht=>(Dr (by have:=(aal.1 h.2.1).1 t ht;omega)).symm
 have hu:tX (p++[(u,n)]) u=n:=J8 (q:=[]) hp (dI u);simp only[fD,aaS,aah,hA,hB,hu];rw[abp _ _ (by simp)];simp
attribute [local irreducible] aE az aI aJ Ev ah ai ax aW
theorem C4(cs A B:List Tm)(u:Tm)(e:cs=A++u::B)(hs:fO cs)(hl:cs.length<100000000)(hb:∀t∈cs,ay t<1000000000):
  aO C 386 [.aa false (ae cs),enc u,.fn 52 []] (.cx [.int .i64 A.length,.bool true]):=by
 have hle:A.length<cs.length:=by rw[e];simp
 have cX:=aj cs;have Nw:cs[A.length]?=some u:=by rw[e];simp
 have hub:ay u<1000000000:=hb u (by rw[e];simp)
 have elem:∀m,m<cs.length->∃w,cs[m]?=some w/\(ae cs)[m]?=some (.agg [.int .i64 w.k,.str w.s,.int .i64 w.o,.aa false (ae w.l)])/\aO C 52 [.agg [.int .i64 w.k,.str w.s,.int .i64 w.o,.aa false (ae w.l)],.agg [.int .i64 u.k,.str u.s,.int .i64 u.o,.aa false (ae u.l)]] (.int .i64 (aU w u)):=λm hm=>by
  have h1:cs[m]?=some cs[m]:=Z3 hm;refine⟨_,h1,gw h1,?_⟩;rw[<-aw,<-aw];exact dZ _ _ (hb _ (aae h1)) hub
 have Ns:∀m w,cs[m]?=some w->(aU w u<0↔m<A.length):=λm w hm=>T2 e hs hm
 have hz:=dI u;generalize A.length=LB at *;rw[aw];refine aO.x T6 Tryz.func386 rfl ?_;refine wXA ?_;refine eD.nat T6 (λk L H=>∃i j:Nat,L=[(0,.aa false (ae cs)),(2,.fn 52 []),(4,.ptr 0 0 0 0),(8,.int .i64 (ae cs).length),(9,.int .i64 i),(10,.int .i64 j)]/\H=[⟨.m,0,4,[.agg [.int .i64 u.k,.str u.s,.int .i64 u.o,.aa false (ae u.l)]]⟩]/\k=j - i/\i<=LB/\LB<=j/\j<=cs.length) cs.length (.nx ⟨0,(ae cs).length,rfl,rfl,by omega,by omega,by omega,by omega⟩) ?_;rintro k _ _ ρ ⟨i,j,rfl,rfl,hk,i1,i2,i3⟩
 by_cases Kz:i<j
 ·obtain⟨m,Wl⟩:∃m:Nat,((i:Int)+j) / 2=m:=⟨(i+j) / 2,by omega⟩;obtain⟨w,h1,cY,qL⟩:=elem m (by omega);have NW:=Ns m _ h1;refine wXA ?_;refine .mk (n:=m) ?_ Wl cY;refine wXA ?_;refine .p qL ?_;refine wXC (λhc=>?_) λhc=>?_
  ·exact .nx ⟨j - (m+1),by omega,m+1,j,rfl,rfl,rfl,by omega,by omega,by omega⟩
  ·exact .nx ⟨m - i,by omega,i,m,rfl,rfl,rfl,by omega,by omega,by omega⟩
 ·have hi:i=LB:=by omega
  subst hi;obtain⟨w,h1,cY,qL⟩:=elem i hle;rw[Nw]at h1;obtain rfl:=ZZ h1;rw[hz]at qL;refine wXA ?_;refine .p qL ?_;refine wXA ?_
  all_goals exact⟨_,rfl,by simp[aY,cf,aQ, *]⟩
end Go.Pm
namespace Go.Pm
namespace bP
open Go.Proofs
attribute [local irreducible] aE az aI aJ Ev ah ai ax aW bZ
set_option maxRecDepth 4000
theorem Pn(b:Nat)(H:ab)(hb:H[b]?=some ⟨.m,0,1,[.int .u64 1]⟩):ax C 326 [.ak b 0 0 1,.int .i64 0] H (λr h'=>r=.bool true/\h'=H):=by
 refine ax.x T6 Tryz.func326 rfl ?_;refine wXA ?_;refine .raw 0 rfl ?_;refine wXA ?_;refine .mk (c:=1) ?_ rfl (by decide);refine wXA ?_;refine .mk 1 rfl ?_;refine wXA ?_;exact⟨rfl,rfl⟩
theorem Mi(b:Nat)(H:ab)(hH:HR H)(hb:H[b]?=some ⟨.m,0,1,[.int .u64 0]⟩):ax C 366 [.ak b 0 0 1,.int .i64 0] H (λr h'=>r=.cx []/\h'=H.set b ⟨.m,0,1,[.int .u64 1]⟩):=by
 have dp:=hH.closed;refine ax.x T6 Tryz.func366 rfl ?_;refine wXA ?_;refine .raw 0 rfl ?_;refine wXA ?_;refine .mk 1 rfl (by decide) ?_;refine wXA ?_;refine .mk 1 rfl ?_;refine wXA ?_;exact⟨rfl,rfl⟩
theorem IP(b:Nat)(H:ab)(hb:H[b]?=some ⟨.m,0,1,[.int .u64 1]⟩):ax C 325 [.ak b 0 0 1,.int .i64 1] H (λr h'=>r=.int .i64 0/\h'=H):=by
 have hh:=Pn b H hb;refine ax.x T6 Tryz.func325 rfl ?_;refine wXA ?_;refine eD.nat T6 (λk L K=>L=[(0,.ak b 0 0 1),(6,.int .i64 1),(7,.int .i64 0)]/\K=H) 1 (.nx ⟨rfl,rfl⟩) ?_;rintro k _ _ ρ ⟨rfl,rfl⟩;refine wXA ?_;refine .same (hh.mono λr h' h=>⟨h.1,h.2⟩) (λr hr=>?_);subst hr;refine wXA ?_;exact⟨rfl,rfl⟩
structure Sys(h:ab)(x m1 m2 c ep:Nat)(u:Tm)(tl:List PV):Prop where
 hx:h[x]?=some ⟨.m,0,5,[.agg [.ak c ep 0 1,.int .i64 0,.cB m1,.cB m2,.aa true []]]⟩
 h1:h[m1]?=some ⟨.m,0,0,[]⟩
 h2:h[m2]?=some ⟨.m,0,0,[]⟩
 hc:h[c]?=some ⟨.m,ep,4,.agg [.int .i64 u.k,.str u.s,.int .i64 u.o,.aa false (ae u.l)]::tl⟩
 ht:ao tl=true
theorem Sys.of_eq{h h':ab}{x m1 m2 c ep:Nat}{u:Tm}{tl:List PV}(s:Sys h x m1 m2 c ep u tl)(n:Nat)(hn:x<n/\m1<n/\m2<n/\c<n)(e:∀j,j<n->h'[j]?=h[j]?):Sys h' x m1 m2 c ep u tl:=
 ⟨(e _ hn.1).trans s.hx,(e _ hn.2.1).trans s.h1,(e _ hn.2.2.1).trans s.h2,(e _ hn.2.2.2).trans s.hc,s.ht⟩
theorem TP(x m1 m2 c ep:Nat)(u:Tm)(tl:List PV)(hu:ay u<10000000)(H:ab)(hH:HR H)(s:Sys H x m1 m2 c ep u tl):ax C 368 [.ptr x 0 0 0,enc u] H (λr h'=>r=.int .i64 0/\fQ H h'):=by
 have hb:=(C4 [u] [] [] u rfl (by simp[fO]) (by simp) (λt ht=>by simp at ht;rw[ht];omega)).nine;have dp:=(hH.dq (HV.one (ep:=0) (n:=4) (es:=[.agg [.int .i64 u.k,.str u.s,.int .i64 u.o,.aa false (ae u.l)]]) (by simp))).closed;have OI:=ag s.hx;have IQ:=ag s.hc;have fx:(H++[(⟨.m,0,4,[.agg [.int .i64 u.k,.str u.s,.int .i64 u.o,.aa false (ae u.l)]]⟩:au)])[x]?=some ⟨.m,0,5,[.agg [.ak c ep 0 1,.int .i64 0,.cB m1,.cB m2,.aa true []]]⟩:=by rw[Z0 OI];exact s.hx
 have fc:(H++[(⟨.m,0,4,[.agg [.int .i64 u.k,.str u.s,.int .i64 u.o,.aa false (ae u.l)]]⟩:au)])[c]?=some ⟨.m,ep,4,ae [u]++tl⟩:=by rw[Z0 IQ,s.hc,ae,aw];rfl
 have kV:yN (H++[(⟨.m,0,4,[.agg [.int .i64 u.k,.str u.s,.int .i64 u.o,.aa false (ae u.l)]]⟩:au)]) (.ak c ep 0 1) [u]:=⟨c,ep,tl,rfl,fc,s.ht⟩;rw[aw u]at hb ⊢;refine ax.x T6 Tryz.func368 rfl ?_;refine wXA ?_;refine ai.op kV hb ?_;refine wXA ?_;exact⟨rfl,(fQ.refl _).cC (HV.one (by simp))⟩
theorem vv{u a:Tm}{p q:List Tm}(e:[u]=p++a::q):p=[]/\a=u/\q=[]:=by
 cases p with
 |nil=>simp at e;exact⟨rfl,e.1.symm,e.2⟩
 |cons b p=>simp at e
theorem TQ(x m1 m2 c ep:Nat)(u:Tm)(tl:List PV)(hu:ay u<10000000)(f1:eV u jx=false)(f2:eV u xj=false)(H:ab)(hH:HR H)(s:Sys H x m1 m2 c ep u tl):
  ax C 324 [.ptr x 0 0 0,enc u] H (λr h'=>HR h'/\H.length<=h'.length/\(∀j,j<H.length->h'[j]?=H[j]?)/\∃b,r=.ak b 0 0 1/\H.length<=b/\h'[b]?=some ⟨.m,0,1,[.int .u64 1]⟩):=by
 have hs:=nS u f1 f2;have OI:=ag s.hx;have IQ:=ag s.hc;have X6:=ag s.h1;have X7:=ag s.h2;obtain⟨H1,kY⟩:∃H1:ab,H1=H++[(⟨.m,0,4,[.agg [.int .i64 u.k,.str u.s,.int .i64 u.o,.aa false (ae u.l)]]⟩:au)]:=⟨_,rfl⟩;have ext:∀J:ab,Sys (H++J) x m1 m2 c ep u tl:=λJ=>s.of_eq H.length ⟨OI,X6,X7,IQ⟩ λj hj=>Z0 hj
 have Za:H1.length=H.length+1:=by rw[kY];simp
 have TM:HR H1:=by rw[kY];exact hH.dq (HV.one (by simp))
 have Zd:∀j,j<H.length->H1[j]?=H[j]?:=λj hj=>by rw[kY,Z0 hj]
 have TL:H1[H.length]?=some ⟨.m,0,4,[.agg [.int .i64 u.k,.str u.s,.int .i64 u.o,.aa false (ae u.l)]]⟩:=by rw[kY];simp
 have s1:Sys H1 x m1 m2 c ep u tl:=by rw[kY];exact ext _
 have fx:=s1.hx;have fc:=s1.hc;have yq:ae [u]=[.agg [.int .i64 u.k,.str u.s,.int .i64 u.o,.aa false (ae u.l)]]:=by rw[ae,aw];rfl
 rw[yq]at hs;rw[aw]at hs;rw[aw u];have UO:([]:List Tm).length=0:=rfl;have XZ:[u].length=1:=rfl;have qn:∀K:ab,HR K->H.length+2<=K.length->(∀j,j<H.length->K[j]?=H[j]?)->Sys K x m1 m2 c ep u tl:=λK _ _ h=>s.of_eq H.length ⟨OI,X6,X7,IQ⟩ h
 refine ax.x T6 Tryz.func324 rfl ?_;refine wXA ?_;rw[<-kY];refine wXA ?_;refine .raw 0 rfl ?_;refine wXA ?_;have ZR:(H1++[(⟨.m,0,0+1,List.replicate (0+1) (.int .u64 0)⟩:au)])[H.length]?=some ⟨.m,0,4,[.agg [.int .i64 u.k,.str u.s,.int .i64 u.o,.aa false (ae u.l)]]⟩:=by rw[Z0 (by omega)];exact TL
 skip
 refine .p hs ?_;refine wXA ?_;refine eD.zip T6 [u] (λp q L K=>L=[(0,.ptr x 0 0 0),(5,.ak H1.length 0 0 1),(17,.aa false [.agg [.int .i64 u.k,.str u.s,.int .i64 u.o,.aa false (ae u.l)]]),(18,.int .i64 1),(19,.int .i64 p.length)]/\HR K/\H1.length+1<=K.length/\(∀j,j<H1.length->K[j]?=H1[j]?)/\K[H1.length]?=some ⟨.m,0,1,[.int .u64 (if q.length=0 then 1 else 0)]⟩) (.nx ⟨rfl,TM.dq (HV.one rfl),by simp,λj hj=>Z0 hj,by simp⟩) ?_ ?_
 ·rintro p a q _ K ρ e ⟨rfl,hK,QE,Lu,UK⟩;obtain⟨rfl,JK,rfl⟩:=vv e;have JK:=JK.symm;subst JK;have sK:Sys K x m1 m2 c ep u tl:=s1.of_eq H1.length (by omega) Lu;have sK2:Sys (K++[(⟨.m,0,4,[.agg [.int .i64 u.k,.str u.s,.int .i64 u.o,.aa false (ae u.l)]]⟩:au)]) x m1 m2 c ep u tl:=sK.of_eq K.length ⟨ag sK.hx,ag sK.h1,ag sK.h2,ag sK.hc⟩ λj hj=>Z0 hj
  have hc:=TP x m1 m2 c ep u tl hu (K++[(⟨.m,0,4,[.agg [.int .i64 u.k,.str u.s,.int .i64 u.o,.aa false (ae u.l)]]⟩:au)]) (hK.dq (HV.one (by simp))) sK2;rw[aw]at hc;refine wXA ?_;refine .ex hc (λh' hE=>?_);obtain⟨J,hJ,rfl⟩:=hE;have yy:(K++[(⟨.m,0,4,[.agg [.int .i64 u.k,.str u.s,.int .i64 u.o,.aa false (ae u.l)]]⟩:au)]++J)[H1.length]?=some ⟨.m,0,1,[.int .u64 0]⟩:=by rw[aat,Z0 (by omega)];exact UK
  have hrr:HR (K++[(⟨.m,0,4,[.agg [.int .i64 u.k,.str u.s,.int .i64 u.o,.aa false (ae u.l)]]⟩:au)]++J):=(hK.dq (HV.one (by simp))).dq hJ;have hf:=Mi H1.length _ hrr yy;refine wXA ?_;refine .ln hf (λr h' hr=>by rw[hr.2];simp) (λr h' hr=>?_);obtain⟨rfl,rfl⟩:=hr;refine wXA ?_;refine .nx ⟨rfl,hrr.set _ (by simp) (by simp[bz,bt]),by simp;omega,λj hj=>?_,Z6 (ag yy)⟩;rw[Z7 (by omega),aat,Z0 (by omega)];exact Lu j hj
 ·rintro _ K ρ ⟨rfl,hK,QE,Lu,UK⟩;refine wXA ?_;exact⟨hK,by omega,λj hj=>(Lu j (by omega)).trans (Zd j hj),H1.length,rfl,by omega,UK⟩
theorem TR(x m1 m2 c ep b:Nat)(u:Tm)(tl:List PV)(H:ab)(hH:HR H)(s:Sys H x m1 m2 c ep u tl):
  ax C 323 [.ptr x 0 0 0,.ak b 0 0 1] H (λr h'=>r=.cx [.ak b 0 0 1,.ak H.length 0 0 1]/\h'=H++[⟨.m,0,1,[.int .u64 0]⟩]):=by
 have OI:=ag s.hx;have IQ:=ag s.hc;have X6:=ag s.h1;have X7:=ag s.h2;have fx:=s.hx;have UO:([]:List Tm).length=0:=rfl;have XZ:[u].length=1:=rfl;obtain⟨H1,kY⟩:∃H1:ab,H1=H++[(⟨.m,0,0+1,List.replicate (0+1) (.int .u64 0)⟩:au)]:=⟨_,rfl⟩;have s1:Sys H1 x m1 m2 c ep u tl:=by rw[kY];exact s.of_eq H.length ⟨OI,X6,X7,IQ⟩ λj hj=>Z0 hj
 have gx:=s1.hx;have gc:=s1.hc;have g1:=s1.h1;refine ax.x T6 Tryz.func323 rfl ?_;refine wXA ?_;refine .raw 0 rfl ?_;refine wXA ?_;rw[<-kY];refine wXA ?_;refine eD.zip T6 [u] (λp q L K=>L=[(0,.ptr x 0 0 0),(1,.ak b 0 0 1),(6,.ak H.length 0 0 1),(21,.int .i64 1),(22,.int .i64 p.length)]/\K=H1) (.nx ⟨rfl,rfl⟩) ?_ ?_
 ·rintro p a q _ _ ρ e ⟨rfl,rfl⟩;obtain⟨rfl,JK,rfl⟩:=vv e;have JK:=JK.symm;subst JK;refine wXA ?_;refine .Lt rfl ?_ g1;refine wXA ?_;exact .nx ⟨rfl,rfl⟩
 ·rintro _ _ ρ ⟨rfl,rfl⟩;refine wXA ?_;exact⟨rfl,kY⟩
theorem Po(a b:Tm)(ha:ay a<1000000000)(hb:ay b<1000000000):aO C 365 [enc a,enc b] (.bool (decide (aU a b=0))):=by
 have h1:=(dZ a b ha hb).nine;rw[aw,aw]at h1 ⊢;refine aO.x T6 Tryz.func365 rfl ?_;refine wXA ?_;refine .p h1 ?_;refine wXC (λhc=>?_) λhc=>?_
 all_goals exact⟨_,rfl,by simp[aY, *]⟩
theorem _root_.Go.Pm.WG{C:cP}(T:lL C.P){run:hZ}{lv:Nat}{L:Al}{ρ:Nat->PV}{h:ab}{t el:TypeId}{x:Operand}{id ep len:Nat}{o:au}(hx:cM L x=some (.ak id ep 0 len))(hk:T.kd t=some (.sl el))(hg:getM h id ep=some o)(hl:len<=o.es.length):ar C run lv (.call ⟨.builtin .len,#[x],#[t]⟩) (al L ρ) h=some (.int .i64 len,h):=by
 simp[ar,bo,an hx,ov,bp (T.cU _ _ hk),hg,hl]
theorem Pp(u:Tm)(hu:ay u<10000000)(f1:eV u jx=false)(f2:eV u xj=false):ax C 322 [.aa false [],enc u] [⟨.m,0,4,[enc u]⟩] (λr h'=>HR h'/\1<=h'.length/\(∀j,j<1->h'[j]?=[(⟨.m,0,4,[enc u]⟩:au)][j]?)/\∃x m1 m2 c ep tl,r=.ptr x 0 0 0/\1<=x/\Sys h' x m1 m2 c ep u tl):=by
 have hs:=nS u f1 f2;have yq:ae [u]=[.agg [.int .i64 u.k,.str u.s,.int .i64 u.o,.aa false (ae u.l)]]:=by rw[ae,aw];rfl
 have UO:([]:List Tm).length=0:=rfl;have XZ:[u].length=1:=rfl;rw[yq]at hs;rw[aw]at hs;rw[aw u]
 have hBr:HR [(⟨.m,0,4,[.agg [.int .i64 u.k,.str u.s,.int .i64 u.o,.aa false (ae u.l)]]⟩:au),⟨.m,0,4,[.agg [.int .i64 u.k,.str u.s,.int .i64 u.o,.aa false (ae u.l)]]⟩,⟨.m,0,0,[]⟩,⟨.m,0,0,[]⟩,⟨.m,0,5,[.agg [.aa true [],.int .i64 0,.cB 2,.cB 3,.aa true []]]⟩]:=by
  intro o ho
  simp only[Z',aa7,or_false]at ho;rcases ho with rfl |rfl |rfl |rfl |rfl <;>simp[bz,bt,br]
 have hBc:=hBr.closed;refine ax.x T6 Tryz.func322 rfl ?_;refine wXH ?_;refine .raw (λρ=>?_);have Im:bq 4 [.aa false []] ([(⟨.m,0,4,[.agg [.int .i64 u.k,.str u.s,.int .i64 u.o,.aa false (ae u.l)]]⟩:au),⟨.m,0,4,[.agg [.int .i64 u.k,.str u.s,.int .i64 u.o,.aa false (ae u.l)]]⟩,⟨.m,0,0,[]⟩,⟨.m,0,0,[]⟩,⟨.m,0,5,[.agg [.aa true [],.int .i64 0,.cB 2,.cB 3,.aa true []]]⟩].map bR)=some (.aa true [],[(⟨.m,0,4,[.agg [.int .i64 u.k,.str u.s,.int .i64 u.o,.aa false (ae u.l)]]⟩:au),⟨.m,0,4,[.agg [.int .i64 u.k,.str u.s,.int .i64 u.o,.aa false (ae u.l)]]⟩,⟨.m,0,0,[]⟩,⟨.m,0,0,[]⟩,⟨.m,0,5,[.agg [.aa true [],.int .i64 0,.cB 2,.cB 3,.aa true []]]⟩].map bR):=rfl;refine D.move rfl ?_;refine .BA [(⟨.m,0,4,[.agg [.int .i64 u.k,.str u.s,.int .i64 u.o,.aa false (ae u.l)]]⟩:au),⟨.m,0,4,[.agg [.int .i64 u.k,.str u.s,.int .i64 u.o,.aa false (ae u.l)]]⟩,⟨.m,0,0,[]⟩,⟨.m,0,0,[]⟩,⟨.m,0,5,[.agg [.aa true [],.int .i64 0,.cB 2,.cB 3,.aa true []]]⟩] [] ⟨0,λn _=>CK rfl rfl Im rfl⟩ ?_ rfl rfl hBc rfl rfl;refine .BA [(⟨.m,0,4,[.agg [.int .i64 u.k,.str u.s,.int .i64 u.o,.aa false (ae u.l)]]⟩:au),⟨.m,0,4,[.agg [.int .i64 u.k,.str u.s,.int .i64 u.o,.aa false (ae u.l)]]⟩,⟨.m,0,0,[]⟩,⟨.m,0,0,[]⟩,⟨.m,0,5,[.agg [.aa true [],.int .i64 0,.cB 2,.cB 3,.aa true []]]⟩] [] ⟨0,λn _=>Ij T6 rfl rfl⟩ ?_ rfl rfl hBc rfl rfl;refine .BA [(⟨.m,0,4,[.agg [.int .i64 u.k,.str u.s,.int .i64 u.o,.aa false (ae u.l)]]⟩:au),⟨.m,0,4,[.agg [.int .i64 u.k,.str u.s,.int .i64 u.o,.aa false (ae u.l)]]⟩,⟨.m,0,0,[]⟩,⟨.m,0,0,[]⟩,⟨.m,0,5,[.agg [.aa true [],.int .i64 0,.cB 2,.cB 3,.aa true []]]⟩] [] ⟨0,λn _=>Ii T6 (vs:=[.agg [.int .i64 u.k,.str u.s,.int .i64 u.o,.aa false (ae u.l)]]) (by exact rfl) (by simp)⟩ ?_ rfl rfl hBc rfl rfl
 refine aW.two rfl rfl ⟨0,λn _=>yK rfl rfl (gb T6 (lv:=2) (full:=true) (ys:=[.agg [.int .i64 u.k,.str u.s,.int .i64 u.o,.aa false (ae u.l)]]) (by omega) rfl rfl rfl rfl rfl (by decide) rfl rfl rfl rfl (by simp))⟩ ?_;refine aW.two rfl rfl ⟨0,λn _=>WG T6 rfl rfl rfl (by simp)⟩ ?_;refine D.move rfl ?_;refine aW.nil ⟨_,_,rfl,?_⟩
 conv=>whnf
 have Ze:HR [(⟨.m,0,4,[.agg [.int .i64 u.k,.str u.s,.int .i64 u.o,.aa false (ae u.l)]]⟩:au),⟨.m,0,4,[.agg [.int .i64 u.k,.str u.s,.int .i64 u.o,.aa false (ae u.l)]]⟩,⟨.m,0,0,[]⟩,⟨.m,0,0,[]⟩,⟨.m,0,5,[.agg [.aa true [],.int .i64 0,.cB 2,.cB 3,.aa true []]]⟩,⟨.m,0,4,[.agg [.int .i64 u.k,.str u.s,.int .i64 u.o,.aa false (ae u.l)]]⟩,⟨.m,0,4,[.agg [.int .i64 u.k,.str u.s,.int .i64 u.o,.aa false (ae u.l)]]⟩]:=by
  intro o ho
  simp only[Z',aa7,or_false]at ho;rcases ho with rfl |rfl |rfl |rfl |rfl |rfl |rfl <;>simp[bz,bt,br]
 have ZS:=Ze.closed
 have Zf:HR [(⟨.m,0,4,[.agg [.int .i64 u.k,.str u.s,.int .i64 u.o,.aa false (ae u.l)]]⟩:au),⟨.m,0,4,[.agg [.int .i64 u.k,.str u.s,.int .i64 u.o,.aa false (ae u.l)]]⟩,⟨.m,0,0,[]⟩,⟨.m,0,0,[]⟩,⟨.m,0,5,[.agg [.ak 7 0 0 1,.int .i64 0,.cB 2,.cB 3,.aa true []]]⟩,⟨.m,0,4,[.agg [.int .i64 u.k,.str u.s,.int .i64 u.o,.aa false (ae u.l)]]⟩,⟨.m,0,4,[.agg [.int .i64 u.k,.str u.s,.int .i64 u.o,.aa false (ae u.l)]]⟩,⟨.m,0,4,[.agg [.int .i64 u.k,.str u.s,.int .i64 u.o,.aa false (ae u.l)]]⟩]:=by
  intro o ho
  simp only[Z',aa7,or_false]at ho;rcases ho with rfl |rfl |rfl |rfl |rfl |rfl |rfl |rfl <;>simp[bz,bt,br]
 refine eD.zip T6 [u] (λp q L K=>L=[(0,.aa false []),(5,.ptr 4 0 0 0),(23,.ak 5 0 0 1),(24,.int .i64 1),(25,.int .i64 p.length)]/\((q.length=1/\K=[(⟨.m,0,4,[.agg [.int .i64 u.k,.str u.s,.int .i64 u.o,.aa false (ae u.l)]]⟩:au),⟨.m,0,4,[.agg [.int .i64 u.k,.str u.s,.int .i64 u.o,.aa false (ae u.l)]]⟩,⟨.m,0,0,[]⟩,⟨.m,0,0,[]⟩,⟨.m,0,5,[.agg [.aa true [],.int .i64 0,.cB 2,.cB 3,.aa true []]]⟩,⟨.m,0,4,[.agg [.int .i64 u.k,.str u.s,.int .i64 u.o,.aa false (ae u.l)]]⟩])\/(q.length=0/\K=[(⟨.m,0,4,[.agg [.int .i64 u.k,.str u.s,.int .i64 u.o,.aa false (ae u.l)]]⟩:au),⟨.m,0,4,[.agg [.int .i64 u.k,.str u.s,.int .i64 u.o,.aa false (ae u.l)]]⟩,⟨.m,0,0,[]⟩,⟨.m,0,0,[]⟩,⟨.m,0,5,[.agg [.ak 7 0 0 1,.int .i64 0,.cB 2,.cB 3,.aa true []]]⟩,⟨.m,0,4,[.agg [.int .i64 u.k,.str u.s,.int .i64 u.o,.aa false (ae u.l)]]⟩,⟨.m,0,4,[.agg [.int .i64 u.k,.str u.s,.int .i64 u.o,.aa false (ae u.l)]]⟩,⟨.m,0,4,[.agg [.int .i64 u.k,.str u.s,.int .i64 u.o,.aa false (ae u.l)]]⟩]))) (.nx ⟨rfl,.inl ⟨rfl,rfl⟩⟩) ?_ ?_
 ·rintro p a q _ K ρ e ⟨rfl,hK⟩;obtain⟨rfl,JK,rfl⟩:=vv e;obtain rfl:K=[(⟨.m,0,4,[.agg [.int .i64 u.k,.str u.s,.int .i64 u.o,.aa false (ae u.l)]]⟩:au),⟨.m,0,4,[.agg [.int .i64 u.k,.str u.s,.int .i64 u.o,.aa false (ae u.l)]]⟩,⟨.m,0,0,[]⟩,⟨.m,0,0,[]⟩,⟨.m,0,5,[.agg [.aa true [],.int .i64 0,.cB 2,.cB 3,.aa true []]]⟩,⟨.m,0,4,[.agg [.int .i64 u.k,.str u.s,.int .i64 u.o,.aa false (ae u.l)]]⟩]:=by rcases hK with h |h;exact h.2;exact absurd h.1 (by simp)
  refine wXA ?_;refine .mk (.aa false [.agg [.int .i64 u.k,.str u.s,.int .i64 u.o,.aa false (ae u.l)]]) (by simpa[aQ,cf,ba]using hs) ?_;refine wXA ?_;refine .sn (es:=[]) ?_ rfl (by simp);refine wXA ?_;exact .nx ⟨rfl,.inr ⟨rfl,rfl⟩⟩
 ·rintro _ K ρ ⟨rfl,hK⟩;obtain rfl:K=[(⟨.m,0,4,[.agg [.int .i64 u.k,.str u.s,.int .i64 u.o,.aa false (ae u.l)]]⟩:au),⟨.m,0,4,[.agg [.int .i64 u.k,.str u.s,.int .i64 u.o,.aa false (ae u.l)]]⟩,⟨.m,0,0,[]⟩,⟨.m,0,0,[]⟩,⟨.m,0,5,[.agg [.ak 7 0 0 1,.int .i64 0,.cB 2,.cB 3,.aa true []]]⟩,⟨.m,0,4,[.agg [.int .i64 u.k,.str u.s,.int .i64 u.o,.aa false (ae u.l)]]⟩,⟨.m,0,4,[.agg [.int .i64 u.k,.str u.s,.int .i64 u.o,.aa false (ae u.l)]]⟩,⟨.m,0,4,[.agg [.int .i64 u.k,.str u.s,.int .i64 u.o,.aa false (ae u.l)]]⟩]:=by rcases hK with h |h;exact absurd h.1 (by simp);exact h.2
  have eS:[(⟨.m,0,4,[.agg [.int .i64 u.k,.str u.s,.int .i64 u.o,.aa false (ae u.l)]]⟩:au),⟨.m,0,4,[.agg [.int .i64 u.k,.str u.s,.int .i64 u.o,.aa false (ae u.l)]]⟩,⟨.m,0,0,[]⟩,⟨.m,0,0,[]⟩,⟨.m,0,5,[.agg [.ak 7 0 0 1,.int .i64 0,.cB 2,.cB 3,.aa true []]]⟩,⟨.m,0,4,[.agg [.int .i64 u.k,.str u.s,.int .i64 u.o,.aa false (ae u.l)]]⟩,⟨.m,0,4,[.agg [.int .i64 u.k,.str u.s,.int .i64 u.o,.aa false (ae u.l)]]⟩,⟨.m,0,4,[.agg [.int .i64 u.k,.str u.s,.int .i64 u.o,.aa false (ae u.l)]]⟩][7]?=some ⟨.m,0,4,ae [u]⟩:=by rw[yq];rfl
  have UP:=lV (ts:=[u]) eS (by simp) (λt ht=>by simp at ht;rw[ht];omega);have yu:eg [u]=[u]:=rfl;rw[yu,yq]at UP;refine wXA ?_;refine ai.cz rfl UP ?_;have hc:=pA _ rfl Po u [] ([(⟨.m,0,4,[.agg [.int .i64 u.k,.str u.s,.int .i64 u.o,.aa false (ae u.l)]]⟩:au),⟨.m,0,4,[.agg [.int .i64 u.k,.str u.s,.int .i64 u.o,.aa false (ae u.l)]]⟩,⟨.m,0,0,[]⟩,⟨.m,0,0,[]⟩,⟨.m,0,5,[.agg [.ak 7 0 0 1,.int .i64 0,.cB 2,.cB 3,.aa true []]]⟩,⟨.m,0,4,[.agg [.int .i64 u.k,.str u.s,.int .i64 u.o,.aa false (ae u.l)]]⟩,⟨.m,0,4,[.agg [.int .i64 u.k,.str u.s,.int .i64 u.o,.aa false (ae u.l)]]⟩,⟨.m,0,4,[.agg [.int .i64 u.k,.str u.s,.int .i64 u.o,.aa false (ae u.l)]]⟩].set 7 ⟨.m,0,4,ae [u]⟩) (by rw[yq];exact Zf) 7 0 rfl (by simp) (λt ht=>by simp at ht;rw[ht];omega);have RJ:dd [u]=[u]:=rfl;rw[RJ,yq]at hc;refine wXA ?_;refine .ln hc (λr h' hr=>by obtain⟨_,_,_,rfl⟩:=hr;simp) (λr h' hr=>?_);obtain⟨rfl,tl,hv,rfl⟩:=hr;refine wXA ?_;refine eD.zip T6 ([]:List Tm) (λp q L K=>L=[(5,.ptr 4 0 0 0),(53,.aa false []),(54,.int .i64 0),(55,.int .i64 p.length)]/\K=(([(⟨.m,0,4,[.agg [.int .i64 u.k,.str u.s,.int .i64 u.o,.aa false (ae u.l)]]⟩:au),⟨.m,0,4,[.agg [.int .i64 u.k,.str u.s,.int .i64 u.o,.aa false (ae u.l)]]⟩,⟨.m,0,0,[]⟩,⟨.m,0,0,[]⟩,⟨.m,0,5,[.agg [.ak 7 0 0 1,.int .i64 0,.cB 2,.cB 3,.aa true []]]⟩,⟨.m,0,4,[.agg [.int .i64 u.k,.str u.s,.int .i64 u.o,.aa false (ae u.l)]]⟩,⟨.m,0,4,[.agg [.int .i64 u.k,.str u.s,.int .i64 u.o,.aa false (ae u.l)]]⟩,⟨.m,0,4,[.agg [.int .i64 u.k,.str u.s,.int .i64 u.o,.aa false (ae u.l)]]⟩].set 7 ⟨.m,0,4,ae [u]⟩).set 7 ⟨.m,0,4,[.agg [.int .i64 u.k,.str u.s,.int .i64 u.o,.aa false (ae u.l)]]++tl⟩).set 4 ⟨.m,0,5,[.agg [.ak 7 0 0 1,.int .i64 0,.cB 2,.cB 3,.aa true []]]⟩) (.nx ⟨rfl,rfl⟩) ?_ ?_
  ·rintro p u q _ K ρ e _
   cases p <;>cases e
  ·rintro _ _ ρ ⟨rfl,rfl⟩;refine wXA ?_;refine⟨?_,by simp,λj hj=>(by obtain rfl:j=0:=(by omega);rfl),4,2,3,7,0,tl,rfl,by omega,⟨rfl,rfl,rfl,rfl,hv⟩⟩
   intro o ho
   have ho:o∈[(⟨.m,0,4,[.agg [.int .i64 u.k,.str u.s,.int .i64 u.o,.aa false (ae u.l)]]⟩:au),⟨.m,0,4,[.agg [.int .i64 u.k,.str u.s,.int .i64 u.o,.aa false (ae u.l)]]⟩,⟨.m,0,0,[]⟩,⟨.m,0,0,[]⟩,⟨.m,0,5,[.agg [.ak 7 0 0 1,.int .i64 0,.cB 2,.cB 3,.aa true []]]⟩,⟨.m,0,4,[.agg [.int .i64 u.k,.str u.s,.int .i64 u.o,.aa false (ae u.l)]]⟩,⟨.m,0,4,[.agg [.int .i64 u.k,.str u.s,.int .i64 u.o,.aa false (ae u.l)]]⟩,⟨.m,0,4,[.agg [.int .i64 u.k,.str u.s,.int .i64 u.o,.aa false (ae u.l)]]++tl⟩]:=ho;simp only[Z',aa7,or_false]at ho;have rN:ao ([.agg [.int .i64 u.k,.str u.s,.int .i64 u.o,.aa false (ae u.l)]]++tl)=true:=by rw[du,hv];simp
   rcases ho with rfl |rfl |rfl |rfl |rfl |rfl |rfl |rfl
   ·exact⟨by simp,br _ _ (by simp)⟩
   ·exact⟨by simp,br _ _ (by simp)⟩
   ·exact⟨by simp,rfl⟩
   ·exact⟨by simp,rfl⟩
   ·exact⟨by simp,by simp[bz,bt]⟩
   ·exact⟨by simp,br _ _ (by simp)⟩
   ·exact⟨by simp,br _ _ (by simp)⟩
   ·exact⟨by simp,br _ _ rN⟩
theorem II(u:Tm)(hv:valid u=0)(hu:ay u<10000000)(f1:eV u jx=false)(f2:eV u xj=false):aO C 276 [.aa false [],enc u] (.cx [.aa false [],.int .i64 4]):=by
 have g1:=xu u hv hu;have g2:=Pp u hu f1 f2;have yq:ae [u]=[.agg [.int .i64 u.k,.str u.s,.int .i64 u.o,.aa false (ae u.l)]]:=by rw[ae,aw];rfl
 rw[yq]at g1;rw[aw u]at g2 ⊢;refine aO.x T6 Tryz.func276 rfl ?_;refine wXA ?_;refine .p g1 ?_;refine wXA ?_;refine .fr (P:=λr h'=>∃x m1 m2 c ep tl,r=.ptr x 0 0 0/\1<=x/\Sys h' x m1 m2 c ep u tl) g2 (λr h hr hb=>?_) (λr h r1 r2 r3 r4=>?_)
 ·obtain⟨x,m1,m2,c,ep,tl,rfl,hx,_⟩:=hr;simp[dQ,cH,dP]at hb;omega
 obtain⟨x,m1,m2,c,ep,tl,rfl,hx,hS⟩:=r4;have h0:h[0]?=some ⟨.m,0,4,[.agg [.int .i64 u.k,.str u.s,.int .i64 u.o,.aa false (ae u.l)]]⟩:=r3 0 (by simp);have g3:=TQ x m1 m2 c ep u tl hu f1 f2 h r1 hS;rw[aw u]at g3;refine wXA ?_;refine .fr (P:=λr h'=>∃b,r=.ak b 0 0 1/\h.length<=b/\h'[b]?=some ⟨.m,0,1,[.int .u64 1]⟩) g3 (λr k hr hb=>?_) (λr k k1 k2 k3 k4=>?_)
 ·obtain⟨b,rfl,yy,_⟩:=hr;simp[dQ,cH,dP]at hb;omega
 obtain⟨b,rfl,yy,hb3⟩:=k4;have UQ:Sys k x m1 m2 c ep u tl:=hS.of_eq h.length ⟨ag hS.hx,ag hS.h1,ag hS.h2,ag hS.hc⟩ k3;have g4:=TR x m1 m2 c ep b u tl k k1 UQ;refine wXA ?_;refine .fr (P:=λr h'=>r=.cx [.ak b 0 0 1,.ak k.length 0 0 1]/\h'=k++[⟨.m,0,1,[.int .u64 0]⟩]) (g4.mono λr h' hr=>?_) (λr k hr hb=>?_) (λr h' _ _ _ k4=>?_)
 ·obtain⟨rfl,rfl⟩:=hr;exact⟨k1.dq (HV.one rfl),by simp,λj hj=>Z0 hj,rfl,rfl⟩
 ·obtain⟨rfl,_⟩:=hr;simp[dQ,cH,dP]at hb
 obtain⟨rfl,rfl⟩:=k4;have hS3:Sys (k++[(⟨.m,0,1,[.int .u64 0]⟩:au)]) x m1 m2 c ep u tl:=UQ.of_eq k.length ⟨ag UQ.hx,ag UQ.h1,ag UQ.h2,ag UQ.hc⟩ λj hj=>Z0 hj
 have hb4:(k++[(⟨.m,0,1,[.int .u64 0]⟩:au)])[b]?=some ⟨.m,0,1,[.int .u64 1]⟩:=by rw[Z0 (ag hb3)];exact hb3
 have g5:=IP b _ hb4;have fx:=hS3.hx;have fc:=hS3.hc;refine wXA ?_;refine .same (g5.mono λr h' h=>⟨h.1,h.2⟩) (λr hr=>?_);subst hr;refine wXA ?_;exact⟨_,rfl,rfl⟩
end bP
end Go.Pm
