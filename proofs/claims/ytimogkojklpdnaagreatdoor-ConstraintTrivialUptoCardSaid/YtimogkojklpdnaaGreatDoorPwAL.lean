/-
  Pm, a part. Conditions: none.
-/
import Derived.Test.YtimogkojklpdnaaGreatDoorPwAK
set_option linter.unusedVariables false
set_option linter.unusedSimpArgs false
set_option linter.unnecessarySimpa false
namespace Go.Pm
namespace bC
open Go.Proofs
attribute [local irreducible] aD az aL aJ Ev ah aj ay bg bN
set_option maxRecDepth 4000
theorem Mm(x t:Tm)(hx:ax x<100000000)(ht:ax t<100000000):aI C 99 [enc x,enc t] (.bool (A4 x t)):=by
 have h1:=(fU x hx).nine;have h2:=(fU t ht).nine;rw[ar]at h1 h2 ⊢;rw[ar t];refine aI.x T6 Tryz.func99 rfl ?_;refine wA ?_;refine .p h1 ?_;refine wC (λhc=>?_) λhc=>?_
 ·refine .p h2 ?_
  (repeat' (first |(refine Rn.go ?_;conv=>whnf)|refine .mk ?_ |refine .mk (λhc=>?_) λhc=>?_ |fail))
  all_goals exact⟨_,rfl,by simp[aR,A4, *]⟩
 exact⟨_,rfl,by simp[aR,A4, *]⟩
theorem Xj{q:List eE}{b:eE}{o:Option Tm}(hb:Dn b≠0):pA o (b::q)=Dn b:=by rw[pA,if_pos hb]
def BX(p:List eE):Option Tm:=p.getLast?.map eE.v
theorem sB(p:List eE)(d:eE):BX (p++[d])=some d.v:=by simp[BX]
theorem IB(s:List eE)(hl:s.length<1000000000)(hb:∀b∈s,ax b.v<100000000/\ax b.t<100000000):aI C 48 [.aa false (dR s)] (.int .i64 (qa s)):=by
 have cz:=uC s;refine aI.x T6 Tryz.func48 rfl ?_;refine wC (λhc=>?_) λhc=>?_;exact⟨_,rfl,by rw[qa,if_pos (by omega)];rfl⟩;have WI:qa s=pA none s:=by rw[qa,if_neg (by omega)]
 refine cU.zip T6 s (λp q L H=>L=[(0,.aa false (dR s)),(10,.aa false (dR s)),(11,.int .i64 (dR s).length),(12,.int .i64 p.length)]/\HV H/\qa s=pA (BX p) q) (.nx ⟨rfl,HV.nil,WI⟩) ?_ ?_
 ·rintro p b q _ H O e ⟨rfl,hH,hs⟩;have cC:=D5 e;have dp:=lenE e;obtain⟨hbv,Dp⟩:=hb b (by rw[e];simp);have h1:=(fU b.v hbv).nine;have h2:=(fU b.t Dp).nine;have h3:=(eY b.v b.t (by omega) (by omega)).nine;have h4:=Mm b.v b.t hbv Dp;rw[ar]at h1 h2 h3 h4;rw[ar b.t]at h3 h4;have hE:∀n,Dn b=n->n≠0->qa s=n:=λn h h'=>by rw[hs,Xj (q:=q) (by rw[h];exact h'),h]
  have hN:Dn b=0->qa s=if behind (BX p) b.v=false then 5 else pA (some b.v) q:=λh=>by rw[hs,pA,if_neg (by rw[h];simp)]
  refine wA ?_;refine .p h1 ?_;refine wJ (λhc hc=>?_) (λhc hc=>?_) λhc=>?_
  ·have Di:valid b.v=0:=by omega
   have uQ:b.v.k=1:=by omega
   refine .p h3 ?_;refine wC (λhc=>?_) λhc=>?_;exact⟨_,rfl,by rw[hE 1 (by rw[Dn,if_neg (by omega),if_pos (.inr (by assumption))]) (by decide)];rfl⟩
   ·have Fa:¬(b.v.k≠1\/aW b.v b.t=0):=by omega
    refine .p h2 ?_;refine wC (λhc=>?_) λhc=>?_
    ·have ht0:valid b.t=0:=by omega
     refine .p h4 ?_
     cases hf:A4 b.v b.t
     ·refine wA ?_;exact⟨_,rfl,by rw[hE 10 (by rw[Dn,if_neg (by omega),if_neg Fa,if_neg (by omega),if_pos hf]) (by decide)];rfl⟩
     ·have TU:=hN (by rw[Dn,if_neg (by omega),if_neg Fa,if_neg (by omega),if_neg (by rw[hf];simp)])
      by_cases Dq:p=[]
      ·have Uv:behind (BX p) b.v=true:=by rw[Dq];rfl
       rw[Uv,if_neg (by simp)]at TU;have FX:p.length=0:=by rw[Dq];rfl
       refine wA ?_;exact .nx ⟨rfl,hH.db (HV.one (by simp)),by rw[sB];exact TU⟩
      ·obtain⟨p',e0,tT⟩:∃p' e0,p=p'++[e0]:=by
        rcases aeo p with h |⟨a,b,h⟩;exact absurd h Dq;exact⟨a,b,by rw[h];simp⟩
       have rz:=D5 (l:=s) (p:=p') (b:=e0) (q:=b::q) (by rw[e,tT];simp);have FX:p.length=p'.length+1:=by rw[tT];simp
       have CC:BX p=some e0.v:=by rw[tT,sB]
       have h5:=(eY e0.v b.v (by have:=(hb e0 (by rw[e,tT];simp)).1;omega) (by omega)).nine;rw[ar,ar b.v]at h5;rw[CC]at TU;refine wA ?_;refine .mk (n:=p'.length) ?_ (by omega) rz rfl;refine wA ?_;refine .p h5 ?_;refine wC (λhc=>?_) λhc=>?_;exact⟨_,rfl,by rw[TU,if_pos (by simp[behind];omega)];rfl⟩;exact .nx ⟨rfl,hH.db (HV.one (by simp)),by rw[sB,TU,if_neg (by simp[behind];omega)]⟩
    exact⟨_,rfl,by rw[hE (valid b.t) (by rw[Dn,if_neg (by omega),if_neg Fa,if_pos (by omega)]) (by omega)];rfl⟩
  exact⟨_,rfl,by rw[hE 1 (by rw[Dn,if_neg (by omega),if_pos (.inl (by assumption))]) (by decide)];rfl⟩;exact⟨_,rfl,by rw[hE (valid b.v) (by rw[Dn,if_pos (by omega)]) (by omega)];rfl⟩
 ·rintro _ H O ⟨rfl,hH,hs⟩;refine wA ?_;exact⟨_,rfl,by rw[hs];rfl⟩
end bC
set_option maxRecDepth 4000
def P8(l:List eE):Prop:=l.Pairwise λp q=>aW p.v q.v<0
def Dc(t:Tm):List eE->Nat
 |[]=>0
 |p::l=>if aW p.v t<0 then Dc t l+1 else 0
theorem P9(t:Tm):∀l:List eE,Dc t l<=l.length
 |[]=>by simp[Dc]
 |p::l=>by
  have:=P9 t l;rw[Dc]
  split <;>simp <;>omega
theorem JQ(t:Tm):∀(l:List eE),P8 l->∀(m:Nat) (p:eE),l[m]?=some p->(aW p.v t<0↔m<Dc t l)
 |[],_,m,p,h=>by simp at h
 |q::l,s,m,p,h=>by
  obtain⟨s1,s2⟩:=acm.1 s;rw[Dc]
  cases m with
  |zero=>
   simp at h;subst h
   split
   simp;assumption;simp;omega
  |succ m=>
   have h':l[m]?=some p:=by simpa using h
   have ih:=JQ t l s2 m p h';have hm:=s1 p (acb h')
   split
   rw[ih];omega
   ·rename_i hq
    constructor
    ·intro hp
     exact absurd (eC hm hp) hq
    intro hh;omega
def MQ(t:Tm)(l:List eE):Bool:=match l[Dc t l]? with |some p=>decide (aW p.v t=0)|none=>false
theorem BY:∀{s:List eE} {x:Tm},(∀b∈s,aW b.v x≠0)->j0 s x=x
 |[],_,_=>rfl
 |b::s,x,h=>by
  rw[j0,if_neg (h b (by simp))];exact BY λc hc=>h c (by simp[hc])
theorem JR(x:Tm):∀(s:List eE),P8 s->(∀b,s[Dc x s]?=some b->aW b.v x=0->j0 s x=b.t)/\(MQ x s=false->j0 s x=x)
 |[],_=>⟨λb h=>by simp at h,λ_=>rfl⟩
 |c::s,hs=>by
  obtain⟨s1,s2⟩:=acm.1 hs;obtain⟨ih1,ih2⟩:=JR x s s2
  by_cases hc:aW c.v x<0
  ·have hl:Dc x (c::s)=Dc x s+1:=by rw[Dc,if_pos hc]
   have hg:j0 (c::s) x=j0 s x:=by rw[j0,if_neg (by omega)]
   have hf:MQ x (c::s)=MQ x s:=by unfold MQ;rw[hl];simp
   rw[hl,hg,hf];exact⟨λb h=>ih1 b (by simpa using h),ih2⟩
  ·have hl:Dc x (c::s)=0:=by rw[Dc,if_neg hc]
   have hf:MQ x (c::s)=decide (aW c.v x=0):=by unfold MQ;rw[hl];rfl
   rw[hl,hf];refine⟨λb h h0=>?_,λh=>?_⟩
   ·simp at h;subst h;rw[j0,if_pos h0]
   ·have h0:aW c.v x≠0:=of_decide_eq_false h;refine BY λb hb=>?_;rcases ab5.1 hb with rfl |hb;exact h0
    ·intro h1
     have h2:=s1 b hb;have h3:=cy h1;subst h3;exact hc h2
namespace bC
open Go.Proofs
attribute [local irreducible] aD az aL aJ Ev ah aj ay bg bN
theorem jE{h:ab}{k o:Int}{n:ByteArray}{l:List Tm}{x:PV}(hx:jP h x=some x:=by rfl)(hn:cj x=x:=by rfl):∃r1,rb h (aR [.agg (List.take (3+1) (List.drop 0 (cells (.agg [.int .i64 k,.str n,.int .i64 o,.aa false (ae l)])))),x])=some r1/\cj r1=.cA [.agg [.int .i64 k,.str n,.int .i64 o,.aa false (ae l)],x]:=by
 refine⟨.cA [.agg [.int .i64 k,.str n,.int .i64 o,.aa false (ae l)],x],?_,by simp[cj,aQ,hn]⟩;simp only[aR,rb,gC,hx];simp[jP,oJ,pD,cells]
theorem Mn(b:eE)(t:Tm)(hb:ax b.v<100000000)(ht:ax t<100000000):aI C 257 [Ak b,enc t] (.int .i64 (aW b.v t)):=by
 have h1:=(eY b.v t (by omega) (by omega)).nine;rw[ar,ar t]at h1;rw[yc,ar];refine aI.x T6 Tryz.func257 rfl ?_;refine wA ?_;refine .p h1 ?_;refine wA ?_;exact⟨_,rfl,rfl⟩
theorem Qa(l:List eE)(t:Tm)(hs:P8 l)(hl:l.length<100000000)(hb:∀b∈l,ax b.v<100000000)(ht:ax t<100000000):
  aI C 256 [.aa false (dR l),enc t,.fn 257 []] (.cA [.int .i64 (Dc t l),.bool (MQ t l)]):=by
 have hle:=P9 t l;have Qm:=JQ t l hs;have pU:MQ t l=match l[Dc t l]? with |some p=>decide (aW p.v t=0)|none=>false:=rfl
 have cz:=uC l;generalize MQ t l=FD at pU ⊢;generalize Dc t l=LB at hle Qm pU ⊢
 have elem:∀m,m<l.length->∃b,l[m]?=some b/\(dR l)[m]?=some (.agg [.int .i64 b.v.k,.str b.v.s,.int .i64 b.v.o,.aa false (ae b.v.l),.int .i64 b.t.k,.str b.t.s,.int .i64 b.t.o,.aa false (ae b.t.l)])/\aI C 257 [Ak b,enc t] (.int .i64 (aW b.v t)):=λm hm=>by
  have h1:l[m]?=some l[m]:=ab1 hm;exact⟨_,h1,A3 h1,Mn _ t (hb _ (acb h1)) ht⟩
 rw[ar]at elem ⊢;refine aI.x T6 Tryz.func256 rfl ?_;refine wA ?_;refine cU.nat T6 (λk L H=>∃i j:Nat,L=[(0,.aa false (dR l)),(2,.fn 257 []),(4,.ptr 0 0 0 0),(8,.int .i64 (dR l).length),(9,.int .i64 i),(10,.int .i64 j)]/\H=[⟨.m,0,4,[.agg [.int .i64 t.k,.str t.s,.int .i64 t.o,.aa false (ae t.l)]]⟩]/\k=j - i/\i<=LB/\LB<=j/\j<=l.length) l.length (.nx ⟨0,(dR l).length,rfl,rfl,by omega,by omega,by omega,by omega⟩) ?_;rintro k _ _ O ⟨i,j,rfl,rfl,hk,i1,i2,i3⟩
 by_cases Ks:i<j
 ·obtain⟨m,hmm⟩:∃m:Nat,((i:Int)+j) / 2=m:=⟨(i+j) / 2,by omega⟩;obtain⟨b,h1,cC,rU⟩:=elem m (by omega);have QN:=Qm m _ h1;rw[yc]at rU;refine wA ?_;refine .mk (n:=m) ?_ hmm cC;refine wA ?_;refine .p rU ?_;refine wC (λhc=>?_) λhc=>?_;exact .nx ⟨j - (m+1),by omega,m+1,j,rfl,rfl,rfl,by omega,by omega,by omega⟩;exact .nx ⟨m - i,by omega,i,m,rfl,rfl,rfl,by omega,by omega,by omega⟩
 ·have hi:i=LB:=by omega
  subst hi
  by_cases lu:i<l.length
  ·obtain⟨b,h1,cC,rU⟩:=elem i lu;rw[h1]at pU;dsimp only at pU;rw[yc]at rU;refine wA ?_;refine .p rU ?_;refine wC (λhc=>?_) λhc=>?_
   all_goals exact⟨_,rfl,by rw[pU];simp[aR,cj,aQ, *]⟩
  ·rw[ach (by omega)]at pU;refine wA ?_;exact⟨_,rfl,by rw[pU];rfl⟩
theorem Mo(l:List eE)(t:Tm)(hs:P8 l)(hl:l.length<100000000)(hb:∀b∈l,ax b.v<100000000)(ht:ax t<100000000):aI C 201 [.aa false (dR l),enc t] (.cA [enc (j0 l t),.bool (MQ t l)]):=by
 have h1:=Qa l t hs hl hb ht;obtain⟨g1,g2⟩:=JR t l hs;have pU:MQ t l=match l[Dc t l]? with |some p=>decide (aW p.v t=0)|none=>false:=rfl
 have cz:=uC l;rw[ar]at h1;rw[ar t];refine aI.x T6 Tryz.func201 rfl ?_;refine wA ?_;refine .p h1 ?_
 cases hf:MQ t l
 ·rw[g2 hf,ar];refine wA ?_;exact jE
 ·obtain⟨b,V9,Ae⟩:∃b,l[Dc t l]?=some b/\aW b.v t=0:=by
   rw[hf]at pU
   cases hx:l[Dc t l]? with
   |none=>rw[hx]at pU;cases pU
   |some b=>rw[hx]at pU;exact⟨b,rfl,of_decide_eq_true pU.symm⟩
  rw[g1 b V9 Ae,ar];have cC:=A3 V9;have cM:=ag V9;refine wA ?_;exact jE
theorem Oy{h:ab}{k o:Int}{n:ByteArray}{l:List Tm}:∃r1,rb h (aR [.agg (List.take (3+1) (List.drop 0 (cells (.agg [.int .i64 k,.str n,.int .i64 o,.aa false (ae l)]))))])=some r1/\cj r1=.agg [.int .i64 k,.str n,.int .i64 o,.aa false (ae l)]:=by
 refine⟨.agg [.int .i64 k,.str n,.int .i64 o,.aa false (ae l)],?_,by simp[cj,aQ]⟩;simp[aR,rb,jP,oJ,pD,cells]
theorem Tq{A B:List Tm}{x y:Tm}{n:Nat}(h:n=A.length):(A++x::B).set n y=A++y::B:=by
 subst h
 induction A with
 |nil=>rfl
 |cons a A ih=>simpa using ih
theorem mq{l:List Tm}(h0:l≠[])(hl:l.length<1000000000)(H:ab):bE 4 [.aa false (ae l)] H=some (.ak H.length 0 0 l.length,H++[⟨.m,0,4,ae l⟩]):=by
 have cz:=ai l;have h1:(ae l).isEmpty=false:=by cases l with |nil=>exact absurd rfl h0 |cons=>rfl
 simp only[bE,h1,aca,if_false];rw[if_pos ⟨oT _,by omega⟩,cz]
 rfl
theorem Mp(k s o l)(hl:l.length<100000000)(ih:∀t∈l,aI C 202 [enc t] (enc t)):aI C 202 [enc (.mk k s o l)] (enc (.mk k s o l)):=by
 have cz:=ai l;rw[bh];refine aI.x T6 Tryz.func202 rfl ?_
 by_cases h0:l=[]
 ·subst h0;refine wA ?_;refine aj.cV rfl rfl ?_;refine wA ?_
  have FY:HR [⟨.m,0,4,[.agg [.int .i64 k,.str s,.int .i64 o,.aa true []]]⟩,⟨.m,0,4,[.agg [.int .i64 0,.str ByteArray.empty,.int .i64 0,.aa true []]]⟩]:=by
   intro x hx
   simp at hx;rcases hx with rfl |rfl <;>simp[bG,bu]
  refine cU.zip T6 ([]:List Tm) (λp q L K=>L=[(1,.ptr 0 0 0 0),(2,.ptr 1 0 0 0),(10,.aa true []),(11,.int .i64 0),(12,.int .i64 p.length)]/\K=[⟨.m,0,4,[.agg [.int .i64 k,.str s,.int .i64 o,.aa true []]]⟩,⟨.m,0,4,[.agg [.int .i64 0,.str ByteArray.empty,.int .i64 0,.aa true []]]⟩]) (.nx ⟨rfl,rfl⟩) ?_ ?_
  ·rintro p u q _ K O e _
   cases p <;>cases e
  ·rintro _ K O ⟨rfl,rfl⟩;refine wA ?_;exact⟨_,rfl,rfl⟩
 ·refine wA ?_;refine aj.cV rfl (mq h0 (by omega) _) ?_;refine wA ?_
  have FY:HR [⟨.m,0,4,[.agg [.int .i64 k,.str s,.int .i64 o,.ak 2 0 0 l.length]]⟩,⟨.m,0,4,[.agg [.int .i64 0,.str ByteArray.empty,.int .i64 0,.aa true []]]⟩,⟨.m,0,4,ae l⟩]:=by
   intro x hx
   simp at hx;rcases hx with rfl |rfl |rfl;simp[bG,bu];simp[bG,bu];exact⟨by simp,bm _ _ (by simp)⟩
  refine cU.zip T6 l (λp q L H=>L=[(1,.ptr 0 0 0 0),(2,.ptr 1 0 0 0),(10,.ak 2 0 0 l.length),(11,.int .i64 l.length),(12,.int .i64 p.length)]/\HR H/\H[0]?=some ⟨.m,0,4,[.agg [.int .i64 k,.str s,.int .i64 o,.ak 2 0 0 l.length]]⟩/\H[1]?=some ⟨.m,0,4,[.agg [.int .i64 0,.str ByteArray.empty,.int .i64 0,.aa true []]]⟩/\H[2]?=some ⟨.m,0,4,ae l⟩) (.nx ⟨rfl,FY,rfl,rfl,rfl⟩) ?_ ?_
  ·rintro p u q _ H O e ⟨rfl,hH,g0,g1,g2⟩;have rz:=ba e;have cC:(ae l)[0+p.length]?=some (.agg [.int .i64 u.k,.str u.s,.int .i64 u.o,.aa false (ae u.l)]):=by rw[acf];exact rz
   have eT:=dj cC;have dp:=lenE e;have hi:=ih u (by rw[e];simp);rw[ar]at hi;have pE:HR (H++[⟨.m,0,4,[.agg [.int .i64 u.k,.str u.s,.int .i64 u.o,.aa false (ae u.l)]]⟩]):=hH.du (HV.one (by simp));refine wA ?_;refine .p hi ?_;refine wA ?_;rw[eT];have k2:=ag g2;exact .nx ⟨rfl,pE.set 2 (by simp) (bm _ _ (by simp)),by rw[ab0 (by omega),abW (by omega)];exact g0,by rw[ab0 (by omega),abW (by omega)];exact g1,abY (by simp;omega)⟩
  ·rintro _ H O ⟨rfl,hH,g0,g1,g2⟩;have k1:=ag g1;have e2:=abY (a:=(⟨.m,0,4,[.agg [.int .i64 k,.str s,.int .i64 o,.ak 2 0 0 l.length]]⟩:aw)) k1;refine wA ?_;refine .mk ?_ (mg (T:=T6) rfl e2 rfl rfl rfl rfl);exact⟨K5 (.inr ⟨2,0,by rw[cz],(ab0 (by omega)).trans g2⟩) (by simp) (by simp)⟩
theorem IC(t:Tm)(hb:ax t<100000000):aI C 202 [enc t] (enc t):=by
 induction t using Tm.ind with
 |h k s o l ih=>
  have:=aY l;simp only[ax]at hb;exact Mp k s o l (by omega) λt ht=>ih t ht (by have:=bD ht;omega)
structure zH(s:List eE):Prop where
 oB:P8 s
 len:s.length<100000000
 v:∀b∈s,ax b.v<10000000
 t:∀b∈s,ax b.t<10000000
theorem zH.get{s:List eE}(h:zH s){x:Tm}(hx:ax x<10000000):ax (j0 s x)<10000000:=by
 have:=Cm (B:=9999999) (x:=x) (s:=s) λb hb=>by have:=h.t b hb;omega
 omega
theorem Tr(S:List eE)(hS:zH S)(k s o l)(hb:ax (.mk k s o l)<10000000)(ih:∀t∈l,aI C 157 [.aa false (dR S),enc t] (enc (bj S t))):aI C 157 [.aa false (dR S),enc (.mk k s o l)] (enc (bj S (.mk k s o l))):=by
 have cz:=ai l;have uj:=aY l;have hl:l.length<10000000:=by simp only[ax]at hb;omega
 have hfi:=Mo S (.mk k s o l) hS.oB hS.len (λb hb=>by have:=hS.v b hb;omega) (by omega);have ee:=IC (j0 S (.mk k s o l)) (by have:=hS.get hb;omega);obtain⟨g,hg⟩:∃g,g=j0 S (.mk k s o l):=⟨_,rfl⟩;have hpv:k=1->bj S (.mk k s o l)=g:=λh=>by rw[bj,if_pos h,hg]
 have hpt:k≠1->bj S (.mk k s o l)=.mk k s o (bz S l):=λh=>by rw[bj,if_neg h]
 rw[<-hg]at hfi ee;rw[ar g]at hfi ee;rw[bh]at hfi ⊢;refine aI.x T6 Tryz.func157 rfl ?_
 by_cases hk:k=1
 ·rw[hpv hk,ar];refine wA ?_;refine .p hfi ?_;refine wA ?_;refine .p ee ?_;refine wA ?_;exact Oy
 ·rw[hpt hk,bh]
  by_cases h0:l=[]
  ·subst h0;refine wA ?_;refine aj.cV rfl rfl ?_;refine wA ?_;refine cU.zip T6 ([]:List Tm) (λp q L K=>L=[(0,.aa false (dR S)),(3,.ptr 0 0 0 0),(4,.ptr 1 0 0 0),(25,.aa true []),(26,.int .i64 0),(27,.int .i64 p.length)]/\K=[⟨.m,0,4,[.agg [.int .i64 k,.str s,.int .i64 o,.aa true []]]⟩,⟨.m,0,4,[.agg [.int .i64 0,.str ByteArray.empty,.int .i64 0,.aa true []]]⟩]) (.nx ⟨rfl,rfl⟩) ?_ ?_
   ·rintro p u q _ K O e _
    cases p <;>cases e
   ·rintro _ K O ⟨rfl,rfl⟩;refine wA ?_;exact⟨_,rfl,rfl⟩
  ·refine wA ?_;refine aj.cV rfl (mq h0 (by omega) _) ?_;refine wA ?_
   have FY:HR [⟨.m,0,4,[.agg [.int .i64 k,.str s,.int .i64 o,.ak 2 0 0 l.length]]⟩,⟨.m,0,4,[.agg [.int .i64 0,.str ByteArray.empty,.int .i64 0,.aa true []]]⟩,⟨.m,0,4,ae l⟩]:=by
    intro x hx
    simp at hx;rcases hx with rfl |rfl |rfl;simp[bG,bu];simp[bG,bu];exact⟨by simp,bm _ _ (by simp)⟩
   refine cU.zip T6 l (λp q L H=>L=[(0,.aa false (dR S)),(3,.ptr 0 0 0 0),(4,.ptr 1 0 0 0),(25,.ak 2 0 0 l.length),(26,.int .i64 l.length),(27,.int .i64 p.length)]/\HR H/\H[0]?=some ⟨.m,0,4,[.agg [.int .i64 k,.str s,.int .i64 o,.ak 2 0 0 l.length]]⟩/\H[1]?=some ⟨.m,0,4,[.agg [.int .i64 0,.str ByteArray.empty,.int .i64 0,.aa true []]]⟩/\H[2]?=some ⟨.m,0,4,ae (bz S p++q)⟩) (.nx ⟨rfl,FY,rfl,rfl,rfl⟩) ?_ ?_
   ·rintro p u q _ H O e ⟨rfl,hH,g0,g1,g2⟩;have jR:=dH S p;have cC:(ae (bz S p++u::q))[0+p.length]?=some (.agg [.int .i64 u.k,.str u.s,.int .i64 u.o,.aa false (ae u.l)]):=by rw[acf,<-jR];exact ba rfl
    have eT:(ae (bz S p++u::q)).set (0+p.length) (enc (bj S u))=ae (bz S (p++[u])++q):=by
     rw[ya,acf,Tq jR.symm,bI,bI,acK];simp
    have dp:=lenE e;have oX:(ae (bz S p++u::q)).length=l.length:=by rw[ai];simp;omega
    have hi:=ih u (by rw[e];simp);rw[ar u,ar (bj S u)]at hi;rw[ar (bj S u)]at eT;have pE:HR (H++[⟨.m,0,4,[.agg [.int .i64 u.k,.str u.s,.int .i64 u.o,.aa false (ae u.l)]]⟩]):=hH.du (HV.one (by simp));refine wA ?_;refine .p hi ?_;refine wA ?_;rw[eT];have k2:=ag g2;exact .nx ⟨rfl,pE.set 2 (by simp) (bm _ _ (by simp)),by rw[ab0 (by omega),abW (by omega)];exact g0,by rw[ab0 (by omega),abW (by omega)];exact g1,abY (by simp;omega)⟩
   ·rintro _ H O ⟨rfl,hH,g0,g1,g2⟩;rw[ack]at g2;have jR:=dH S l;have k1:=ag g1;have e2:=abY (a:=(⟨.m,0,4,[.agg [.int .i64 k,.str s,.int .i64 o,.ak 2 0 0 l.length]]⟩:aw)) k1;refine wA ?_;refine .mk ?_ (mg (T:=T6) rfl e2 rfl rfl rfl rfl);exact⟨K5 (.inr ⟨2,0,by rw[ai,jR],(ab0 (by omega)).trans g2⟩) (by simp) (by simp)⟩
theorem Qb(S:List eE)(hS:zH S)(t:Tm)(hb:ax t<10000000):aI C 157 [.aa false (dR S),enc t] (enc (bj S t)):=by
 induction t using Tm.ind with
 |h k s o l ih=>
  refine Tr S hS k s o l hb λt ht=>ih t ht ?_;have:=bD ht;simp only[ax]at hb;omega
end bC
theorem Qc{s:ByteArray}(h:dZ s=true):1<=s.size:=by
 rw[<-bsize];unfold dZ xk at h
 cases e:s.toList with
 |nil=>rw[e]at h;simp at h
 |cons c l=>simp
theorem FO{s:List eE}{B:Nat}:∀{l:List Tm},(∀t∈l,2 * ax (bj s t)<=ax t * B)->2 * br (bz s l)<=br l * B
 |[],_=>by simp[bz,br]
 |t::l,h=>by
  have h1:=h t (by simp);have h2:=FO (l:=l) λu hu=>h u (by simp[hu])
  simp only[bz,br,acU];omega
theorem Mq{s:List eE}{B:Nat}(hB:2<=B)(hs:∀b∈s,ax b.t<=B)(t:Tm):nodes t=0->2 * ax (bj s t)<=ax t * B:=by
 induction t using Tm.ind with
 |h k n o l ih=>
  intro h0
  obtain⟨q1,q2⟩:=lY h0;have hn:=Qc (uD q1).1;have Ae:2<=ax (.mk k n o l):=by simp only[ax];omega
  have h1:ax (.mk k n o l) * 2<=ax (.mk k n o l) * B:=Nat.mul_le_mul_left _ hB;have h2:2 * B<=ax (.mk k n o l) * B:=acF _ Ae;unfold bj
  split
  ·have:=Cm (x:=.mk k n o l) hs;omega
  ·have h3:=FO (s:=s) (B:=B) (l:=l) λt ht=>ih t ht (lT q2 t ht)
   simp only[ax,acU]at h1 ⊢;have h4:n.size * 2<=n.size * B:=Nat.mul_le_mul_left _ hB;omega
theorem zH.of{s:List eE}(h:qa s=0):bC.zH s:=by
 obtain⟨h1,h2,h3⟩:=uH h;refine⟨h3,by omega,λb hb=>?_,λb hb=>?_⟩;have:=fe (nO (h2 b hb)).1;omega;have:=fe (nO (h2 b hb)).2.2.1;omega
theorem Ts{s:List eE}(h:qa s=0){t:Tm}(ht:valid t=0):ax (bj s t)<=50000000:=by
 obtain⟨h1,h2,h3⟩:=uH h;have h4:=Mq (s:=s) (B:=10000) (by omega) (λb hb=>fe (nO (h2 b hb)).2.2.1) t (eB.1 ht).1;have h5:=fe ht;have h6:ax t * 10000<=10000 * 10000:=acF _ h5;omega
namespace bC
open Go.Proofs
attribute [local irreducible] aD az aL aJ Ev ah aj ay bg bN
theorem mT:enc fW=.agg [.int .i64 0,.str ByteArray.empty,.int .i64 0,.aa false (ae [])]:=rfl
theorem zI(S:List eE)(hS:qa S=0)(t:Tm)(hb:ax t<10000000):aI C 112 [.aa false (dR S),enc t] (.cA [enc (ct S t).1,.int .i64 (ct S t).2]):=by
 have gk:=zH.of hS;have h1:=(fU t (by omega)).nine;have h2:=Qb S gk t hb;have h3:valid t=0->aI C 98 [enc (bj S t)] (.int .i64 (valid (bj S t))):=λh=>(fU (bj S t) (by have:=Ts hS h;omega)).nine
 have a1:valid t≠0->ct S t=(fW,valid t):=λh=>by rw[ct,if_pos h]
 have a2:valid t=0->valid (bj S t)≠0->ct S t=(fW,valid (bj S t)):=λh h'=>by rw[ct,if_neg (by omega),if_pos h']
 have a3:valid t=0->valid (bj S t)=0->ct S t=(bj S t,0):=λh h'=>by rw[ct,if_neg (by omega),if_neg (by omega)]
 generalize ct S t=A at *;generalize bj S t=u at *;rw[ar t]at h1 h2 ⊢;rw[ar u]at h2 h3;refine aI.x T6 Tryz.func112 rfl ?_;refine wA ?_;refine .p h1 ?_;refine wC (λhc=>?_) λhc=>?_
 ·have hv:valid t=0:=by omega
  refine .p h2 ?_;refine wA ?_;refine .p (h3 hv) ?_;refine wC (λhc=>?_) λhc=>?_
  ·rw[a3 hv (by omega),ar];exact jE
  ·rw[a2 hv (by omega),mT];exact⟨_,rfl,rfl⟩
 ·rw[a1 (by omega),mT];exact⟨_,rfl,rfl⟩
theorem tx{S:List eE}{t:Tm}(h:(ct S t).2=0):ct S t=(bj S t,0)/\valid t=0/\valid (bj S t)=0:=by
 unfold ct at h ⊢
 split at h
 ·rename_i h1;exact absurd h h1
 ·rename_i h1
  split at h
  ·rename_i h2;exact absurd h h2
  ·rename_i h2
   rw[if_neg h1,if_neg h2];exact⟨rfl,by omega,by omega⟩
theorem Tt{S:List eE}{l p q:List Tm}{u:Tm}(e:l=p++u::q)(hp:∀v∈p,(ct S v).2=0)(hu:(ct S u).2≠0):nM S l=(ct S u).2:=by
 subst e
 induction p with
 |nil=>simp only[acD,nM];rw[if_pos hu]
 |cons v p ih=>
  simp only[aco,nM];rw[if_neg (by rw[hp v (by simp)];simp),ih (λw hw=>hp w (by simp[hw]))]
theorem uW{S:List eE}:∀{l:List Tm},(∀v∈l,(ct S v).2=0)->nM S l=0
 |[],_=>rfl
 |v::l,h=>by
  rw[nM,if_neg (by rw[h v (by simp)];simp)];exact uW λu hu=>h u (by simp[hu])
theorem JS{S:List eE}(hS:qa S=0):aI C 48 [.aa false (dR S)] (.int .i64 0):=by
 obtain⟨h1,h2,h3⟩:=uH hS
 have:=IB S (by omega) λb hb=>by
  have h4:=fe (nO (h2 b hb)).1;have h5:=fe (nO (h2 b hb)).2.2.1;exact⟨by omega,by omega⟩
 rwa[hS]at this
theorem G8(S:List eE)(hS:qa S=0)(t:Tm)(hb:ax t<10000000):aI C 57 [.aa false (dR S),enc t] (.cA [enc (ct S t).1,.int .i64 (ct S t).2]):=by
 have h1:=JS hS;have h2:=zI S hS t hb;generalize ct S t=A at *;obtain⟨u,n⟩:=A;dsimp only at h2 ⊢;rw[ar t,ar u]at h2;rw[ar t,ar u];refine aI.x T6 Tryz.func57 rfl ?_;refine wA ?_;refine .p h1 ?_;refine wA ?_;refine .p h2 ?_;refine wA ?_;exact jE
theorem Ou(S:List eE)(hS:qa S=0)(l:List Tm)(hl:l.length<=200)(hb:∀t∈l,ax t<10000000):aI C 56 [.aa false (dR S),.aa false (ae l)] (.cA [.aa false (ae (if nM S l≠0 then[]else bz S l)),.int .i64 (nM S l)]):=by
 have h1:=JS hS;have cz:=ai l;refine aI.x T6 Tryz.func56 rfl ?_;refine wA ?_;refine .p h1 ?_;refine wA ?_;refine cU.zip T6 l (λp q L H=>∃v,L=[(0,.aa false (dR S)),(7,v),(20,.aa false (ae l)),(21,.int .i64 (ae l).length),(22,.int .i64 p.length)]/\HV H/\Out 4 H v (ae (bz S p))/\∀u∈p,(ct S u).2=0) (.nx ⟨_,rfl,HV.nil,.inl ⟨rfl,rfl⟩,by simp⟩) ?_ ?_
 ·rintro p u q _ H O e ⟨v,rfl,hH,ho,hp⟩;have cC:=ba e;have dp:=lenE e;have oA:=zI S hS u (hb u (by rw[e];simp));have jR:=dH S p;have hle:=ai (bz S p);have h0:(ct S u).2=0->(ct S u).1=bj S u:=λh=>by rw[(tx h).1]
  have hx:(ct S u).2≠0->nM S l=(ct S u).2:=Tt e hp;have lE:bz S (p++[u])=bz S p++[bj S u]:=by rw[bI,bI];simp
  have hpn:(ct S u).2=0->∀w∈p++[u],(ct S w).2=0:=λh w hw=>by
   rcases ab2.1 hw with h1 |h1;exact hp w h1;simp at h1;rw[h1];exact h
  generalize(ct S u).1=w at *;generalize(ct S u).2=n at *;rw[ar u,ar w]at oA;have x7:=(ho.db [⟨.m,0,4,[.agg [.int .i64 u.k,.str u.s,.int .i64 u.o,.aa false (ae u.l)]]⟩]).db [⟨.m,0,4,[.agg [.int .i64 w.k,.str w.s,.int .i64 w.o,.aa false (ae w.l)]]⟩];refine wA ?_;have pE:HV (H++[⟨.m,0,4,[.agg [.int .i64 u.k,.str u.s,.int .i64 u.o,.aa false (ae u.l)]]⟩]++[⟨.m,0,4,[.agg [.int .i64 w.k,.str w.s,.int .i64 w.o,.aa false (ae w.l)]]⟩]):=(hH.db (HV.one (by simp))).db (HV.one (by simp));refine .p oA ?_;refine wK (λhc v H lp=>?_) λhc=>?_
  ·have hw:=h0 (by omega);refine .nx ⟨_,rfl,lp.hv,?_,hpn (by omega)⟩;have:=lp.out;have e9:ae (bz S p)++[.agg [.int .i64 w.k,.str w.s,.int .i64 w.o,.aa false (ae w.l)]]=ae (bz S p++[w]):=by rw[bS,<-ar];rfl
   rw[lE,<-hw,<-e9];exact this
  ·have hxx:=hx (by omega);exact⟨_,rfl,by rw[hxx,if_pos (by omega)];rfl⟩
 ·rintro _ H O ⟨v,rfl,hH,ho,hp⟩;have he:=uW hp;rw[he,if_neg (by simp)];refine wA ?_;exact Ls.WO (.inl ho)
end bC
theorem XS:(ch Zt).k=3/\(ch Zu).k=3/\(ch Zv).k=3/\(ch Un).k=3/\(ch Uo).k=3/\(ch Up).k=3:=by refine⟨?_,?_,?_,?_,?_,?_⟩ <;>kernel_rfl
theorem xq{s:ByteArray}(h:um s=true):nj s=false/\(ch s).k≠3:=by
 simpa[um]using h
theorem OT{s:ByteArray}(h:um s=true):¬s.toList=(⟨#[102,115,116]⟩:ByteArray).toList/\¬s.toList=(⟨#[115,110,100]⟩:ByteArray).toList/\¬s.toList=(⟨#[100,101,99]⟩:ByteArray).toList/\¬s.toList=(⟨#[97,100,101,99]⟩:ByteArray).toList/\¬s.toList=(⟨#[111,112,101,110]⟩:ByteArray).toList/\¬s.toList=(⟨#[114,101,97,100]⟩:ByteArray).toList/\
  ¬s.toList=(⟨#[120,111,114]⟩:ByteArray).toList/\¬s.toList=(⟨#[109,117,108]⟩:ByteArray).toList/\¬s.toList=(⟨#[105,110,118]⟩:ByteArray).toList/\¬s.toList=(⟨#[111,110,101]⟩:ByteArray).toList/\¬s.toList=(⟨#[101,120,112]⟩:ByteArray).toList/\¬s.toList=(⟨#[122,101,114,111]⟩:ByteArray).toList:=by
 obtain⟨h1,h2⟩:=xq h;have d:∀n:ByteArray,(ch n).k=3->¬s.toList=n.toList:=λn hn e=>h2 (by rw[bC.oa e];exact hn)
 simp only[nj,adO]at h1;obtain⟨⟨⟨⟨⟨a1,a2⟩,a3⟩,a4⟩,a5⟩,a6⟩:=h1;have a:∀n:ByteArray,eP s n=false->¬s.toList=n.toList:=λn hn e=>by rw[bC.kQ e]at hn;cases hn
 exact⟨d Zt XS.1,d Zu XS.2.1,d Zv XS.2.2.1,d Un XS.2.2.2.1,d Uo XS.2.2.2.2.1,d Up XS.2.2.2.2.2,a u7 a1,a yK a4,a yL a5,a ql a6,a Hu a3,a il a2⟩
theorem ED{k:Int}{s:ByteArray}{o:Int}{l:List Tm}(h:valid (.mk k s o l)=0)(hk:k=3):o=0:=by
 have h1:=(lY (eB.1 h).1).1;simp only[node]at h1
 split at h1
 cases h1
 omega
namespace bC
open Go.Proofs
attribute [local irreducible] aD az aL aJ Ev ah aj ay bg bN
theorem Uq{h:ab}{v:PV}{k o n:Int}{s:ByteArray}{es:List PV}(ho:Out 4 h v es)(hv:ao es=true)(hn:aQ es=es):∃r1,rb h (aR [.agg [.int .i64 k,.str s,.int .i64 o,v],.int .i64 n])=some r1/\cj r1=.cA [.agg [.int .i64 k,.str s,.int .i64 o,.aa false es],.int .i64 n]:=by
 obtain⟨r,h1,h2⟩:∃r,pD h v=some r/\cj r=.aa false es:=by
  rcases ho with⟨rfl,rfl⟩|⟨id,ep,rfl,e2⟩;exact⟨_,rfl,rfl⟩;exact⟨.aa false es,by simp[pD,getM,e2,hv],by simp[cj,hn]⟩
 refine⟨.cA [.agg [.int .i64 k,.str s,.int .i64 o,r],.int .i64 n],?_,by simp[cj,aQ,h2]⟩;simp only[aR,rb,gC,jP,oJ,h1]
 rfl
theorem Le(s:ByteArray)(l:List Tm)(hf:um s=true)(hl:l.length<100000000)(ih:∀t∈l,aI C 155 [enc t] (.cA [enc t,.int .i64 0])):aI C 155 [enc (.mk 3 s 0 l)] (.cA [enc (.mk 3 s 0 l),.int .i64 0]):=by
 have cz:=ai l;obtain⟨n1,n2,n3,n4,n5,n6,n7,n8,n9,n10,n11,n12⟩:=OT hf;rw[bh];refine aI.x T6 Tryz.func155 rfl ?_;refine wA ?_
 have FY:HR [⟨.m,0,4,[.agg [.int .i64 3,.str s,.int .i64 0,.aa false (ae l)]]⟩,⟨.m,0,4,[.agg [.int .i64 0,.str ByteArray.empty,.int .i64 0,.aa true []]]⟩,⟨.m,0,4,[.agg [.int .i64 3,.str s,.int .i64 0,.aa true []]]⟩]:=by
  intro x hx
  simp at hx;rcases hx with rfl |rfl |rfl <;>simp[bG,bu,bm]
 refine cU.zip T6 l (λp q L H=>∃v,L=[(1,.ptr 0 0 0 0),(2,.ptr 1 0 0 0),(4,.ptr 2 0 0 0),(19,.aa false (ae l)),(20,.int .i64 (ae l).length),(21,.int .i64 p.length)]/\HR H/\H[0]?=some ⟨.m,0,4,[.agg [.int .i64 3,.str s,.int .i64 0,.aa false (ae l)]]⟩/\H[1]?=some ⟨.m,0,4,[.agg [.int .i64 0,.str ByteArray.empty,.int .i64 0,.aa true []]]⟩/\H[2]?=some ⟨.m,0,4,[.agg [.int .i64 3,.str s,.int .i64 0,v]]⟩/\Out 4 H v (ae p)/\∀i∈b9 v,3<=i) (.nx ⟨.aa true [],rfl,FY,rfl,rfl,rfl,.inl ⟨rfl,rfl⟩,by simp[b9]⟩) ?_ ?_
 ·rintro p u q _ H O e ⟨v,rfl,hH,h0,h1,h2,ho,hv⟩;have cC:=ba e;have dp:=lenE e;have hi:=ih u (by rw[e];simp);have hle:=ai p;have lF:HR (H++[⟨.m,0,4,[.agg [.int .i64 u.k,.str u.s,.int .i64 u.o,.aa false (ae u.l)]]⟩]):=hH.du (HV.one (by simp));have pE:HR (H++[⟨.m,0,4,[.agg [.int .i64 u.k,.str u.s,.int .i64 u.o,.aa false (ae u.l)]]⟩]++[⟨.m,0,4,[.agg [.int .i64 u.k,.str u.s,.int .i64 u.o,.aa false (ae u.l)]]⟩]):=lF.du (HV.one (by simp));have x7:=(ho.db [⟨.m,0,4,[.agg [.int .i64 u.k,.str u.s,.int .i64 u.o,.aa false (ae u.l)]]⟩]).db [⟨.m,0,4,[.agg [.int .i64 u.k,.str u.s,.int .i64 u.o,.aa false (ae u.l)]]⟩];have Cj:=ag h2;have lE:ae p++[.agg [.int .i64 u.k,.str u.s,.int .i64 u.o,.aa false (ae u.l)]]=ae (p++[u]):=by rw[bS,<-ar];rfl
  rw[ar]at hi;refine wA ?_;refine .p hi ?_;refine wA ?_;refine .lr (λv' h' lr=>?_) x7;have Cs:∀j,j<3->∀ep n,v≠.ak j ep 0 n:=λj hj ep n hh=>by have:=hv j (by rw[hh];simp[b9]);omega
  have gt:∀j,j<3->h'[j]?=H[j]?:=λj hj=>by
   rw[lr.fr j (by simp;omega) (Cs j hj),abW (by simp;omega),abW (by omega)]
  have g0:=(gt 0 (by omega)).trans h0;have g1:=(gt 1 (by omega)).trans h1;have g2:=(gt 2 (by omega)).trans h2;have hr3:=lr.hr
  have Ul:∀i∈b9 v',3<=i:=λi hi=>by
   rcases lr.b9 i hi with h |h;exact hv i h;simp at h;omega
  have lo:=lr.out;rw[lE]at lo;have RT:=lo.bu;rcases lo with⟨_,hx⟩|⟨id,ep,rfl,bZ⟩
  ·have:=congrArg List.length hx;rw[ai]at this;simp at this
  have k2:=ag g2;refine wA ?_;have QW:=Ul id (by simp[b9]);exact .nx ⟨_,rfl,hr3.set _ (by simp) (by simpa[bG,bu]using RT),(ab0 (by omega)).trans g0,(ab0 (by omega)).trans g1,abY k2,.inr ⟨id,ep,rfl,(ab0 (by omega)).trans bZ⟩,Ul⟩
 ·rintro _ H O ⟨v,rfl,hH,h0,h1,h2,ho,hv⟩;have k1:=ag h1;have e2:=abY (a:=(⟨.m,0,4,[.agg [.int .i64 3,.str s,.int .i64 0,v]]⟩:aw)) k1;have Ck:Out 4 (H.set 1 ⟨.m,0,4,[.agg [.int .i64 3,.str s,.int .i64 0,v]]⟩) v (ae l):=ho.of_eq λi hi=>ab0 (by have:=hv i hi;omega)
  rcases ho with⟨rfl,he⟩|⟨id,ep,rfl,bZ⟩
  ·refine wA ?_;refine .mk ?_ (mg (T:=T6) rfl e2 rfl rfl rfl rfl);exact⟨Uq Ck (by simp) (by simp)⟩
  ·refine wA ?_;refine .mk ?_ (mg (T:=T6) rfl e2 rfl rfl rfl rfl);exact⟨Uq Ck (by simp) (by simp)⟩
theorem Hv(t:Tm):gY t=0->iE t=true->ax t<100000000->aI C 155 [enc t] (.cA [enc t,.int .i64 0]):=by
 induction t using Tm.ind with
 |h k s o l ih=>
  intro hv hf hb
  by_cases hk:k=3
  ·subst hk;obtain rfl:=ED (fh.1 hv).1 rfl;have:=aY l;simp only[ax]at hb;refine Le s l ((qe.1 hf).1 rfl) (by omega) λt ht=>ih t ht (pf hv ht) ((qe.1 hf).2 t ht) (by have:=bD ht;omega)
  ·rw[bh];refine aI.x T6 Tryz.func155 rfl ?_;refine wA ?_;exact jE
theorem EE(t:Tm)(hf:iE t=true)(hb:ax t<100000000):aI C 107 [enc t] (.cA [enc (if gY t=0 then t else fW),.int .i64 (gY t)]):=by
 have h1:=tJ t hb;have h2:=λh=>Hv t h hf hb
 have h3:=λh:gY t=0=>(fU t (by omega)).nine
 have hz:=mT;rw[ar t]at h1 h2 h3 ⊢
 by_cases hv:gY t=0
 ·have h2:=h2 hv;have h3:=h3 hv;rw[(fh.1 hv).1]at h3;rw[if_pos hv,hv,ar];rw[hv]at h1;refine aI.x T6 Tryz.func107 rfl ?_;refine wA ?_;refine .p h1 ?_;refine wA ?_;refine .p h2 ?_;refine wA ?_;refine .p h3 ?_;refine wA ?_;exact jE
 ·rw[if_neg hv,hz];refine aI.x T6 Tryz.func107 rfl ?_;refine wA ?_;refine .p h1 ?_;refine wA ?_;exact⟨_,rfl,rfl⟩
theorem Hw(s:ByteArray):aI C 110 [.str s] (.bool (decide ((ch s).k≠3))):=by
 have hs:=qm s;rw[CK]at hs;refine aI.x T6 Tryz.func110 rfl ?_;refine wA ?_;refine .p hs ?_;refine wC (λhc=>?_) λhc=>?_
 all_goals exact⟨_,rfl,by simp[aR, *]⟩
theorem Lf{t:Tm}(h:iE t=true):every (λs=>decide ((ch s).k≠3)) t=true:=by
 unfold iE at h;rw[uF,abX]at h ⊢
 intro u hu
 have:=h u hu;simp only[acs]at this ⊢;exact this.imp id λx=>decide_eq_true (xq x).2
theorem Lg(t:Tm)(hf:iE t=true)(hb:ax t<100000000):aI C 55 [enc t] (.bool (decide (gY t=0))):=by
 have h1:=EE t hf hb;have h2:=yM 110 _ rfl Hw t (by omega);rw[Lf hf]at h2
 by_cases hv:gY t=0
 ·have h3:aI C 108 [enc t,enc t] (.bool true):=by
   have h4:=(eY t t (by omega) (by omega)).nine;rw[cc]at h4;rw[ar]at h4 ⊢;refine aI.x T6 Tryz.func108 rfl ?_;refine wA ?_;refine .p h4 ?_;refine wA ?_;exact⟨_,rfl,rfl⟩
  rw[if_pos hv,hv]at h1;rw[hv];rw[ar]at *;refine aI.x T6 Tryz.func55 rfl ?_;refine wA ?_;refine .p h1 ?_;refine wA ?_;refine .p h3 ?_;refine wA ?_;refine .p h2 ?_;refine wA ?_;exact⟨_,rfl,rfl⟩
 ·rw[if_neg hv,mT]at h1;rw[ar]at h1 ⊢;refine aI.x T6 Tryz.func55 rfl ?_;refine wA ?_;refine .p h1 ?_;refine wA ?_;exact⟨_,rfl,by simp[aR,hv]⟩
end bC
def ml(l:List ByteArray):List PV:=l.map PV.str
@[simp] theorem Lh(l:List ByteArray):(ml l).length=l.length:=by simp[ml]
@[simp] theorem Sf(l:List ByteArray):ao (ml l)=true:=by rw[bw];simp[ml,aU]
@[simp] theorem WA(l:List ByteArray):aQ (ml l)=ml l:=by rw[cL];simp[ml,cj]
theorem OU{l p q:List ByteArray}{d:ByteArray}(e:l=p++d::q):(ml l)[p.length]?=some (.str d):=by rw[ml,e];simp
def EF(t:Tm):Bool:=dg t yK ||dg t yL
theorem jL{t:Tm}(h:iE t=true):dg t yK=false/\dg t yL=false/\dg t Hu=false/\dg t u7=false/\dg t il=false/\dg t ql=false:=by
 have key:∀n:ByteArray,um n=false->dg t n=false:=λn hn=>by
  cases hh:dg t n
  rfl
  ·obtain⟨h1,h2⟩:=tq hh;have:=Js h h1;rw[h2,hn]at this
   cases this
 refine⟨key _ ?_,key _ ?_,key _ ?_,key _ ?_,key _ ?_,key _ ?_⟩ <;>kernel_rfl
namespace bC
open Go.Proofs
attribute [local irreducible] aD az aL aJ Ev ah aj ay bg bN
theorem Hx(ns:List ByteArray)(s:ByteArray)(hl:ns.length<1000000):aI C 148 [.aa false (ml ns),.str s] (.int .i64 (wU (λn=>eP s n) ns)):=by
 have cz:=Lh ns;refine aI.x T6 Tryz.func148 rfl ?_;refine wA ?_;refine cU.zip T6 ns (λp q L H=>L=[(0,.aa false (ml ns)),(1,.str s),(7,.int .i64 (ml ns).length),(8,.int .i64 p.length)]/\H=[]/\∀y∈p,eP s y=false) (.nx ⟨rfl,rfl,by simp⟩) ?_ ?_
 ·rintro p n q _ _ O e ⟨rfl,rfl,hp⟩;have cC:=OU e;have dp:=lenE e;refine wC (λhc=>?_) λhc=>?_;exact⟨_,rfl,by rw[e,qV hp (kQ (by assumption))];rfl⟩;exact .nx ⟨rfl,rfl,λy hy=>by rcases ab2.1 hy with h |h;exact hp y h;simp at h;rw[h];exact jk (by assumption)⟩
 ·rintro _ _ O ⟨rfl,rfl,hp⟩;refine wA ?_;exact⟨_,rfl,by rw[lK hp];rfl⟩
theorem Li(ns:List ByteArray)(s:ByteArray)(hl:ns.length<1000000):aI C 147 [.aa false (ml ns),.str s] (.bool (ns.any λn=>eP s n)):=by
 have h1:=Hx ns s hl;have ha:=th (λn=>eP s n) ns;refine aI.x T6 Tryz.func147 rfl ?_;refine wA ?_;refine .p h1 ?_;refine wC (λhc=>?_) λhc=>?_
 all_goals exact⟨_,rfl,by rw[<-ha];simp[aR, *]⟩
theorem tI(t:Tm)(ns:List ByteArray)(hl:ns.length<1000000):aI C 206 [enc t,.aa false (ml ns)] (.bool (decide (t.k=3)&&ns.any λn=>eP t.s n)):=by
 have h1:=Li ns t.s hl;rw[ar];refine aI.x T6 Tryz.func206 rfl ?_;refine wC (λhc=>?_) λhc=>?_
 ·refine .p h1 ?_;refine wA ?_;exact⟨_,rfl,by simp[aR, *]⟩
 exact⟨_,rfl,by simp[aR, *]⟩
theorem oc(t:Tm)(n:ByteArray):aI C 206 [enc t,.aa false [.str n]] (.bool (dg t n)):=by
 have:=tI t [n] (by simp);simpa[ml,dg]using this
theorem By(t:Tm):aI C 205 [enc t] (.bool (EF t)):=by
 have h1:aI C 206 [enc t,.aa false [.str ⟨#[109,117,108]⟩,.str ⟨#[105,110,118]⟩]] (.bool (EF t)):=by
  have:=tI t [yK,yL] (by simp);have e:EF t=(decide (t.k=3)&& [yK,yL].any λn=>eP t.s n):=by cases h:decide (t.k=3) <;>simp[EF,dg,h]
  rw[e];exact this
 rw[ar]at h1 ⊢;refine aI.x T6 Tryz.func205 rfl ?_;refine wA ?_;refine .p h1 ?_;refine wA ?_;exact⟨_,rfl,rfl⟩
theorem Hy(t:Tm)(hf:iE t=true)(hb:ax t<10000000):aI C 204 [enc t] (.int .i64 (pH t)):=by
 have h1:=tJ t (by omega);have h2:=od t hb;have h3:=Lg t hf (by omega);have cz:=ai (bL t);have hr:pH t=if gY t≠0 then gY t else if bL t≠[]then 13 else 0:=rfl;rw[ar]at h1 h2 h3 ⊢;refine aI.x T6 Tryz.func204 rfl ?_;refine wA ?_;refine .p h1 ?_;refine wC (λhc=>?_) λhc=>?_
 ·have hz:gY t=0:=by omega
  rw[hz]at h3;rw[if_neg (by omega)]at hr;refine .p h2 ?_;refine wC (λhc=>?_) λhc=>?_
  ·have hn:bL t≠[]:=by
    intro hh
    have h0:(ae (bL t)).length=0:=by rw[cz,hh];rfl
    omega
   rw[if_pos hn]at hr;exact⟨_,rfl,by rw[hr];rfl⟩
  ·have hn:bL t=[]:=acd (by omega);rw[if_neg (by simp[hn])]at hr;refine .p h3 ?_;refine wA ?_;exact⟨_,rfl,by rw[hr];rfl⟩
 exact⟨_,rfl,by rw[hr,if_pos (by assumption)];rfl⟩
theorem EG{l p q:List Tm}{u:Tm}(e:l=p++u::q)(hp:∀v∈p,pH v=0)(hu:pH u≠0):gO l=pH u:=by
 subst e
 induction p with
 |nil=>simp only[acD,gO];rw[if_pos hu]
 |cons v p ih=>
  simp only[aco,gO];rw[if_neg (by rw[hp v (by simp)];simp),ih (λw hw=>hp w (by simp[hw]))]
theorem sj:∀{l:List Tm},(∀v∈l,pH v=0)->gO l=0
 |[],_=>rfl
 |v::l,h=>by
  rw[gO,if_neg (by rw[h v (by simp)];simp)];exact sj λu hu=>h u (by simp[hu])
theorem EH(l:List Tm)(hf:∀t∈l,iE t=true)(hl:l.length<10000000)(hb:∀t∈l,ax t<10000000):aI C 159 [.aa false (ae l)] (.int .i64 (gO l)):=by
 have cz:=ai l;refine aI.x T6 Tryz.func159 rfl ?_;refine wA ?_;refine cU.zip T6 l (λp q L H=>L=[(6,.aa false (ae l)),(7,.int .i64 (ae l).length),(8,.int .i64 p.length)]/\HV H/\∀v∈p,pH v=0) (.nx ⟨rfl,HV.nil,by simp⟩) ?_ ?_
 ·rintro p u q _ H O e ⟨rfl,hH,hp⟩;have cC:=ba e;have dp:=lenE e;have h1:=Hy u (hf u (by rw[e];simp)) (hb u (by rw[e];simp));rw[ar]at h1;refine wA ?_;refine .p h1 ?_;refine wC (λhc=>?_) λhc=>?_;exact .nx ⟨rfl,hH.db (HV.one (by simp)),λv hv=>by rcases ab2.1 hv with h |h;exact hp v h;simp at h;rw[h];omega⟩;exact⟨_,rfl,by rw[EG e hp (by assumption)];rfl⟩
 ·rintro _ H O ⟨rfl,hH,hp⟩;refine wA ?_;exact⟨_,rfl,by rw[sj hp];rfl⟩
theorem Lj(u:List Tm)(hf:∀t∈u,iE t=true)(hl:u.length<10000000):aI C 160 [.aa false (ae u)] (.int .i64 (if 200<u.length then 3 else 0)):=by
 have cz:=ai u;refine aI.x T6 Tryz.func160 rfl ?_;refine wA ?_;refine cU.zip T6 u (λp q L H=>L=[(0,.aa false (ae u)),(3,.int .i64 0),(4,.aa true []),(11,.aa false (ae u)),(12,.int .i64 (ae u).length),(13,.int .i64 p.length)]/\HV H) (.nx ⟨rfl,HV.nil⟩) ?_ ?_
 ·rintro p t q _ H O e ⟨rfl,hH⟩;have cC:=ba e;have dp:=lenE e;obtain⟨f1,f2,f3,_⟩:=jL (hf t (by rw[e];simp));have h1:=By t;have h2:=oc t ⟨#[101,120,112]⟩;have e2:dg t ⟨#[101,120,112]⟩=false:=f3;have e1:EF t=false:=by simp[EF,f1,f2]
  rw[e1]at h1;rw[e2]at h2;rw[ar]at h1 h2;refine wA ?_;refine .p h1 ?_;refine wA ?_;refine .p h2 ?_;refine wA ?_;exact .nx ⟨rfl,hH.db (HV.one (by simp))⟩
 ·rintro _ H O ⟨rfl,hH⟩;refine wC (λhc=>?_) λhc=>?_;exact⟨_,rfl,by rw[if_pos (by omega)];rfl⟩;exact⟨_,rfl,by rw[if_neg (by omega)];rfl⟩
end bC
open Go.Proofs
theorem T9{n:Int}(h1:0<=n)(h2:n<256):IntKind.u8.wrap n=n:=by
 have:IntKind.u8.wrap n=n % 256:=by simp[IntKind.wrap,IntKind.bits,IntKind.signed]
 rw[this];omega
attribute [local irreducible] aD az aL aJ Ev ah aj ay bg
theorem Vo(a b:Nat):Int.tdiv (a:Int) (b:Int)=((a / b:Nat):Int):=by rw[Int.tdiv_eq_ediv_of_nonneg (by omega)];exact(Int.natCast_ediv a b).symm
theorem NN(a b:Nat):Int.tmod (a:Int) (b:Int)=((a % b:Nat):Int):=by rw[Int.tmod_eq_emod_of_nonneg (by omega)];exact(Int.natCast_emod a b).symm
end Go.Pm
namespace Go.Pm
open Go.Proofs
set_option maxRecDepth 4000
def aaE(S:List Row)(P:List Int):Prop:=∀(c:Nat) (i:Int),P[c]?=some i->-1<=i/\(0<=i->∃b u,S[i.toNat]?=some (b,u)/\atR b c≠0)
end Go.Pm
namespace Go.Pm
theorem Ro{a b:List Int}{q:Int}{c:Nat}(h:a.length=b.length):atR (Kw a b q) c=atR a c - q * atR b c:=by
 unfold atR Kw;simp only[List.getD,ady]
 by_cases hc:c<a.length
 rw[ab1 hc,ab1 (by omega)];simp;rw[ach (by omega),ach (by omega)];simp
structure wS(w c:Nat)(S:List Row)(P:List Int):Prop where
 len:∀R∈S,R.1.length=w
 pl:P.length=c
 pv:∀(k:Nat) (i:Int),P[k]?=some i->-1<=i/\(0<=i->∃b,S[i.toNat]?=some (b,true)/\atR b k≠0/\∀j,j<k->atR b j=0)
 un:∀b,(b,false)∈S->∀k,k<c->atR b k=0
 us:∀(j:Nat) (b:List Int),S[j]?=some (b,true)->∃k:Nat,P[k]?=some (j:Int)
theorem wS.ok{w c:Nat}{S:List Row}{P:List Int}(h:wS w c S P):aaE S P:=λk i hi=>by
 obtain⟨h1,h2⟩:=h.pv k i hi;exact⟨h1,λh0=>by obtain⟨b,e1,e2,_⟩:=h2 h0;exact⟨b,true,e1,e2⟩⟩
theorem Bb{c bi:Nat}{b:List Int}{S:List Row}{R:Row}(h:R∈vM c b bi S):R∈S\/∃a,(a,false)∈S/\R=(Kw a b ((atR a c).tdiv (atR b c)),false):=by
 obtain⟨i,hi⟩:=ac5 h;rw[Bc]at hi
 cases hS:S[i]? with
 |none=>rw[hS]at hi;cases hi
 |some Q=>
  rw[hS]at hi;have hQ:=acb hS;simp only[ab8,acA]at hi
  split at hi
  exact .inl (hi▸hQ)
  ·unfold NP at hi
   split at hi
   ·rename_i hc
    obtain⟨a,u⟩:=Q;have hu:u=false:=by simp[k9]at hc;exact hc.1
    subst hu;exact .inr ⟨a,hQ,hi.symm⟩
   exact .inl (hi▸hQ)
theorem yg{c bi j:Nat}{b a:List Int}{S:List Row}:(vM c b bi S)[j]?=some (a,true)↔S[j]?=some (a,true):=by
 rw[Bc]
 cases hS:S[j]? with
 |none=>simp
 |some Q=>
  obtain⟨x,u⟩:=Q;simp only[ab8,acA]
  split
  exact Iff.rfl
  ·cases u
   unfold NP;split <;>simp
   simp[NP,k9]
theorem wS.step{w c:Nat}{S:List Row}{P:List Int}{bi:Nat}{b:List Int}(h:wS w c S P)(hb:An c S bi b):wS w c (vM c b bi S) P:=by
 have T4:=acb hb.at_;have DJ:=h.len _ T4;refine⟨λR hR=>?_,h.pl,λk i hi=>?_,λa ha k hk=>?_,λj a ha=>h.us j a (yg.1 ha)⟩
 ·rcases Bb hR with hR |⟨a,ha,rfl⟩;exact h.len R hR
  ·have:=h.len _ ha;dsimp only at *;rw[NO (by omega)];exact this
 ·obtain⟨h1,h2⟩:=h.pv k i hi;exact⟨h1,λh0=>by obtain⟨x,e1,e2⟩:=h2 h0;exact⟨x,yg.2 e1,e2⟩⟩
 ·rcases Bb ha with hR |⟨x,hx,he⟩;exact h.un a hR k hk
  ·have e:=congrArg Prod.fst he;dsimp only at e;have h1:=h.len _ hx;dsimp only at h1 DJ;rw[e,Ro (by omega),h.un x hx k hk,h.un b T4 k hk];simp
theorem wS.col{w c st:Nat}{S:List Row}{P:List Int}{r:Option (List Row×Int)}(hc:T' c st S r):wS w c S P->∀S' i,r=some (S',i)->wS w (c+1) S' (P++[i]):=by
 induction hc with
 | @zero S hz=>
  rintro h _ _ ⟨⟩;have h0:=D8 hz;refine⟨h.len,by simp[h.pl],λk i hi=>?_,λa ha k hk=>?_,λj a ha=>?_⟩
  ·rcases adF k P.length with h1 |h1 |h1;rw[abW h1]at hi;exact h.pv k i hi;subst h1;simp at hi;subst hi;exact⟨by omega,λhh=>by omega⟩;rw[ach (by simp;omega)]at hi;cases hi
  ·by_cases hkc:k=c
   ·subst hkc;have:=h0 _ ha;simpa[k9]using this
   exact h.un a ha k (by omega)
  ·obtain⟨k,hk⟩:=h.us j a ha;exact⟨k,by rw[abW (ag hk)];exact hk⟩
 | @one S bi b hb h1=>
  rintro h _ _ ⟨⟩;have T4:=acb hb.at_;have cM:=ag hb.at_
  have only:∀(j:Nat) (a:List Int),S[j]?=some (a,false)->atR a c≠0->j=bi:=λj a ha hn=>by
   have hca:k9 c (a,false)=true:=by simp[k9,hn]
   have h2:(Qs c S).length=1:=by rw[Rp,h1]
   obtain⟨x,hx⟩:=List.length_eq_one_iff.1 h2;have m1:j∈Qs c S:=I2.2 ⟨_,ha,hca⟩;have m2:bi∈Qs c S:=I2.2 ⟨_,hb.at_,hb.isc⟩;rw[hx,acv]at m1 m2;rw[m1,m2]
  have get:∀j R,(S.set bi (b,true))[j]?=some R->(j=bi/\R=(b,true))\/(j≠bi/\S[j]?=some R):=λj R hR=>by
   rw[List.getElem?_set]at hR
   split at hR
   ·rename_i hj;subst hj;(try rw[if_pos cM]at hR);exact .inl ⟨rfl,by simpa using hR.symm⟩
   ·rename_i hj;exact .inr ⟨λhh=>hj hh.symm,hR⟩
  have setb:(S.set bi (b,true))[bi]?=some (b,true):=by rw[abY cM]
  refine⟨λR hR=>?_,by simp[h.pl],λk i hi=>?_,λa ha k hk=>?_,λj a ha=>?_⟩
  ·rcases adl hR with hR |rfl;exact h.len R hR;have:=h.len _ T4;exact this
  ·rcases adF k P.length with h1 |h1 |h1
   ·rw[abW h1]at hi;obtain⟨g1,g2⟩:=h.pv k i hi;refine⟨g1,λh0=>?_⟩;obtain⟨x,e1,e2⟩:=g2 h0;refine⟨x,?_,e2⟩;rw[List.getElem?_set]
    split
    ·rename_i hj;rw[<-hj,hb.at_]at e1;cases e1
    exact e1
   ·have hk:k=c:=by rw[h1,h.pl]
    subst h1;simp only[ab6 (abZ _),ade,List.getElem?_cons_zero,acA]at hi;subst hi;refine⟨by omega,λ_=>⟨b,by simpa using setb,by rw[hk];exact hb.nz,λj hj=>h.un b T4 j (by omega)⟩⟩
   rw[ach (by simp;omega)]at hi;cases hi
  ·obtain⟨j,hj⟩:=ac5 ha;rcases get j _ hj with⟨_,he⟩|⟨bO,hS⟩
   cases he
   ·by_cases hkc:k=c
    ·subst hkc;exact ad9 λhn=>bO (only j a hS hn)
    exact h.un a (acb hS) k (by omega)
  ·rcases get j _ ha with⟨rfl,_⟩|⟨bO,hS⟩;exact⟨P.length,by simp⟩
   ·obtain⟨k,hk⟩:=h.us j a hS;exact⟨k,by rw[abW (ag hk)];exact hk⟩
 |NQ=>rintro _ _ _ ⟨⟩
 |step hb h2 h3 h4 ih=>exact λh S' i e=>ih (h.step hb) S' i e
theorem wS.el{w n c:Nat}{S:List Row}{P:List Int}{r:Option (List Row×List Int)}(hE:El n c S P r):wS w c S P->∀S' P',r=some (S',P')->wS w n S' P':=by
 induction hE with
 |done=>rintro h _ _ ⟨⟩;exact h
 |NQ=>rintro _ _ _ ⟨⟩
 |next h1 h2 h3 ih=>exact λh S' P' e=>ih (wS.col h2 h _ _ rfl) S' P' e
open Go.Proofs
set_option maxRecDepth 4000
theorem aj.same{C:cW}{f:FuncId}{args:List PV}{H:ab}{P:PV->Prop}{Q:PV->ab->Prop}(a:ay C f args H (λr h'=>P r/\h'=H))(q:∀r,P r->Q r H)(hm:C.mode f=.opened:=by rfl):aj C 2 f args H Q:=by
 refine aj.opened hm (a.mono λr k hr=>?_);obtain⟨hp,rfl⟩:=hr
 split
 rw[ac2];exact q r hp;exact q r hp
end Go.Pm
namespace Go.Pm
set_option maxRecDepth 4000
theorem Bw(u:ByteArray)(a b:Nat):(u.extract a b).toList=(u.toList.take b).drop a:=by
 rw[ByteArray.toList_eq,ByteArray.toList_eq,ByteArray.data_extract,Array.toList_extract];simp[List.extract_eq_take_drop,aex]
def OJ:ByteArray:=⟨#[48,49,50,51,52,53,54,55,56,57]⟩
def jK:List PV:=(List.range 256).map λi=>.bool (decide (48<=i)&&decide (i<=57))
theorem Lb{n:Nat}(h:n<256):jK[n]?=some (.bool (decide (48<=n)&&decide (n<=57))):=by
 unfold jK;rw[ace,ad5 h]
 rfl
theorem ay.iS{C:cW}{f:FuncId}{args:List PV}{h h':ab}{r:PV}{n:Nat}{Q:PV->ab->Prop}(e:fF C n f args h=some (r,h'))(q:Q r h'):ay C f args h Q:=⟨r,h',q,n,λm hm=>Bx C hm f args h _ e⟩
theorem EB:∀{n:Nat} {l:List PV} {k:List PV->Prop},n<=l.length->k (l.drop n)->pB n l k
 |0,l,k,_,h=>h
 |n+1,_::l,k,h1,h=>EB (n:=n) (by simpa using h1) h
 |_+1,[],_,h1,_=>by simp at h1
theorem OK{u:ByteArray}(h:0<u.size):∃c,u[u.size - 1]?=some c/\u.toList=(u.extract 0 (u.size - 1)).toList++[c]:=by
 have hl:=bsize u;have h1:u.toList≠[]:=by intro hh;rw[hh]at hl;simp at hl;omega
 refine⟨u.toList.getLast h1,Lc ?_,?_⟩;rw[<-hl,List.getLast_eq_getElem,ab1];rw[Bw,ac3,<-hl,<-List.dropLast_eq_take,List.dropLast_concat_getLast]
theorem OL{u:ByteArray}(h:0<u.size):∃c,u[0]?=some c/\u.toList=c::(u.extract 1 u.size).toList:=by
 have hl:=bsize u
 cases e:u.toList with
 |nil=>rw[e]at hl;simp at hl;omega
 |cons c r=>
  refine⟨c,Lc (by rw[e];rfl),?_⟩;rw[Bw,<-hl,ac2,e]
  rfl
def kO(c:UInt8):Bool:=qk c.toNat
namespace bC
open Go.Proofs
attribute [local irreducible] aD az aL aJ Ev ah aj ay bg bN
theorem Ld:(fF C 400 359 [.str OJ] []).map (·.1)=some (.cA [.agg jK,.bool true]):=by kernel_rfl
theorem OM:ay C 359 [.str OJ] [] (λr h'=>r=.cA [.agg jK,.bool true]):=by
 have h:=Ld
 cases e:fF C 400 359 [.str OJ] []with
 |none=>rw[e]at h;cases h
 |some x=>
  obtain⟨r,h'⟩:=x;rw[e]at h;exact ay.iS e (abV h)
section
attribute [local irreducible] pB
theorem vW(c:UInt8):ay C 382 [.ptr 0 0 0 0,.int .u8 c.toNat] [(⟨.m,0,256,[.agg jK]⟩:aw)] (λr h'=>r=.bool (kO c)/\h'=[(⟨.m,0,256,[.agg jK]⟩:aw)]):=by
 have hc:c.toNat<256:=c.toNat_lt
 have hb:kO c=(decide (48<=c.toNat)&&decide (c.toNat<=57)):=by
  unfold kO qk
  by_cases h1:48<=c.toNat <;>by_cases h2:c.toNat<=57 <;>simp[h1,h2] <;>omega
 have cC:=Lb hc;rw[<-hb]at cC;generalize hA:jK=A at cC ⊢
 have AW:A.drop (0+c.toNat * 1)=.bool (kO c)::A.drop (c.toNat+1):=by
  have cM:=ag cC;rw[acf,Nat.mul_one,adB cM];rw[ab1 cM]at cC;rw[abV cC]
 refine ay.x T6 Tryz.func382 rfl ?_;refine wA ?_;refine EB (by show _<=A.length;have:=ag cC;omega) ?_;show yI T6 _ (A.drop (0+c.toNat * 1)) _;rw[AW];refine Rn.out ?_;refine wA ?_;exact⟨rfl,rfl⟩
end
theorem EC(u:ByteArray)(a b:Nat):(u.extract a b).size=min b u.size - a:=by
 rw[<-bsize,Bw,adH,acM,bsize]
theorem ON(s:ByteArray)(hs:s.size<1000000000):ay C 361 [.str s,.ptr 0 0 0 0] [(⟨.m,0,256,[.agg jK]⟩:aw)] (λr h'=>h'=[(⟨.m,0,256,[.agg jK]⟩:aw)]/\∃u d,r=.str u/\s.toList=u.toList++d/\d.all kO=true/\u.size<=s.size/\(∀c,u.toList.getLast?=some c->kO c=false)):=by
 refine ay.x T6 Tryz.func361 rfl ?_;refine wA ?_;refine cU.nat T6 (λk L H=>∃u d,L=[(0,.str u),(1,.ptr 0 0 0 0)]/\H=[(⟨.m,0,256,[.agg jK]⟩:aw)]/\k=u.size/\s.toList=u.toList++d/\d.all kO=true/\u.size<=s.size) s.size (.nx ⟨s,[],rfl,rfl,rfl,by simp,rfl,abZ _⟩) ?_;rintro k _ _ O ⟨u,d,rfl,rfl,rfl,e1,e2,e3⟩
 by_cases hu:0<u.size
 ·obtain⟨c,h1,h2⟩:=OK hu;have hx:=EC u 0 (u.size - 1);have hc:=vW c;refine wA ?_;refine .mk (n:=u.size - 1) ?_ (by omega) h1;refine wA ?_;refine .same (hc.mono λr h' h=>⟨h.1,h.2⟩) (λr hr=>?_);subst hr
  cases hd:kO c
  ·refine wA ?_;refine⟨rfl,u,d,rfl,e1,e2,e3,λc' ui=>?_⟩;rw[h2,List.getLast?_append]at ui;simp at ui;rw[<-ui];exact hd
  ·refine wA ?_;rw[show((u.size:Int) - 1).toNat=u.size - 1 by omega];refine .nx ⟨_,?_,u.extract 0 (u.size - 1),c::d,rfl,rfl,rfl,by rw[e1,h2];simp,by simp[hd,e2],by omega⟩;omega
 ·refine wA ?_;refine⟨rfl,u,d,rfl,e1,e2,e3,λc hc=>?_⟩;have:=bsize u;have h0:u.toList=[]:=acd (by omega);rw[h0]at hc;simp at hc
theorem OO(s:ByteArray)(hs:s.size<1000000000):ay C 360 [.str s,.ptr 0 0 0 0] [(⟨.m,0,256,[.agg jK]⟩:aw)] (λr h'=>h'=[(⟨.m,0,256,[.agg jK]⟩:aw)]/\∃u d,r=.str u/\s.toList=d++u.toList/\d.all kO=true/\(∀c,u.toList.head?=some c->kO c=false)):=by
 refine ay.x T6 Tryz.func360 rfl ?_;refine wA ?_;refine cU.nat T6 (λk L H=>∃u d,L=[(0,.str u),(1,.ptr 0 0 0 0)]/\H=[(⟨.m,0,256,[.agg jK]⟩:aw)]/\k=u.size/\s.toList=d++u.toList/\d.all kO=true/\u.size<=s.size) s.size (.nx ⟨s,[],rfl,rfl,rfl,by simp,rfl,abZ _⟩) ?_;rintro k _ _ O ⟨u,d,rfl,rfl,rfl,e1,e2,e3⟩
 by_cases hu:0<u.size
 ·obtain⟨c,h1,h2⟩:=OL hu;have hx:=EC u 1 u.size;have hc:=vW c;refine wA ?_;refine .same (hc.mono λr h' h=>⟨h.1,h.2⟩) (λr hr=>?_);subst hr
  cases hd:kO c
  ·refine wA ?_;refine⟨rfl,u,d,rfl,e1,e2,λc' ui=>?_⟩;rw[h2]at ui;simp at ui;rw[<-ui];exact hd
  ·refine wA ?_;refine .nx ⟨_,?_,u.extract 1 u.size,d++[c],rfl,rfl,rfl,by rw[e1,h2];simp,by simp[hd,e2],by omega⟩;omega
 ·refine wA ?_;refine⟨rfl,u,d,rfl,e1,e2,λc hc=>?_⟩;have:=bsize u;have h0:u.toList=[]:=acd (by omega);rw[h0]at hc;simp at hc
theorem OP{s u u':List UInt8}{d d':List UInt8}(e1:s=u++d)(h1:d.all kO=true)(l1:∀c,u.getLast?=some c->kO c=false)(e2:u=d'++u')(h2:d'.all kO=true)(l2:∀c,u'.head?=some c->kO c=false):u'=[]↔s.all kO=true:=by
 constructor
 ·rintro rfl;rw[e1,e2];simp[h1,h2]
 ·intro h
  rw[e1,ac1,ab4]at h
  have hu:u=[]:=by
   cases hl:u.getLast? with
   |none=>exact List.getLast?_eq_none_iff.1 hl
   |some c=>
    have h3:=l1 c hl;have h4:=abX.1 h.1 c (List.mem_of_getLast? hl);rw[h3]at h4;cases h4
  rw[hu]at e2;exact(List.append_eq_nil_iff.1 e2.symm).2
theorem Zs:jv C.P 290=some (.agg (List.replicate 256 (.bool false))):=by kernel_rfl
theorem OQ(s:ByteArray)(hs:s.size<1000000000):∃r:ByteArray,(r.toList=[]↔s.toList.all kO=true)/\aI C 319 [.str s,.str OJ] (.str r):=by
 have key:∃x,(∃r:ByteArray,x=.str r/\(r.toList=[]↔s.toList.all kO=true))/\aI C 319 [.str s,.str OJ] x:=by
  refine aI.ex (F:=id) ?_;refine ay.x T6 Tryz.func319 rfl ?_;refine wI (λhc=>?_) (λhc hc=>?_) λhc hc=>?_
  ·refine⟨.str s,⟨s,rfl,?_⟩,_,rfl,rfl⟩;have h0:s.toList=[]:=by rw[hc,ByteArray.toList_eq]
   rw[h0];simp
  exact absurd hc (by rw[ByteArray.toList_eq,ByteArray.toList_eq];decide)
  ·refine .opened rfl (OM.mono λr h' hr=>?_);subst hr;rw[if_pos (by simp[dV,cN,dU,jK,aU])];rw[show List.take ([]:ab).length h'=[]from rfl];refine wA ?_;refine .mk (v:=.ptr 0 0 0 0) (h':=[⟨.m,0,256,[.agg (List.replicate 256 (.bool false))]⟩]) (λrun O=>?_) ?_
   ·simp only[au,aC,Zs];rw[if_pos ⟨by decide,by decide,by decide⟩]
    rfl
   refine wA ?_;refine .same ((ON s hs).mono λr h' h=>⟨h.2,h.1⟩) (λr hr=>?_);obtain⟨u,d,rfl,e1,e2,e3,l1⟩:=hr;refine wA ?_;refine .same ((OO u (by omega)).mono λr h' h=>⟨h.2,h.1⟩) (λr hr=>?_);obtain⟨u',d',rfl,f1,f2,l2⟩:=hr;refine wA ?_;exact⟨.str u',⟨u',rfl,OP e1 e2 l1 f1 f2 l2⟩,_,rfl,rfl⟩
 obtain⟨x,⟨r,rfl,h1⟩,h2⟩:=key;exact⟨r,h1,h2⟩
theorem Hr(s:ByteArray)(hs:s.size<1000000000):aI C 269 [.str s] (.bool (OR s.toList)):=by
 obtain⟨r,h1,h2⟩:=OQ s hs;have h2:aI C 319 [.str s,.str ⟨#[48,49,50,51,52,53,54,55,56,57]⟩] (.str r):=h2;have hd:OR s.toList=(!s.toList.isEmpty&&s.toList.all kO):=rfl;refine aI.x T6 Tryz.func269 rfl ?_;refine wC (λhc=>?_) λhc=>?_
 ·have h0:s.toList=[]:=by rw[hc,ByteArray.toList_eq]
  exact⟨_,rfl,by rw[hd,h0];rfl⟩
 ·have h0:s.toList≠[]:=λhh=>by exact hc (by rw[hh,ByteArray.toList_eq])
  have h3:s.toList.isEmpty=false:=by cases h:s.toList with |nil=>exact absurd h h0 |cons=>rfl
  rw[h3]at hd;refine .p h2 ?_;refine wC (λhc=>?_) λhc=>?_
  ·have h4:r.toList=[]:=by rw[hc,ByteArray.toList_eq]
   exact⟨_,rfl,by rw[hd,h1.1 h4];rfl⟩
  ·have h4:r.toList≠[]:=λhh=>by exact hc (by rw[hh,ByteArray.toList_eq])
   have h5:s.toList.all kO=false:=by
    cases h:s.toList.all kO
    rfl
    exact absurd (h1.2 h) h4
   exact⟨_,rfl,by rw[hd,h5];rfl⟩
end bC
theorem aj.rbS{C:cW}{f:FuncId}{args args' am:List PV}{h:ab}{r:PV}{Q:PV->ab->Prop}(hb:gC h args=some args')(hn:aQ args'=am)(a:aI C f am r)(q:Q r h)(hs:dT r=true:=by rfl)(hm:C.mode f=.pure:=by rfl):aj C 2 f args h Q:=by
 subst hn;obtain⟨n0,hn⟩:=a;refine⟨r,h,q,n0,λn h1=>?_⟩;obtain⟨r0,hc,r1,e1,e2,e3⟩:=hn n h1;unfold dn;rw[hm]
 cases hv:ao args
 ·have zS:dT r1=true:=by
   have:=ji r1;rw[e3,hs]at this;exact this.symm
  simp only[dx,hv,aca,if_false,hb,e1,e2,zS,aed,if_true,e3]
 ·rw[nW hv]at hb;obtain rfl:=abV hb;simp only[dx,hv,if_true,e1,e2,e3]
namespace bC
open Go.Proofs
attribute [local irreducible] aD az aL aJ Ev ah aj ay bg bN
structure KV(b:Nat)(H:ab)(v:PV)(a:List Tm)(h':ab):Prop where
 hr:HR h'
 len:H.length<=h'.length
 var:∃v',h'[b]?=some ⟨.m,0,1,[v']⟩/\Out 4 h' v' (ae a)/\∀i∈b9 v',i∈b9 v\/H.length<=i
 fr:∀j,j<H.length->j≠b->j∉b9 v->h'[j]?=H[j]?
theorem KV.take{b:Nat}{H h':ab}{v:PV}{a:List Tm}(s:KV b H v a h')(h3:b<H.length)(hr:HR (h'.take H.length)):KV b H v a (h'.take H.length):=by
 have hl:=s.len;have cM:(h'.take H.length).length=H.length:=by simp;omega
 obtain⟨v',e1,e2,e3⟩:=s.var;have g1:(h'.take H.length)[b]?=some ⟨.m,0,1,[v']⟩:=by rw[acG (by omega)];exact e1
 have iv:=(hr _ (acb g1)).2;refine⟨hr,by omega,⟨v',g1,e2.of_eq λi hi=>?_,e3⟩,λj h1 h2 h3=>by rw[acG (by omega)];exact s.fr j h1 h2 h3⟩;rw[acG];rcases e2 with⟨rfl,_⟩|⟨id,ep,rfl,_⟩;simp[b9]at hi
 ·simp[b9]at hi;subst hi;simp[bG,bu]at iv;omega
theorem KV.trans{b:Nat}{H h1 h2:ab}{v v1:PV}{a c:List Tm}(s:KV b H v a h1)(e:h1[b]?=some ⟨.m,0,1,[v1]⟩)(t:KV b h1 v1 c h2):KV b H v c h2:=by
 obtain⟨v',q1,q2,q3⟩:=s.var;rw[q1]at e
 cases e
 obtain⟨v2,r1,r2,r3⟩:=t.var;have:=s.len;refine⟨t.hr,acR s.len t.len,⟨v2,r1,r2,λi hi=>?_⟩,λj h1 h2 h3=>?_⟩
 ·rcases r3 i hi with h |h;exact q3 i h;omega
 ·rw[t.fr j (by omega) h2 (λhh=>by rcases q3 j hh with h |h;exact h3 h;omega)];exact s.fr j h1 h2 h3
theorem aj.kv{b:Nat}{f:FuncId}{args:List PV}{H:ab}{v:PV}{c:List Tm}{Q:PV->ab->Prop}(a:ay C f args H (λr h'=>r=.cA []/\KV b H v c h'))(h3:b<H.length)(q:∀h',KV b H v c h'->Q (.cA []) h')(hm:C.mode f=.opened:=by rfl):aj C 2 f args H Q:=
 aj.sm a (λr h' p=>⟨p.2.hr,p.2.len⟩) (λr h' p=>by rw[p.1];exact q h' p.2) (λr h' p hr=>by rw[p.1];exact q _ (p.2.take h3 hr)) hm
theorem KV.wz{b:Nat}{H J h':ab}{v:PV}{a:List Tm}(s:KV b (H++J) v a h'):KV b H v a h':=by
 have hl:=s.len;rw[ab3]at hl;obtain⟨v',e1,e2,e3⟩:=s.var;refine⟨s.hr,by omega,⟨v',e1,e2,λi hi=>?_⟩,λj h1 h2 h3=>by rw[s.fr j (by simp;omega) h2 h3,abW h1]⟩;rcases e3 i hi with h |h;exact .inl h;exact .inr (by simp at h;omega)
theorem SA(b:Nat)(u:Tm)(H:ab)(v:PV)(a:List Tm)(hH:HR H)(h2:H[b]?=some ⟨.m,0,1,[v]⟩)(ho:Out 4 H v (ae a))(hv:b∉b9 v)(hn:a.length<100000000):
  ay C 129 [enc u,.ptr b 0 0 0] H (λr h'=>r=.cA []/\KV b H v (a++[u]) h'):=by
 have hle:=ai a;have cM:=ag h2;have hu:ae a++[.agg [.int .i64 u.k,.str u.s,.int .i64 u.o,.aa false (ae u.l)]]=ae (a++[u]):=by rw[bS,<-ar];rfl
 rw[ar];refine ay.x T6 Tryz.func129 rfl ?_;refine wA ?_;refine T0.apd h2 ho (λi hi hh=>hv (hh▸hi)) (by omega) (λid ep h' ap=>?_);refine wA ?_;refine⟨rfl,?_⟩;have hl:=ap.len;have bZ:=ag ap.at';have hg:∀j,j<H.length->j≠id->j≠b->h'[j]?=H[j]?:=λj g1 g2 g3=>by rw[ap.fr j g2 g3,abW g1]
 refine⟨λo ho=>?_,by omega,⟨_,ap.var,.inr ⟨id,ep,by rw[ai];simp,by rw[<-hu];exact ap.at'⟩,λi hi=>?_⟩,λj g1 g2 g3=>hg j g1 (λhh=>?_) g2⟩
 ·obtain⟨j,hj⟩:=ac5 ho
  by_cases j1:j=id
  subst j1;rw[ap.at']at hj;cases hj;exact⟨by simp,bm _ _ (by rw[hu];simp)⟩
  by_cases j2:j=b
  subst j2;rw[ap.var]at hj;cases hj;exact⟨by simp,by simp[bG,bu];omega⟩;rw[ap.fr j j1 j2]at hj;have:=(hH.du (HV.one (ep:=0) (n:=4) (es:=[.agg [.int .i64 u.k,.str u.s,.int .i64 u.o,.aa false (ae u.l)]]) (by simp))) o (acb hj);exact⟨this.1,eA (λi hi=>by have:=of_decide_eq_true hi;simp at this;exact decide_eq_true (by omega)) _ this.2⟩
 ·simp[b9]at hi;subst hi;rcases ap.idv with h |h;exact .inl h;exact .inr (by omega)
 ·subst hh;rcases ap.idv with h |h;exact g3 h;omega
theorem Oz (b:Nat) (k s o l) (ih:∀t∈l,∀(H:ab) (v:PV) (a:List Tm),HR H->H[b]?=some ⟨.m,0,1,[v]⟩->Out 4 H v (ae a)->b∉b9 v->a.length+ax t<100000000->
   ay C 128 [enc t,.fn 129 [.ptr b 0 0 0]] H (λr h'=>r=.cA []/\KV b H v (a++pre t) h'))
  (H:ab) (v:PV) (a:List Tm) (hH:HR H) (h2:H[b]?=some ⟨.m,0,1,[v]⟩) (ho:Out 4 H v (ae a)) (hv:b∉b9 v) (hn:a.length+ax (.mk k s o l)<100000000):
  ay C 128 [enc (.mk k s o l),.fn 129 [.ptr b 0 0 0]] H (λr h'=>r=.cA []/\KV b H v (a++pre (.mk k s o l)) h'):=by
 have cz:=ai l;have uj:=aY l;simp only[ax]at hn;have cM:=ag h2;have WM:HR (H++[⟨.m,0,4,[enc (.mk k s o l)]⟩]):=hH.du (HV.one (by simp));have b2:(H++[⟨.m,0,4,[enc (.mk k s o l)]⟩])[b]?=some ⟨.m,0,1,[v]⟩:=by rw[abW cM];exact h2
 have pk:=SA b (.mk k s o l) (H++[⟨.m,0,4,[enc (.mk k s o l)]⟩]) v a WM b2 (ho.db _) hv (by omega);rw[bh]at pk ⊢;refine ay.x T6 Tryz.func128 rfl ?_;refine wA ?_;refine aj.kv pk (by simp;omega) (λh' ks=>?_);refine wA ?_;have kw:=ks.wz
 have fv:h'[H.length]?=some ⟨.m,0,4,[.agg [.int .i64 k,.str s,.int .i64 o,.aa false (ae l)]]⟩:=by
  rw[ks.fr H.length (by simp) (by omega) (λhh=>by have:=ho.ls _ hh;omega)];simp
 refine wA ?_;have HE:a++[Tm.mk k s o l]=a++(.mk k s o l::cd []):=rfl;rw[HE]at kw;refine cU.zip T6 l (λp q L K=>L=[(1,.fn 129 [.ptr b 0 0 0]),(10,.aa false (ae l)),(11,.int .i64 (ae l).length),(12,.int .i64 p.length)]/\KV b H v (a++(.mk k s o l::cd p)) K) (.nx ⟨rfl,kw⟩) ?_ ?_
 ·rintro p u q _ K O e ⟨rfl,kp⟩;have cC:=ba e;have dp:=lenE e;obtain⟨v1,q1,q2,q3⟩:=kp.var;have Dr:=kp.len;have hKr:=kp.hr
  have uo:b∉b9 v1:=λhi=>by
   rcases q3 b hi with h |h;exact hv h;omega
  have WG:br l=br p+(ax u+br q):=by rw[e,ke];simp[br]
  have jR:(cd p).length<=br p:=lZ p;have ih1:=ih u (by rw[e];simp) (K++[⟨.m,0,4,[enc u]⟩]) v1 (a++(Tm.mk k s o l::cd p)) (hKr.du (HV.one (by simp))) (by rw[abW (ag q1)];exact q1) (q2.db _) uo (by simp only[ab3,ab9];omega);rw[ar]at ih1;refine wA ?_;refine aj.kv ih1 (by simp;omega) (λh' ks=>?_);refine wA ?_;refine .nx ⟨rfl,?_⟩;have:=kp.trans q1 ks.wz;rwa[acp,show Tm.mk k s o l::cd p++pre u=Tm.mk k s o l::cd (p++[u]) by rw[lM];simp[cd]]at this
 ·rintro _ K O ⟨rfl,kp⟩;refine wA ?_;exact⟨rfl,by rw[pre];exact kp⟩
theorem av(b:Nat)(t:Tm):∀(H:ab) (v:PV) (a:List Tm),HR H->H[b]?=some ⟨.m,0,1,[v]⟩->Out 4 H v (ae a)->b∉b9 v->a.length+ax t<100000000->
   ay C 128 [enc t,.fn 129 [.ptr b 0 0 0]] H (λr h'=>r=.cA []/\KV b H v (a++pre t) h'):=by
 induction t using Tm.ind with
 |h k s o l ih=>exact Oz b k s o l ih
def Ax(h:ab)(r:PV)(l:List Tm):Prop:=∃id ep tl,r=.ak id ep 0 l.length/\h[id]?=some ⟨.m,ep,4,ae l++tl⟩/\ao tl=true
theorem SB{l:List Tm}(h:l≠[]):cd l≠[]:=by
 cases l with
 |nil=>exact absurd rfl h
 |cons t l=>intro hh;have:=eZ t;rw[cd]at hh;rw[(List.append_eq_nil_iff.1 hh).1]at this;cases this
theorem pj(l:List Tm)(h0:l≠[])(H:ab)(hH:HR H)(id0 ep0:Nat)(e0:H[id0]?=some ⟨.m,ep0,4,ae l⟩)(hl:br l<10000000):ay C 72 [.ak id0 ep0 0 l.length] H (λr h'=>HR h'/\H.length<=h'.length/\(∀j,j<H.length->h'[j]?=H[j]?)/\Ax h' r (de l)/\∃id ep n,r=.ak id ep 0 n/\H.length<=id):=by
 have cz:=ai l;have uj:=aY l;have aaZ:=ag e0;obtain⟨H1,lF⟩:∃H1:ab,H1=H++[⟨.m,0,1,[.aa true []]⟩]:=⟨_,rfl⟩;have aa0:H1.length=H.length+1:=by rw[lF];simp
 have WN:HR H1:=by rw[lF];exact hH.du (HV.one rfl)
 have aa1:H1[H.length]?=some ⟨.m,0,1,[.aa true []]⟩:=by rw[lF];simp
 have aa2:H1[id0]?=some ⟨.m,ep0,4,ae l⟩:=by rw[lF,abW aaZ];exact e0
 refine ay.x T6 Tryz.func72 rfl ?_;refine wA ?_;rw[<-lF];refine cU.zip T6 l (λp q L K=>L=[(3,.ptr H.length 0 0 0),(6,.ak id0 ep0 0 l.length),(7,.int .i64 l.length),(8,.int .i64 p.length)]/\KV H.length H1 (.aa true []) (cd p) K) (.nx ⟨rfl,WN,abZ _,⟨_,aa1,.inl ⟨rfl,rfl⟩,λi hi=>.inl hi⟩,λ_ _ _ _=>rfl⟩) ?_ ?_
 ·rintro p u q _ K O e ⟨rfl,kp⟩;have cC:(ae l)[0+p.length]?=some (.agg [.int .i64 u.k,.str u.s,.int .i64 u.o,.aa false (ae u.l)]):=by rw[acf];exact ba e
  have dp:=lenE e;obtain⟨v1,q1,q2,q3⟩:=kp.var;have Dr:=kp.len;have hKr:=kp.hr;have hK0:K[id0]?=some ⟨.m,ep0,4,ae l⟩:=by rw[kp.fr id0 (by omega) (by omega) (by simp[b9])];exact aa2
  have uo:H.length∉b9 v1:=λhi=>by
   rcases q3 _ hi with h |h;simp[b9]at h;omega
  have WG:br l=br p+(ax u+br q):=by rw[e,ke];simp[br]
  have jR:(cd p).length<=br p:=lZ p;have ih1:=av H.length u (K++[⟨.m,0,4,[enc u]⟩]) v1 (cd p) (hKr.du (HV.one (by simp))) (by rw[abW (ag q1)];exact q1) (q2.db _) uo (by omega);rw[ar]at ih1;refine wA ?_;refine aj.kv ih1 (by simp;omega) (λh' ks=>?_);refine wA ?_;refine .nx ⟨rfl,?_⟩;have:=kp.trans q1 ks.wz;rwa[show cd p++pre u=cd (p++[u]) by rw[lM];simp[cd]]at this
 ·rintro _ K O ⟨rfl,kp⟩;obtain⟨v',e1,e2,e3⟩:=kp.var;have hh:=kp.hr;have Dr:=kp.len;have jR:=lZ l;have cY:dd (eJ (cd l))=de l:=GI _;rcases e2 with⟨rfl,e9⟩|⟨id,ep,rfl,e2⟩;exact absurd (acd (by rw[<-ai,e9];rfl)) (SB h0)
  ·have ho:=yS K hh id ep (cd l) e2 (by omega) (λu hu=>by obtain⟨t,ht,hu⟩:=bF.1 hu;have:=nN t u hu;have:=bD ht;omega);rw[ai]at e1
   have bZ:H.length+1<=id:=by
    rcases e3 id (by simp[b9])with h |h;simp[b9]at h;omega
   refine wA ?_;refine .ln ho (λr h' hr=>by obtain⟨_,_,_,rfl⟩:=hr;simp) (λr h' hr=>?_);obtain⟨rfl,tl,hv,rfl⟩:=hr;rw[cY];have e5:=abY (a:=(⟨.m,ep,4,ae (de l)++tl⟩:aw)) (ag e2);refine wA ?_;refine⟨hh.set _ (by simp) (bm _ _ (by rw[dF,hv];simp)),by simp;omega,λj hj=>?_,⟨id,ep,tl,rfl,e5,hv⟩,id,ep,_,rfl,by omega⟩;rw[ab0 (by omega),kp.fr j (by omega) (by omega) (by simp[b9]),lF,abW hj]
theorem _root_.Go.Pm.aj.op{f:FuncId}{rest qo:List PV}{h:ab}{v rv:PV}{l:List Tm}{Q:PV->ab->Prop}(o:Ax h v l)(a:aI C f (.aa false (ae l)::qo) rv)(q:Q rv h)(hs:dT rv=true:=by rfl)(hr:ao rest=true:=by simp)(hn:aQ rest=qo:=by simp)(hm:C.mode f=.pure:=by rfl):aj C 2 f (v::rest) h Q:=by
 obtain⟨id,ep,tl,rfl,e,ht⟩:=o;have MH:(ae l++tl).take l.length=ae l:=by rw[acC (by rw[ai];omega),acu (by rw[ai];omega)]
 refine aj.rbS (args':=.aa false (ae l)::rest) ?_ (by subst hn;simp[aQ,cj]) a q hs hm;simp only[gC,jP,pD,getM,e];simp only[and_self,if_true,acf,ab3,ai];rw[if_pos ⟨by simp,by simp⟩];simp only[ac3,MH];rw[if_pos ⟨by first |omega |(rw[ab3,ai];omega),by simp,by simp⟩,nW hr]
theorem Ax.WO{h:ab}{r:PV}{l:List Tm}{k:IntKind}{n:Int}(o:Ax h r l):∃r1,rb h (aR [r,.int k n])=some r1/\cj r1=.cA [.aa false (ae l),.int k n]:=by
 obtain⟨id,ep,tl,rfl,e,ht⟩:=o;have MH:(ae l++tl).take l.length=ae l:=by rw[acC (by rw[ai];omega),acu (by rw[ai];omega)]
 refine⟨.cA [.aa false (ae l),.int k n],?_,by simp[cj,aQ,aZ]⟩;simp[aR,rb,gC,jP,pD,getM,e,MH,aU]
theorem Bz(l:List Tm)(hl:l.length<10000000)(hb:∀t∈l,ax t<100000000):aI C 114 [.aa false (ae l)] (.aa false (ae (fJ l))):=by
 have cz:=ai l;have cY:dd (eJ l)=fJ l:=GI _;refine aI.x T6 Tryz.func114 rfl ?_;refine wA ?_
 cases l with
 |nil=>
  refine aj.cV rfl (h':=[]) (rv:=.aa true []) rfl ?_;refine wA ?_;refine aj.cV rfl rfl ?_;refine wA ?_;refine .ln (tL _ _) (λr h' hr=>by rw[hr.2]) (λr h' hr=>?_);obtain⟨rfl,rfl⟩:=hr;refine wA ?_;exact⟨_,rfl,rfl⟩
 |cons y l0=>
  refine aj.cV rfl (mq (l:=y::l0) (by simp) (by simp at hl ⊢;omega) []) ?_;generalize hL:y::l0=l at *;refine wA ?_;have e1:([]++[⟨.m,0,4,ae l⟩]:ab)[0]?=some ⟨.m,0,4,ae l⟩:=rfl;refine aj.cV rfl (mN e1 (by omega) (λt ht=>by have:=hb t ht;omega)) ?_;have e2:(([]++[⟨.m,0,4,ae l⟩]:ab).set 0 ⟨.m,0,4,ae (eJ l)⟩)[0]?=some ⟨.m,0,4,ae (eJ l)⟩:=rfl;have xi:=(fI l).length_eq;have ek:∀t∈eJ l,ax t<100000000:=λt ht=>hb t ((fI _).mem_iff.1 ht)
  rw[<-xi]at cz hl ⊢;generalize eJ l=S at *
  cases S with
  |nil=>rw[<-hL]at xi;simp at xi
  |cons x r=>
   have hc:=qp _ rfl Hq x r _ (HV.one (by simp)).hr 0 0 e2 (by simp at hl;omega) (λt ht=>by have:=ek t ht;omega);rw[ai]at hc;refine wA ?_;refine .ln hc (λr h' hr=>by obtain⟨_,_,_,rfl⟩:=hr;simp) (λr h' hr=>?_);obtain⟨rfl,tl,hv,rfl⟩:=hr;rw[cY];refine wA ?_;exact iL (tl:=tl) rfl (by rw[ai]) (by simp) (by simp)
theorem nX(l:List Tm):(de l).length<=br l:=by
 have h1:=qb (cd l);have h2:=lZ l;unfold de;omega
theorem uT{l:List Tm}{B:Nat}(h:∀t∈l,ax t<B):∀y∈de l,ax y<B:=λy hy=>by
 obtain⟨t,ht,hy⟩:=bF.1 ((cq _ _).1 hy);have:=nN t y hy;have:=h t ht;omega
theorem CN(k:List Tm)(t:Tm)(hf:∀u∈k++[t],iE u=true)(hl:br (k++[t])<10000000):
  aI C 113 [.aa false (ae k),.aa false (ae [t])] (.cA [.aa false (ae (if fN k t≠0 then[]else de (k++[t]))),.int .i64 (fN k t)]):=by
 have cz:=ai k;have vH:=aY (k++[t]);simp only[ab3,ab9,acz]at vH;have F9:∀u∈k++[t],ax u<10000000:=λu hu=>by have:=bD hu;omega
 have h1:=EH (k++[t]) hf (by simp;omega) F9
 have h3:=Lj (de (k++[t])) (λy hy=>by
  obtain⟨a,ha,hb⟩:=bF.1 ((cq _ _).1 hy);exact tg (hf a ha) hb) (by have:=nX (k++[t]);omega)
 have hE:fN k t=if 60<k.length then 3 else if gO (k++[t])≠0 then gO (k++[t])else if 200<(de (k++[t])).length then 3 else 0:=rfl;have rL:dS [] (.aa true [.aa false (ae k),.aa false (ae [t])]) (.aa false (ae k)) (.aa false (ae [t])):=.inl rfl;have SC:=(AV k [t] [] _ _ _ rL (.inr ⟨_,rfl⟩) (.inr ⟨_,rfl⟩) (by simp;omega)).nine;generalize hU:de (k++[t])=U at *;have Qw:fN k t=0->(if fN k t≠0 then[]else U)=U:=λh=>if_neg (by omega)
 have Qx:fN k t≠0->(if fN k t≠0 then[]else U)=[]:=λh=>if_pos h
 generalize(if fN k t≠0 then[]else U)=R at *;refine aI.x T6 Tryz.func113 rfl ?_;refine wC (λhc=>?_) λhc=>?_
 ·rw[if_pos (by omega)]at hE;exact⟨_,rfl,by rw[Qx (by omega),hE];rfl⟩
 ·rw[if_neg (by omega)]at hE;refine .opened rfl (SC.mono λr h' hr=>?_)
  obtain⟨ep,rfl,rfl⟩:∃ep,r=.ak 0 ep 0 (ae (k++[t])).length/\h'=[⟨.m,ep,4,ae (k++[t])⟩]:=by
   rcases hr with⟨h,_⟩|⟨ep,h1,h2⟩;simp at h;exact⟨ep,h1,h2⟩
  rw[if_neg (by simp[dV,cN,dU])];have ho:Out 4 [⟨.m,ep,4,ae (k++[t])⟩] (.ak 0 ep 0 (ae (k++[t])).length) (ae (k++[t])):=.inr ⟨0,ep,rfl,rfl⟩;refine wA ?_;refine .XN (.inl ho) h1 ?_;refine wC (λhc=>?_) λhc=>?_
  ·have hz:gO (k++[t])=0:=by omega
   rw[if_neg (by omega)]at hE;have z7:=pj (k++[t]) (by simp) [⟨.m,ep,4,ae (k++[t])⟩] (HV.one (by simp)).hr 0 ep rfl hl;rw[ai]at *;refine .fr (z7.mono λr h' hr=>⟨hr.1,hr.2.1,hr.2.2.1,hr.2.2.2⟩) (λr h' hr hb=>?_) (λr h' r1 r2 r3 r4=>?_)
   ·obtain⟨_,id,ep,n,rfl,bZ⟩:=hr;simp[dV,cN,dU]at hb;simp at bZ;omega
   obtain⟨kV,_⟩:=r4;rw[hU]at kV;refine wA ?_;refine aj.op kV h3 ?_ (by split <;>rfl);refine wC (λhc=>?_) λhc=>?_
   ·rw[Qw (by omega),show fN k t=0 by omega];exact kV.WO
   exact⟨_,rfl,by rw[Qx (by omega),hE];rfl⟩
  ·rw[if_pos (by assumption)]at hE;exact⟨_,rfl,by rw[Qx (by omega),hE];rfl⟩
end bC
def yJ(s:ByteArray):Bool:=s.toList.take 2==[101,35]
def sE:ByteArray:=⟨#[101,35]⟩
theorem Wz:sE.toList=[101,35]:=by rw[ByteArray.toList_eq];rfl
namespace bC
open Go.Proofs
attribute [local irreducible] aD az aL aJ Ev ah aj ay bg bN
theorem Hs(s:ByteArray)(hs:s.size<1000000000):aI C 356 [.str s,.str sE] (.bool (yJ s)):=by
 have hl:=bsize s;have hp:yJ s=(s.toList.take 2==[101,35]):=rfl;have hx:(s.extract 0 2).toList=s.toList.take 2:=by rw[Bw,ac3]
 refine aI.x T6 Tryz.func356 rfl ?_;refine wJ (λhc hc=>?_) (λhc hc=>?_) λhc=>?_
 ·have hh:(s.extract 0 2).toList=sE.toList:=by assumption
  exact⟨_,rfl,by rw[hp,<-hx,hh,Wz];rfl⟩
 ·have hh:¬(s.extract 0 2).toList=sE.toList:=by assumption
  rw[hx,Wz]at hh;exact⟨_,rfl,by rw[hp];simp[aR,hh]⟩
 ·have h3:sE.size=2:=rfl
  have hh:s.toList.take 2≠[101,35]:=λh=>by
   have:=congrArg List.length h;simp at this;omega
  exact⟨_,rfl,by rw[hp];simp[aR,hh]⟩
theorem OS(s:ByteArray)(hs:s.size<1000000000):∃r:ByteArray,(yJ s=true->r.toList=s.toList.drop 2)/\r.size<=s.size/\aI C 268 [.str s,.str ⟨#[101,35]⟩] (.cA [.str r,.bool (yJ s)]):=by
 have h1:=Hs s hs
 have key:∃r:ByteArray,(yJ s=true->r.toList=s.toList.drop 2)/\r.size<=s.size/\aI C 318 [.str s,.str sE] (.cA [.str r,.bool (yJ s)]):=by
  cases hp:yJ s
  ·refine⟨s,λh=>(by cases h),abZ _,?_⟩;rw[hp]at h1;refine aI.x T6 Tryz.func318 rfl ?_;refine wA ?_;refine .p h1 ?_;refine wA ?_;exact⟨_,rfl,rfl⟩
  ·have h2:2<=s.size:=by
    have:=congrArg List.length (eq_of_beq (show(s.toList.take 2==[101,35])=true from hp));have:=bsize s;simp at *;omega
   have hx:(s.extract 2 s.size).toList=s.toList.drop 2:=by rw[Bw,<-bsize,ac2]
   refine⟨s.extract 2 s.size,λ_=>hx,by rw[<-bsize,hx,adH,bsize];omega,?_⟩;rw[hp]at h1;have h3:sE.size=2:=rfl;refine aI.x T6 Tryz.func318 rfl ?_;refine wA ?_;refine .p h1 ?_;refine wA ?_;exact⟨_,rfl,rfl⟩
 obtain⟨r,q1,q2,q3⟩:=key;refine⟨r,q1,q2,?_⟩;have q3:aI C 318 [.str s,.str ⟨#[101,35]⟩] (.cA [.str r,.bool (yJ s)]):=q3;refine aI.x T6 Tryz.func268 rfl ?_;refine wA ?_;refine .p q3 ?_;refine wA ?_;exact⟨_,rfl,rfl⟩
theorem Ht(t:Tm)(hb:ax t<100000000)(hl:t.l.length<100000000):aI C 209 [enc t] (.bool (nV t)):=by
 have hss:t.s.size<100000000:=by obtain⟨k,s,o,l⟩:=t;simp only[ax]at hb;simp only[Tm.s];omega
 obtain⟨r,h1,h2,h3⟩:=OS t.s (by omega);have h4:=Hr r (by omega)
 have h5:aI C 206 [enc t,.aa false [.str ⟨#[122,101,114,111]⟩,.str ⟨#[111,110,101]⟩]] (.bool (decide (t.k=3)&& (eP t.s il ||eP t.s ql))):=by
  have:=tI t [il,ql] (by simp);have e:(decide (t.k=3)&& (eP t.s il ||eP t.s ql))=(decide (t.k=3)&& [il,ql].any λn=>eP t.s n):=by simp
  rw[e];exact this
 have cz:=ai t.l
 have hO:wV t.s.toList=(yJ t.s&&OR r.toList):=by
  unfold wV
  cases hp:yJ t.s
  ·have:(t.s.toList.take 2==[101,35])=false:=hp;rw[this];rfl
  ·have:(t.s.toList.take 2==[101,35])=true:=hp;rw[this,h1 hp]
 have hP:nV t=if t.k=3 then(eP t.s il ||eP t.s ql)&&t.l.isEmpty else if t.k≠2 then false else if t.o=1\/t.o=5 then true else if t.o=4 then eP t.s nG ||wV t.s.toList else if t.o=0\/t.o=2\/t.o=3 then wV t.s.toList else false:=rfl;rw[hO]at hP;generalize yJ t.s=P at *;generalize OR r.toList=D at *;have Se:t.l.isEmpty=decide ((ae t.l).length=0):=by rw[cz];cases t.l <;>simp
 rw[ar]at h5 ⊢;refine aI.x T6 Tryz.func209 rfl ?_;refine wI (λhc=>?_) (λhc hc=>?_) λhc hc=>?_
 ·have hk:t.k=3:=by omega
  rw[if_pos hk]at hP;rw[decide_eq_true hk,ada]at h5;refine .p h5 ?_
  cases hz:eP t.s il ||eP t.s ql
  ·refine wA ?_;exact⟨_,rfl,by rw[hP,hz];rfl⟩
  ·refine wC (λhc=>?_) λhc=>?_
   ·rw[decide_eq_true (by omega)]at Se;exact⟨_,rfl,by rw[hP,hz,Se];rfl⟩
   ·rw[decide_eq_false (by omega)]at Se;exact⟨_,rfl,by rw[hP,hz,Se];rfl⟩
 ·rw[if_neg (by omega)]at hP;refine .p h3 ?_
  (repeat' (first |(refine Rn.go ?_;conv=>whnf)|refine .mk ?_ |refine .mk (λhc=>?_) λhc=>?_ |fail))
  ·rw[if_neg (by omega),if_pos (by omega)]at hP;exact⟨_,rfl,by rw[hP];rfl⟩
  ·rw[if_neg (by omega),if_pos (by omega)]at hP;exact⟨_,rfl,by rw[hP];rfl⟩
  ·have hg:eP t.s nG=true:=kQ (by assumption);rw[if_neg (by omega),if_neg (by omega),if_pos (by omega),hg]at hP;exact⟨_,rfl,by rw[hP];rfl⟩
  ·have hg:eP t.s nG=false:=jk (by assumption);rw[if_neg (by omega),if_neg (by omega),if_pos (by omega),hg]at hP
   cases hPP:P
   ·rw[hPP]at hP
    skip
    exact⟨_,rfl,by rw[hP];rfl⟩
   ·rw[hPP]at hP
    skip
    refine .p h4 ?_;refine wA ?_;exact⟨_,rfl,by rw[hP];rfl⟩
  all_goals first
   |have hq:nV t=(P&&D):=by rw[hP,if_neg (by omega),if_neg (by omega),if_neg (by omega),if_pos (by omega)]
    cases hPP:P
    ·rw[hPP]at hq
     skip
     exact⟨_,rfl,by rw[hq];rfl⟩
    ·rw[hPP]at hq
     skip
     refine .p h4 ?_;refine wA ?_;exact⟨_,rfl,by rw[hq];rfl⟩
   |exact⟨_,rfl,by rw[hP,if_neg (by omega),if_neg (by omega),if_neg (by omega),if_neg (by omega)];rfl⟩
   |exact⟨_,rfl,by rw[hP,if_pos (by omega)];rfl⟩
 exact⟨_,rfl,by rw[hP,if_neg (by omega),if_pos (by omega)];rfl⟩
theorem Sv(l:List Tm)(g:FuncId)(cs:List PV)(p:Tm->Bool)(H:ab)(hl:l.length<1000000000)(hp:∀x∈l,iA H g cs (enc x) (p x)):
  ay C 320 [.aa false (ae l),.fn g cs] H (λr h'=>r=.int .i64 (wU p l)/\iF H h'):=by
 have cz:=ai l;refine ay.x T6 Tryz.func320 rfl ?_;refine wA ?_;refine cU.zip T6 l (λa q L K=>L=[(0,.aa false (ae l)),(1,.fn g cs),(7,.int .i64 (ae l).length),(8,.int .i64 a.length)]/\iF H K/\∀y∈a,p y=false) (.nx ⟨rfl,iF.refl _,by simp⟩) ?_ ?_
 ·rintro a x q _ K O e ⟨rfl,hE,ha⟩;have cC:=ba e;have dp:=lenE e;have F6:=hp x (by rw[e];simp) _ hE;rw[ar]at F6;refine wA ?_;refine F6 _ (λh' WC=>?_)
  cases hb:p x
  ·refine wA ?_;exact .nx ⟨rfl,hE.trans WC,λy hy=>by rcases ab2.1 hy with h |h;exact ha y h;simp at h;rw[h];exact hb⟩
  ·refine wA ?_;exact⟨by rw[e,qV ha hb];rfl,hE.trans WC⟩
 ·rintro _ K O ⟨rfl,hE,ha⟩;refine wA ?_;exact⟨by rw[lK ha];rfl,hE⟩
theorem Ju(l:List Tm)(g:FuncId)(cs:List PV)(p:Tm->Bool)(H:ab)(hl:l.length<1000000000)(hp:∀x∈l,iA H g cs (enc x) (p x)):
  ay C 271 [.aa false (ae l),.fn g cs] H (λr h'=>r=.bool (l.any p)/\iF H h'):=by
 have hi:=Sv l g cs p H hl hp;have ha:=th p l;refine ay.x T6 Tryz.func271 rfl ?_;refine wA ?_;refine .ex hi (λh' hE=>?_);refine wC (λhc=>?_) λhc=>?_
 all_goals exact⟨by rw[<-ha];simp[aR, *],hE⟩
structure kS(s:List Tm):Prop where
 oB:fu s
 len:s.length<10000000
 bk:∀b∈s,ax b<10000000
theorem kS.has{s:List Tm}(h:kS s){t:Tm}(ht:ax t<10000000):aI C 116 [.aa false (ae s),enc t] (.bool (bJ s t)):=OG s t h.oB (by have:=h.len;omega) (λb hb=>by have:=h.bk b hb;omega) (by omega)
theorem be(s:List Tm)(hs:kS s)(x:Tm)(hx:ax x<10000000)(id:Nat)(H:ab)(h0:H[id]?=some ⟨.m,0,1,[.aa false (ae s)]⟩):ay C 270 [enc x,.ptr id 0 0 0] H (λr h'=>r=.bool (!bJ s x)/\iF H h'):=by
 have h1:=hs.has hx;have cM:=ag h0;rw[ar]at h1 ⊢;refine ay.x T6 Tryz.func270 rfl ?_;refine wA ?_;refine .p h1 ?_
 cases bJ s x
 all_goals(
  refine wA ?_;exact⟨rfl,(iF.refl _).db (HV.one (by simp))⟩)
theorem CM(s:List Tm)(hs:kS s)(u:Tm)(hu:ax u<10000000):aI C 210 [.aa false (ae s),enc u] (.bool (mn s u)):=by
 obtain⟨B,hB⟩:∃B:ab,B=[⟨.m,0,1,[.aa false (ae s)]⟩,⟨.m,0,4,[.agg [.int .i64 u.k,.str u.s,.int .i64 u.o,.aa false (ae u.l)]]⟩]:=⟨_,rfl⟩;have XG:B[0]?=some ⟨.m,0,1,[.aa false (ae s)]⟩:=by rw[hB];rfl
 have Qr:u.l.length<10000000:=by obtain⟨k,n,o,l⟩:=u;have:=aY l;simp only[ax]at hu;simp only[Tm.l];omega
 have hub:∀x∈u.l,ax x<10000000:=λx hx=>by obtain⟨k,n,o,l⟩:=u;have:=bD hx;simp only[ax]at hu;simp only[Tm.l]at this;omega
 have hc:=q9 u.l 270 [.ptr 0 0 0 0] (λx=>!bJ s x) B (by omega) (λx hx=>iA.opened λH' hE=>be s hs x (hub x hx) 0 H' (hE.at XG));have hn:(u.l.any λx=>!bJ s x)= !(u.l.all (bJ s)):=by rw[List.all_eq_not_any_not];simp
 rw[hn]at hc
 have h5:aI C 206 [enc u,.aa false [.str ⟨#[112,97,105,114]⟩,.str ⟨#[101,110,99]⟩,.str ⟨#[97,101,110,99]⟩,.str ⟨#[112,107]⟩,.str ⟨#[115,105,103,110]⟩,.str ⟨#[104,97,115,104]⟩]] (.bool (rH u)):=by
  have:=tI u [gq,iW,fK,F4,iN,yh] (by simp);have e:rH u=(decide (u.k=3)&& [gq,iW,fK,F4,iN,yh].any λn=>eP u.s n):=by simp[rH,tK,Bool.or_assoc]
  rw[e];exact this
 have hR:mn s u=(rH u&&u.l.all (bJ s)):=rfl;rw[hR];rw[ar]at h5 ⊢;refine aI.x T6 Tryz.func210 rfl ?_;refine wA ?_;refine .p h5 ?_
 cases rH u
 ·refine wA ?_;exact⟨_,rfl,rfl⟩
 ·refine wA ?_;rw[<-hB];refine .ex hc (λh' hE=>?_)
  cases u.l.all (bJ s)
  all_goals(
   refine wA ?_;exact⟨_,rfl,rfl⟩)
theorem yO(t:Tm)(n:ByteArray):aI C 245 [enc t,.str n] (.bool (dg t n)):=by
 rw[ar];refine aI.x T6 Tryz.func245 rfl ?_;refine wJ (λhc hc=>?_) (λhc hc=>?_) λhc=>?_;exact⟨_,rfl,by simp[aR,dg,eP, *]⟩;exact⟨_,rfl,by simp[aR,dg,eP, *]⟩;exact⟨_,rfl,by simp[aR,dg,eP, *]⟩
theorem WK(t:Tm)(hb:ax t<10000000):aI C 364 [enc t,.aa false []] (.cA [enc t,.int .i64 0]):=by
 have h1:=nL t (by omega);rw[ar]at h1 ⊢;refine aI.x T6 Tryz.func364 rfl ?_;refine wA ?_;obtain⟨B,hB⟩:∃B:ab,B=[⟨.m,0,4,[.agg [.int .i64 t.k,.str t.s,.int .i64 t.o,.aa false (ae t.l)]]⟩,⟨.m,0,4,[.agg [.int .i64 0,.str ByteArray.empty,.int .i64 0,.aa true []]]⟩]:=⟨_,rfl⟩;refine cU.zip T6 ([]:List Tm) (λp q L K=>L=[(2,.ptr 0 0 0 0),(4,.ptr 1 0 0 0),(8,.aa false []),(9,.int .i64 0),(10,.int .i64 p.length)]/\K=[⟨.m,0,4,[.agg [.int .i64 t.k,.str t.s,.int .i64 t.o,.aa false (ae t.l)]]⟩,⟨.m,0,4,[.agg [.int .i64 0,.str ByteArray.empty,.int .i64 0,.aa true []]]⟩]) (.nx ⟨rfl,rfl⟩) ?_ ?_
 ·rintro p u q _ K O e _
  cases p <;>cases e
 ·rintro _ _ O ⟨rfl,rfl⟩;refine wA ?_;refine .p h1 ?_;refine wA ?_;exact jE
theorem yP(t:Tm)(hb:ax t<10000000):aI C 321 [enc t] (enc t):=by
 have h1:=WK t hb;rw[ar]at h1 ⊢;refine aI.x T6 Tryz.func321 rfl ?_;refine wA ?_;refine .p h1 ?_;refine wA ?_;exact Oy
theorem nk{t:Tm}{i:Nat}(h:i<t.l.length):(ae t.l)[i]?=some (.agg [.int .i64 (eN t i).k,.str (eN t i).s,.int .i64 (eN t i).o,.aa false (ae (eN t i).l)]):=by
 refine gX ?_;rw[eN,acn,ab1 h]
 rfl
theorem kc{t:Tm}{i:Nat}(h:i<t.l.length):eN t i∈t.l:=by
 rw[eN,acn,ab1 h];exact acB h
theorem fY{t x:Tm}(h:x∈t.l):ax x<ax t:=by
 obtain⟨k,n,o,l⟩:=t;have:=bD h;simp only[ax,Tm.l]at *;omega
theorem Ay{t:Tm}{n:ByteArray}(h:gY t=0)(hn:dg t n=true)(h2:(ch n).a=2/\(ch n).b=2):t.l.length=2:=by
 obtain⟨a,b,e⟩:=ly h hn h2;rw[e];rfl
theorem Sw(t:Tm)(hb:ax t<10000000):aI C 274 [enc t] (.cA [enc (ck t),.int .i64 (jH t)]):=by
 have h1:=tJ t (by omega);have h2:=yO t ⟨#[101,110,99]⟩;have h3:=yO t ⟨#[97,101,110,99]⟩;have hE:jH t=if gY t≠0 then gY t else if dg t iW=true then 0 else if dg t fK=false then 10 else if dg (eN t 1) F4=false then 4 else 0:=rfl;have hV:ck t=if jH t≠0 then fW else if dg t iW=true then eN t 1 else eN (eN t 1) 0:=rfl;have n1:dg t ⟨#[101,110,99]⟩=dg t iW:=rfl;have n2:dg t ⟨#[97,101,110,99]⟩=dg t fK:=rfl;rw[n1]at h2;rw[n2]at h3;have hz:=mT;rw[ar t]at h1 h2 h3 ⊢
 by_cases hv:gY t=0
 ·rw[if_neg (by omega)]at hE
  cases hn:dg t iW
  ·rw[hn]at h2 hE hV;rw[if_neg (by simp)]at hE
   cases ha:dg t fK
   ·rw[ha,if_pos rfl]at hE;rw[ha]at h3;rw[if_pos (by omega)]at hV;rw[hV,hE,hz];refine aI.x T6 Tryz.func274 rfl ?_;refine wA ?_;refine .p h1 ?_;refine wA ?_;refine .p h2 ?_;refine wA ?_;refine .p h3 ?_;refine wA ?_;exact⟨_,rfl,rfl⟩
   ·rw[ha,if_neg (by simp)]at hE;rw[ha]at h3;have dp:=Ay hv ha yr.2.2.1;have cC:=nk (t:=t) (i:=1) (by omega);have h4:=yO (eN t 1) ⟨#[112,107]⟩;have n3:dg (eN t 1) ⟨#[112,107]⟩=dg (eN t 1) F4:=rfl;rw[n3,ar]at h4
    cases hp:dg (eN t 1) F4
    ·rw[hp,if_pos rfl]at hE;rw[hp]at h4;rw[if_pos (by omega)]at hV;rw[hV,hE,hz];refine aI.x T6 Tryz.func274 rfl ?_;refine wA ?_;refine .p h1 ?_;refine wA ?_;refine .p h2 ?_;refine wA ?_;refine .p h3 ?_;refine wA ?_;refine .p h4 ?_;refine wA ?_;exact⟨_,rfl,rfl⟩
    ·rw[hp,if_neg (by simp)]at hE;rw[hp]at h4;rw[if_neg (by omega),if_neg (by simp)]at hV;have iB:=kc (t:=t) (i:=1) (by omega);obtain⟨c,RY⟩:=tu (pf hv iB) hp yr.2.2.2.2;have xe:(eN t 1).l.length=1:=by rw[RY];rfl
     have nh:=nk (t:=eN t 1) (i:=0) (by omega);have b1:=fY iB;have b2:=fY (kc (t:=eN t 1) (i:=0) (by omega));have h5:=yP (eN (eN t 1) 0) (by omega);rw[hV,hE];generalize hK:eN (eN t 1) 0=K at *;generalize hM:eN t 1=M at *;rw[ar]at h5 ⊢;refine aI.x T6 Tryz.func274 rfl ?_;refine wA ?_;refine .p h1 ?_;refine wA ?_;refine .p h2 ?_;refine wA ?_;refine .p h3 ?_;refine wA ?_;refine .p h4 ?_;refine wA ?_;refine .p h5 ?_;refine wA ?_;exact jE
  ·rw[hn,if_pos rfl]at hE;rw[hn]at h2 hV;rw[if_neg (by omega),if_pos rfl]at hV;have dp:=Ay hv hn yr.2.1;have cC:=nk (t:=t) (i:=1) (by omega);have b1:=fY (kc (t:=t) (i:=1) (by omega));have h5:=yP (eN t 1) (by omega);rw[hV,hE];generalize hM:eN t 1=M at *;rw[ar]at h5 ⊢;refine aI.x T6 Tryz.func274 rfl ?_;refine wA ?_;refine .p h1 ?_;refine wA ?_;refine .p h2 ?_;refine wA ?_;refine .p h5 ?_;refine wA ?_;exact jE
 ·rw[if_pos hv]at hE;rw[if_pos (by omega)]at hV;rw[hV,hE,hz];refine aI.x T6 Tryz.func274 rfl ?_;refine wA ?_;refine .p h1 ?_;refine wA ?_;exact⟨_,rfl,rfl⟩
theorem HC(s:List Tm)(hs:kS s)(u t:Tm)(hu:ax u<10000000)(ht:ax t<10000000)(hv:gY t=0)(i1 i2:Nat)(H:ab)(hH:HV H)(h1:H[i1]?=some ⟨.m,0,4,[.agg [.int .i64 u.k,.str u.s,.int .i64 u.o,.aa false (ae u.l)]]⟩)(h2:H[i2]?=some ⟨.m,0,1,[.aa false (ae s)]⟩):
  ay C 272 [enc t,.ptr i1 0 0 0,.ptr i2 0 0 0] H (λr h'=>r=.bool (v8 s u t)/\iF H h'):=by
 have g1:=oc t ⟨#[112,97,105,114]⟩;have g2:=oc t ⟨#[115,105,103,110]⟩
 have g3:aI C 206 [enc t,.aa false [.str ⟨#[101,110,99]⟩,.str ⟨#[97,101,110,99]⟩]] (.bool (dg t iW ||dg t fK)):=by
  have:=tI t [iW,fK] (by simp);have e:(dg t iW ||dg t fK)=(decide (t.k=3)&& [iW,fK].any λn=>eP t.s n):=by cases h:decide (t.k=3) <;>simp[dg,h]
  rw[e];exact this
 have n1:dg t ⟨#[112,97,105,114]⟩=dg t gq:=rfl;have n2:dg t ⟨#[115,105,103,110]⟩=dg t iN:=rfl;rw[n1]at g1;rw[n2]at g2;have WE:=ag h1;have aaY:=ag h2;have hO:v8 s u t=if dg t gq=true then decide (aW (eN t 0) u=0)||decide (aW (eN t 1) u=0)else if dg t iN=true then decide (aW (eN t 0) u=0)else if dg t iW ||dg t fK then decide (jH t=0)&&decide (aW (eN t 0) u=0)&&bJ s (ck t)else false:=rfl;have k0:=Sw t ht;have ee:aV (H++[⟨.m,0,4,[.agg [.int .i64 t.k,.str t.s,.int .i64 t.o,.aa false (ae t.l)]]⟩])=true:=(hH.db (HV.one (by simp))).closed;have f1:(H++[⟨.m,0,4,[.agg [.int .i64 t.k,.str t.s,.int .i64 t.o,.aa false (ae t.l)]]⟩])[i1]?=some ⟨.m,0,4,[.agg [.int .i64 u.k,.str u.s,.int .i64 u.o,.aa false (ae u.l)]]⟩:=by rw[abW WE];exact h1
 rw[ar t]at g1 g2 g3 k0 ⊢
 cases hp:dg t gq
 ·rw[hp,if_neg (by simp)]at hO;rw[hp]at g1
  cases hg:dg t iN
  ·rw[hg,if_neg (by simp)]at hO;rw[hg]at g2
   cases he:dg t iW ||dg t fK
   ·rw[he,if_neg (by simp)]at hO;rw[he]at g3;rw[hO];refine ay.x T6 Tryz.func272 rfl ?_;refine wA ?_;refine .p g1 ?_;refine wA ?_;refine .p g2 ?_;refine wA ?_;refine .p g3 ?_;refine wA ?_;exact⟨rfl,(iF.refl _).db (HV.one (by simp))⟩
   ·rw[he,if_pos rfl]at hO;rw[he]at g3
    have dp:t.l.length=2:=by
     rw[acs]at he;rcases he with he |he;exact Ay hv he yr.2.1;exact Ay hv he yr.2.2.1
    have cC:=nk (t:=t) (i:=0) (by omega);have b1:=fY (kc (t:=t) (i:=0) (by omega));have q1:=nZ (eN t 0) u (by omega) (by omega);generalize hM:eN t 0=M at *;rw[hO]
    by_cases hkE:jH t=0
    ·have hbK:ax (ck t)<10000000:=by
      obtain⟨_,hk⟩:=lL hkE;rcases hk with⟨_,e⟩|⟨_,e1,e⟩;rw[e];have:=fY (kc (t:=t) (i:=1) (by omega));omega
      ·have iB:=kc (t:=t) (i:=1) (by omega);obtain⟨c,RY⟩:=tu (pf hv iB) e1 yr.2.2.2.2;rw[e];have b2:=fY iB;have b3:=fY (kc (t:=eN t 1) (i:=0) (by rw[RY];simp));omega
     have q2:=hs.has hbK;generalize ck t=K at *;have Hi:aV (H++[⟨.m,0,4,[.agg [.int .i64 t.k,.str t.s,.int .i64 t.o,.aa false (ae t.l)]]⟩]++[⟨.m,0,4,[.agg [.int .i64 K.k,.str K.s,.int .i64 K.o,.aa false (ae K.l)]]⟩])=true:=((hH.db (HV.one (by simp))).db (HV.one (by simp))).closed;have f3:(H++[⟨.m,0,4,[.agg [.int .i64 t.k,.str t.s,.int .i64 t.o,.aa false (ae t.l)]]⟩]++[⟨.m,0,4,[.agg [.int .i64 K.k,.str K.s,.int .i64 K.o,.aa false (ae K.l)]]⟩])[i1]?=some ⟨.m,0,4,[.agg [.int .i64 u.k,.str u.s,.int .i64 u.o,.aa false (ae u.l)]]⟩:=by rw[abW (by simp;omega)];exact f1
     have f4:(H++[⟨.m,0,4,[.agg [.int .i64 t.k,.str t.s,.int .i64 t.o,.aa false (ae t.l)]]⟩]++[⟨.m,0,4,[.agg [.int .i64 K.k,.str K.s,.int .i64 K.o,.aa false (ae K.l)]]⟩])[i2]?=some ⟨.m,0,1,[.aa false (ae s)]⟩:=by rw[abW (by simp;omega),abW aaY];exact h2
     rw[ar K]at k0 q2;rw[ar M,ar u]at q1;rw[hkE]at k0 ⊢;refine ay.x T6 Tryz.func272 rfl ?_;refine wA ?_;refine .p g1 ?_;refine wA ?_;refine .p g2 ?_;refine wA ?_;refine .p g3 ?_;refine wA ?_;refine .p k0 ?_;refine wA ?_;refine .p q1 ?_
     by_cases hq:aW M u=0
     ·rw[decide_eq_true hq];refine wA ?_;refine .p q2 ?_;refine wA ?_;exact⟨by cases bJ s K <;>rfl,((iF.refl _).db (HV.one (by simp))).db (HV.one (by simp))⟩
     ·rw[decide_eq_false hq];refine wA ?_;exact⟨rfl,((iF.refl _).db (HV.one (by simp))).db (HV.one (by simp))⟩
    ·rw[ar (ck t)]at k0;rw[decide_eq_false hkE];generalize ck t=K at *;have Hi:aV (H++[⟨.m,0,4,[.agg [.int .i64 t.k,.str t.s,.int .i64 t.o,.aa false (ae t.l)]]⟩]++[⟨.m,0,4,[.agg [.int .i64 K.k,.str K.s,.int .i64 K.o,.aa false (ae K.l)]]⟩])=true:=((hH.db (HV.one (by simp))).db (HV.one (by simp))).closed;refine ay.x T6 Tryz.func272 rfl ?_;refine wA ?_;refine .p g1 ?_;refine wA ?_;refine .p g2 ?_;refine wA ?_;refine .p g3 ?_;refine wA ?_;refine .p k0 ?_;refine wA ?_;exact⟨rfl,((iF.refl _).db (HV.one (by simp))).db (HV.one (by simp))⟩
  ·rw[hg,if_pos rfl]at hO;rw[hg]at g2;have dp:=Ay hv hg yr.2.2.2.1;have cC:=nk (t:=t) (i:=0) (by omega);have b1:=fY (kc (t:=t) (i:=0) (by omega));have q1:=nZ (eN t 0) u (by omega) (by omega);generalize hM:eN t 0=M at *;rw[hO];rw[ar M,ar u]at q1;refine ay.x T6 Tryz.func272 rfl ?_;refine wA ?_;refine .p g1 ?_;refine wA ?_;refine .p g2 ?_;refine wA ?_;refine .p q1 ?_;refine wA ?_;exact⟨rfl,(iF.refl _).db (HV.one (by simp))⟩
 ·rw[hp,if_pos rfl]at hO;rw[hp]at g1;have dp:=Ay hv hp yr.1;have cC:=nk (t:=t) (i:=0) (by omega);have DV:=nk (t:=t) (i:=1) (by omega);have b1:=fY (kc (t:=t) (i:=0) (by omega));have b2:=fY (kc (t:=t) (i:=1) (by omega));have q1:=nZ (eN t 0) u (by omega) (by omega);have q2:=nZ (eN t 1) u (by omega) (by omega);generalize hM:eN t 0=M at *;generalize hM1:eN t 1=M1 at *;rw[hO];rw[ar M,ar u]at q1;rw[ar M1,ar u]at q2;refine ay.x T6 Tryz.func272 rfl ?_;refine wA ?_;refine .p g1 ?_;refine wA ?_;refine .p q1 ?_
  by_cases hq:aW M u=0
  ·rw[decide_eq_true hq];refine wA ?_;exact⟨rfl,(iF.refl _).db (HV.one (by simp))⟩
  ·rw[decide_eq_false hq];refine wA ?_;refine .p q2 ?_;refine wA ?_;exact⟨by rw[ado];rfl,(iF.refl _).db (HV.one (by simp))⟩
theorem HA(s:List Tm)(hs:kS s)(hv:∀t∈s,gY t=0)(u:Tm)(hu:ax u<10000000):aI C 211 [.aa false (ae s),enc u] (.bool (vY s u)):=by
 have hlen:=hs.len;obtain⟨B,hB⟩:∃B:ab,B=[⟨.m,0,1,[.aa false (ae s)]⟩,⟨.m,0,4,[.agg [.int .i64 u.k,.str u.s,.int .i64 u.o,.aa false (ae u.l)]]⟩]:=⟨_,rfl⟩;have XG:B[0]?=some ⟨.m,0,1,[.aa false (ae s)]⟩:=by rw[hB];rfl
 have hB1:B[1]?=some ⟨.m,0,4,[.agg [.int .i64 u.k,.str u.s,.int .i64 u.o,.aa false (ae u.l)]]⟩:=by rw[hB];rfl
 have hBv:HV B:=by rw[hB];exact HV.yn ⟨by simp,by simp⟩ ⟨by simp,by simp⟩
 have hc:=Ju s 272 [.ptr 1 0 0 0,.ptr 0 0 0 0] (v8 s u) B (by omega) (λx hx=>iA.opened λH' hE=>HC s hs u x hu (hs.bk x hx) (hv x hx) 1 0 H' (hE.hv hBv) (hE.at hB1) (hE.at XG));have hR:vY s u=s.any (v8 s u):=rfl;rw[hR];rw[ar];refine aI.x T6 Tryz.func211 rfl ?_;refine wA ?_;rw[<-hB];refine .ex hc (λh' hE=>?_);refine wA ?_;exact⟨_,rfl,rfl⟩
theorem EW(t:Tm)(hb:ax t<10000000):aI C 308 [enc t,.aa false [],enc t] (.cA [enc t,.int .i64 0]):=by
 have h1:=nL t (by omega);rw[ar]at h1 ⊢;refine aI.x T6 Tryz.func308 rfl ?_;refine wA ?_;refine .p h1 ?_;refine wA ?_;refine cU.zip T6 ([]:List Tm) (λp q L K=>L=[(5,.ptr 1 0 0 0),(6,.ptr 2 0 0 0),(8,.ptr 3 0 0 0),(9,.ptr 3 0 0 0),(14,.aa false []),(15,.int .i64 0),(16,.int .i64 p.length)]/\K=[⟨.m,0,4,[.agg [.int .i64 t.k,.str t.s,.int .i64 t.o,.aa false (ae t.l)]]⟩,⟨.m,0,4,[.agg [.int .i64 t.k,.str t.s,.int .i64 t.o,.aa false (ae t.l)]]⟩,⟨.m,0,4,[PV.agg [.int .i64 0,.str ByteArray.empty,.int .i64 0,.aa true []]]⟩,⟨.m,0,4,[.agg [.int .i64 t.k,.str t.s,.int .i64 t.o,.aa false (ae t.l)]]⟩]) (.nx ⟨rfl,rfl⟩) ?_ ?_
 ·rintro p u q _ K O e _
  cases p <;>cases e
 ·rintro _ _ O ⟨rfl,rfl⟩;refine wA ?_;refine .p h1 ?_;refine wA ?_;exact jE
def ow(u:Tm):PV:=.agg [.int .i64 u.k,.str u.s,.int .i64 u.o,if u.l.length=0 then .aa true []else .aa false (ae u.l)]
theorem WQ(u:Tm):cj (ow u)=enc u:=by
 rw[ar];unfold ow
 split
 ·rename_i h
  have:u.l=[]:=acd h;simp[cj,aQ,this,ae]
 simp[cj,aQ,aZ]
theorem HF(u:Tm):aU (ow u)=true:=by
 unfold ow
 split <;>simp[aU,ao]
theorem bv(l:List Tm)(hl:l.length<10000000)(hb:∀t∈l,ax t<10000000)(ih:∀t∈l,aI C 249 [.aa false (ae t.l)] (.aa false (ae t.l))):aI C 249 [.aa false (ae l)] (.aa false (ae l)):=by
 have cz:=ai l;refine aI.x T6 Tryz.func249 rfl ?_;refine wA ?_;refine cU.zip T6 l (λp q L H=>L=[(3,.ak 0 0 0 (ae l).length),(9,.aa false (ae l)),(10,.int .i64 (ae l).length),(11,.int .i64 p.length)]/\HV H/\H[0]?=some ⟨.m,0,4,p.map ow++List.replicate q.length (PV.agg [.int .i64 0,.str ByteArray.empty,.int .i64 0,.aa true []])⟩) (.nx ⟨rfl,HV.one (by rw[bw,abX];intro y hy;rw[acY hy];rfl),by rw[cz];rfl⟩) ?_ ?_
 ·rintro p u q _ H O e ⟨rfl,hH,h0⟩;have cC:=ba e;have dp:=lenE e;have hu:u∈l:=by rw[e];simp
  have h1:=EW u (hb u hu);have h2:=ih u hu;have Qr:=ai u.l;rw[ar]at h1;have jR:(p.map ow).length=p.length:=acW _
  have e0:(p.map ow++List.replicate (u::q).length (PV.agg [.int .i64 0,.str ByteArray.empty,.int .i64 0,.aa true []]))[0+p.length]?=some (PV.agg [.int .i64 0,.str ByteArray.empty,.int .i64 0,.aa true []]):=by
   rw[acf,ab6 (by omega),jR,ade];rfl
  have f0:(H++[⟨.m,0,4,[.agg [.int .i64 u.k,.str u.s,.int .i64 u.o,.aa false (ae u.l)]]⟩])[0]?=some ⟨.m,0,4,p.map ow++List.replicate (u::q).length (PV.agg [.int .i64 0,.str ByteArray.empty,.int .i64 0,.aa true []])⟩:=by rw[abW (ag h0)];exact h0
  have WM:(H++[⟨.m,0,4,[.agg [.int .i64 u.k,.str u.s,.int .i64 u.o,.aa false (ae u.l)]]⟩])[H.length]?=some ⟨.m,0,4,[.agg [.int .i64 u.k,.str u.s,.int .i64 u.o,.aa false (ae u.l)]]⟩:=by simp
  have uj:(p.map ow++List.replicate (u::q).length (PV.agg [.int .i64 0,.str ByteArray.empty,.int .i64 0,.aa true []])).length=(ae l).length:=by simp[cz,dp]
  refine wA ?_;refine .p h1 ?_;refine wA ?_;obtain⟨bx,ZC⟩:∃bx:aw,bx=⟨.m,0,4,[.agg [.int .i64 u.k,.str u.s,.int .i64 u.o,.aa false (ae u.l)]]⟩:=⟨_,rfl⟩;obtain⟨A1,DI⟩:∃A1:List PV,A1=(p.map ow++List.replicate (u::q).length (PV.agg [.int .i64 0,.str ByteArray.empty,.int .i64 0,.aa true []])).set (0+p.length) (.agg [.int .i64 u.k,.str u.s,.int .i64 u.o,.aa false (ae u.l)]):=⟨_,rfl⟩;obtain⟨K1,QA⟩:∃K1:ab,K1=(H++[(⟨.m,0,4,[.agg [.int .i64 u.k,.str u.s,.int .i64 u.o,.aa false (ae u.l)]]⟩:aw)]).set 0 (⟨.m,0,4,A1⟩:aw):=⟨_,rfl⟩;have Mz:=ag h0;have c0:K1[0]?=some ⟨.m,0,4,A1⟩:=by rw[QA];exact abY (by simp)
  have cb:K1[H.length]?=some bx:=by rw[QA,ab0 (by omega),ZC];exact WM
  have ea:A1[0+p.length]?=some (.agg [.int .i64 u.k,.str u.s,.int .i64 u.o,.aa false (ae u.l)]):=by rw[DI];exact abY (by rw[uj];omega)
  have QD:A1.length=(ae l).length:=by rw[DI,aer];exact uj
  rw[<-DI,<-QA];rw[ZC]at cb;refine wA ?_;refine .p h2 ?_;refine wA ?_;rw[dj ea,dj c0];have hw:ow u=.agg [.int .i64 u.k,.str u.s,.int .i64 u.o,if u.l.length=0 then .aa true []else .aa false (ae u.l)]:=rfl
  have Jy:∀x:PV,(p.map ow++List.replicate (u::q).length (PV.agg [.int .i64 0,.str ByteArray.empty,.int .i64 0,.aa true []])).set (0+p.length) x=(p.map ow++[x])++List.replicate q.length (PV.agg [.int .i64 0,.str ByteArray.empty,.int .i64 0,.aa true []]):=λx=>by
   rw[acf,adm _ _ (by omega),jR,ade];simp[List.replicate_succ]
  have ZD:HV K1:=by
   rw[QA];refine(hH.db (HV.one (by simp))).set 0 (by simp) ?_;rw[DI,Jy,dF,dF];have v1:ao (p.map ow)=true:=by rw[bw,abX];intro y hy;obtain⟨t,_,rfl⟩:=aci.1 hy;exact HF t
   have v2:ao (List.replicate q.length (PV.agg [.int .i64 0,.str ByteArray.empty,.int .i64 0,.aa true []]))=true:=by rw[bw,abX];intro y hy;rw[acY hy];rfl
   rw[v1,v2];simp[ao,aU]
  refine wC (λhc=>?_) λhc=>?_
  ·have h0u:u.l.length=0:=by omega
   refine .nx ⟨rfl,ZD.set 0 (by simp) ?_,?_⟩
   ·show ao (A1.set (0+p.length) (.agg [.int .i64 u.k,.str u.s,.int .i64 u.o,.aa true []]))=true;rw[DI,ac4,Jy,dF,dF];have v1:ao (p.map ow)=true:=by rw[bw,abX];intro y hy;obtain⟨t,_,rfl⟩:=aci.1 hy;exact HF t
    have v2:ao (List.replicate q.length (PV.agg [.int .i64 0,.str ByteArray.empty,.int .i64 0,.aa true []]))=true:=by rw[bw,abX];intro y hy;rw[acY hy];rfl
    rw[v1,v2];rfl
   ·rw[abY (ag c0)]
    have:A1.set (0+p.length) (.agg [.int .i64 u.k,.str u.s,.int .i64 u.o,.aa true []])=(p++[u]).map ow++List.replicate q.length (PV.agg [.int .i64 0,.str ByteArray.empty,.int .i64 0,.aa true []]):=by
     rw[DI,ac4,Jy,acK,acg,acr,hw,if_pos h0u]
    rw[<-this]
  ·have h0u:¬u.l.length=0:=by omega
   refine .nx ⟨rfl,ZD,?_⟩;rw[c0,DI,Jy,acK,acg,acr,hw,if_neg h0u]
 ·rintro _ H O ⟨rfl,hH,h0⟩;have h0:H[0]?=some ⟨.m,0,4,l.map ow++[]⟩:=h0;refine wA ?_;exact iL h0 (by simp[cz]) (by rw[bw,abX];intro y hy;obtain⟨t,_,rfl⟩:=aci.1 hy;exact HF t) (by rw[cL,adY,dm];exact acZ λt _=>WQ t)
theorem SE(t:Tm):ax t<10000000->aI C 249 [.aa false (ae t.l)] (.aa false (ae t.l)):=by
 induction t using Tm.ind with
 |h k s o l ih=>
  intro hb
  have:=aY l;simp only[ax]at hb;exact bv l (by omega) (λt ht=>by have:=bD ht;omega) λt ht=>ih t ht (by have:=bD ht;omega)
theorem ce(u:Tm)(hb:ax u<10000000):aI C 249 [.aa false (ae [u])] (.aa false (ae [u])):=
 bv [u] (by simp) (λt ht=>by simp at ht;rw[ht];exact hb) λt ht=>by simp at ht;rw[ht];exact SE u hb
theorem pt(u:Tm)(h1:dg u il=false)(h2:dg u u7=false):aI C 248 [enc u] (.aa false (ae [u])):=by
 have e1:dg u il=(decide (u.k=3)&& (u.s.toList==(⟨#[122,101,114,111]⟩:ByteArray).toList)):=rfl;have e2:dg u u7=(decide (u.k=3)&& (u.s.toList==(⟨#[120,111,114]⟩:ByteArray).toList)):=rfl;rw[h1]at e1;rw[h2]at e2;have hu:ae [u]=[.agg [.int .i64 u.k,.str u.s,.int .i64 u.o,.aa false (ae u.l)]]:=by rw[ae,ar];rfl
 rw[hu,ar]
 by_cases hk:u.k=3
 ·rw[decide_eq_true hk,ada]at e1 e2;have n1:¬u.s.toList=(⟨#[122,101,114,111]⟩:ByteArray).toList:=by simpa using e1.symm
  have n2:¬u.s.toList=(⟨#[120,111,114]⟩:ByteArray).toList:=by simpa using e2.symm
  refine aI.x T6 Tryz.func248 rfl ?_;refine wA ?_;exact⟨_,rfl,by simp[aR,cj,aQ,aZ]⟩
 ·refine aI.x T6 Tryz.func248 rfl ?_;refine wA ?_;exact⟨_,rfl,by simp[aR,cj,aQ,aZ]⟩
theorem yT(u:Tm)(hv:valid u=0)(hb:ax u<10000000):aI C 246 [.aa false [],.aa false (ae [u])] (.int .i64 0):=by
 have h1:=(fU u (by omega)).nine;rw[hv]at h1;have rL:dS [] (.aa true [.aa false [],.aa false (ae [u])]) (.aa false []) (.aa false (ae [u])):=.inl rfl;have SC:=(AV [] [u] [] _ _ _ rL (.inr ⟨_,rfl⟩) (.inr ⟨_,rfl⟩) (by simp)).nine;have hu:ae [u]=[.agg [.int .i64 u.k,.str u.s,.int .i64 u.o,.aa false (ae u.l)]]:=by rw[ae,ar];rfl
 rw[ar]at h1;rw[acD]at SC;refine aI.x T6 Tryz.func246 rfl ?_;refine wA ?_;refine .opened rfl (SC.mono λr h' hr=>?_)
 obtain⟨ep,rfl,rfl⟩:∃ep,r=.ak 0 ep 0 (ae [u]).length/\h'=[⟨.m,ep,4,ae [u]⟩]:=by
  rcases hr with⟨h,_⟩|⟨ep,h1,h2⟩;simp at h;exact⟨ep,h1,h2⟩
 rw[if_neg (by simp[dV,cN,dU])];have ho:Out 4 [⟨.m,ep,4,ae [u]⟩] (.ak 0 ep 0 (ae [u]).length) (ae [u]):=.inr ⟨0,ep,rfl,rfl⟩;rw[hu]at ho ⊢;refine wA ?_;refine cU.zip T6 [u] (λp q L H=>L=[(14,.ak 0 ep 0 1),(15,.int .i64 1),(16,.int .i64 p.length)]/\HV H/\H[0]?=some ⟨.m,ep,4,[.agg [.int .i64 u.k,.str u.s,.int .i64 u.o,.aa false (ae u.l)]]⟩) (.nx ⟨rfl,HV.one (by simp),rfl⟩) ?_ ?_
 ·rintro p x q _ H O e ⟨rfl,hH,h0⟩
  obtain⟨rfl,rfl,rfl⟩:p=[]/\x=u/\q=[]:=by
   cases p with
   |nil=>simp at e;exact⟨rfl,e.1.symm,e.2⟩
   |cons a p=>simp at e
  have XT:([]:List Tm).length=0:=rfl;refine wA ?_;refine .p h1 ?_;refine wA ?_;exact .nx ⟨rfl,hH.db (HV.one (by simp)),by rw[abW (ag h0)];exact h0⟩
 ·rintro _ H O ⟨rfl,hH,h0⟩;have h01:[u].length=1:=rfl;refine wA ?_;exact⟨_,rfl,rfl⟩
theorem Lk(u:Tm)(hv:valid u=0)(hb:ax u<10000000)(h1:dg u il=false)(h2:dg u u7=false):aI C 275 [enc u] (.cA [.aa false (ae [u]),.int .i64 0]):=by
 have g1:=yT u hv hb;have g2:=pt u h1 h2;have g3:=ce u hb;have hu:ae [u]=[.agg [.int .i64 u.k,.str u.s,.int .i64 u.o,.aa false (ae u.l)]]:=by rw[ae,ar];rfl
 rw[hu]at g1 g2 g3 ⊢;rw[ar]at g2 ⊢;refine aI.x T6 Tryz.func275 rfl ?_;refine wA ?_;refine .p g1 ?_;refine wA ?_;refine .p g2 ?_;refine wA ?_;refine .p g3 ?_;refine wA ?_;exact⟨_,rfl,by simp[aR,cj,aQ,aZ]⟩
end bC
open Go.Proofs
theorem W4{cs A B:List Tm}{u:Tm}(e:cs=A++u::B)(hs:fu cs){m:Nat}{w:Tm}(hm:cs[m]?=some w):aW w u<0↔m<A.length:=by
 subst e;have h:=adE.1 hs;rcases adF m A.length with h1 |h1 |h1
 ·rw[abW h1]at hm;exact⟨λ_=>h1,λ_=>h.2.2 w (acb hm) u (by simp)⟩
 ·subst h1;simp at hm;subst hm;rw[cc];omega
 ·rw[ab6 (by omega)]at hm
  have h2:(u::B)[m - A.length]?=B[m - A.length - 1]?:=by
   rw[show m - A.length=(m - A.length - 1)+1 by omega];simp
  rw[h2]at hm;have h3:=(acm.1 h.2.1).1 w (acb hm);have ng:=eI u w;omega
theorem Fj{p:List Pw}{u t:Tm}{n:Int}(h:aW u t≠0):vI (p++[(u,n)]) t=vI p t:=by
 induction p with
 |nil=>simp[vI,h]
 |cons y p ih=>rw[aco,vI,vI,ih]
theorem SU{cs A B:List Tm}{u:Tm}{p:List Pw}{n:Int}(e:cs=A++u::B)(hs:fu cs)(hp:∀y∈p,aW y.1 u≠0):(gb (cs.map (vI p))).set A.length (.int .i64 n)=gb (cs.map (vI (p++[(u,n)]))):=by
 subst e;have h:=adE.1 hs;have hA:A.map (vI p)=A.map (vI (p++[(u,n)])):=acZ λt ht=>(Fj (by have:=h.2.2 t ht u (by simp);have:=eI t u;omega)).symm
 have hB:B.map (vI p)=B.map (vI (p++[(u,n)])):=acZ λt ht=>(Fj (by have:=(acm.1 h.2.1).1 t ht;omega)).symm
 have hu:vI (p++[(u,n)]) u=n:=Nk (q:=[]) hp (cc u);simp only[gb,acK,acg,hA,hB,hu];rw[adm _ _ (by simp)];simp
attribute [local irreducible] aD az aL aJ Ev ah aj ay bg
theorem EX(cs A B:List Tm)(u:Tm)(e:cs=A++u::B)(hs:fu cs)(hl:cs.length<100000000)(hb:∀t∈cs,ax t<1000000000):
  aI C 386 [.aa false (ae cs),enc u,.fn 52 []] (.cA [.int .i64 A.length,.bool true]):=by
 have hle:A.length<cs.length:=by rw[e];simp
 have cz:=ai cs;have Qr:cs[A.length]?=some u:=by rw[e];simp
 have hub:ax u<1000000000:=hb u (by rw[e];simp)
 have elem:∀m,m<cs.length->∃w,cs[m]?=some w/\(ae cs)[m]?=some (.agg [.int .i64 w.k,.str w.s,.int .i64 w.o,.aa false (ae w.l)])/\aI C 52 [.agg [.int .i64 w.k,.str w.s,.int .i64 w.o,.aa false (ae w.l)],.agg [.int .i64 u.k,.str u.s,.int .i64 u.o,.aa false (ae u.l)]] (.int .i64 (aW w u)):=λm hm=>by
  have h1:cs[m]?=some cs[m]:=ab1 hm;refine⟨_,h1,gX h1,?_⟩;rw[<-ar,<-ar];exact eY _ _ (hb _ (acb h1)) hub
 have Qm:∀m w,cs[m]?=some w->(aW w u<0↔m<A.length):=λm w hm=>W4 e hs hm
 have hz:=cc u;generalize A.length=LB at *;rw[ar];refine aI.x T6 Tryz.func386 rfl ?_;refine wA ?_;refine cU.nat T6 (λk L H=>∃i j:Nat,L=[(0,.aa false (ae cs)),(2,.fn 52 []),(4,.ptr 0 0 0 0),(8,.int .i64 (ae cs).length),(9,.int .i64 i),(10,.int .i64 j)]/\H=[⟨.m,0,4,[.agg [.int .i64 u.k,.str u.s,.int .i64 u.o,.aa false (ae u.l)]]⟩]/\k=j - i/\i<=LB/\LB<=j/\j<=cs.length) cs.length (.nx ⟨0,(ae cs).length,rfl,rfl,by omega,by omega,by omega,by omega⟩) ?_;rintro k _ _ O ⟨i,j,rfl,rfl,hk,i1,i2,i3⟩
 by_cases Ks:i<j
 ·obtain⟨m,hmm⟩:∃m:Nat,((i:Int)+j) / 2=m:=⟨(i+j) / 2,by omega⟩;obtain⟨w,h1,cC,rU⟩:=elem m (by omega);have QN:=Qm m _ h1;refine wA ?_;refine .mk (n:=m) ?_ hmm cC;refine wA ?_;refine .p rU ?_;refine wC (λhc=>?_) λhc=>?_;exact .nx ⟨j - (m+1),by omega,m+1,j,rfl,rfl,rfl,by omega,by omega,by omega⟩;exact .nx ⟨m - i,by omega,i,m,rfl,rfl,rfl,by omega,by omega,by omega⟩
 ·have hi:i=LB:=by omega
  subst hi;obtain⟨w,h1,cC,rU⟩:=elem i hle;rw[Qr]at h1;obtain rfl:=abV h1;rw[hz]at rU;refine wA ?_;refine .p rU ?_;refine wA ?_
  all_goals exact⟨_,rfl,by simp[aR,cj,aQ, *]⟩
end Go.Pm
