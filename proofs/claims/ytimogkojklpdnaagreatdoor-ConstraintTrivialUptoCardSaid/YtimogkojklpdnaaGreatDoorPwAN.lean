/-
  Pm, a part. Conditions: none.
-/
import Derived.Test.YtimogkojklpdnaaGreatDoorPwAM
set_option linter.unusedVariables false
set_option linter.unusedSimpArgs false
set_option linter.unnecessarySimpa false
namespace Go.Pm
namespace bC
open Go.Proofs
attribute [local irreducible] aD az aL aJ Ev ah aj ay bg bN
set_option maxRecDepth 4000
theorem jj(s:ByteArray)(n:Int):aI C 44 [.str s,.int .i64 n] (enc (.mk 2 s n [])):=by
 rw[bh];refine aI.x T6 Tryz.func44 rfl ?_;refine wA ?_;exact⟨_,rfl,by simp[aR,cj,aQ]⟩
theorem Kz:aI C 66 [] (.aa false (ae qT)):=aI.iS (n:=40) (by kernel_rfl)
theorem GS(x:List Nat):aI C 63 [.aa false (fM x)] (.bool (decide (20<x.length))):=by
 have cz:=nQ x;refine aI.x T6 Tryz.func63 rfl ?_;refine wC (λhc=>?_) λhc=>?_;exact⟨_,rfl,by rw[decide_eq_true (by omega)];rfl⟩;exact⟨_,rfl,by rw[decide_eq_false (by omega)];rfl⟩
theorem I9{h:ab}{k o:Int}{n:ByteArray}{es:List PV}{x:PV}(hv:ao es=true:=by simp)(hm:aQ es=es:=by simp)(hx:jP h x=some x:=by rfl)(hn:cj x=x:=by rfl):∃r1,rb h (aR [.agg (List.take (3+1) (List.drop 0 (cells (.agg [.int .i64 k,.str n,.int .i64 o,.aa false es])))),x])=some r1/\cj r1=.cA [.agg [.int .i64 k,.str n,.int .i64 o,.aa false es],x]:=by
 refine⟨.cA [.agg [.int .i64 k,.str n,.int .i64 o,.aa false es],x],?_,by simp[cj,aQ,hn,hm]⟩;simp only[aR,rb,gC,hx];simp[jP,oJ,pD,cells,aU]
theorem XC:enc GK=.agg [.int .i64 2,.str ⟨#[97]⟩,.int .i64 1,.aa false []]:=by rw[GK,bh,l8]
theorem exB:enc Uc=.agg [.int .i64 2,.str ⟨#[98]⟩,.int .i64 1,.aa false []]:=by rw[Uc,bh,l8]
theorem I'(s:ByteArray)(t:Tm){v:PV}(h:enc t=v):aI C 43 [.str s,.aa false [v]] (.agg [.int .i64 3,.str s,.int .i64 0,.aa false [v]]):=by
 have a:=(nR s [t] (by simp)).nine;rw[bh,ae,h]at a;exact a
theorem Uh(s:ByteArray)(t u:Tm){v w:PV}(h:enc t=v)(h2:enc u=w):aI C 43 [.str s,.aa false [v,w]] (.agg [.int .i64 3,.str s,.int .i64 0,.aa false [v,w]]):=by
 have a:=(nR s [t,u] (by simp)).nine;rw[bh,ae,ae,h,h2]at a;exact a
theorem exS(a:Tm){v:PV}(h:enc a=v):enc (.mk 3 Ao 0 [a])=.agg [.int .i64 3,.str ⟨#[115,107]⟩,.int .i64 0,.aa false [v]]:=by
 rw[bh,show ae [a]=[enc a] by simp[ae],h]
 rfl
theorem exP(a:Tm){v:PV}(h:enc a=v):enc (.mk 3 F4 0 [.mk 3 Ao 0 [a]])=.agg [.int .i64 3,.str ⟨#[112,107]⟩,.int .i64 0,.aa false [.agg [.int .i64 3,.str ⟨#[115,107]⟩,.int .i64 0,.aa false [v]]]]:=by
 rw[bh,show ae [Tm.mk 3 Ao 0 [a]]=[enc (.mk 3 Ao 0 [a])] by simp[ae],exS a h]
 rfl
theorem uN(t:Tm):ae [t]=[.agg [.int .i64 t.k,.str t.s,.int .i64 t.o,.aa false (ae t.l)]]:=by rw[ae,ar];rfl
theorem Qv(t u:Tm):ae [t,u]=[.agg [.int .i64 t.k,.str t.s,.int .i64 t.o,.aa false (ae t.l)],.agg [.int .i64 u.k,.str u.s,.int .i64 u.o,.aa false (ae u.l)]]:=by rw[ae,ae,ar,ar];rfl
theorem ym(H:ab)(hH:HR H):ay C 65 [] H (λr h'=>r=.aa true (ae vO)/\iF H h'):=by
 have aA:=jj ⟨#[97]⟩ 1;have aB:=jj ⟨#[98]⟩ 1;have aN:=jj ⟨#[110,35,48]⟩ 2;have aM:=jj ⟨#[109,35,49]⟩ 2;have aK:=jj ⟨#[107,35,48]⟩ 3;have aH:=jj ⟨#[104,105]⟩ 5;have aS:=Uh ⟨#[115,104,107]⟩ GK Uc XC exB;have aX:=I' ⟨#[115,107]⟩ Uc exB;have aP:=I' ⟨#[112,107]⟩ (.mk 3 Ao 0 [Uc]) (exS Uc exB);rw[bh,l8]at aA aB aN aM aK aH;refine ay.x T6 Tryz.func65 rfl ?_;refine wA ?_;refine .p aA ?_;refine wA ?_;refine .p aB ?_;have hJ:List.set (List.set (H++[(⟨.m,0,4,[.agg [.int .i64 0,.str ByteArray.empty,.int .i64 0,.aa true []]]⟩:aw)]++[(⟨.m,0,4,[.agg [.int .i64 0,.str ByteArray.empty,.int .i64 0,.aa true []]]⟩:aw)]) H.length ⟨.m,0,4,[.agg [.int .i64 2,.str ⟨#[97]⟩,.int .i64 1,.aa false []]]⟩) (H++[(⟨.m,0,4,[.agg [.int .i64 0,.str ByteArray.empty,.int .i64 0,.aa true []]]⟩:aw)]).length ⟨.m,0,4,[.agg [.int .i64 2,.str ⟨#[98]⟩,.int .i64 1,.aa false []]]⟩=H++[⟨.m,0,4,[.agg [.int .i64 2,.str ⟨#[97]⟩,.int .i64 1,.aa false []]]⟩,⟨.m,0,4,[.agg [.int .i64 2,.str ⟨#[98]⟩,.int .i64 1,.aa false []]]⟩]:=by simp
 refine wA ?_;refine .mk ?_ (bp (o:=(⟨.m,0,4,[.agg [.int .i64 0,.str ByteArray.empty,.int .i64 0,.aa true []]]⟩:aw)) (by simp) rfl (by simp));refine wA ?_;rw[hJ];clear hJ;have hA:(H++[(⟨.m,0,4,[.agg [.int .i64 2,.str ⟨#[97]⟩,.int .i64 1,.aa false []]]⟩:aw),⟨.m,0,4,[.agg [.int .i64 2,.str ⟨#[98]⟩,.int .i64 1,.aa false []]]⟩])[H.length]?=some ⟨.m,0,4,[.agg [.int .i64 2,.str ⟨#[97]⟩,.int .i64 1,.aa false []]]⟩:=by simp
 have hB:(H++[(⟨.m,0,4,[.agg [.int .i64 2,.str ⟨#[97]⟩,.int .i64 1,.aa false []]]⟩:aw),⟨.m,0,4,[.agg [.int .i64 2,.str ⟨#[98]⟩,.int .i64 1,.aa false []]]⟩])[(H++[(⟨.m,0,4,[.agg [.int .i64 0,.str ByteArray.empty,.int .i64 0,.aa true []]]⟩:aw)]).length]?=some ⟨.m,0,4,[.agg [.int .i64 2,.str ⟨#[98]⟩,.int .i64 1,.aa false []]]⟩:=by simp
 have pE:HR (H++[(⟨.m,0,4,[.agg [.int .i64 2,.str ⟨#[97]⟩,.int .i64 1,.aa false []]]⟩:aw),⟨.m,0,4,[.agg [.int .i64 2,.str ⟨#[98]⟩,.int .i64 1,.aa false []]]⟩]):=hH.du (HV.yn ⟨by simp,by simp⟩ ⟨by simp,by simp⟩);refine .mk _ (by simpa[aQ,cj]using aN) ?_;refine wA ?_;refine .mk _ (by simpa[aQ,cj]using aM) ?_;refine wA ?_;refine .mk _ (by simpa[aQ,cj]using aK) ?_;refine wA ?_;refine .mk _ (by simpa[aQ,cj]using aS) ?_;refine wA ?_;refine .mk _ (by simpa[aQ,cj]using aX) ?_;refine wA ?_;refine .mk _ (by simpa[aQ,cj]using aP) ?_;refine wA ?_;refine .mk _ (by simpa[aQ,cj]using aH) ?_;refine wA ?_;exact⟨by simp[aR,vO,ae,lfN,lfM,lfK,lfS,lfP,lfH,XC,exB,bh];exact⟨rfl,rfl,rfl⟩,_,HV.yn ⟨by simp,by simp⟩ ⟨by simp,by simp⟩,rfl⟩
theorem qU(b:List Nat)(l:List Tm)(B:Nat)(hb:KA b)(DJ:b.length<100000000)(h0:0<l.length)(uj:l.length<100000000)(hF:Ap B l):∀(f d i:Nat),d+f=3->i<=100000 * d->
  aI C 64 [.aa false (fM b),.int .i64 i,.int .i64 d,.aa false (ae l)] (.cA [enc (iD b l f i).1,.int .i64 (iD b l f i).2])
 |0,d,i,hd,hi=>by
  have cz:=ai l;have heu:=nQ b;have hn:=Cv hb i;have hq:((iz b i:Nat):Int).tdiv 2=((iz b i / 2:Nat):Int):=Vo (iz b i) 2;have ht:((iz b i:Nat):Int).tmod 2=((iz b i % 2:Nat):Int):=NN (iz b i) 2;have nh:=yo (l:=l) (i:=iz b i / 2 % (ae l).length) (by rw[cz];exact aes _ h0);have hR:iD b l 0 i=(l.getD (iz b i / 2 % (ae l).length) fW,i+1):=by rw[cz];rfl
  rw[hR];dsimp only;generalize l.getD (iz b i / 2 % (ae l).length) fW=g at *;rw[ar]at nh;rw[ar]
  by_cases F5:i<b.length
  ·have cC:=qf F5;refine aI.x T6 Tryz.func64 rfl ?_;refine wA ?_;exact jE
  ·have hz:=Cw F5;rw[hz,Nat.zero_div,Nat.zero_mod]at nh;refine aI.x T6 Tryz.func64 rfl ?_;refine wA ?_;refine .raw 0 rfl ?_;refine wA ?_;exact jE
 |f+1,d,i,hd,hi=>by
  have cz:=ai l;have heu:=nQ b;have hn:=Cv hb i;have hq:((iz b i:Nat):Int).tdiv 2=((iz b i / 2:Nat):Int):=Vo (iz b i) 2;have ht:((iz b i:Nat):Int).tmod 2=((iz b i % 2:Nat):Int):=NN (iz b i) 2;have h6:(((iz b i:Nat):Int).tdiv 2).tmod 6=((iz b i / 2 % 6:Nat):Int):=by rw[hq];exact NN (iz b i / 2) 6
  have nh:=yo (l:=l) (i:=iz b i / 2 % (ae l).length) (by rw[cz];exact aes _ h0);have hgl:NV b l i=l.getD (iz b i / 2 % (ae l).length) fW:=by rw[cz];rfl
  by_cases nJ:iz b i % 2=0
  ·have hR:iD b l (f+1) i=(NV b l i,i+1):=by rw[iD,if_pos nJ]
   rw[hR,hgl];dsimp only;generalize l.getD (iz b i / 2 % (ae l).length) fW=g at *;rw[ar]at nh;rw[ar]
   by_cases F5:i<b.length
   ·have cC:=qf F5;refine aI.x T6 Tryz.func64 rfl ?_;refine wA ?_;exact jE
   ·have hz:=Cw F5;rw[hz,Nat.zero_div,Nat.zero_mod]at nh;refine aI.x T6 Tryz.func64 rfl ?_;refine wA ?_;refine .raw 0 rfl ?_;refine wA ?_;exact jE
  ·have F5:i<b.length:=by
    by_cases h:i<b.length
    exact h;rw[Cw h]at nJ;omega
   have cC:=qf F5;have gk:=yj (b:=b) h0 hF f (i+1);have h2f:2^ (f+1)<=8:=Nat.pow_le_pow_right (by omega) (show f+1<=3 by omega);have hX:=qU b l B hb DJ h0 uj hF f (d+1) (i+1) (by omega) (by omega);have hY:=qU b l B hb DJ h0 uj hF f (d+1) (iD b l f (i+1)).2 (by omega) (by omega);have Qw:iz b i / 2 % 6=0->iD b l (f+1) i=(.mk 3 yh 0 [(iD b l f (i+1)).1],(iD b l f (i+1)).2):=λh=>by rw[iD,if_neg nJ,if_pos h]
   have Qx:iz b i / 2 % 6≠0->iz b i / 2 % 6<=2->iD b l (f+1) i=(.mk 3 iW 0 [(iD b l f (i+1)).1,(iD b l f (iD b l f (i+1)).2).1],(iD b l f (iD b l f (i+1)).2).2):=λh h'=>by rw[iD,if_neg nJ,if_neg h,if_pos h']
   have hR3:iz b i / 2 % 6=3->iD b l (f+1) i=(.mk 3 fK 0 [(iD b l f (i+1)).1,NU],(iD b l f (iD b l f (i+1)).2).2):=λh=>by rw[iD,if_neg nJ,if_neg (by omega),if_neg (by omega),if_pos h]
   have hR4:¬iz b i / 2 % 6<=2->iz b i / 2 % 6≠3->iD b l (f+1) i=(.mk 3 gq 0 [(iD b l f (i+1)).1,(iD b l f (iD b l f (i+1)).2).1],(iD b l f (iD b l f (i+1)).2).2):=λh h'=>by rw[iD,if_neg nJ,if_neg (by omega),if_neg h,if_neg h']
   generalize iD b l (f+1) i=R at *;generalize iD b l f (iD b l f (i+1)).2=Y at *;generalize iD b l f (i+1)=fo at *;obtain⟨x,nx⟩:=fo;obtain⟨y,ny⟩:=Y;simp only at hX hY Qw Qx hR3 hR4
   push_cast at hX hY
   have a1:=(nR ⟨#[104,97,115,104]⟩ [x] (by simp)).nine;have a2:=(nR ⟨#[101,110,99]⟩ [x,y] (by simp)).nine;have a4:=(nR ⟨#[112,97,105,114]⟩ [x,y] (by simp)).nine;rw[ar]at hX hY;rw[bh,uN]at a1;rw[bh,Qv]at a2 a4;refine aI.x T6 Tryz.func64 rfl ?_;refine wA ?_;refine .p hX ?_;refine wC (λhc=>?_) λhc=>?_
   ·rw[Qw (by omega),bh,uN];refine .p a1 ?_;refine wA ?_;exact I9
   ·refine .p hY ?_;refine wI (λhc=>?_) (λhc hc=>?_) λhc hc=>?_
    ·rw[Qx (by omega) (by omega),bh,Qv];refine .p a2 ?_;refine wA ?_;exact I9
    ·rw[hR3 (by omega)]
     have e3:enc (.mk 3 fK 0 [x,NU])=.agg [.int .i64 3,.str ⟨#[97,101,110,99]⟩,.int .i64 0,.aa false [.agg [.int .i64 x.k,.str x.s,.int .i64 x.o,.aa false (ae x.l)],.agg [.int .i64 3,.str ⟨#[112,107]⟩,.int .i64 0,.aa false [.agg [.int .i64 3,.str ⟨#[115,107]⟩,.int .i64 0,.aa false [.agg [.int .i64 2,.str ⟨#[97]⟩,.int .i64 1,.aa false []]]]]]]]:=by
      rw[bh,show ae [x,NU]=[enc x,enc NU] by simp[ae],NU,exP GK XC,ar]
      rfl
     have b1:=jj ⟨#[97]⟩ 1;have b2:=I' ⟨#[115,107]⟩ GK XC;have b3:=I' ⟨#[112,107]⟩ (.mk 3 Ao 0 [GK]) (exS GK XC);have b4:=Uh ⟨#[97,101,110,99]⟩ x NU (ar x) (exP GK XC);rw[bh,l8]at b1;rw[e3]
     skip
     refine .mk _ (by simpa[aQ,cj]using b1) ?_;refine wA ?_;refine .mk _ (by simpa[aQ,cj]using b2) ?_;refine wA ?_;refine .mk _ (by simpa[aQ,cj]using b3) ?_;refine wA ?_;refine .p b4 ?_;refine wA ?_;exact I9
    ·rw[hR4 (by omega) (by omega),bh,Qv];refine .p a4 ?_;refine wA ?_;exact I9
theorem Xk{l:List Tm}(h:∀t∈l,cE t=0):(l.flatMap bL).length<=l.length * 10000:=by
 induction l with
 |nil=>simp
 |cons t l ih=>
  have h1:=ih λx hx=>h x (by simp[hx])
  have h2:=fy t;have h3:=fk (h t (by simp));simp only[adj,ab3,ab9]at h1 ⊢;omega
theorem Tu(b l:List Tm):Dm b l=(fJ (l.flatMap bL)).all λx=>bJ b x:=by
 rw[Bool.eq_iff_iff];unfold Dm;simp only[abX,cq,acL];exact⟨λh x ⟨t,ht,hx⟩=>h t ht x hx,λh t ht x hx=>h x ⟨t,ht,hx⟩⟩
theorem Ep(l:List fq)(hl:l.length<1000000000)(hb:∀d∈l,d.kn.length<10000000/\∀t∈d.kn++[d.tm],ax t<10000000):aI C 31 [.aa false (bV l)] (.int .i64 (kL l)):=by
 have cz:=gv l;refine aI.x T6 Tryz.func31 rfl ?_;refine wC (λhc=>?_) λhc=>?_;exact⟨_,rfl,by rw[kL,if_pos (by omega)];rfl⟩;have WI:kL l=mP none [] l:=by rw[kL,if_neg (by omega)]
 refine cU.zip T6 l (λp q L H=>∃v,L=[(0,.aa false (bV l)),(3,v),(4,.int .i64 p.length)]/\HV H/\Out 4 H v (ae (eU p))/\kL l=mP (ov p) (eU p) q/\∀d∈p,cE d.tm=0) (.nx ⟨_,rfl,HV.nil,.inl ⟨rfl,rfl⟩,WI,by simp⟩) ?_ ?_
 ·rintro p d q _ H O e ⟨v,rfl,hH,ho,hs,hp⟩;have cC:=gL e;have dp:=lenE e;obtain⟨sZ,QC⟩:=hb d (by rw[e];simp);have hon:=Qd d (by omega) QC;have hek:=ai d.kn;rw[o8]at hon
  have SX:bC.bM d≠0->kL l=bC.bM d:=λh=>by
   rw[hs,mP];unfold bC.bM at h ⊢
   by_cases h1:40<d.kn.length
   rw[if_pos h1,if_pos h1]
   ·rw[if_neg h1]at h ⊢;rw[if_neg h1,if_pos h]
  have Z':bC.bM d=0->d.kn.length<=40/\(∀t∈d.kn++[d.tm],cE t=0)/\kL l=if kept (ov p) d.kn=false then 9 else if Dm (eU p) d.kn=false then 13 else mP (some d.kn) (eU p++bL d.tm) q:=λh=>by
   unfold bC.bM at h
   split at h
   cases h
   ·rename_i h1
    exact⟨by omega,qc h,by rw[hs,mP,if_neg h1,if_neg (by omega)]⟩
  refine wA ?_;refine .p hon ?_;refine wC (λhc=>?_) λhc=>?_
  ·obtain⟨abT,Xl,hs⟩:=Z' (by omega);have KT:=BW hp;have DJ:=FN hp;have jR:p.length<41:=by omega
   have Np:=ai (eU p);have Jc:=Xk (l:=d.kn) λt ht=>Xl t (by simp[ht])
   have hvo:=vR d.kn (by omega) (by omega) (λt ht=>by have:=fk (Xl t (by simp[ht]));omega);have G7:=qb (d.kn.flatMap bL);have jt:=ai (fJ (d.kn.flatMap bL))
   have XP:∀x∈fJ (d.kn.flatMap bL),ax x<=10000:=λx hx=>by
    obtain⟨t,ht,hx⟩:=acL.1 ((cq _ _).1 hx);have:=j4 hx;have:=fk (Xl t (by simp[ht]));omega
   have Dp:=fk (Xl d.tm (by simp));have Ko:=nS d.tm (by omega);have RA:=fy d.tm;have nJ:=ai (bL d.tm);have IS:=Tu (eU p) d.kn;rw[ar]at Ko
   by_cases Dq:p=[]
   ·have Uv:kept (ov p) d.kn=true:=by rw[Dq];rfl
    rw[Uv,if_neg (by simp)]at hs;have FX:p.length=0:=by rw[Dq];rfl
    refine cU.zip T6 ([]:List Tm) (λp2 q2 L K=>L=[(0,.aa false (bV l)),(3,v),(4,.int .i64 p.length),(6,.int .i64 p2.length)]/\H=K) (.nx ⟨rfl,rfl⟩) ?_ ?_
    ·rintro p2 u q2 _ K O e2 _
     cases p2 <;>cases e2
    ·rintro _ _ O ⟨rfl,rfl⟩;refine wA ?_;refine .p hvo ?_;refine wA ?_;refine cU.zip T6 (fJ (d.kn.flatMap bL)) (λp4 q4 L K=>L=[(0,.aa false (bV l)),(3,v),(4,.int .i64 p.length),(7,.aa false (ae (fJ (d.kn.flatMap bL)))),(8,.int .i64 p4.length)]/\H=K/\∀x∈p4,bJ (eU p) x=true) (.nx ⟨rfl,rfl,by simp⟩) ?_ ?_
     ·rintro p4 x q4 _ _ O e4 ⟨rfl,rfl,Iz⟩;have NG:=ba e4;have Q9:=lenE e4;have hxb:=XP x (by rw[e4];simp);have UG:=ua (eU p) x (by omega) (by omega) (λt ht=>by have:=KT t ht;omega);rw[ar]at UG;refine wA ?_;refine .XN (.inl ho) UG ?_
      cases hh:bJ (eU p) x
      ·have sG:Dm (eU p) d.kn=false:=by
        rw[IS,adN];exact⟨x,by rw[e4];simp,by simp[hh]⟩
       refine wA ?_;exact⟨_,rfl,by rw[hs,if_pos sG];rfl⟩
      ·refine wA ?_;exact .nx ⟨rfl,rfl,λw hw=>by rcases ab2.1 hw with h |h;exact Iz w h;simp at h;rw[h];exact hh⟩
     ·rintro _ _ O ⟨rfl,rfl,Iz⟩
      have sG:Dm (eU p) d.kn=true:=by
       rw[IS,abX];exact Iz
      rw[sG,if_neg (by simp)]at hs;refine wA ?_;refine .p Ko ?_;refine wG λv H lp=>?_;refine .nx ⟨_,rfl,lp.hv,?_,by rw[kq,jq];exact hs,λw hw=>by rcases ab2.1 hw with h |h;exact hp w h;simp at h;rw[h];exact Xl d.tm (by simp)⟩;have:=lp.out;rw[jq,bS];exact this
   ·obtain⟨p',e0,tT⟩:∃p' e0,p=p'++[e0]:=by
     rcases aeo p with h |⟨a,b,h⟩;exact absurd h Dq;exact⟨a,b,by rw[h];simp⟩
    have rz:=gL (l:=l) (p:=p') (d:=e0) (q:=d::q) (by rw[e,tT];simp);have FX:p.length=p'.length+1:=by rw[tT];simp
    have CC:ov p=some e0.kn:=by rw[tT,kq]
    have he0:=hb e0 (by rw[e,tT];simp);have abU:=ai e0.kn;have DV:(bV l)[p.length]?=some (.agg [.aa false (ae d.kn),.int .i64 d.tm.k,.str d.tm.s,.int .i64 d.tm.o,.aa false (ae d.tm.l)]):=cC;refine cU.zip T6 e0.kn (λp2 q2 L K=>L=[(0,.aa false (bV l)),(3,v),(4,.int .i64 p.length),(6,.int .i64 p2.length)]/\H=K/\∀t∈p2,bJ d.kn t=true) (.nx ⟨rfl,rfl,by simp⟩) ?_ ?_
    ·rintro p2 u q2 _ _ O e2 ⟨rfl,rfl,Ga⟩;have nh:=ba e2;have Cj:=lenE e2;have UG:=ua d.kn u (by have:=he0.2 u (by rw[e2];simp);omega) (by omega) (λt ht=>by have:=fk (Xl t (by simp[ht]));omega);rw[ar]at UG;refine wA ?_;refine .mk (n:=p'.length) ?_ (by omega) rz rfl;refine wA ?_;refine .mk (n:=p'.length) ?_ (by omega) rz rfl;refine wA ?_;refine .p UG ?_
     cases hh:bJ d.kn u
     ·have JN:kept (ov p) d.kn=false:=by
       rw[CC];show(e0.kn.all λt=>bJ d.kn t)=false;rw[adN];exact⟨u,by rw[e2];simp,by simp[hh]⟩
      refine wA ?_;exact⟨_,rfl,by rw[hs,if_pos JN];rfl⟩
     ·refine wA ?_;exact .nx ⟨rfl,rfl,λw hw=>by rcases ab2.1 hw with h |h;exact Ga w h;simp at h;rw[h];exact hh⟩
    ·rintro _ _ O ⟨rfl,rfl,Ga⟩
     have JN:kept (ov p) d.kn=true:=by
      rw[CC];show(e0.kn.all λt=>bJ d.kn t)=true;rw[abX];exact Ga
     rw[JN,if_neg (by simp)]at hs;refine wA ?_;refine .mk (n:=p'.length) ?_ (by omega) rz rfl;refine wA ?_;refine .p hvo ?_;refine wA ?_;refine cU.zip T6 (fJ (d.kn.flatMap bL)) (λp4 q4 L K=>L=[(0,.aa false (bV l)),(3,v),(4,.int .i64 p.length),(7,.aa false (ae (fJ (d.kn.flatMap bL)))),(8,.int .i64 p4.length)]/\H=K/\∀x∈p4,bJ (eU p) x=true) (.nx ⟨rfl,rfl,by simp⟩) ?_ ?_
     ·rintro p4 x q4 _ _ O e4 ⟨rfl,rfl,Iz⟩;have NG:=ba e4;have Q9:=lenE e4;have hxb:=XP x (by rw[e4];simp);have UG:=ua (eU p) x (by omega) (by omega) (λt ht=>by have:=KT t ht;omega);rw[ar]at UG;refine wA ?_;refine .XN (.inl ho) UG ?_
      cases hh:bJ (eU p) x
      ·have sG:Dm (eU p) d.kn=false:=by
        rw[IS,adN];exact⟨x,by rw[e4];simp,by simp[hh]⟩
       refine wA ?_;exact⟨_,rfl,by rw[hs,if_pos sG];rfl⟩
      ·refine wA ?_;exact .nx ⟨rfl,rfl,λw hw=>by rcases ab2.1 hw with h |h;exact Iz w h;simp at h;rw[h];exact hh⟩
     ·rintro _ _ O ⟨rfl,rfl,Iz⟩
      have sG:Dm (eU p) d.kn=true:=by
       rw[IS,abX];exact Iz
      rw[sG,if_neg (by simp)]at hs;refine wA ?_;refine .p Ko ?_;refine wG λv H lp=>?_;refine .nx ⟨_,rfl,lp.hv,?_,by rw[kq,jq];exact hs,λw hw=>by rcases ab2.1 hw with h |h;exact hp w h;simp at h;rw[h];exact Xl d.tm (by simp)⟩;have:=lp.out;rw[jq,bS];exact this
  ·have hx:=SX (by assumption);exact⟨_,rfl,by rw[hx];rfl⟩
 ·rintro _ H O ⟨v,rfl,hH,ho,hs,hp⟩;refine wA ?_;exact⟨_,rfl,by rw[hs,mP];rfl⟩
structure KD(H:ab)(vo vk vb:PV)(s:Qu)(ids:List Nat)(es:List PV):Prop where
 hr:HR H
 oo:Out 5 H vo es
 F7:Aq H ids es s.out
 ok:Out 4 H vk (ae s.kn)
 ob:Out 4 H vb (ae s.bd)
 d1:∀i∈b9 vo,i∉b9 vk/\i∉b9 vb/\i∉ids
 d2:∀i∈b9 vb,i∉b9 vk/\i∉ids
theorem KD.aT{H H':ab}{vo vk vb:PV}{s:Qu}{ids:List Nat}{es:List PV}(M:KD H vo vk vb s ids es)(hr:HR H')(KE:∀j,j<H.length->H'[j]?=H[j]?):KD H' vo vk vb s ids es:=
 ⟨hr,M.oo.of_eq λi hi=>KE i (M.oo.ls i hi),M.F7.of_eq λi hi=>KE i (M.F7.lt i hi),M.ok.of_eq λi hi=>KE i (M.ok.ls i hi),M.ob.of_eq λi hi=>KE i (M.ob.ls i hi),M.d1,M.d2⟩
structure Ui(H:ab)(bi ep:Nat)(b:List Nat)(vo vk vb:PV)(ids:List Nat):Prop where
 at_:∃mu,H[bi]?=some ⟨mu,ep,1,fM b⟩/\(mu=.m\/mu=.f)
 nb:bi∉b9 vo/\bi∉b9 vk/\bi∉b9 vb/\bi∉ids
theorem Ui.aT{H H':ab}{bi ep:Nat}{b:List Nat}{vo vk vb:PV}{ids:List Nat}(B:Ui H bi ep b vo vk vb ids)(KE:∀j,j<H.length->H'[j]?=H[j]?):Ui H' bi ep b vo vk vb ids:=by
 obtain⟨⟨mu,e,hm⟩,nb⟩:=B;exact⟨⟨mu,(KE bi (ag e)).trans e,hm⟩,nb⟩
theorem KF(l:List Nat):dC 1 (fM l):=by
 unfold dC;rw[abX]
 intro v hv
 obtain⟨n,_,rfl⟩:=aci.1 hv
 rfl
theorem Cz{H h':ab}{v r:PV}{sz:Nat}{es:List PV}(a:LR H v sz es r h'){j:Nat}(hj:j<H.length)(hv:j∉b9 v):h'[j]?=H[j]?/\j∉b9 r:=by
 refine⟨a.fr j hj λep n h=>hv (by rw[h];simp[b9]),λhh=>?_⟩;rcases a.b9 j hh with h |h;exact hv h;omega
structure Zc(h:ab)(vk:PV)(kn:List Tm)(g:Tm)(r1:PV)(G1:ab)(r2:PV)(G2:ab):Prop where
 V6:bT C.P 2 (cK [h.length] (h++[(⟨.m,0,4,[.agg [.int .i64 g.k,.str g.s,.int .i64 g.o,.aa false (ae g.l)]]⟩:aw)])) 31 31 (.aa true []) vk=some (r1,G1)
 le1:(cK [h.length] (h++[(⟨.m,0,4,[.agg [.int .i64 g.k,.str g.s,.int .i64 g.o,.aa false (ae g.l)]]⟩:aw)])).length<=G1.length
 kp1:∀(j:Nat) (o:aw),(cK [h.length] (h++[(⟨.m,0,4,[.agg [.int .i64 g.k,.str g.s,.int .i64 g.o,.aa false (ae g.l)]]⟩:aw)]))[j]?=some o->o.mu≠.m->G1[j]?=some o
 at0:(cK [h.length] (h++[(⟨.m,0,4,[.agg [.int .i64 g.k,.str g.s,.int .i64 g.o,.aa false (ae g.l)]]⟩:aw)]))[h.length]?=some ⟨.l,0,4,[.agg [.int .i64 g.k,.str g.s,.int .i64 g.o,.aa false (ae g.l)]]⟩
 at1:G1[h.length]?=some ⟨.l,0,4,[.agg [.int .i64 g.k,.str g.s,.int .i64 g.o,.aa false (ae g.l)]]⟩
 V7:bT C.P 2 G1 31 31 r1 (.aa true [.agg [.int .i64 g.k,.str g.s,.int .i64 g.o,.aa false (ae g.l)]])=some (r2,G2)
 le2:G1.length<=G2.length
 kp2:∀(j:Nat) (o:aw),G1[j]?=some o->o.mu≠.m->G2[j]?=some o
 nl:∀(j:Nat) (o:aw),G2[j]?=some o->o.mu≠.l\/(cK [h.length] (h++[(⟨.m,0,4,[.agg [.int .i64 g.k,.str g.s,.int .i64 g.o,.aa false (ae g.l)]]⟩:aw)]))[j]?=some o
 hr:HR (eG [h.length] (h++[(⟨.m,0,4,[.agg [.int .i64 g.k,.str g.s,.int .i64 g.o,.aa false (ae g.l)]]⟩:aw)]) G2)
 fr:∀j,j<h.length->(eG [h.length] (h++[(⟨.m,0,4,[.agg [.int .i64 g.k,.str g.s,.int .i64 g.o,.aa false (ae g.l)]]⟩:aw)]) G2)[j]?=h[j]?
 out:Out 4 (eG [h.length] (h++[(⟨.m,0,4,[.agg [.int .i64 g.k,.str g.s,.int .i64 g.o,.aa false (ae g.l)]]⟩:aw)]) G2) r2 (ae (kn++[g]))
 vd:∀i∈b9 r2,h.length<=i
theorem Zd{h:ab}(hR:HR h){vk:PV}{kn:List Tm}(o:Out 4 h vk (ae kn))(hn:kn.length<100000000)(g:Tm):∃r1 G1 r2 G2,Zc h vk kn g r1 G1 r2 G2:=by
 have cz:=ai kn;have vH:(cK [h.length] (h++[(⟨.m,0,4,[.agg [.int .i64 g.k,.str g.s,.int .i64 g.o,.aa false (ae g.l)]]⟩:aw)])).length=h.length+1:=by rw[Cu];simp
 have XF:HR (h++[(⟨.m,0,4,[.agg [.int .i64 g.k,.str g.s,.int .i64 g.o,.aa false (ae g.l)]]⟩:aw)]):=hR.du (HV.one (by simp));have hRL:HR (cK [h.length] (h++[(⟨.m,0,4,[.agg [.int .i64 g.k,.str g.s,.int .i64 g.o,.aa false (ae g.l)]]⟩:aw)])):=XF.Rv;have at0:(cK [h.length] (h++[(⟨.m,0,4,[.agg [.int .i64 g.k,.str g.s,.int .i64 g.o,.aa false (ae g.l)]]⟩:aw)]))[h.length]?=some ⟨.l,0,4,[.agg [.int .i64 g.k,.str g.s,.int .i64 g.o,.aa false (ae g.l)]]⟩:=N7 (by simp);have Jc:∀j,j<h.length->(cK [h.length] (h++[(⟨.m,0,4,[.agg [.int .i64 g.k,.str g.s,.int .i64 g.o,.aa false (ae g.l)]]⟩:aw)]))[j]?=h[j]?:=λj hj=>by rw[VZ (by omega),abW hj]
 have oL:Out 4 (cK [h.length] (h++[(⟨.m,0,4,[.agg [.int .i64 g.k,.str g.s,.int .i64 g.o,.aa false (ae g.l)]]⟩:aw)])) vk (ae kn):=o.of_eq λi hi=>Jc i (o.ls i hi)
 obtain⟨r1,G1,V6,a1⟩:=GQ T6 (H:=cK [h.length] (h++[(⟨.m,0,4,[.agg [.int .i64 g.k,.str g.s,.int .i64 g.o,.aa false (ae g.l)]]⟩:aw)])) (st:=31) (xt:=31) (v:=.aa true []) (u:=vk) (es:=[]) (ys:=ae kn) rfl rfl rfl rfl rfl (by decide) rfl rfl (.inl ⟨rfl,rfl⟩) oL.cB (by simp[b9]) (hC _) (by simp;omega)
 have uo:∀i∈b9 r1,h.length+1<=i:=λi hi=>by
  rcases a1.b9 i hi with h1 |h1;simp[b9]at h1;omega
 obtain⟨r2,G2,V7,a2⟩:=GQ T6 (H:=G1) (st:=31) (xt:=31) (v:=r1) (u:=.aa true [.agg [.int .i64 g.k,.str g.s,.int .i64 g.o,.aa false (ae g.l)]]) (es:=[]++ae kn) (ys:=[.agg [.int .i64 g.k,.str g.s,.int .i64 g.o,.aa false (ae g.l)]]) rfl rfl rfl rfl rfl (by decide) rfl rfl a1.out rfl (by simp[b9]) rfl (by simp;omega)
 have zR:∀i∈b9 r2,h.length+1<=i:=λi hi=>by
  rcases a2.b9 i hi with h1 |h1;exact uo i h1;have:=a1.len;omega
 have h1R:=a1.hr hRL (bm _ _ (by simp));have h2R:=a2.hr h1R (bm _ _ (by simp));have dp:h.length+1<=G2.length:=by have:=a1.len;have:=a2.len;omega
 have he:[]++ae kn++[.agg [.int .i64 g.k,.str g.s,.int .i64 g.o,.aa false (ae g.l)]]=ae (kn++[g]):=by rw[bS,acD,uN]
 have o2:=a2.out;rw[he]at o2;refine⟨r1,G1,r2,G2,V6,a1.len,a1.aT,at0,a1.aT _ _ at0 (by simp),V7,a2.len,a2.aT,λj o hj=>?_,h2R.Rx XF (by simp;omega),λj hj=>?_,o2.of_eq λi hi=>GR (by have:=zR i hi;omega),λi hi=>by have:=zR i hi;omega⟩
 ·rcases a2.N5 j o hj with h1 |h1;exact .inl h1;exact a1.N5 j o h1
 ·rw[GR (by omega),a2.fr j (by have:=a1.len;omega) (λhh=>by have:=uo j hh;omega),a1.fr j (by omega) (by simp[b9])];exact Jc j hj
structure aaJ(h:ab)(vo vk vb:PV)(s:Qu)(ids:List Nat)(es:List PV)(g:Tm)(w:PV)(J1:ab)(u:PV)(G3:ab)(r:PV)(G2:ab):Prop where
 V6:bT C.P 1 (h++[(⟨.m,0,4,[.agg [.int .i64 g.k,.str g.s,.int .i64 g.o,.aa false (ae g.l)]]⟩:aw)]) 31 31 (.aa true []) vk=some (w,h++[(⟨.m,0,4,[.agg [.int .i64 g.k,.str g.s,.int .i64 g.o,.aa false (ae g.l)]]⟩:aw)]++J1)
 jl:(J1.all λo=>decide (o.mu≠.l))=true
 ow:Out 4 (h++[(⟨.m,0,4,[.agg [.int .i64 g.k,.str g.s,.int .i64 g.o,.aa false (ae g.l)]]⟩:aw)]++J1) w (ae s.kn)
 vkv:bu (aO (h++[(⟨.m,0,4,[.agg [.int .i64 g.k,.str g.s,.int .i64 g.o,.aa false (ae g.l)]]⟩:aw)])) vk=true
 bs:(ao [.agg [w,.int .i64 g.k,.str g.s,.int .i64 g.o,.aa false (ae g.l)]]=true/\u=.aa true [.agg [w,.int .i64 g.k,.str g.s,.int .i64 g.o,.aa false (ae g.l)]]/\G3=h++[(⟨.m,0,4,[.agg [.int .i64 g.k,.str g.s,.int .i64 g.o,.aa false (ae g.l)]]⟩:aw)]++J1)\/(ao [.agg [w,.int .i64 g.k,.str g.s,.int .i64 g.o,.aa false (ae g.l)]]=false/\u=.ak (h++[(⟨.m,0,4,[.agg [.int .i64 g.k,.str g.s,.int .i64 g.o,.aa false (ae g.l)]]⟩:aw)]++J1).length 0 0 1/\G3=newObj (h++[(⟨.m,0,4,[.agg [.int .i64 g.k,.str g.s,.int .i64 g.o,.aa false (ae g.l)]]⟩:aw)]++J1) 5 [.agg [w,.int .i64 g.k,.str g.s,.int .i64 g.o,.aa false (ae g.l)]])
 V7:bT C.P 2 G3 22 22 vo u=some (r,G2)
 md:KD G2 r vk vb ⟨s.kn,s.bd,s.out++[⟨s.kn,g⟩]⟩ (ids++b9 w) (es++[.agg [w,.int .i64 g.k,.str g.s,.int .i64 g.o,.aa false (ae g.l)]])
 cell:G2[h.length]?=some (⟨.m,0,4,[.agg [.int .i64 g.k,.str g.s,.int .i64 g.o,.aa false (ae g.l)]]⟩:aw)
theorem aaK{h:ab}{vo vk vb:PV}{s:Qu}{ids:List Nat}{es:List PV}(M:KD h vo vk vb s ids es)(hn:s.kn.length<100000000)(T7:s.out.length<100000000)(g:Tm):∃w J1 u G3 r G2,aaJ h vo vk vb s ids es g w J1 u G3 r G2:=by
 have cz:=ai s.kn;have XF:HR (h++[(⟨.m,0,4,[.agg [.int .i64 g.k,.str g.s,.int .i64 g.o,.aa false (ae g.l)]]⟩:aw)]):=M.hr.du (HV.one (by simp));have MG:=M.aT XF λj hj=>abW hj
 have hgl:(h++[(⟨.m,0,4,[.agg [.int .i64 g.k,.str g.s,.int .i64 g.o,.aa false (ae g.l)]]⟩:aw)]).length=h.length+1:=by simp
 obtain⟨w,J1,V6,_,hJ,uo,CA⟩:=N6 T6 (lv:=1) (by omega) (H:=h++[(⟨.m,0,4,[.agg [.int .i64 g.k,.str g.s,.int .i64 g.o,.aa false (ae g.l)]]⟩:aw)]) (st:=31) (xt:=31) (u:=vk) (es:=[]) (ys:=ae s.kn) rfl rfl rfl rfl rfl (by decide) rfl rfl MG.ok.cB rfl (hC _) (by simp;omega);have CA:=CA rfl;have hJv:HV J1:=by rcases hJ with rfl |rfl;exact HV.nil;exact HV.one (by simp)
 have h1R:HR (h++[(⟨.m,0,4,[.agg [.int .i64 g.k,.str g.s,.int .i64 g.o,.aa false (ae g.l)]]⟩:aw)]++J1):=XF.du hJv;have M1:=MG.aT h1R λj hj=>abW hj
 have hwo:=CA.bM;have hwv:=CA.bu;have xe:(h++[(⟨.m,0,4,[.agg [.int .i64 g.k,.str g.s,.int .i64 g.o,.aa false (ae g.l)]]⟩:aw)]++J1).length=h.length+1+J1.length:=by simp;omega
 have gk:dC 5 [.agg [w,.int .i64 g.k,.str g.s,.int .i64 g.o,.aa false (ae g.l)]]:=by
  unfold dC;rw[acT,adC];show((decide ((5:Nat)=5)&& (Pm.bM w&& (true&& (true&& (true&& (true&&true))))))&&true)=true;rw[hwo.1]
  rfl
 have zX:es.length=s.out.length:=M.F7.len
 obtain⟨u,G3,bs,hu,Qv,h3R,h3f,h3l⟩:∃u G3,((ao [.agg [w,.int .i64 g.k,.str g.s,.int .i64 g.o,.aa false (ae g.l)]]=true/\u=.aa true [.agg [w,.int .i64 g.k,.str g.s,.int .i64 g.o,.aa false (ae g.l)]]/\G3=h++[(⟨.m,0,4,[.agg [.int .i64 g.k,.str g.s,.int .i64 g.o,.aa false (ae g.l)]]⟩:aw)]++J1)\/(ao [.agg [w,.int .i64 g.k,.str g.s,.int .i64 g.o,.aa false (ae g.l)]]=false/\u=.ak (h++[(⟨.m,0,4,[.agg [.int .i64 g.k,.str g.s,.int .i64 g.o,.aa false (ae g.l)]]⟩:aw)]++J1).length 0 0 1/\G3=newObj (h++[(⟨.m,0,4,[.agg [.int .i64 g.k,.str g.s,.int .i64 g.o,.aa false (ae g.l)]]⟩:aw)]++J1) 5 [.agg [w,.int .i64 g.k,.str g.s,.int .i64 g.o,.aa false (ae g.l)]]))/\cB G3 u=some [.agg [w,.int .i64 g.k,.str g.s,.int .i64 g.o,.aa false (ae g.l)]]/\(∀i∈b9 u,h.length+1<=i)/\HR G3/\(∀j,j<(h++[(⟨.m,0,4,[.agg [.int .i64 g.k,.str g.s,.int .i64 g.o,.aa false (ae g.l)]]⟩:aw)]++J1).length->G3[j]?=(h++[(⟨.m,0,4,[.agg [.int .i64 g.k,.str g.s,.int .i64 g.o,.aa false (ae g.l)]]⟩:aw)]++J1)[j]?)/\(h++[(⟨.m,0,4,[.agg [.int .i64 g.k,.str g.s,.int .i64 g.o,.aa false (ae g.l)]]⟩:aw)]++J1).length<=G3.length:=by
  cases wQ:ao [.agg [w,.int .i64 g.k,.str g.s,.int .i64 g.o,.aa false (ae g.l)]]
  ·refine⟨_,_,.inr ⟨rfl,rfl,rfl⟩,by simp[cB,getM,newObj],λi hi=>(by simp only[b9,acv]at hi;omega),h1R.wT (by simp) ?_,λj hj=>by rw[newObj,abW hj],by simp[newObj]⟩;simp only[bG,bu,adp];exact yp (f:=λi=>decide (i<(h++[(⟨.m,0,4,[.agg [.int .i64 g.k,.str g.s,.int .i64 g.o,.aa false (ae g.l)]]⟩:aw)]++J1).length)) (λi hi=>by have:=of_decide_eq_true hi;exact decide_eq_true (by omega)) _ hwv
  exact⟨_,_,.inl ⟨rfl,rfl,rfl⟩,rfl,by simp[b9],h1R,λ_ _=>rfl,abZ _⟩
 have M3:=M1.aT h3R h3f;have Ck:Out 4 G3 w (ae s.kn):=CA.of_eq λi hi=>h3f i (CA.ls i hi)
 obtain⟨r,G2,V7,a2⟩:=GQ T6 (H:=G3) (st:=22) (xt:=22) (v:=vo) (u:=u) (es:=es) (ys:=[.agg [w,.int .i64 g.k,.str g.s,.int .i64 g.o,.aa false (ae g.l)]]) rfl rfl rfl rfl rfl (by decide) rfl rfl M3.oo hu (λi hi h=>by have:=M.oo.ls i hi;have:=Qv i h;omega) gk (by simp;omega)
 have iv:bG (λi=>decide (i<G3.length)) (es++[.agg [w,.int .i64 g.k,.str g.s,.int .i64 g.o,.aa false (ae g.l)]])=true:=by
  rw[fX,ac1,<-fX,M3.F7.Uf];simp only[acT,adC,bu,bG,adp,ada];exact Ck.bu
 have h2R:=a2.hr h3R iv;have hvr:∀i∈b9 r,i∈b9 vo\/G3.length<=i:=a2.b9;have Ze:∀i∈b9 w,i<G3.length:=Ck.ls;have Zf:∀i∈b9 w,i∉b9 vo:=λi hi h=>by have:=uo i hi;have:=M.oo.ls i h;omega
 have f3:∀j,j<h.length+1->G3[j]?=(h++[(⟨.m,0,4,[.agg [.int .i64 g.k,.str g.s,.int .i64 g.o,.aa false (ae g.l)]]⟩:aw)])[j]?:=λj hj=>by rw[h3f j (by omega),abW (by omega)]
 have fin:∀j,j<h.length->j∉b9 vo->G2[j]?=h[j]?:=λj hj hv=>by
  rw[a2.fr j (by omega) hv,f3 j (by omega),abW hj]
 refine⟨w,J1,u,G3,r,G2,V6,?_,CA,?_,bs,V7,⟨h2R,a2.out,.snoc (w:=w) (d:=⟨s.kn,g⟩) (M.F7.of_eq λi hi=>fin i (M.F7.lt i hi) λhh=>(M.d1 i hh).2.2 hi) (Ck.of_eq λi hi=>a2.fr i (Ze i hi) (Zf i hi)),M.ok.of_eq λi hi=>fin i (M.ok.ls i hi) λhh=>(M.d1 i hh).1 hi,M.ob.of_eq λi hi=>fin i (M.ob.ls i hi) λhh=>(M.d1 i hh).2.1 hi,λi hi=>?_,λi hi=>⟨(M.d2 i hi).1,λhh=>?_⟩⟩,?_⟩;rcases hJ with rfl |rfl <;>simp
 ·have:=MG.ok.bu;exact yp (λi hi=>XF.Uf (of_decide_eq_true hi)) _ this
 ·rcases hvr i hi with h1 |h1
  ·obtain⟨q1,q2,q3⟩:=M.d1 i h1;refine⟨q1,q2,λhh=>?_⟩;rcases ab2.1 hh with hh |hh;exact q3 hh;exact Zf i hh h1
  ·refine⟨λhh=>by have:=M.ok.ls i hh;omega,λhh=>by have:=M.ob.ls i hh;omega,λhh=>?_⟩;rcases ab2.1 hh with hh |hh;have:=M.F7.lt i hh;omega;have:=Ze i hh;omega
 ·rcases ab2.1 hh with hh |hh;exact(M.d2 i hi).2 hh;have:=uo i hh;have:=M.ob.ls i hi;omega
 ·rw[a2.fr h.length (by omega) (λhh=>by have:=M.oo.ls _ hh;omega),f3 _ (by omega)];simp
theorem Bh(e:Nat->Bool)(h:ab):cI e h.length [] h=h:=by simp[cI]
theorem Ry{C:cW}{T:mD C.P}{M:ab}{t:TypeId}{c n sz:Nat}{mu:Mu}{cs:List PV}(hb:M[c]?=some ⟨mu,0,n,[.agg cs]⟩)(hm:mu≠.x)(hs:T.ts t=some (sz+1))(ht:T.ta t=some true)(hl:cs.length=sz+1):loadT T M t (.ptr c 0 0 0)=some (.agg cs):=by
 have hp:cT M (.ptr c 0 0 0)=some cs:=by simp[cT,bp hb rfl hm,cells]
 unfold loadT;rw[hs,ht,hp];have:Nat.ble (sz+1) cs.length=true:=Nat.ble_eq_true_of_le (by omega);simp only[this,if_true];rw[acu (by omega)]
theorem _root_.Go.Pm.bg.V8{C:cW}{ops:Array Oper}{i d:Nat}{ty:TypeId}{pos:String}{af:Array Edge}{r:List Oper}{O:Nat->PV}{L:Al}{h:ab}{L0:Nat}{own:List Nat}{Q:St->Prop}{op:Op}{v:PV}{h':ab}(M J Hn:ab)(Zg:List Nat)
  (hc:∃n0,∀n,n0<=n->au C (fF C n) 1 op (al L O) M=some (v,h')) (k:bg C ops (i+1) r ⟨⟨al ((d,v)::L) O,Hn⟩,L0,Zg⟩ Q) (hHn:h++J=Hn) (ho:own++List.replicate J.length i=Zg) (hM:cI ((before ops).getD i 0).testBit L0 own h=M) (hJ:h'.drop h.length=J) (ee:aV M=true) (kV:(op.operands.toList.all λy=>bu (aO M) (ev (al L O) y))=true)
  (vH:(J.all λo=>decide (o.mu≠.l))=true) (hh:di op=true:=by rfl) (hl:(level ops (before ops) i==2)=false:=by rfl):bg C ops i (⟨some d,op,ty,pos,af,none⟩::r) ⟨⟨al L O,h⟩,L0,own⟩ Q:=
 bg.F8 M J hc (by rw[hHn,ho];exact k) hM hJ ee kV vH hh hl
theorem KD.Dm{J H3:ab}{vo vk vb vb3:PV}{s:Qu}{ids:List Nat}{es:List PV}{V:List Tm}(M:KD J vo vk vb s ids es)(l:LR J vb 4 (ae s.bd++ae V) vb3 H3):KD H3 vo vk vb3 ⟨s.kn,s.bd++V,s.out⟩ ids es:=by
 have fr:∀i,i<J.length->i∉b9 vb->H3[i]?=J[i]?:=λi hi hv=>(Cz l hi hv).1
 have ob:=l.out;rw[<-bS]at ob;refine⟨l.hr,M.oo.of_eq λi hi=>fr i (M.oo.ls i hi) (M.d1 i hi).2.1,M.F7.of_eq λi hi=>fr i (M.F7.lt i hi) λhh=>(M.d2 i hh).2 hi,M.ok.of_eq λi hi=>fr i (M.ok.ls i hi) λhh=>(M.d2 i hh).1 hi,ob,λi hi=>?_,λi hi=>?_⟩
 ·obtain⟨q1,q2,q3⟩:=M.d1 i hi;exact⟨q1,(Cz l (M.oo.ls i hi) q2).2,q3⟩
 ·rcases l.b9 i hi with h1 |h1;exact M.d2 i h1;exact⟨λhh=>by have:=M.ok.ls i hh;omega,λhh=>by have:=M.F7.lt i hh;omega⟩
theorem yq{H:ab}{bi ep:Nat}{mu:Mu}{b:List Nat}{i n:Int}{r R:PV}{l:List Tm}{Q:PV->ab->Prop}(hb:H[bi]?=some ⟨mu,ep,1,fM b⟩)(hm:mu=.m\/mu=.f)(hr:Ls 4 H r (ae l))(a:aI C 64 [.aa false (fM b),.int .i64 i,.int .i64 n,.aa false (ae l)] R)(q:∀h',N0 (bi::b9 r) H h'->Q R h'):aj C 2 64 [.ak bi ep 0 (fM b).length,.int .i64 i,.int .i64 n,r] H Q:=by
 obtain⟨a2,b2,c2⟩:=hr.jP (by simp);have GV:mu≠.x:=by rcases hm with rfl |rfl <;>simp
 have ht:List.take b.length (fM b)=fM b:=acu (by simp);have V9:jP H (.ak bi ep 0 (fM b).length)=some (.aa false (fM b)):=by simp[jP,pD,bp hb rfl GV,hm,ht]
 have i1:∀n:Int,jP H (.int .i64 n)=some (.int .i64 n):=λ_=>rfl
 have xW:jd [.ak bi ep 0 (fM b).length,.int .i64 i,.int .i64 n,r]=bi::b9 r:=by
  rcases hr with(⟨rfl,_⟩|⟨i,e,rfl,_⟩)|⟨f,rfl⟩ <;>rfl
 refine aj.Y9 (args':=[.aa false (fM b),.int .i64 i,.int .i64 n,a2]) (by simp only[gC,V9,i1,b2]) (by simp[ao,aU]) (λid bZ=>?_) (by simpa[aQ,cj,c2]using a) (λh' z=>q h' (xW▸z));rw[xW]at bZ;rcases ab5.1 bZ with rfl |bZ;exact⟨_,hb,by simp,hm⟩
 ·rcases hr with(⟨rfl,_⟩|⟨j,e,rfl,hj⟩)|⟨f,rfl⟩;simp[b9]at bZ
  ·simp[b9]at bZ;subst bZ;exact⟨_,hj,by simp,.inl rfl⟩
  simp[b9]at bZ
theorem KD.N1{H H':ab}{l:List Nat}{vo vk vb:PV}{s:Qu}{ids:List Nat}{es:List PV}(M:KD H vo vk vb s ids es)(z:N0 l H H')(h:∀j∈l,j∉b9 vo/\j∉b9 vk/\j∉b9 vb/\j∉ids):KD H' vo vk vb s ids es:=
 ⟨z.hr M.hr,M.oo.of_eq λi hi=>z.same i λhh=>(h i hh).1 hi,M.F7.of_eq λi hi=>z.same i λhh=>(h i hh).2.2.2 hi,M.ok.of_eq λi hi=>z.same i λhh=>(h i hh).2.1 hi,M.ob.of_eq λi hi=>z.same i λhh=>(h i hh).2.2.1 hi,M.d1,M.d2⟩
theorem Ui.N1{H H':ab}{l:List Nat}{bi ep:Nat}{b:List Nat}{vo vk vb:PV}{ids:List Nat}(B:Ui H bi ep b vo vk vb ids)(z:N0 l H H'):Ui H' bi ep b vo vk vb ids:=by
 obtain⟨⟨mu,e,hm⟩,nb⟩:=B;obtain⟨mu',e',Rz⟩:=z.oF bi _ e;refine⟨⟨mu',e',?_⟩,nb⟩;rcases Rz with rfl |rfl;exact hm;exact .inr rfl
theorem KG(bs:List (List Nat))(IS:∀b∈bs,KA b/\b.length<1000000)(hl:bs.length<1000000):
  aI C 19 [.aa false (ij bs)] (.aa false (bV (l6 bs))):=by
 have cz:=uO bs;refine aI.xd T6 Tryz.func19 rfl ?_;refine wA ?_;refine cU.zip T6 (bs.take 5) (λp q L H=>∃vo vk vb ids es,L=[(0,.aa false (ij bs)),(3,vo),(4,vk),(5,vb),(6,.int .i64 p.length)]/\KD H vo vk vb (c8 p) ids es) (.nx ⟨_,_,_,[],[],rfl,HV.nil.hr,.inl ⟨rfl,rfl⟩,.nil,.inl ⟨rfl,rfl⟩,.inl ⟨rfl,rfl⟩,by simp[b9],by simp[b9]⟩) ?_ ?_
 ·rintro p x q _ H O e ⟨vo,vk,vb,ids,es,rfl,M⟩;have dp:=congrArg List.length e;simp only[ab3,ab9,acM]at dp;have e2:bs=p++x::(q++bs.drop 5):=by have:=(adA 5 bs).symm;rw[e]at this;simpa using this
  have cC:=Eb e2;have hH:=M.hr;obtain⟨hx8,Oc⟩:=IS x (by rw[e2];simp);have hex:=nQ x;refine wA ?_;refine .lr (λv1 h1 l1=>?_) (.inl ⟨rfl,rfl⟩) (KF x) (by rw[nQ];simp;omega);have lF:=l1.hr;refine wA ?_;refine .lr (λv2 h2 l2=>?_) l1.out rfl (by simp;omega) (by exact bm _ _ (by simp));have pE:=l2.hr;have hle:H.length<=h2.length:=acR l1.len l2.len
  have V':∀j,j<H.length->h2[j]?=H[j]?/\j∉b9 v2:=λj hj=>by
   obtain⟨a1,a2⟩:=Cz l1 hj (by simp[b9]);obtain⟨b1,b2⟩:=Cz l2 (by have:=l1.len;omega) a2;exact⟨b1.trans a1,b2⟩
  have Rm:[]++fM x++[.int .u8 0,.int .u8 0]=fM (jh x):=by simp[jh,N9];rfl
  have x7:=l2.out;rw[Rm]at x7
  obtain⟨bi,ep,rfl,hbi⟩:∃bi ep,v2=.ak bi ep 0 (fM (jh x)).length/\h2[bi]?=some ⟨.m,ep,1,fM (jh x)⟩:=by
   rcases x7 with⟨_,h⟩|h
   ·have:=congrArg List.length h;simp[jh]at this
   exact h
  have M2:=M.aT pE λj hj=>(V' j hj).1
  have Od:∀j,j<H.length->j≠bi:=λj hj hh=>(V' j hj).2 (by simp[b9,hh])
  have B2:Ui h2 bi ep (jh x) vo vk vb ids:=⟨⟨.m,hbi,.inl rfl⟩,λh=>Od bi (M.oo.ls bi h) rfl,λh=>Od bi (M.ok.ls bi h) rfl,λh=>Od bi (M.ob.ls bi h) rfl,λh=>Od bi (M.F7.lt bi h) rfl⟩;clear V' Od hbi;have XG:=Cv (l:=jh x) (by intro n hn;rcases ab2.1 hn with h |h;exact hx8 n h;simp at h;omega) 0;have abG:(fM (jh x))[0+0]?=some (.int .u8 (iz (jh x) 0:Int)):=qf (by simp[jh]);have ht3:((iz (jh x) 0:Nat):Int).tmod 3=((iz (jh x) 0 % 3:Nat):Int):=NN _ 3;have hlen:2<=(fM (jh x)).length:=by simp[jh]
  refine wA ?_;refine cU.zip T6 (List.range (iz (jh x) 0 % 3)) (λa r L K=>∃Qz,L=[(0,.aa false (ij bs)),(3,vo),(4,Qz),(5,vb),(6,.int .i64 p.length),(7,.ak bi ep 0 (fM (jh x)).length),(8,.int .i64 a.length)]/\KD K vo Qz vb ⟨(c8 p).kn++MF (jh x) (c8 p).bd a.length,(c8 p).bd,(c8 p).out⟩ ids es/\Ui K bi ep (jh x) vo Qz vb ids) (.nx ⟨_,rfl,by simpa[MF]using M2,B2⟩) ?_ ?_
  ·rintro a k r _ K O e3 ⟨Qz,rfl,M3,B3⟩;have xT:=congrArg List.length e3;simp only[ab3,ab9,List.length_range]at xT;obtain⟨mu,hmb,wP⟩:=B3.at_;have GV:mu≠Mu.x:=by rcases wP with rfl |rfl <;>simp
   have hK:=M3.hr;refine wA ?_;refine .ex (ym K hK) (λh' hE=>?_);obtain⟨J,hJ,rfl⟩:=hE;have M4:=M3.aT (hK.du hJ) (λj hj=>abW hj);have B4:=B3.aT (H':=K++J) (λj hj=>abW hj);clear M3 B3;have abA:(c8 p).bd.length<=1000:=by have:=(nP _ p rfl).bl;omega
   have hfb:=(nP _ p rfl).bf;rcases M4.ob with⟨rfl,sG⟩|⟨ib,eb,rfl,F5⟩
   case' inl=>
    refine wA ?_;refine .nn ?_ rfl;have aaL:(c8 p).bd=[]:=acd (by have:=congrArg List.length sG;simpa using this);obtain⟨r',Wa⟩:∃r,r=PV.aa true (ae vO):=⟨_,rfl⟩;rw[<-Wa];have XH:Ls (3+1) (K++J) r' (ae (vO++(c8 p).bd)):=.inr ⟨true,by rw[Wa,aaL,ack]⟩;have Zh:∀j∈b9 r',j∉b9 vo/\j∉b9 Qz/\j∉b9 (.aa true [])/\j∉ids:=by rw[Wa];simp[b9]
    have M5:=M4;have B5:=B4;have Wb:=M4.hr;generalize K++J=HH at *;clear M4 B4
   case' inr=>
    obtain⟨r',J2,ha,XH,DR,hvr,_⟩:=N6 T6 (lv:=2) (by omega) (H:=K++J) (st:=31) (xt:=31) (es:=ae vO) (u:=.ak ib eb 0 (ae (c8 p).bd).length) (ys:=ae (c8 p).bd) rfl rfl rfl rfl rfl (by decide) rfl rfl M4.ob.cB (hC _) (hC _) (by rw[ai,ai,mR];omega);have Wb:HR (K++J++J2):=M4.hr.du (by rcases DR with rfl |rfl;exact HV.nil;exact HV.one (by simp));have M5:=M4.aT Wb (λj hj=>abW hj);have B5:=B4.aT (H':=K++J++J2) (λj hj=>abW hj);rw[<-bS]at XH
    have Zh:∀j∈b9 r',j∉b9 vo/\j∉b9 Qz/\j∉b9 (.ak ib eb 0 (ae (c8 p).bd).length)/\j∉ids:=λj hj=>by
     have h0:=hvr j hj;exact⟨λh=>by have:=M4.oo.ls j h;omega,λh=>by have:=M4.ok.ls j h;omega,λh=>by have:=M4.ob.ls j h;omega,λh=>by have:=M4.F7.lt j h;omega⟩
    refine wA ?_;refine .mk (λrun O=>Ar rfl rfl ha) ?_;generalize K++J++J2=HH at *;clear ha DR hvr M4 B4
   all_goals
    obtain⟨mu2,Wc,Wd⟩:=B5.at_;have uP:=qU (jh x) (vO++(c8 p).bd) 170 (by intro n hn;rcases ab2.1 hn with h |h;exact hx8 n h;simp at h;omega) (by simp[jh];omega) (by simp[mR];omega) (by simp[mR];omega) ((Cp.mono (by omega)).db hfb) 2 1 (1+3 * a.length) rfl (by omega)
    push_cast at uP
    rw[ar]at uP;refine wA ?_;refine yq Wc Wd XH uP (λh' z=>?_)
    have M6:=M5.N1 z (λj hj=>by
     rcases ab5.1 hj with rfl |hj;exact B5.nb;exact Zh j hj)
    have B6:=B5.N1 z;clear M5 B5 z uP;have sZ:(c8 p).kn.length<=1000:=by have:=(nP _ p rfl).kl;omega
    have hks:=NX (jh x) (c8 p).bd a.length;have DG:=xm (jh x) (c8 p).bd a.length;obtain⟨r1,G1,r2,G2,cp⟩:=Zd M6.hr M6.ok (by simp;omega) (iD (jh x) (vO++(c8 p).bd) 2 (1+3 * a.length)).1;generalize iD (jh x) (vO++(c8 p).bd) 2 (1+3 * a.length)=gg at *;obtain⟨g,gn⟩:=gg;dsimp only at *;refine wA ?_;refine .calm ?_ _ (Ru (λ_=>rfl) rfl (by simp) cp.nl (λrun O=>?_)) ?_
    rotate_left
    ·refine(zW (kBs rfl rfl rfl (U6 T6 (by exact rfl) rfl))).trans ?_;refine(zW (kP T6 (by exact rfl))).trans ?_;refine(zW (Xw rfl rfl rfl rfl (Ar rfl rfl cp.V6) cp.le1 cp.kp1)).trans ?_;refine(zW (kLd T6 (v:=.agg [.int .i64 g.k,.str g.s,.int .i64 g.o,.aa false (ae g.l)]) rfl cp.at0 (by simp) (by(conv=>whnf);exact .mk (o:=⟨.l,0,4,[.agg [.int .i64 g.k,.str g.s,.int .i64 g.o,.aa false (ae g.l)]]⟩) (.go (.mk (.go (by conv=>whnf)) rfl)) (bp cp.at1 rfl (by simp))))).trans ?_;refine(zW (kBs rfl rfl rfl (U6 T6 (by exact rfl) (by simp)))).trans ?_;refine(zW (Xw rfl rfl rfl rfl (Ar rfl rfl cp.V7) cp.le2 cp.kp2)).trans ?_;refine(zW (kP T6 (by exact rfl))).trans ?_;exact rfl
    ·refine wA ?_;have M7:=M6.aT cp.hr cp.fr;have B7:=B6.aT cp.fr;refine .nx ⟨r2,rfl,⟨M7.hr,M7.oo,M7.F7,?_,M7.ob,λi hi=>⟨λh=>?_,(M7.d1 i hi).2⟩,λi hi=>⟨λh=>?_,(M7.d2 i hi).2⟩⟩,B7.at_,B7.nb.1,λh=>?_,B7.nb.2.2⟩
     ·have:=cp.out;rw[ab3,List.length_singleton,hks,<-acp];exact this
     have:=cp.vd i h;have:=M6.oo.ls i hi;omega;have:=cp.vd i h;have:=M6.ob.ls i hi;omega
     ·have:=cp.vd bi h;obtain⟨_,e9,_⟩:=B6.at_;have:=ag e9;omega
  ·rintro _ K O ⟨Qz,rfl,M3,B3⟩;obtain⟨mu,hmb,wP⟩:=B3.at_;have GV:mu≠Mu.x:=by rcases wP with rfl |rfl <;>simp
   have hK:=M3.hr;have hrl:(List.range (iz (jh x) 0 % 3)).length=iz (jh x) 0 % 3:=List.length_range;rw[hrl]at M3 ⊢;refine wA ?_;refine .ex (ym K hK) (λh' hE=>?_);obtain⟨J,hJ,rfl⟩:=hE;have Wb:HR (K++J++[⟨.m,0,4,ae vO++ae qT⟩]):=(hK.du hJ).du (HV.one (by simp));have M4:=(M3.aT (hK.du hJ) (λj hj=>abW hj)).aT Wb (λj hj=>abW hj);have B4:=(B3.aT (H':=K++J) (λj hj=>abW hj)).aT (H':=K++J++[⟨.m,0,4,ae vO++ae qT⟩]) (λj hj=>abW hj)
   have hvK:∀j,(K++J).length<=j->j∉b9 vo/\j∉b9 Qz/\j∉b9 vb/\j∉ids:=λj hj=>by
    have h0:K.length<=j:=by simp at hj;omega
    exact⟨λh=>by have:=M3.oo.ls j h;omega,λh=>by have:=M3.ok.ls j h;omega,λh=>by have:=M3.ob.ls j h;omega,λh=>by have:=M3.F7.lt j h;omega⟩
   clear M3 B3;have dv:=Kz;refine wA ?_;refine .p dv ?_;refine wA ?_;refine .sn (es:=ae vO) ?_ rfl (by rw[ai,ai,mR,tf];omega)
   have XH:Ls 4 (K++J++[⟨.m,0,4,ae vO++ae qT⟩]) (.ak (K++J).length 0 0 ((ae vO).length+(ae qT).length)) (ae (vO++qT)):=by
    rw[bS];exact .inl (.inr ⟨(K++J).length,0,by rw[show(ae vO++ae qT).length=(ae vO).length+(ae qT).length from ab3],by rw[ab6 (abZ _)];simp⟩)
   obtain⟨mu2,Wc,Wd⟩:=B4.at_;have uP:=qU (jh x) (vO++qT) 20 (by intro n hn;rcases ab2.1 hn with h |h;exact hx8 n h;simp at h;omega) (by simp[jh];omega) (by simp[mR];omega) (by simp[mR,tf]) (Cp.db Cq) 2 1 7 rfl (by omega);rw[ar]at uP;refine wA ?_;refine yq Wc Wd XH uP (λh' z=>?_)
   have M6:=M4.N1 z (λj hj=>by
    rcases ab5.1 hj with rfl |hj;exact B4.nb
    ·simp[b9]at hj;exact hvK j (by simp;omega))
   have B6:=B4.N1 z;clear M4 B4 XH hvK Wb z;have aaM:KA (jh x):=by intro n hn;rcases ab2.1 hn with h |h;exact hx8 n h;simp at h;omega
   have hB1:=Cv aaM 1;have abH:(fM (jh x))[0+1]?=some (.int .u8 (iz (jh x) 1:Int)):=qf (by simp[jh]);have hq3:((iz (jh x) 0:Nat):Int).tdiv 3=((iz (jh x) 0 / 3:Nat):Int):=Vo _ 3;have hqt:(((iz (jh x) 0:Nat):Int).tdiv 3).tmod 3=((iz (jh x) 0 / 3 % 3:Nat):Int):=by rw[hq3];exact NN _ 3
   have Cs:=yo (l:=qT) (i:=iz (jh x) 1 % 4) (by rw[tf];omega);have hT:VV (jh x)=if iz (jh x) 0 / 3 % 3=0 then qT.getD (iz (jh x) 1 % 4) fW else(iD (jh x) (vO++qT) 2 7).1:=rfl;have hTo:=NY (jh x);have hfo:=vP p x;generalize iD (jh x) (vO++qT) 2 7=gg at *;obtain⟨g0,gn⟩:=gg;dsimp only at *;generalize qT.getD (iz (jh x) 1 % 4) fW=g1 at *;rw[ar]at Cs;obtain⟨mu3,abI,aaN⟩:=B6.at_;have abJ:mu3≠Mu.x:=by rcases aaN with rfl |rfl <;>simp
   have hRc:HR (h'++[⟨.m,0,4,[.agg [.int .i64 g0.k,.str g0.s,.int .i64 g0.o,.aa false (ae g0.l)]]⟩]):=M6.hr.du (HV.one (by simp))
   by_cases hz:iz (jh x) 0 / 3 % 3=0
   case' pos=>
    rw[if_pos hz]at hT;refine wA ?_;refine .raw _ (T9 (by omega) (by omega)) ?_;refine wH ?_;refine .mk ?_;refine wH ?_;refine .mk _ (by simpa[aQ,cj]using dv) ?_;refine wH ?_;clear hRc;generalize g1=g at *
   case' neg=>
    rw[if_neg hz]at hT;refine wA ?_;refine .raw _ (T9 (by omega) (by omega)) ?_;refine wH ?_;clear hRc;generalize g0=g at *
   all_goals
    have hRc:HR (h'++[(⟨.m,0,4,[.agg [.int .i64 g.k,.str g.s,.int .i64 g.o,.aa false (ae g.l)]]⟩:aw)]):=M6.hr.du (HV.one (by simp));have ee:=hRc.closed;have ok:=nP _ p rfl;have sZ:=ok.kl;have hol:=ok.ol;have DJ:=ok.bl;have DG:=xm (jh x) (c8 p).bd (iz (jh x) 0 % 3);obtain⟨w,J1,u,G3,r2,G2,cp⟩:=aaK M6 (by simp;omega) (by dsimp only;omega) g;have M7:=cp.md;have hR7:=M7.hr;have ll:=cp.cell;have Bi:=nS g (by rw[<-hT];omega);have RA:=ai (bL g);have hgb:ax g<=170:=by rw[<-hT];exact hTo.2
    have hbv:=fy g;have nJ:=ai (c8 p).bd;rw[ar]at Bi;refine .raw (λO'=>?_);refine D.move rfl ?_;refine .V8 (h'++[(⟨.m,0,4,[.agg [.int .i64 g.k,.str g.s,.int .i64 g.o,.aa false (ae g.l)]]⟩:aw)]) [] (h'++[(⟨.m,0,4,[.agg [.int .i64 g.k,.str g.s,.int .i64 g.o,.aa false (ae g.l)]]⟩:aw)]) [] ⟨0,λn _=>KH T6 (vs:=[]) (by exact rfl) rfl⟩ ?_ (by simp) rfl (Bh _ _) (by simp) ee rfl rfl;refine D.move rfl ?_;refine .V8 (h'++[(⟨.m,0,4,[.agg [.int .i64 g.k,.str g.s,.int .i64 g.o,.aa false (ae g.l)]]⟩:aw)]) J1 (h'++[(⟨.m,0,4,[.agg [.int .i64 g.k,.str g.s,.int .i64 g.o,.aa false (ae g.l)]]⟩:aw)]++J1) (List.replicate J1.length 3) ⟨0,λn _=>Ar rfl rfl cp.V6⟩ ?_ rfl (by simp) (Bh _ _) (by simp) ee (by show(true&& (bu (aO (h'++[(⟨.m,0,4,[.agg [.int .i64 g.k,.str g.s,.int .i64 g.o,.aa false (ae g.l)]]⟩:aw)])) Qz &&true))=true;rw[cp.vkv];rfl) cp.jl;refine .V8 (h'++[(⟨.m,0,4,[.agg [.int .i64 g.k,.str g.s,.int .i64 g.o,.aa false (ae g.l)]]⟩:aw)]++J1.map eX) [] (h'++[(⟨.m,0,4,[.agg [.int .i64 g.k,.str g.s,.int .i64 g.o,.aa false (ae g.l)]]⟩:aw)]++J1) (List.replicate J1.length 3) ⟨0,λn _=>KI T6 (v:=.agg [.int .i64 g.k,.str g.s,.int .i64 g.o,.aa false (ae g.l)]) rfl (Ry (mu:=.m) (n:=4) (by simp) (by simp) rfl rfl rfl)⟩ ?_ (by simp) (by simp) (Bj rfl) (by simp) (vQ ee) (by show(aO (h'++[(⟨.m,0,4,[.agg [.int .i64 g.k,.str g.s,.int .i64 g.o,.aa false (ae g.l)]]⟩:aw)]++J1.map eX) h'.length&&true)=true;simp[aO]) rfl
    rcases cp.ow with⟨hw,_⟩|⟨iw,ew,hw,_⟩ <;>subst hw
    all_goals
     refine bg.sP T6 ?_
     conv=>whnf
     skip
     refine bg.two rfl ?_ ⟨0,λn _=>Y' T6 (z:=5) ?_ cp.bs⟩ ?_
     rfl
     exact⟨rfl,rfl⟩;refine bg.two rfl rfl ⟨0,λn _=>Ar rfl rfl cp.V7⟩ ?_;refine D.assign rfl ?_;refine bg.nil ⟨_,_,rfl,?_⟩
     conv=>whnf
     refine wA ?_;refine .p Bi ?_;refine wA ?_;refine .lr (λvb3 H3 l3=>?_) M7.ob (hC _) (by dsimp only;omega) (bm _ _ (by simp));refine wA ?_;have hfe:c8 (p++[x])=⟨(c8 p).kn++MF (jh x) (c8 p).bd (iz (jh x) 0 % 3),(c8 p).bd++bL g,(c8 p).out++[⟨(c8 p).kn++MF (jh x) (c8 p).bd (iz (jh x) 0 % 3),g⟩]⟩:=by rw[hfo,uM,hT]
     have M8:=M7.Dm l3;dsimp only at M8;rw[<-hfe]at M8;exact .nx ⟨r2,Qz,vb3,_,_,rfl,M8⟩
 ·rintro _ H O ⟨vo,vk,vb,ids,es,rfl,M⟩;have hl6:(bs.take 5).length=min 5 bs.length:=by simp
  refine wC (λhc=>?_) λhc=>?_
  all_goals exact M.F7.ret M.oo
def qh(x:List Nat):Bool:=decide (20<x.length)
theorem Oa(l:List (List Nat))(hl:l.length<1000000000):aI C 123 [.aa false (ij l),.fn 63 []] (.int .i64 (wU qh l)):=by
 have cz:=uO l;refine aI.x T6 Tryz.func123 rfl ?_;refine wA ?_;refine cU.zip T6 l (λa q L K=>L=[(0,.aa false (ij l)),(1,.fn 63 []),(7,.int .i64 (ij l).length),(8,.int .i64 a.length)]/\HV K/\∀y∈a,qh y=false) (.nx ⟨rfl,HV.nil,by simp⟩) ?_ ?_
 ·rintro a x q _ K O e ⟨rfl,hK,ha⟩;have cC:=Eb e;have dp:=lenE e;have F6:aI C 63 [.aa false (fM x)] (.bool (qh x)):=GS x;refine wA ?_;refine .p F6 ?_
  cases hb:qh x
  ·refine wA ?_;exact .nx ⟨rfl,hK,λy hy=>by rcases ab2.1 hy with h |h;exact ha y h;simp at h;rw[h];exact hb⟩
  ·refine wA ?_;exact⟨_,rfl,by rw[e,qV ha hb];rfl⟩
 ·rintro _ K O ⟨rfl,hK,ha⟩;refine wA ?_;exact⟨_,rfl,by rw[lK ha];rfl⟩
theorem Ob(l:List (List Nat))(hl:l.length<1000000000):aI C 62 [.aa false (ij l),.fn 63 []] (.bool (l.any qh)):=by
 have hi:=Oa l hl;have ha:=th qh l;refine aI.x T6 Tryz.func62 rfl ?_;refine wA ?_;refine .p hi ?_;refine wC (λhc=>?_) λhc=>?_
 all_goals exact⟨_,rfl,by rw[<-ha];simp[aR, *]⟩
def Cy(b:List (List Nat))(s:List Nat):Bool:=decide (b.length<=5)&&decide (s.length<=10)&& !(b.any qh)
theorem KB(b:List (List Nat))(s:List Nat)(hb:b.length<1000000000)(hs:s.length<1000000000):aI C 18 [.aa false (ij b),.aa false (fM s)] (.bool (Cy b s)):=by
 have h1:=Ob b hb;have e1:=uO b;have e2:=nQ s;have hS:Cy b s=(decide (b.length<=5)&&decide (s.length<=10)&& !(b.any qh)):=rfl;generalize b.any qh=W at *;refine aI.x T6 Tryz.func18 rfl ?_;refine wJ (λhc hc=>?_) (λhc hc=>?_) λhc=>?_
 ·refine .p h1 ?_
  cases W
  ·refine wA ?_;exact⟨_,rfl,by rw[hS,decide_eq_true (by omega),decide_eq_true (by omega)];rfl⟩
  ·refine wA ?_;exact⟨_,rfl,by rw[hS];simp[aR]⟩
 exact⟨_,rfl,by rw[hS,decide_eq_false (p:=s.length<=10) (by omega)];simp[aR]⟩;exact⟨_,rfl,by rw[hS,decide_eq_false (p:=b.length<=5) (by omega)];simp[aR]⟩
def se(l:List fq):Nat:=(l.map λd=>br d.kn+ax d.tm+2).sum
def dD(l:List fq):List Tm:=l.flatMap λd=>d.kn++[d.tm]
theorem qW(d:fq)(l:List fq):se (d::l)=br d.kn+ax d.tm+2+se l:=by simp[se]
theorem tD{d:fq}:∀{l:List fq},d∈l->br d.kn+ax d.tm+2<=se l
 |u::l,h=>by
  rw[qW];rcases ab5.1 h with rfl |h;omega;have:=tD h;omega
theorem mh:∀(l:List fq),l.length<=se l
 |[]=>by simp
 |d::l=>by have:=mh l;rw[qW,ab9];omega
theorem Ms(t:Tm):br [t]=ax t:=by simp[br]
theorem kN:∀(l:List fq),br (dD l)<=se l
 |[]=>by simp[dD,br]
 |d::l=>by
  have:=kN l;rw[qW];simp only[dD,adj,ke,Ms]at this ⊢;omega
theorem Hg(l:List fq)(hl:se l<100000000):aI C 22 [.aa false (bV l)] (.aa false (ae (dD l))):=by
 have cz:=gv l;have DU:=mh l;refine aI.x T6 Tryz.func22 rfl ?_;refine wA ?_;refine cU.zip T6 l (λp q L H=>∃v,L=[(0,.aa false (bV l)),(3,v),(4,.int .i64 p.length)]/\HV H/\Out 4 H v (ae (dD p))) (.nx ⟨_,rfl,HV.nil,.inl ⟨rfl,rfl⟩⟩) ?_ ?_
 ·rintro p d q _ H O e ⟨v,rfl,hH,ho⟩;have cC:=gL e;have dp:=lenE e;have oA:dD l=dD p++(d.kn++[d.tm])++dD q:=by rw[e];simp[dD]
  have F9:=kN l;have Np:=aY (dD l);have xi:=congrArg List.length oA;simp only[ab3,ab9,acz]at xi;have hle:=ai (dD p);have vH:=ai d.kn;have MO:ao [PV.agg [.int .i64 d.tm.k,.str d.tm.s,.int .i64 d.tm.o,.aa false (ae d.tm.l)]]=true:=by simp
  have e9:[.agg [.int .i64 d.tm.k,.str d.tm.s,.int .i64 d.tm.o,.aa false (ae d.tm.l)]]=ae [d.tm]:=by rw[ae,<-ar];rfl
  obtain⟨r1,H1,a1,o1,v1,l1,k1,n1⟩:=T1 T6 (st:=31) (xt:=31) (full:=false) (es:=ae (dD p)) (ys:=ae d.kn) rfl rfl rfl rfl rfl (by decide) rfl rfl ho (hC _) (by omega) (by simp) (by simp) hH;have xe:(ae (dD p)++ae d.kn).length=(dD p).length+d.kn.length:=by rw[ab3];omega
  obtain⟨r2,H2,a2,o2,v2,l2,k2,n2⟩:=T1 T6 (st:=31) (xt:=31) (full:=true) (es:=ae (dD p)++ae d.kn) (ys:=[.agg [.int .i64 d.tm.k,.str d.tm.s,.int .i64 d.tm.o,.aa false (ae d.tm.l)]]) rfl rfl rfl rfl rfl (by decide) rfl rfl o1 rfl (by rw[xe];simp;omega) (by rw[dF];simp) MO v1;refine wA ?_;refine .calm ?_ H2 (Gt (λ_=>rfl) rfl (λj o h=>?_) (λrun O=>?_)) ?_
  rotate_left
  ·rcases n2 j o h with h |h;exact .inl h;exact n1 j o h
  ·refine(zW (kP T6 (by exact rfl))).trans ?_;refine(zW (kP T6 (by exact rfl))).trans ?_;refine(zW (kP T6 (by exact rfl))).trans ?_;refine(zW (kR T6 (by(conv=>whnf);exact .mk (n:=p.length) ⟨rfl⟩ rfl cC rfl) rfl)).trans ?_;refine(zW (kP T6 (by exact rfl))).trans ?_;refine(zW (kR T6 (by exact rfl) rfl)).trans ?_;refine(zW (Xw rfl rfl rfl rfl (Ar rfl rfl a1) l1 k1)).trans ?_;refine(zW (kP T6 (by exact rfl))).trans ?_;refine(zW (kP T6 (by exact rfl))).trans ?_;refine(zW (kR T6 (by(conv=>whnf);exact .mk (n:=p.length) ⟨rfl⟩ rfl cC rfl) rfl)).trans ?_;refine(zW (kP T6 (by exact rfl))).trans ?_;refine(zW (kR T6 (by exact rfl) rfl)).trans ?_;refine(zW (kBs rfl rfl rfl (U6 T6 (by exact rfl) MO))).trans ?_;refine(zW (Xw rfl rfl rfl rfl (Ar rfl rfl a2) l2 k2)).trans ?_;refine(zW (kP T6 (by exact rfl))).trans ?_;exact rfl
  ·refine wA ?_;refine .nx ⟨_,rfl,v2,?_⟩;rw[e9,<-bS,<-bS]at o2;rw[show dD (p++[d])=dD p++d.kn++[d.tm] by simp[dD]];exact o2
 ·rintro _ H O ⟨v,rfl,hH,ho⟩;refine wA ?_;exact Ls.Gy (.inl ho) (by simp) (by simp)
theorem GW{sz:Nat}{h:ab}{v:PV}{es:List PV}(o:Ls sz h v es)(hv:aU v=true):cj v=.aa false (aQ es):=by
 rcases o with(⟨rfl,rfl⟩|⟨id,ep,rfl,_⟩)|⟨f,rfl⟩
 rfl
 simp[aU]at hv;simp[cj]
theorem GX{sz:Nat}{h:ab}{v:PV}{es:List PV}(o:Ls sz h v es)(hv:ao es=true):∀id∈(cells v).flatMap wv,∃o:aw,h[id]?=some o/\ao o.es=true/\(o.mu=.m\/o.mu=.f):=by
 rcases o with(⟨rfl,rfl⟩|⟨i,ep,rfl,e⟩)|⟨f,rfl⟩
 intro id bZ;simp[cells,wv]at bZ
 ·intro id bZ
  simp[cells,wv]at bZ;subst bZ;exact⟨_,e,hv,.inl rfl⟩
 intro id bZ;simp[cells,wv]at bZ
theorem We{f:FuncId}{sz1:Nat}{H:ab}{r1 rv:PV}{k:IntKind}{n:Int}{lc:List PV}{Q:PV->ab->Prop}(o1:Ls sz1 H r1 lc)(a:aI C f [.aa false lc,.int k n] rv)(q:∀h',Q rv h')(hm:C.mode f=.pure:=by rfl)
  (uo:ao lc=true:=by simp) (Cf:aQ lc=lc:=by simp):aj C 2 f [r1,.int k n] H Q:=by
 by_cases wQ:ao [r1,.int k n]=true
 ·have KJ:=wQ;simp only[ao,adp,ab4]at KJ;have n1:=GW o1 KJ.1;exact aj.pure hm wQ (by simpa[aQ,cj,n1,Cf]using a) (q H)
 ·obtain⟨a1,b1,c1⟩:=o1.jP uo;refine aj.any (args':=[a1,.int k n]) (by simp only[gC,b1,show jP H (.int k n)=some (.int k n)from rfl]) (by simpa using wQ) (λid bZ=>?_) (by simpa[aQ,cj,c1,Cf]using a) q hm;simp only[jd,adj,List.flatMap_nil,ack,ab2]at bZ;rcases bZ with bZ |bZ;exact GX o1 uo id bZ;simp[cells,wv]at bZ
theorem Jd{B:Nat}:∀{l:List fq},(∀d∈l,br d.kn+ax d.tm+2<=B)->se l<=l.length * B
 |[],_=>by simp[se]
 |d::l,h=>by
  have h1:=h d (by simp);have h2:=Jd (l:=l) λx hx=>h x (by simp[hx])
  rw[qW,ab9,acU];omega
theorem Oe(b:List (List Nat)):se (l6 b)<=40000:=by
 obtain⟨h1,h2⟩:=yk b
 have h3:=Jd (B:=7900) (l:=l6 b) λd hd=>by
  obtain⟨q1,q2,_,q4⟩:=h2 d hd;have:=ti (B:=770) (l:=d.kn) λt ht=>(q2 t ht).2
  have:=acF 770 q1;omega
 have:=acF 7900 h1;omega
theorem GY(l:List fq):cO l=dD l:=rfl
end bC
open Go.MapKept
set_option maxRecDepth 4000
def KO(es:List PV):Prop:=∀e∈es,∃s:ByteArray,e=.agg [.str s,.bool true]/\s.toList.head?≠some 113
theorem Jk(s:ByteArray):∀{es:List PV} (i:Nat),KO es->∃r,lN (.str s) es i=some r
 |[],i,_=>⟨_,rfl⟩
 |e::es,i,h=>by
  obtain⟨s',rfl,_⟩:=h e (by simp);have ih:=Jk s (es:=es) (i+1) λx hx=>h x (by simp[hx])
  rw[lN]
  cases hb:s==s' with
  |true=>exact⟨some (i,.bool true),by simp[pN,hb]⟩
  |false=>obtain⟨r,hr⟩:=ih;exact⟨r,by simpa[pN,hb]using hr⟩
theorem Jl{s:ByteArray}(hs:s.toList.head?=some 113):∀{es:List PV} (i:Nat),KO es->lN (.str s) es i=some none
 |[],i,_=>rfl
 |e::es,i,h=>by
  obtain⟨s',rfl,h'⟩:=h e (by simp);have ih:=Jl hs (es:=es) (i+1) λx hx=>h x (by simp[hx])
  have hb:(s==s')=false:=by
   cases hb:s==s' with
   |false=>rfl
   |true=>
    rw[(bytes_beq _ _).1 hb]at hs;exact absurd hs h'
  rw[lN];simpa[pN,hb]using ih
theorem Wg{s:ByteArray}{es:List PV}(h:KO es)(hs:s.toList.head?≠some 113):∃eV,Gb (.str s) (.bool true) es=some eV/\KO eV:=by
 obtain⟨r,hr⟩:=Jk s 0 h;unfold Gb;rw[hr]
 cases r with
 |none=>exact⟨_,rfl,λe he=>by
   rcases ab2.1 he with he |he;exact h e he;simp at he;exact⟨s,he,hs⟩⟩
 |some p=>exact⟨_,rfl,λe he=>by
   rcases adl he with he |he;exact h e he;exact⟨s,he,hs⟩⟩
theorem Wh{f:Nat->Bool}{es:List PV}(h:KO es):bG f es=true:=by
 rw[fX,abX]
 intro e he
 obtain⟨s,rfl,_⟩:=h e he
 rfl
noncomputable def As(l p:List fq)(d:fq):Bool×Int:=
 if kL l≠0 then(false,kL l)
 else if nM (gr 0 (bH l)) (d.kn++eO p)≠0 then(false,nM (gr 0 (bH l)) (d.kn++eO p))
 else if(ct (gr 0 (bH l)) d.tm).2≠0 then(false,(ct (gr 0 (bH l)) d.tm).2)
 else(mf (bz (gr 0 (bH l)) (d.kn++eO p)) (bj (gr 0 (bH l)) d.tm),fN (bz (gr 0 (bH l)) (d.kn++eO p)) (bj (gr 0 (bH l)) d.tm))
theorem Bm(p:List fq)(d:fq):eO (p++[d])=eO p++(if d.tm.k=1 then[d.tm]else[]):=by
 unfold eO;rw[adJ,acK]
 congr 1
 by_cases h:d.tm.k=1 <;>simp[h]
def sg:Nat->List Tm->List PV
 |_,[]=>[]
 |n,v::l=>.agg [.int .i64 v.k,.str v.s,.int .i64 v.o,.aa false (ae v.l),.int .i64 2,.str (⟨#[113]⟩++⟨#[UInt8.ofNat (48+n)]⟩),.int .i64 v.o,.aa true []]::sg (n+1) l
theorem Ei:∀(l:List Tm) (n:Nat),(sg n l).length=l.length
 |[],_=>rfl
 |v::l,n=>by rw[sg,ab9,ab9,Ei l]
theorem Bn(v:Tm):∀(l:List Tm) (n:Nat),sg n (l++[v])=sg n l++[.agg [.int .i64 v.k,.str v.s,.int .i64 v.o,.aa false (ae v.l),.int .i64 2,.str (⟨#[113]⟩++⟨#[UInt8.ofNat (48+(n+l.length))]⟩),.int .i64 v.o,.aa true []]]
 |[],n=>rfl
 |u::l,n=>by
  rw[aco,sg,sg,Bn v l (n+1),aco,ab9,show n+1+l.length=n+(l.length+1) by omega]
@[simp] theorem KP:∀(l:List Tm) (n:Nat),ao (sg n l)=true
 |[],_=>rfl
 |v::l,n=>by simp[sg,ao,aU,KP l]
@[simp] theorem Ej:∀(l:List Tm) (n:Nat),aQ (sg n l)=dR (gr n l)
 |[],_=>rfl
 |v::l,n=>by
  have h:qi n v.o=.mk 2 (⟨#[113]⟩++⟨#[UInt8.ofNat (48+n)]⟩) v.o []:=rfl;rw[sg,gr,aQ,Ej l,h];simp[dR,Ak,cj,aQ,Tm.k,Tm.s,Tm.o,Tm.l]
def Zi(sz:Nat)(h:ab)(v:PV)(es:List PV):Prop:=(v=.aa true []/\es=[])\/∃id ep,∃mu:Mu,v=.ak id ep 0 es.length/\h[id]?=some ⟨mu,ep,sz,es⟩/\(mu=.m\/mu=.f)
theorem Out.N1{sz:Nat}{h h':ab}{v:PV}{es:List PV}{ids:List Nat}(o:Out sz h v es)(z:N0 ids h h'):Zi sz h' v es:=by
 rcases o with o |⟨id,ep,rfl,e⟩;exact .inl o
 ·obtain⟨mu,h1,h2⟩:=z.oF id _ e;exact .inr ⟨id,ep,mu,rfl,h1,h2⟩
end Go.Pm
namespace Go.Pm
namespace bC
open Go.Proofs
attribute [local irreducible] aD az aL aJ Ev ah aj ay bg bN
set_option maxRecDepth 4000
theorem Wi{f:FuncId}{sz1 sz2:Nat}{H:ab}{r1 r2 rv:PV}{lc dQ Zj Zk:List PV}{Q:PV->ab->Prop}(o1:Ls sz1 H r1 lc)(o2:Ls sz2 H r2 dQ)(a:aI C f [.aa false Zj,.aa false Zk] rv)(q:∀ids h',N0 ids H h'->Q rv h')(hm:C.mode f=.pure:=by rfl)
  (uo:ao lc=true:=by simp) (zR:ao dQ=true:=by simp) (Cf:aQ lc=Zj:=by simp) (T7:aQ dQ=Zk:=by simp):aj C 2 f [r1,r2] H Q:=by
 by_cases wQ:ao [r1,r2]=true
 ·have KJ:=wQ;simp only[ao,adp,ab4]at KJ;have n1:=GW o1 KJ.1;have n2:=GW o2 KJ.2;exact aj.pure hm wQ (by simpa[aQ,n1,n2,Cf,T7]using a) (q [] H (.refl _ _))
 ·obtain⟨a1,b1,c1⟩:=o1.jP uo;obtain⟨a2,b2,c2⟩:=o2.jP zR;refine aj.Y9 (args':=[a1,a2]) (by simp[gC,b1,b2]) (by simpa using wQ) (λid bZ=>?_) (by simpa[aQ,c1,c2,Cf,T7]using a) (λh' z=>q _ h' z) hm;simp only[jd,adj,List.flatMap_nil,ack,ab2]at bZ;rcases bZ with bZ |bZ;exact GX o1 uo id bZ;exact GX o2 zR id bZ
theorem Wj{f:FuncId}{sz:Nat}{H:ab}{v rv:PV}{es eV:List PV}{t:Tm}{Q:PV->ab->Prop}(o:Zi sz H v es)(a:aI C f [.aa false eV,enc t] rv)(q:∀h',Q rv h')(hm:C.mode f=.pure:=by rfl)
  (hv:ao es=true:=by simp) (hn:aQ es=eV:=by simp):aj C 2 f [v,.agg [.int .i64 t.k,.str t.s,.int .i64 t.o,.aa false (ae t.l)]] H Q:=by
 rw[<-ar];rcases o with⟨rfl,rfl⟩|⟨id,ep,mu,rfl,e,wP⟩
 ·obtain rfl:eV=[]:=by simpa[aQ]using hn.symm
  exact aj.pure hm (by simp[ao,aU]) (by simpa[aQ,cj]using a) (q H)
 ·have hg:getM H id ep=some ⟨mu,ep,sz,es⟩:=by
   unfold getM;rw[e];rcases wP with rfl |rfl <;>simp
  have h2:=nW (h:=H) (show ao [enc t]=true by simp);refine aj.any (args':=[.aa false es,enc t]) ?_ (by simp[ao,aU]) (λi hi=>?_) (by simpa[aQ,cj,hn]using a) q hm
  ·unfold gC;rw[h2];simp[jP,pD,hg,hv,wP]
  ·rw[ar]at hi
   have hi:i=id:=by
    unfold jd at hi;simpa only[adj,List.flatMap_nil,cells,wv,ack,ab5,adh,or_false]using hi
   subst hi;exact⟨_,e,hv,wP⟩
theorem Oo{sz:Nat}{es:List PV}(ho:dC sz es)(hn:es.length<1000000000)(hv:ao es=true){H:ab}(hH:HR H):∃r H',bE sz [.aa false es] H=some (r,H')/\Out sz H' r es/\HR H'/\(∀(j:Nat) (o:aw),H[j]?=some o->H'[j]?=some o):=by
 unfold bE
 cases es with
 |nil=>exact⟨.aa true [],H,rfl,.inl ⟨rfl,rfl⟩,hH,λ_ _ h=>h⟩
 |cons x r=>
  unfold dC at ho;simp only[List.isEmpty_cons,aca,if_false];rw[if_pos ⟨ho,hn⟩];exact⟨_,_,rfl,.inr ⟨H.length,0,rfl,by simp[newObj]⟩,hH.du (HV.one hv),λj o h=>by rw[newObj,abW (ag h)];exact h⟩
theorem Wk{h:ab}{v w:PV}{lc dQ:List PV}{i:Nat}(o1:Out 8 h v lc)(o2:Out 4 h w dQ)(hi:i∈b9 v):∀ep n,w≠.ak i ep 0 n:=λep n hw=>by
 rcases o1 with⟨rfl,_⟩|⟨id,e,rfl,q⟩;simp[b9]at hi
 ·simp[b9]at hi;subst hi;rcases o2 with⟨rfl,_⟩|⟨id2,e2,rfl,q2⟩
  cases hw
  ·cases hw
   rw[q]at q2
   cases q2
theorem Oq(n:Nat)(h:n<4):aI C 73 [.int .i64 n] (.str ⟨#[UInt8.ofNat (48+n)]⟩):=by
 match n,h with
 |0,_=>exact aI.iS (n:=40) (by kernel_rfl)
 |1,_=>exact aI.iS (n:=40) (by kernel_rfl)
 |2,_=>exact aI.iS (n:=40) (by kernel_rfl)
 |3,_=>exact aI.iS (n:=40) (by kernel_rfl)
theorem Ek(l p0 q0:List fq)(d0:fq)(e0:l=p0++d0::q0)(D:KL l)(hl:l.length<1000000)(hb:br (cO l)<900000):
  aI C 23 [.aa false (bV l),.int .i64 p0.length] (.cA [.bool (As l p0 d0).1,.int .i64 (As l p0 d0).2]):=by
 have cz:=gv l;have ek:∀d∈l,∀t∈d.kn++[d.tm],t∈cO l:=λd hd t ht=>acL.2 ⟨d,hd,ht⟩
 have Dp:∀t∈cO l,ax t<900000:=λt ht=>by have:=bD ht;omega
 have cM:=aY (cO l)
 have sZ:∀d∈l,d.kn.length<900000:=λd hd=>by
  obtain⟨p,q,e⟩:=adg hd;have h2:d.kn.length<=(cO l).length:=by rw[e];simp[cO];omega
  omega
 have h1:=yv l (by omega) (λd hd=>⟨by have:=sZ d hd;omega,λt ht=>by have:=Dp t (ek d hd t ht);omega⟩);have h3:=Au l hl (by omega);have hvb:∀x∈bH l,ax x<900000:=λx hx=>uT Dp x (acO.1 hx).1
 have nJ:=ai (bH l);have Dq:p0.length<l.length:=by rw[e0];simp
 have hDn:=D.n
 have NE:∀t∈de (cO l),t.s.toList.head?≠some 113:=λt ht=>by
  obtain⟨u,hu,hp⟩:=bF.1 ((cq _ _).1 ht);obtain⟨d,hd,hu⟩:=acL.1 hu;exact(I4 (gZ.1 (D.f d hd u hu)).2 hp).2
 have KQ:d0∈l:=by rw[e0];simp
 have rz:=gL e0;refine aI.x T6 Tryz.func23 rfl ?_;refine wA ?_;refine .p h1 ?_;refine wC (λhc=>?_) λhc=>?_
 ·have Mz:kL l=0:=by omega
  have hM:As l p0 d0=if nM (gr 0 (bH l)) (d0.kn++eO p0)≠0 then(false,nM (gr 0 (bH l)) (d0.kn++eO p0))
    else if(ct (gr 0 (bH l)) d0.tm).2≠0 then(false,(ct (gr 0 (bH l)) d0.tm).2)
    else(mf (bz (gr 0 (bH l)) (d0.kn++eO p0)) (bj (gr 0 (bH l)) d0.tm),fN (bz (gr 0 (bH l)) (d0.kn++eO p0)) (bj (gr 0 (bH l)) d0.tm)):=by rw[As,if_neg (by omega)]
  rw[hM];refine cU.zip T6 l (λp q L H=>∃v,L=[(0,.aa false (bV l)),(1,.int .i64 p0.length),(7,v),(36,.aa false (bV l)),(37,.int .i64 (bV l).length),(38,.int .i64 p.length)]/\HV H/\Out 4 H v (ae (cO p))/\(p=[]->v=.aa true [])) (.nx ⟨_,rfl,HV.nil,.inl ⟨rfl,rfl⟩,λ_=>rfl⟩) ?_ ?_
  ·rintro p d q _ H O e ⟨v,rfl,hH,ho,_⟩;have cC:=gL e;have dp:=lenE e;have lE:cO (p++[d])=cO p++(d.kn++[d.tm]):=by simp[cO]
   have G7:(cO p).length+(d.kn++[d.tm]).length<=(cO l).length:=by rw[e];simp[cO]
   have hle:=ai (cO p);have hlu:=ai (d.kn++[d.tm]);have Bi:=uU d (by simp at G7;omega);rw[s9]at Bi;have lF:=hH.db (HV.one (ep:=0) (n:=5) (es:=[PV.agg [.aa false (ae d.kn),.int .i64 d.tm.k,.str d.tm.s,.int .i64 d.tm.o,.aa false (ae d.tm.l)]]) (by simp));have CA:=ho.db [⟨.m,0,5,[PV.agg [.aa false (ae d.kn),.int .i64 d.tm.k,.str d.tm.s,.int .i64 d.tm.o,.aa false (ae d.tm.l)]]⟩];refine wA ?_;refine .p Bi ?_;refine wG λv H lp=>?_;refine .nx ⟨_,rfl,lp.hv,?_,by simp⟩;have:=lp.out;rw[lE,bS];exact this
  ·rintro _ H O ⟨v,rfl,hH,ho,Di⟩;have bO:cO l≠[]:=by rw[e0];simp[cO]
   obtain⟨id,ep,rfl,e1⟩:∃id ep,v=.ak id ep 0 (ae (cO l)).length/\H[id]?=some ⟨.m,ep,4,ae (cO l)⟩:=by
    rcases ho with⟨_,h⟩|h;exact absurd (acd (by rw[<-ai,h];rfl)) bO;exact h
   have lF:HR (H++[(⟨.m,0,0,[]⟩:aw)]):=hH.hr.du (HV.one (by simp));have z7:=pj (cO l) bO (H++[⟨.m,0,0,[]⟩]) lF id ep (by rw[abW (ag e1)];exact e1) (by omega);rw[ai]at *;refine wA ?_;refine .fr z7 (λr h' hr hb=>?_) (λr h' r1 r2 r3 r4=>?_)
   ·obtain⟨_,id,ep,n,rfl,bZ⟩:=hr;simp[dV,cN,dU]at hb bZ;omega
   obtain⟨⟨id2,UT,tl,rfl,e2,e3⟩,id3,ep3,n,e4,bZ⟩:=r4
   have wN:H.length<id2:=by
    cases e4
    simp at bZ;omega
   have hm0:h'[H.length]?=some ⟨.m,0,0,[]⟩:=by rw[r3 _ (by simp)];simp
   refine wA ?_;have Qr:=nX (cO l);refine cU.zip T6 (de (cO l)) (λp q L K=>∃es,L=[(0,.aa false (bV l)),(1,.int .i64 p0.length),(10,.cG H.length),(49,.ak id2 UT 0 (de (cO l)).length),(50,.int .i64 (de (cO l)).length),(51,.int .i64 p.length)]/\HR K/\K[id2]?=some ⟨.m,UT,4,ae (de (cO l))++tl⟩/\K[H.length]?=some ⟨.m,0,0,es⟩/\KO es) (.nx ⟨[],rfl,r1,e2,hm0,λe he=>by cases he⟩) ?_ ?_
   ·rintro p x q _ K O e ⟨es,rfl,hK,hK2,RG,hn⟩;have cC:=atM (tl:=tl) e;have dp:=lenE e;have Yx:(ae (de (cO l))++tl).length=(de (cO l)).length+tl.length:=by rw[ab3,ai]
    obtain⟨eV,hp,I0⟩:=Wg hn (NE x (by rw[e];simp));refine wA ?_;refine .mk hp ?_ (by rw[abW (ag RG)];exact RG);refine wA ?_;have QA:HR (K++[(⟨.m,0,4,[.agg [.int .i64 x.k,.str x.s,.int .i64 x.o,.aa false (ae x.l)]]⟩:aw)]):=hK.du (HV.one (by simp));refine .nx ⟨eV,rfl,QA.set _ (by simp) (Wh I0),?_,abY (by have:=ag RG;simp;omega),I0⟩;rw[ab0 (by omega),abW (ag hK2)];exact hK2
   ·rintro _ K O ⟨es,rfl,hK,_,RG,hn⟩;refine wA ?_;refine .p h3 ?_;refine wA ?_;refine cU.zip T6 (bH l) (λp q L K=>∃v,L=[(0,.aa false (bV l)),(1,.int .i64 p0.length),(10,.cG H.length),(13,v),(14,.int .i64 p.length),(60,.aa false (ae (bH l))),(61,.int .i64 (ae (bH l)).length),(62,.int .i64 p.length)]/\HR K/\K[H.length]?=some ⟨.m,0,0,es⟩/\(∀i∈b9 v,i≠H.length)/\Out 8 K v (sg 0 p)) (.nx ⟨_,rfl,hK,RG,by simp[b9],.inl ⟨rfl,rfl⟩⟩) ?_ ?_
    ·rintro p x q _ K O e ⟨v,rfl,hK,RG,XI,ho⟩;have cC:=ba e;have nJ:=ai (bH l);have dp:=lenE e;have IJ:=Oq p.length (by omega);have lE:=Bn x p 0;rw[acf]at lE;have XJ:(⟨#[113]⟩++⟨#[UInt8.ofNat (48+p.length)]⟩:ByteArray)=⟨#[113,UInt8.ofNat (48+p.length)]⟩:=rfl;have hf:lN (.str (⟨#[113]⟩++⟨#[UInt8.ofNat (48+p.length)]⟩)) es 0=some none:=Jl (by rw[XJ,ByteArray.toList_eq];simp) 0 hn;have hDs:(⟨#[UInt8.ofNat (48+p.length)]⟩:ByteArray).size=1:=rfl;have hEs:(⟨#[113]⟩:ByteArray).size=1:=rfl;have QA:HR (K++[(⟨.m,0,4,[.agg [.int .i64 x.k,.str x.s,.int .i64 x.o,.aa false (ae x.l)]]⟩:aw)]):=hK.du (HV.one (by simp));have Wl:(K++[(⟨.m,0,4,[.agg [.int .i64 x.k,.str x.s,.int .i64 x.o,.aa false (ae x.l)]]⟩:aw)])[H.length]?=some ⟨.m,0,0,es⟩:=by rw[abW (ag RG)];exact RG
     have CA:=ho.db [(⟨.m,0,4,[.agg [.int .i64 x.k,.str x.s,.int .i64 x.o,.aa false (ae x.l)]]⟩:aw)];have hcx:(K++[(⟨.m,0,4,[.agg [.int .i64 x.k,.str x.s,.int .i64 x.o,.aa false (ae x.l)]]⟩:aw)])[K.length]?=some (⟨.m,0,4,[.agg [.int .i64 x.k,.str x.s,.int .i64 x.o,.aa false (ae x.l)]]⟩:aw):=by simp
     have hlf:=Ei p 0;clear XJ;generalize(⟨#[UInt8.ofNat (48+p.length)]⟩:ByteArray)=Dg at *;refine wA ?_;refine cU.zip T6 ([]:List Nat) (λa b L J=>L=[(0,.aa false (bV l)),(1,.int .i64 p0.length),(10,.cG H.length),(13,v),(14,.int .i64 p.length),(16,.ptr K.length 0 0 0),(60,.aa false (ae (bH l))),(61,.int .i64 (ae (bH l)).length),(62,.int .i64 p.length)]/\J=K++[(⟨.m,0,4,[.agg [.int .i64 x.k,.str x.s,.int .i64 x.o,.aa false (ae x.l)]]⟩:aw)]) (.nx ⟨rfl,rfl⟩) ?_ ?_
     ·rintro a u b _ J O e _
      cases a <;>cases e
     ·rintro _ _ O ⟨rfl,rfl⟩;refine wA ?_;refine .p IJ ?_;refine wA ?_;refine .Ot hf ?_ Wl;refine wA ?_;refine .mk (.str Dg) (by simpa[aQ,cj]using IJ) ?_;refine wA ?_;refine .lr (λv' h'' lr=>?_) CA;refine wA ?_
      have RA:∀i∈b9 v',i≠H.length:=λi hi=>by
       rcases lr.b9 i hi with h |h;exact XI i h;have:=ag Wl;omega
      refine .nx ⟨_,rfl,lr.hr,?_,RA,?_⟩
      ·rw[lr.fr _ (ag Wl) (λep n h=>XI H.length (by rw[h];simp[b9]) rfl)];exact Wl
      ·rw[lE];exact lr.out
    ·rintro _ K O ⟨v,rfl,hK,RG,XI,ho⟩;have nJ:=ai (bH l);have hsd:(0<=p0.length/\p0.length<=(bV l).length)/\Option.all (λv=>(cells v).length==5) (bV l)[0]?=true:=⟨⟨by omega,by omega⟩,by rw[e0];cases p0 <;>simp[bV,s9,cells]⟩;have MH:List.take (p0.length - 0) (List.drop 0 (bV l))=bV p0:=by rw[ac3,e0];simp[bV]
     obtain⟨w0,K1,a1,o1,QA,k1⟩:=Oo (hC d0.kn) (by rw[ai];have:=sZ d0 KQ;omega) (by simp) hK
     have CA:Out 8 K1 v (sg 0 (bH l)):=ho.of_eq λi hi=>by
      have h1:=ho.ls i hi;rw[k1 i _ (ab1 h1),ab1 h1]
     refine wA ?_;refine aj.cV rfl a1 ?_;refine wA ?_;rw[MH];have jR:=gv p0;refine cU.zip T6 p0 (λp q L K=>∃w,L=[(0,.aa false (bV l)),(1,.int .i64 p0.length),(13,v),(17,w),(95,.aa false (bV p0)),(96,.int .i64 (bV p0).length),(97,.int .i64 p.length)]/\HR K/\Out 8 K v (sg 0 (bH l))/\Out 4 K w (ae (d0.kn++eO p))) (.nx ⟨_,rfl,QA,CA,by simpa[eO]using o1⟩) ?_ ?_
     ·rintro p u q _ K O e ⟨w,rfl,hK,hv,hw⟩;have cC:=gL e;have dp:=lenE e;have DG:=sZ d0 KQ;have Oc:(eO p).length<=p.length:=by unfold eO;rw[acW];exact acV _ _
      have hle:=ai (d0.kn++eO p);rw[ab3]at hle;have lE:=Bm p u;have hK2:=hK.du (HV.one (ep:=0) (n:=5) (es:=[PV.agg [.aa false (ae u.kn),.int .i64 u.tm.k,.str u.tm.s,.int .i64 u.tm.o,.aa false (ae u.tm.l)]]) (by simp));have zR:=hv.db [(⟨.m,0,5,[PV.agg [.aa false (ae u.kn),.int .i64 u.tm.k,.str u.tm.s,.int .i64 u.tm.o,.aa false (ae u.tm.l)]]⟩:aw)];have RI:=hw.db [(⟨.m,0,5,[PV.agg [.aa false (ae u.kn),.int .i64 u.tm.k,.str u.tm.s,.int .i64 u.tm.o,.aa false (ae u.tm.l)]]⟩:aw)];refine wC (λhc=>?_) λhc=>?_
      ·refine .lr (λw' h'' lr=>?_) RI;refine wA ?_;refine .nx ⟨_,rfl,lr.hr,zR.of_eq λi hi=>lr.fr i (zR.ls i hi) (Wk zR RI hi),?_⟩;rw[lE,if_pos (by omega),<-acp,bS,uN];exact lr.out
      ·refine .nx ⟨_,rfl,hK2,zR,?_⟩;rw[lE,if_neg (by omega),ack];exact RI
     ·rintro _ K O ⟨w,rfl,hK,hv,hw⟩;have yu:=On D;have DG:=sZ d0 KQ;have Oc:(eO p0).length<=p0.length:=by unfold eO;rw[acW];exact acV _ _
      obtain⟨xi,Rl⟩:=uG Mz;obtain⟨Wm,KK⟩:=Rl d0 KQ;have KR:∀u∈p0,u∈l:=λu hu=>by rw[e0];exact ac0 _ hu
      have XK:∀t∈d0.kn++eO p0,t∈cO l:=λt ht=>by
       rcases ab2.1 ht with h |h;exact ek d0 KQ t (by simp[h])
       ·obtain⟨u,hu,rfl⟩:=aci.1 h;exact ek u (KR u (acO.1 hu).1) u.tm (by simp)
      have z8:∀t∈(d0.kn++eO p0)++[d0.tm],iE t=true:=λt ht=>by
       have:t∈cO l:=by
        rcases ab2.1 ht with h |h;exact XK t h;simp at h;rw[h];exact ek d0 KQ d0.tm (by simp)
       obtain⟨u,hu,h⟩:=acL.1 this;exact(gZ.1 (D.f u hu t h)).1
      have hQf:∀b∈gr 0 (bH l),iE b.t=true:=λb hb=>by
       obtain⟨i,h1,_,h3,h4⟩:=qY D hb;rw[h4];exact(tv h1 h3).2.2.1
      have IT:=Ou (gr 0 (bH l)) yu (d0.kn++eO p0) (by rw[ab3];omega) (λt ht=>by have:=Dp t (XK t ht);omega);have oA:=G8 (gr 0 (bH l)) yu d0.tm (by have:=Dp d0.tm (ek d0 KQ d0.tm (by simp));omega);have RJ:aQ (sg 0 (bH l))=dR (gr 0 (bH l)):=Ej _ _;have Dr:(d0.kn++eO p0).length<=80:=by rw[ab3];omega
      generalize gr 0 (bH l)=Q at *;generalize d0.kn++eO p0=KN at *;obtain⟨t1,Uj⟩:∃t1,t1=(ct Q d0.tm).1:=⟨_,rfl⟩;have ht2:(ct Q d0.tm).2=0->t1=bj Q d0.tm:=λh=>by rw[Uj,(tx h).1]
      rw[<-Uj]at oA;rw[ar t1]at oA;refine wA ?_;refine Wi (.inl hv) (.inl hw) IT (λids h' hz=>?_) rfl (by simp) (by simp) RJ;have xR:=hv.N1 hz;refine wC (λhc=>?_) λhc=>?_
      ·have RK:nM Q KN=0:=by omega
       rw[if_neg (show¬nM Q KN≠0 by omega)]
       skip
       refine Wj xR oA (λh''=>?_) rfl (by simp) RJ;refine wC (λhc=>?_) λhc=>?_
       ·have Dq:(ct Q d0.tm).2=0:=by omega
        have hww:=ht2 Dq
        have KT:br (bz Q KN++[t1])<10000000:=by
         have h1:∀t∈bz Q KN++[t1],ax t<=10000:=λt ht=>by
          rcases ab2.1 ht with h |h
          ·rw[bI]at h;obtain⟨y,hy,rfl⟩:=aci.1 h;exact fe (tx (Bo RK y hy)).2.2
          ·simp at h;rw[h,hww];exact fe (tx Dq).2.2
         have:=ti (B:=10000) h1;have h2:(bz Q KN++[t1]).length<=81:=by rw[ab3,dH];simp;omega
         have:=acF 10000 h2;omega
        have hfw:∀t∈bz Q KN++[t1],iE t=true:=by rw[hww];exact tw hQf z8
        have AW:=Aw (bz Q KN) t1 hfw KT;rw[ar t1]at AW;refine .p AW ?_;refine wA ?_;refine⟨_,rfl,?_⟩;rw[if_neg (show¬nM Q KN≠0 by omega),if_neg (show¬(ct Q d0.tm).2≠0 by omega),<-hww]
        rfl
       ·refine⟨_,rfl,?_⟩;rw[if_neg (show¬nM Q KN≠0 by omega),if_pos (show(ct Q d0.tm).2≠0 by omega)]
        rfl
      ·refine⟨_,rfl,?_⟩;rw[if_pos (show nM Q KN≠0 by omega)]
       rfl
 ·have hM:As l p0 d0=(false,kL l):=by rw[As,if_pos (by omega)]
  exact⟨_,rfl,by rw[hM];rfl⟩
end bC
theorem Bp{Q:List eE}:∀{l:List Tm},(∀t∈l,size (bj Q t)<=size t/\depth (bj Q t)<=depth t)->dA (bz Q l)<=dA l/\fG (bz Q l)<=fG l
 |[],_=>by simp[bz,dA,fG]
 |t::l,h=>by
  have h1:=h t (by simp);have h2:=Bp (l:=l) λu hu=>h u (by simp[hu])
  simp only[bz,dA,fG];omega
theorem size_leaf{t:Tm}(h:t.l=[]):size t=1/\depth t=1:=by
 obtain⟨k,s,o,l⟩:=t;obtain rfl:l=[]:=h;simp[size,dA,depth,fG]
theorem KU{Q:List eE}(hQ:∀b∈Q,b.t.l=[])(t:Tm):size (bj Q t)<=size t/\depth (bj Q t)<=depth t:=by
 induction t using Tm.ind with
 |h k s o l ih=>
  have hs:=Bp ih;rw[bj]
  split
  ·rcases pd (S:=Q) (x:=.mk k s o l)with⟨b,h1,_,h3⟩|⟨_,h2⟩
   ·rw[h3];have:=size_leaf (hQ b h1);have:=cX l;have:=gW l;simp only[size,depth];omega
   ·rw[h2];exact⟨Int.le_refl _,Int.le_refl _⟩
  ·simp only[size,depth];omega
theorem KW{Q:List eE}(hQ:∀b∈Q,nodes b.t=0)(t:Tm):nodes t=0->nodes (bj Q t)=0:=by
 induction t using Tm.ind with
 |h k s o l ih=>
  intro h
  obtain⟨h1,h2⟩:=lY h;rw[bj]
  split
  ·rcases pd (S:=Q) (x:=.mk k s o l)with⟨b,hb,_,h3⟩|⟨_,h3⟩;rw[h3];exact hQ b hb;rw[h3];exact h
  ·have hn:node (.mk k s o (bz Q l))=0:=by
    simp only[node]at h1 ⊢;rw[dH];exact h1
   rw[nodes,if_neg (by omega)];refine vD λt ht=>?_;rw[bI]at ht;obtain⟨u,hu,rfl⟩:=aci.1 ht;exact ih u hu (lT h2 u hu)
structure MJ(Q:List eE):Prop where
 v:∀b∈Q,valid b.t=0
 k:∀b∈Q,b.t.k=2
 l:∀b∈Q,b.t.l=[]
theorem uV{Q:List eE}(A:MJ Q){t:Tm}(h:valid t=0):valid (bj Q t)=0:=by
 obtain⟨h1,h2,h3⟩:=eB.1 h;have h4:=KU A.l t;exact eB.2 ⟨KW (λb hb=>(eB.1 (A.v b hb)).1) t h1,by omega,by omega⟩
theorem KX{Q:List eE}{u:Tm}(h:u.k≠1):dE (bj Q u)=dE u:=by
 obtain⟨h1,_,h3,_⟩:=j8 (S:=Q) h;unfold dE;rw[h1,h3]
theorem RM{Q:List eE}(A:MJ Q)(t:Tm):kM t=0->(∀y∈pre t,y.k=1->y.o≠1)->kM (bj Q t)=0:=by
 induction t using Tm.ind with
 |h k s o l ih=>
  intro h ho
  by_cases hk:k=1
  ·rw[bj,if_pos hk];rcases pd (S:=Q) (x:=.mk k s o l)with⟨b,hb,_,h3⟩|⟨_,h3⟩
   ·rw[h3];have h2:=A.k b hb;generalize b.t=u at h2;obtain⟨k',s',o',l'⟩:=u;have h2:k'=2:=h2;rw[kM,if_pos (by omega)]
   rw[h3];exact h
  ·rw[bj,if_neg hk]
   by_cases Wn:k=3
   ·subst Wn;obtain⟨c1,c2,c3,c4,c5⟩:=CB h;have Zl:∀u∈l,∀y∈pre u,y.k=1->y.o≠1:=λu hu y hy=>ho y (by rw[pre];exact acX _ (bF.2 ⟨u,hu,hy⟩))
    have CC:fg s (bz Q l)=true:=by
     unfold fg at c4 ⊢;rw[bI]
     split
     ·rename_i hs
      rw[if_pos hs]at c4;rw[List.all_map,abX]
      intro u hu
      have G9:=abX.1 c4 u hu;have aaO:=G9;simp only[dE,decide_eq_true_eq]at G9;have uQ:u.k≠1:=λhk=>Zl u hu u (eZ u) hk G9.2
      show dE (bj Q u)=true;rw[KX uQ];exact aaO
     ·rename_i hs
      rw[if_neg hs]at c4
      split
      ·rename_i hn
       rw[if_pos hn]at c4
       cases l with
       |nil=>rfl
       |cons u l=>
        have h2:u.k=2:=by simpa using c4
        have:=(j8 (S:=Q) (t:=u) (by omega)).1;simp[this,h2]
      rfl
    have Aa:rA (bz Q l)=0:=bC.fA λt ht=>by
     rw[bI]at ht;obtain⟨u,hu,rfl⟩:=aci.1 ht;exact ih u hu (fA c5 u hu) (Zl u hu)
    rw[kM,if_neg (by simp),if_neg c1,dH,if_neg (by omega),if_neg (by rw[CC];simp),Aa]
   rw[kM,if_pos Wn]
theorem RN{Q:List eE}(A:MJ Q){t:Tm}(h:gY t=0)(ho:∀y∈pre t,y.k=1->y.o≠1):gY (bj Q t)=0:=by
 obtain⟨h1,h2⟩:=fh.1 h;exact fh.2 ⟨uV A h1,RM A t h2 ho⟩
theorem Ov{Q:List eE}(A:MJ Q)(t:Tm):(∀y∈pre t,y.k=1->∃b∈Q,b.v=y)->bL (bj Q t)=[]:=by
 intro hb
 refine adT.2 λy hy=>?_
 have hg:∀b∈Q,bL b.t=[]:=λb hb=>by
  refine adT.2 λy hy=>?_;obtain⟨h1,h2⟩:=(iM _ _).1 hy;rw[tj (A.l b hb) y h1,A.k b hb]at h2;omega
 induction t using Tm.ind with
 |h k s o l ih=>
  by_cases hk:k=1
  ·rw[bj,if_pos hk]at hy;rcases pd (S:=Q) (x:=.mk k s o l)with⟨b,h1,_,h3⟩|⟨h1,_⟩;rw[h3,hg b h1]at hy;cases hy
   ·obtain⟨b,h2,h3⟩:=hb _ (eZ _) hk;exact h1 b h2 h3
  ·rw[bj,if_neg hk]at hy;obtain⟨h1,h2⟩:=(iM _ _).1 hy;rw[pre]at h1;rcases ab5.1 h1 with rfl |h1;exact hk h2
   ·rw[bI]at h1;obtain⟨u,hu,h1⟩:=bF.1 h1;obtain⟨w,hw,rfl⟩:=aci.1 hu;exact ih w hw (λz hz=>hb z (by rw[pre];exact acX _ (bF.2 ⟨w,hw,hz⟩))) ((iM _ _).2 ⟨h1,h2⟩)
theorem Bq{l:List Tm}(h:fu l):l.Nodup:=List.Pairwise.imp (λh e=>by rw[e,cc]at h;omega) h
theorem Em{a:List Tm}:∀{b:List Tm},a.Nodup->(∀x∈a,x∈b)->a.length<=b.length:=by
 induction a with
 |nil=>intro b _ _;simp
 |cons x a ih=>
  intro b hd hs
  have hx:=hs x (by simp);obtain⟨p,q,rfl⟩:=adg hx;have Cd:=List.nodup_cons.1 hd
  have:=ih (b:=p++q) Cd.2 λy hy=>by
   have h1:=hs y (by simp[hy]);have h2:y≠x:=λe=>Cd.1 (e▸hy)
   simp only[ab2,ab5]at h1 ⊢;rcases h1 with h |h |h;exact .inl h;exact absurd h h2;exact .inr h
  simp only[ab3,ab9]at this ⊢;omega
theorem RO{Q:List eE}{ts:List Tm}(F:Ee Q ts):(de (bz Q ts)).length=(de ts).length:=by
 have hm:∀y,y∈de (bz Q ts)↔∃z∈de ts,y=bj Q z:=λy=>by
  constructor
  ·intro hy
   obtain⟨t',RD,hy⟩:=bF.1 ((cq _ _).1 hy);rw[bI]at RD;obtain⟨t,ht,rfl⟩:=aci.1 RD;obtain⟨z,hz,e⟩:=Jf (λb hb=>(F.at_ b hb).2.1) t (λz hz=>F.lv z (bF.2 ⟨t,ht,hz⟩)) y hy;exact⟨z,(cq _ _).2 (bF.2 ⟨t,ht,hz⟩),e⟩
  ·rintro⟨z,hz,rfl⟩;obtain⟨t,ht,hz⟩:=bF.1 ((cq _ _).1 hz);exact(cq _ _).2 (bF.2 ⟨bj Q t,by rw[bI];exact aci.2 ⟨t,ht,rfl⟩,Je t (λz hz=>F.lv z (bF.2 ⟨t,ht,hz⟩)) z hz⟩)
 have h1:=Em (a:=de (bz Q ts)) (b:=(de ts).map (bj Q)) (Bq (gp _)) λy hy=>by
  obtain⟨z,hz,e⟩:=(hm y).1 hy;exact aci.2 ⟨z,hz,e.symm⟩
 have hnd:((de ts).map (bj Q)).Nodup:=by
  refine List.pairwise_map.2 (List.Pairwise.imp_of_mem (λha hb h e=>?_) (Bq (gp (cd ts))));exact h (F.eq _ ((cq _ _).1 ha) _ ((cq _ _).1 hb) e)
 have h2:=Em (a:=(de ts).map (bj Q)) (b:=de (bz Q ts)) hnd λy hy=>by
  obtain⟨z,hz,e⟩:=aci.1 hy;exact(hm y).2 ⟨z,hz,e.symm⟩
 rw[acW]at h1 h2;omega
theorem tC(Q:List eE)(kn:List Tm)(tm:Tm):bz Q (kn++[tm])=bz Q kn++[bj Q tm]:=by simp[bI]
structure Rgt(ts:List Tm):Prop where
 t:∀t∈ts,gY t=0
 f:∀t∈ts,iE t=true
 o:∀y∈cd ts,y.k=1->y.o≠1
theorem En:∀{l:List Tm},(∀t∈l,pH t=0)->gO l=0
 |[],_=>rfl
 |t::l,h=>by
  have h1:=h t (by simp);rw[gO,if_neg (by omega)];exact En λu hu=>h u (by simp[hu])
theorem Eo{Q:List eE}{kn:List Tm}{tm:Tm}(F:Ee Q (kn++[tm]))(A:MJ Q)(R:Rgt (kn++[tm])):fN (bz Q kn) (bj Q tm)=if 60<kn.length then 3 else if 200<(de (kn++[tm])).length then 3 else 0:=by
 have hr:gO (bz Q kn++[bj Q tm])=0:=by
  rw[<-tC];refine En λt ht=>?_;rw[bI]at ht;obtain⟨u,hu,rfl⟩:=aci.1 ht;have h1:=RN A (R.t u hu) λy hy=>R.o y (bF.2 ⟨u,hu,hy⟩)
  have h2:=Ov A u λy hy hk=>F.bd y (bF.2 ⟨u,hu,hy⟩) hk
  rw[pH,if_neg (by omega),if_neg (by rw[h2];simp)]
 have hl:=RO F;rw[tC]at hl;rw[fN,dH,hr,hl];simp
theorem Ow{Q S:List eE}{kn:List Tm}{tm:Tm}(F:Ee Q (kn++[tm]))(G:Ee S (kn++[tm]))(A:MJ Q)(B:MJ S)(R:Rgt (kn++[tm])):
  fN (bz Q kn) (bj Q tm)=fN (bz S kn) (bj S tm)/\mf (bz Q kn) (bj Q tm)=mf (bz S kn) (bj S tm):=by
 have hu:fN (bz Q kn) (bj Q tm)=fN (bz S kn) (bj S tm):=by rw[Eo F A R,Eo G B R]
 have KE:∀{Q:List eE},MJ Q->∀b∈Q,iE b.t=true:=λ{Q} A b hb=>by
  have h2:=A.k b hb;have h3:=A.l b hb;generalize b.t=u at h2 h3;obtain⟨k',s',o',l'⟩:=u;obtain rfl:l'=[]:=h3;have h2:k'=2:=h2;exact qe.2 ⟨λh=>by omega,λt ht=>by cases ht⟩
 have one:∀{Q S:List eE},Ee Q (kn++[tm])->MJ Q->MJ S->fN (bz Q kn) (bj Q tm)=fN (bz S kn) (bj S tm)->mf (bz Q kn) (bj Q tm)=true->mf (bz S kn) (bj S tm)=true:=λ{Q S} F A B hu h=>by
  obtain⟨h1,h2⟩:=Ol h;have U':=Eh h1 (tw (KE A) R.f);have U:=Eh (hu▸h1) (tw (KE B) R.f);have key:=RC (Q:=Q) (S:=S) (kn:=kn) (ex:=[]) (tm:=tm) (by rw[ack];exact F) (by rw[ack];exact U') U (λx hx=>by cases hx) (by rw[ack];exact h2) tm (nT (by simp)) rfl;exact Om (hu▸h1) key
 refine⟨hu,?_⟩
 cases hq:mf (bz Q kn) (bj Q tm)with
 |true=>exact(one F A B hu hq).symm
 |false=>
  cases hs:mf (bz S kn) (bj S tm)with
  |false=>rfl
  |true=>rw[one G B A hu.symm hs]at hq;cases hq
def b8(n:Int):Int:=IntKind.u8.wrap n
def Us:ByteArray:=⟨#[40]⟩
def sRp:ByteArray:=⟨#[41]⟩
def XU:ByteArray:=⟨#[44]⟩
mutual
def uq:Tm->ByteArray
 | .mk k s o l=>wX (ur [b8 k,b8 o,b8 l.length]++s++Us) l++sRp
def wX(out:ByteArray):List Tm->ByteArray
 |[]=>out
 |t::l=>wX (out++(uq t++XU)) l
end
def u8(n:Int):UInt8:=UInt8.ofNat (b8 n).toNat
mutual
def MM:Tm->List UInt8
 | .mk k s o l=>u8 k::u8 o::u8 l.length::(s.toList++40::(CP l++[41]))
def CP:List Tm->List UInt8
 |[]=>[]
 |t::l=>MM t++44::CP l
end
theorem BA(a b:ByteArray):(a++b).toList=a.toList++b.toList:=by
 rw[ByteArray.toList_eq,ByteArray.toList_eq,ByteArray.toList_eq,ByteArray.data_append,Array.toList_append]
theorem WL(l:List Int):(ur l).toList=l.map λn=>UInt8.ofNat n.toNat:=by rw[ByteArray.toList_eq];rfl
theorem Zz:Us.toList=[40]:=by rw[ByteArray.toList_eq];rfl
theorem ZA:sRp.toList=[41]:=by rw[ByteArray.toList_eq];rfl
theorem ZB:XU.toList=[44]:=by rw[ByteArray.toList_eq];rfl
theorem co:∀(l:List Tm) (out:ByteArray),(∀t∈l,(uq t).toList=MM t)->(wX out l).toList=out.toList++CP l
 |[],out,_=>by simp[wX,CP]
 |t::l,out,h=>by
  rw[wX,co l _ (λu hu=>h u (by simp[hu])),BA,BA,h t (by simp),ZB,CP];simp
theorem Ut(t:Tm):(uq t).toList=MM t:=by
 induction t using Tm.ind with
 |h k s o l ih=>
  rw[uq,BA,co l _ ih,BA,BA,WL,Zz,ZA,MM];simp[u8]
theorem db{c:UInt8}(h:og c.toNat=true):c≠40:=by
 rintro rfl
 revert h
 decide
theorem yQ:∀{l:List UInt8},hG l=true->∀c∈l,c≠40
 |[],_,c,h=>by cases h
 |d::l,h,c,hc=>by
  simp only[hG,ab4]at h;rcases ab5.1 hc with rfl |hc;exact db h.1;exact yQ h.2 c hc
theorem Jx{s:ByteArray}(h:dZ s=true):∀c∈s.toList,c≠40:=by
 unfold dZ xk at h
 cases e:s.toList with
 |nil=>intro c hc;cases hc
 |cons d l=>
  rw[e]at h;simp only[ab4]at h;exact yQ h.2
theorem du:∀{a b x y:List UInt8},(∀c∈a,c≠40)->(∀c∈b,c≠40)->a++40::x=b++40::y->a=b/\x=y
 |[],[],x,y,_,_,h=>⟨rfl,by simpa using h⟩
 |[],d::b,x,y,_,hb,h=>by
  simp only[acD,aco,adL]at h;exact absurd h.1.symm (hb d (by simp))
 |c::a,[],x,y,ha,_,h=>by
  simp only[acD,aco,adL]at h;exact absurd h.1 (ha c (by simp))
 |c::a,d::b,x,y,ha,hb,h=>by
  simp only[aco,adL]at h;obtain⟨h1,h2⟩:=du (λe he=>ha e (by simp[he])) (λe he=>hb e (by simp[he])) h.2;exact⟨by rw[h.1,h1],h2⟩
theorem HD{a b:Int}(ha:0<=a/\a<256)(hb:0<=b/\b<256)(h:u8 a=u8 b):a=b:=by
 have w:∀n:Int,0<=n/\n<256->b8 n=n:=λn hn=>by
  have:IntKind.u8.wrap n=n % 256:=by simp[IntKind.wrap,IntKind.bits,IntKind.signed]
  unfold b8;rw[this];omega
 unfold u8 at h;rw[w a ha,w b hb]at h;have:=congrArg UInt8.toNat h;simp only[UInt8.toNat_ofNat']at this;omega
theorem ET{k s o l}(h:node (.mk k s o l)=0):(1<=k/\k<=3)/\(0<=o/\o<=5)/\dZ s=true/\l.length<=8:=by
 obtain⟨h1,h2⟩:=uD h;simp only[node]at h
 split at h
 cases h
 exact⟨by omega,by omega,h1,h2⟩
theorem so:∀{l:List Tm},gy l=0->∀t∈l,nodes t=0
 |[],_,t,h=>by cases h
 |u::l,e,t,h=>by
  rw[gy]at e
  split at e
  ·rename_i hn;exact absurd e hn
  ·rcases ab5.1 h with rfl |h;omega;exact so e t h
theorem EU:∀{l l':List Tm} {r r':List UInt8},l.length=l'.length->(∀t∈l,∀t' r r',nodes t'=0->MM t++r=MM t'++r'->t=t'/\r=r')->(∀t∈l',nodes t=0)->CP l++r=CP l'++r'->l=l'/\r=r'
 |[],[],r,r',_,_,_,h=>⟨rfl,by simpa[CP]using h⟩
 |[],_::_,_,_,e,_,_,_=>by simp at e
 |_::_,[],_,_,e,_,_,_=>by simp at e
 |t::l,t'::l',r,r',e,ih,hv,h=>by
  simp only[CP,acp,aco]at h;obtain⟨rfl,h1⟩:=ih t (by simp) t' _ _ (hv t' (by simp)) h;simp only[adL,true_and]at h1;obtain⟨rfl,h2⟩:=EU (by simpa using e) (λu hu=>ih u (by simp[hu])) (λu hu=>hv u (by simp[hu])) h1;exact⟨rfl,h2⟩
theorem Sx(t:Tm):nodes t=0->∀(t':Tm) (r r':List UInt8),nodes t'=0->MM t++r=MM t'++r'->t=t'/\r=r':=by
 induction t using Tm.ind with
 |h k s o l ih=>
  intro hv t' r r' xR h
  obtain⟨k',s',o',l'⟩:=t';obtain⟨v1,v2⟩:=lY hv;obtain⟨v1',v2'⟩:=lY xR;obtain⟨hk,ho,hs,hl⟩:=ET v1;obtain⟨fZ,Qo,Dj,hl'⟩:=ET v1';rw[MM,MM]at h;simp only[aco,adL,acp]at h;obtain⟨h1,h2,h3,h4⟩:=h;have e1:=HD (by omega) (by omega) h1;have e2:=HD (by omega) (by omega) h2;have e3:=HD (by omega) (by omega) h3;obtain⟨e4,h5⟩:=du (Jx hs) (Jx Dj) h4;obtain⟨e5,h6⟩:=EU (by omega) (λu hu t' r r'=>ih u hu (so v2 u hu) t' r r') (so v2') h5;simp only[acD,adL,true_and]at h6;exact⟨by rw[e1,e2,e5,xu e4],h6⟩
theorem Sz{t t':Tm}(h:valid t=0)(h':valid t'=0)(e:uq t=uq t'):t=t':=by
 have h1:MM t++[]=MM t'++[]:=by rw[<-Ut,<-Ut,e]
 exact(Sx t (eB.1 h).1 t' [] [] (eB.1 h').1 h1).1
theorem nm(a b:ByteArray):(a++b).size=a.size+b.size:=ByteArray.size_append
mutual
theorem EV:∀t,(uq t).size+1<=8 * ax t
 | .mk k s o l=>by
  have h:=BB (ur [b8 k,b8 o,b8 l.length]++s++Us) l;rw[uq,nm,ax];rw[nm,nm]at h;have h1:(ur [b8 k,b8 o,b8 l.length]).size=3:=rfl;have h2:Us.size=1:=rfl;have h3:sRp.size=1:=rfl;omega
theorem BB:∀(out:ByteArray) (l:List Tm),(wX out l).size<=out.size+8 * br l
 |out,[]=>by simp[wX]
 |out,t::l=>by
  have h1:=EV t;have h:=BB (out++(uq t++XU)) l;rw[nm,nm]at h;have h2:XU.size=1:=rfl;have h3:=yR t;rw[wX,br];omega
end
end Go.Pm
section
open Go.MapKept
namespace Go.Pm
def pI:List Tm->Tm->Nat
 |[],_=>0
 |u::l,t=>if aW u t=0 then 0 else pI l t+1
theorem zq{u p q:List Tm}{t:Tm}(h:fu u)(e:u=p++t::q):pI u t=p.length:=by
 subst e
 induction p with
 |nil=>rw[acD,pI,if_pos (cc t)];rfl
 |cons a p ih=>
  rw[aco]at h ⊢;obtain⟨h1,h2⟩:=acm.1 h;have:=h1 t (by simp);rw[pI,if_neg (by omega),ih h2]
  rfl
theorem SY{u:List Tm}(h:fu u){t:Tm}(ht:t∈u):u[pI u t]?=some t:=by
 obtain⟨p,q,e⟩:=adg ht;rw[zq h e,e,ab6 (abZ _),ade];rfl
theorem vj{u:List Tm}(h:fu u){t:Tm}(ht:t∈u):pI u t<u.length:=by
 obtain⟨p,q,e⟩:=adg ht;rw[zq h e,e];simp
def kW(u l:List Tm):List PV:=l.map λt=>.int .i64 (pI u t)
def ms(u r:List Tm):List PV:=u.map λt=>.bool (bJ r t)
theorem kE(u r:List Tm):(ms u r).length=u.length:=by simp[ms]
theorem vn{u r:List Tm}(h:fu u){t:Tm}(ht:t∈u):(ms u r)[pI u t]?=some (.bool (bJ r t)):=by
 rw[ms,ace,SY h ht];rfl
theorem kj(a x:Tm)(r:List Tm):bJ (a::r) x=(decide (aW x a=0)||bJ r x):=by simp[bJ]
theorem re{u r:List Tm}(h:fu u){t:Tm}(ht:t∈u):(ms u r).set (pI u t) (.bool true)=ms u (t::r):=by
 obtain⟨p,q,e⟩:=adg ht;rw[zq h e];subst e
 have hp:∀x∈p,bJ (t::r) x=bJ r x:=λx hx=>by
  have:=(adE.1 h).2.2 x hx t (by simp);rw[kj,decide_eq_false (by omega),ado]
 have hq:∀x∈q,bJ (t::r) x=bJ r x:=λx hx=>by
  have h1:=(acm.1 (adE.1 h).2.1).1 x hx;rw[kj,decide_eq_false,ado]
  intro h0
  rw[cy h0,cc]at h1;omega
 have e1:(p.map λx=>PV.bool (bJ (t::r) x))=p.map λx=>PV.bool (bJ r x):=acZ λx hx=>by rw[hp x hx]
 have e2:(q.map λx=>PV.bool (bJ (t::r) x))=q.map λx=>PV.bool (bJ r x):=acZ λx hx=>by rw[hq x hx]
 have e3:bJ (t::r) t=true:=by rw[kj,cc];rfl
 simp only[ms,acK,acg,e1,e2,e3];rw[adm _ _ (by simp),acW,ade]
 rfl
theorem H8(u r:List Tm)(h:∀x∈r,x∈u)(hu:fu u):(u.filter (bJ r))=fJ r:=by
 refine mM (gN hu) (gp _) λy=>?_;rw[acO,bX,cq];exact⟨λhh=>hh.2,λhh=>⟨h y hh,hh⟩⟩
def mE(r:List Tm)(t:Tm):List Tm:=if dg t gq=true then t.l else if dg t iN=true\/(jH t=0/\bJ r (ck t)=true)then t.l.take 1 else[]
theorem W6{r:List Tm}{t x:Tm}(h:x∈mE r t):x∈t.l:=by
 unfold mE at h
 split at h
 exact h
 ·split at h
  exact acI h
  cases h
structure Kp(u s r:List Tm):Prop where
 base:∀x∈s,x∈r
 EO:∀x∈r,x∈u/\oD u s x
theorem Kp.add{u s r:List Tm}(h:Kp u s r){t:Tm}(ht:t∈u)(hd:oD u s t):Kp u s (t::r):=
 ⟨λx hx=>by simp[h.base x hx],λx hx=>by rcases ab5.1 hx with rfl |hx;exact⟨ht,hd⟩;exact h.EO x hx⟩
theorem Kp.opens{u s r:List Tm}(U:xo u)(h:Kp u s r){t x:Tm}(ht:t∈r)(hx:x∈mE r t):x∈u/\oD u s x:=by
 obtain⟨mU,htd⟩:=h.EO t ht;refine⟨U.kids t mU x (W6 hx),?_⟩;unfold mE at hx
 split at hx
 ·rename_i hp
  exact .part htd (by unfold iX;rw[if_pos hp];exact hx)
 ·rename_i hp
  split at hx
  ·rename_i hs
   by_cases hsg:dg t iN=true
   exact .part htd (by unfold iX;rw[if_neg hp,if_pos hsg];exact hx)
   ·obtain⟨hk,hv⟩:=hs.resolve_left hsg;have hd:=oD.open htd hk (h.EO _ (bX.1 hv)).2;have h3:=(U.key mU hk).2.2
    obtain⟨a,l',e⟩:∃a l',t.l=a::l':=by
     cases e:t.l with
     |nil=>rw[e]at h3;cases h3
     |cons a l'=>exact⟨a,l',rfl⟩
    rw[e]at hx;simp at hx;rw[hx];simpa[eN,e]using hd
  cases hx
structure Pz(u r:List Tm):Prop where
 RE:∀t∈u,nV t=true->t∈r
 comp:∀t∈u,mn r t=true->t∈r
 opn:∀t∈r,∀x∈mE r t,x∈r
theorem Pz.all{u s r:List Tm}(U:xo u)(f:Pz u r)(h:Kp u s r){t:Tm}(hd:oD u s t):t∈r:=by
 induction hd with
 |base hx=>exact h.base _ hx
 |RE h1 h2=>exact f.RE _ h1 h2
 |comp h1 h2 _ ih=>
  refine f.comp _ h1 ?_;simp only[mn,h2,ada,abX];exact λx hx=>bX.2 (ih x hx)
 | @part t x _ hx ih=>
  refine f.opn t ih x ?_;unfold iX at hx;unfold mE
  split at hx
  ·rename_i hp;rw[if_pos hp];exact hx
  ·rename_i hp
   split at hx
   ·rename_i hs;rw[if_neg hp,if_pos (.inl hs)];exact hx
   cases hx
 | @«open»t _ hk _ ih1 ih2=>
  have mU:=(h.EO _ ih1).1;have h3:=(U.key mU hk).2.2;refine f.opn t ih1 _ ?_;unfold mE
  have hnp:¬dg t gq=true:=λhp=>by
   rcases(lL hk).2 with⟨h2,_⟩|⟨h2,_,_⟩;rw[sf h2 l9.2.1]at hp;cases hp;rw[sf h2 l9.2.2.2.1]at hp;cases hp
  rw[if_neg hnp,if_pos (.inr ⟨hk,bX.2 ih2⟩)]
  cases e:t.l with
  |nil=>rw[e]at h3;cases h3
  |cons a l'=>simp[eN,e]
theorem Pz.eq{u s r:List Tm}(U:xo u)(f:Pz u r)(h:Kp u s r):fJ r=qn u s:=
 Jv U (gp _) (λt ht=>h.EO t ((cq _ _).1 ht)) λt _ hd=>(cq _ _).2 (f.all U h hd)
theorem mv{p q r:List Tm}{t:Tm}(h:bJ r t=false):eQ (p++t::q) (t::r)<eQ (p++t::q) r:=by
 have hm:∀l:List Tm,eQ l (t::r)<=eQ l r:=λl=>by
  refine aen λx _ hx=>?_;simp only[ac8]at hx ⊢;rw[kj]at hx;simp only[adO]at hx;exact hx.2
 have ht:bJ (t::r) t=true:=by rw[kj,cc];rfl
 have h1:=hm p;have h2:=hm q;unfold eQ at *;rw[aef,aef,adx,adx,ht,h];simp;omega
def BL:Nat->List Tm->List PV
 |_,[]=>[]
 |n,t::l=>.agg [.str (uq t),.int .i64 n]::BL (n+1) l
theorem JK:∀(p q:List Tm) (n:Nat),BL n (p++q)=BL n p++BL (n+p.length) q
 |[],q,n=>by simp[BL]
 |t::p,q,n=>by
  rw[aco,BL,BL,JK p q (n+1),aco]
  congr 3
  simp only[ab9];omega
theorem qx{t:Tm}(hv:valid t=0):∀(l:List Tm) (n i:Nat),(∀x∈l,valid x=0)->lN (.str (uq t)) (BL n l) i=some (if bJ l t=true then some (i+pI l t,.int .i64 ((n+pI l t:Nat):Int))else none)
 |[],n,i,_=>rfl
 |x::l,n,i,h=>by
  rw[BL,lN];have hx:=h x (by simp);have ih:=qx hv l (n+1) (i+1) λy hy=>h y (by simp[hy])
  by_cases hxt:x=t
  ·subst hxt;have h1:bJ (x::l) x=true:=by rw[kj,cc];rfl
   have h2:pI (x::l) x=0:=by rw[pI,if_pos (cc x)]
   have h4:pN (.str (uq x)) (.str (uq x))=some true:=congrArg some ((bytes_beq _ _).2 rfl);rw[h1,h2];simp only[h4];simp
  ·have h0:aW x t≠0:=λh0=>hxt (cy h0)
   have h0':aW t x≠0:=λh0=>hxt (cy h0).symm
   have h1:bJ (x::l) t=bJ l t:=by rw[kj,decide_eq_false h0',ado]
   have h2:pI (x::l) t=pI l t+1:=by rw[pI,if_neg h0]
   have h4:pN (.str (uq t)) (.str (uq x))=some false:=by
    refine congrArg some ?_
    cases hb:uq t==uq x with
    |false=>rfl
    |true=>exact absurd (Sz hv hx ((bytes_beq _ _).1 hb)).symm hxt
   simp only[h4];rw[ih,h1,h2]
   congr 1
   split
   ·congr 2
    omega
    ·congr 1
     omega
   rfl
end Go.Pm
end
namespace Go.Pm
namespace bC
open Go.Proofs
attribute [local irreducible] aD az aL aJ Ev ah aj ay bg bN
set_option maxRecDepth 4000
theorem vg(t:Tm)(hf:iE t=true):aI C 223 [enc t] (.bool false):=by
 have h1:=kD t ⟨#[109,117,108]⟩;have h2:=kD t ⟨#[105,110,118]⟩;obtain⟨g1,g2,_⟩:=jL hf;rw[show dg t ⟨#[109,117,108]⟩=false from g1]at h1;rw[show dg t ⟨#[105,110,118]⟩=false from g2]at h2;rw[ar]at h1 h2 ⊢;refine aI.x T6 Tryz.func223 rfl ?_;refine wA ?_;refine .p h1 ?_;refine wA ?_;refine .p h2 ?_;refine wA ?_;exact⟨_,rfl,rfl⟩
theorem Px(t:Tm)(hf:iE t=true):aI C 172 [enc t] (.bool false):=by
 have h0:=vg t hf;have h1:=kD t ⟨#[120,111,114]⟩;have h2:=kD t ⟨#[101,120,112]⟩;obtain⟨_,_,g1,g2,_⟩:=jL hf;rw[show dg t ⟨#[120,111,114]⟩=false from g2]at h1;rw[show dg t ⟨#[101,120,112]⟩=false from g1]at h2;rw[ar]at h0 h1 h2 ⊢;refine aI.x T6 Tryz.func172 rfl ?_;refine wA ?_;refine .p h0 ?_;refine wA ?_;refine .p h1 ?_;refine wA ?_;refine .p h2 ?_;refine wA ?_;exact⟨_,rfl,rfl⟩
theorem HZ(l:List Tm)(t:Tm)(ht:ax t<1000000000)(hl:l.length<1000000000)(hb:∀u∈l,ax u<1000000000):aI C 121 [.aa false (ae l),enc t] (.bool (bJ l t)):=by
 have h1:=ua l t ht hl hb;rw[ar]at h1 ⊢;refine aI.x T6 Tryz.func121 rfl ?_;refine wA ?_;refine .p h1 ?_;refine wA ?_;exact⟨_,rfl,rfl⟩
theorem H4(t:Tm)(hf:iE t=true)(hb:ax t<1000000):aI C 287 [enc t] (.int .i64 (pH t)):=by
 have h1:=qw t (by omega);have h2:=Ft t hb;have h3:=HY t hf (by omega);have hR:pH t=if gY t≠0 then gY t else if bL t≠[]then 13 else 0:=rfl;rw[ar]at h1 h2 h3 ⊢;refine aI.x T6 Tryz.func287 rfl ?_;refine wA ?_;refine .p h1 ?_
 by_cases hv:gY t=0
 ·rw[if_neg (by omega)]at hR;rw[decide_eq_true hv]at h3;rw[hv];refine wA ?_;refine .p h2 ?_
  by_cases hg:bL t=[]
  ·rw[if_neg (by simp[hg])]at hR;rw[decide_eq_true hg];refine wA ?_;refine .p h3 ?_;refine wA ?_;exact⟨_,rfl,by rw[hR];rfl⟩
  ·rw[if_pos hg]at hR;rw[decide_eq_false hg];refine wA ?_;exact⟨_,rfl,by rw[hR];rfl⟩
 ·rw[if_pos hv]at hR;refine wA ?_;exact⟨_,rfl,by rw[hR];rfl⟩
theorem Fv(l:List Tm)(hf:∀t∈l,iE t=true)(hl:l.length<10000000)(hb:∀t∈l,ax t<1000000):aI C 220 [.aa false (ae l)] (.int .i64 (gO l)):=by
 have cz:=ai l;refine aI.x T6 Tryz.func220 rfl ?_;refine wA ?_;refine cU.zip T6 l (λp q L H=>L=[(0,.aa false (ae l)),(3,.int .i64 p.length)]/\HV H/\∀u∈p,pH u=0) (.nx ⟨rfl,HV.nil,by simp⟩) ?_ ?_
 ·rintro p u q _ H O e ⟨rfl,hH,hp⟩;have cC:=ba e;have dp:=lenE e;have hu:u∈l:=by rw[e];simp
  have h1:=H4 u (hf u hu) (hb u hu);rw[ar]at h1;refine wA ?_;refine .p h1 ?_
  by_cases hz:pH u=0
  ·rw[hz];refine wA ?_;refine .nx ⟨rfl,hH,λy hy=>?_⟩;rcases ab2.1 hy with h |h;exact hp y h;simp at h;rw[h];exact hz
  ·refine wA ?_;exact⟨_,rfl,by rw[EG e hp hz];rfl⟩
 ·rintro _ H O ⟨rfl,hH,hp⟩;refine wA ?_;exact⟨_,rfl,by rw[sj hp];rfl⟩
theorem C2(l:List Tm)(hf:∀t∈l,iE t=true)(hl:l.length<10000000):aI C 288 [.aa false (ae l)] (.aa false []):=by
 have cz:=ai l;refine aI.x T6 Tryz.func288 rfl ?_;refine wA ?_;refine cU.zip T6 l (λp q L H=>L=[(0,.aa false (ae l)),(3,.aa true []),(4,.int .i64 p.length)]/\HV H) (.nx ⟨rfl,HV.nil⟩) ?_ ?_
 ·rintro p u q _ H O e ⟨rfl,hH⟩;have cC:=ba e;have dp:=lenE e;have hu:u∈l:=by rw[e];simp
  have h1:=kD u ⟨#[101,120,112]⟩;rw[show dg u ⟨#[101,120,112]⟩=false from(jL (hf u hu)).2.2.1]at h1;have h2:=vg u (hf u hu);rw[ar]at h1 h2;refine wA ?_;refine .p h1 ?_;refine wA ?_;refine .p h2 ?_;refine wA ?_;exact .nx ⟨rfl,hH.db (HV.one (by simp))⟩
 ·rintro _ H O ⟨rfl,hH⟩;refine wA ?_;exact⟨_,rfl,rfl⟩
theorem LL(l:List Tm)(hf:∀t∈l,iE t=true)(hl:l.length<10000000):aI C 222 [.aa false (ae l)] (.int .i64 (if 200<l.length then 3 else 0)):=by
 have cz:=ai l;have h3:=C2 l hf hl;refine aI.x T6 Tryz.func222 rfl ?_;refine wA ?_;refine cU.zip T6 l (λp q L H=>L=[(0,.aa false (ae l)),(3,.int .i64 0),(4,.int .i64 p.length)]/\HV H) (.nx ⟨rfl,HV.nil⟩) ?_ ?_
 ·rintro p u q _ H O e ⟨rfl,hH⟩;have cC:=ba e;have dp:=lenE e;have hu:u∈l:=by rw[e];simp
  have h2:=vg u (hf u hu);rw[ar]at h2;refine wA ?_;refine .p h2 ?_;refine wA ?_;exact .nx ⟨rfl,hH⟩
 ·rintro _ H O ⟨rfl,hH⟩;refine wC (λhc=>?_) λhc=>?_
  ·rw[if_pos (by omega)];exact⟨_,rfl,rfl⟩
  ·rw[if_neg (by omega)];refine .p h3 ?_;refine wA ?_;exact⟨_,rfl,rfl⟩
theorem LM(l:List Tm)(hb:br l<1000000):aI C 221 [.aa false (ae l)] (.aa false (ae (de l))):=by
 have cz:=ai l;have uj:=aY l;have jR:=lZ l;have hse:=ub (cd l) (by omega) (λu hu=>by obtain⟨t,ht,hu⟩:=bF.1 hu;have:=nN t u hu;have:=bD ht;omega);refine aI.x T6 Tryz.func221 rfl ?_;refine wA ?_;refine cU.zip T6 l (λp q L H=>∃v,L=[(0,.aa false (ae l)),(3,v),(4,.int .i64 p.length)]/\HV H/\Out 4 H v (ae (cd p))) (.nx ⟨_,rfl,HV.nil,.inl ⟨rfl,rfl⟩⟩) ?_ ?_
 ·rintro p u q _ H O e ⟨v,rfl,hH,ho⟩;have cC:=ba e;have dp:=lenE e;have hu:u∈l:=by rw[e];simp
  have Bi:=tZ u (by have:=bD hu;omega);have lE:cd (p++[u])=cd p++pre u:=by rw[lM];simp[cd]
  have DJ:br l=br p+(ax u+br q):=by rw[e,ke];simp[br]
  have ME:=lZ p;have hpu:=qR u;have hle:=ai (cd p);have hlu:=ai (pre u);rw[ar]at Bi;refine wA ?_;refine .p Bi ?_;refine wG λv H lp=>?_;refine .nx ⟨_,rfl,lp.hv,?_⟩;have:=lp.out;rw[lE,bS];exact this
 ·rintro _ H O ⟨v,rfl,hH,ho⟩;refine wA ?_;refine .pl (.inl ho) hse (λh' fz=>?_);refine wA ?_;exact⟨_,rfl,by simp[aR,cj,de]⟩
theorem LN(k:List Tm)(t:Tm)(hf:∀u∈k++[t],iE u=true)(hl:br (k++[t])<1000000):
  aI C 171 [.aa false (ae k),.aa false (ae [t])] (.cA [.aa false (ae (if fN k t≠0 then[]else de (k++[t]))),.int .i64 (fN k t)]):=by
 have cz:=ai k;have vH:=aY (k++[t]);simp only[ab3,ab9,acz]at vH;have F9:∀u∈k++[t],ax u<1000000:=λu hu=>by have:=bD hu;omega
 have h1:=Fv (k++[t]) hf (by simp;omega) F9;have h2:=LM (k++[t]) hl
 have h3:=LL (de (k++[t])) (λy hy=>by
  obtain⟨a,ha,hb⟩:=bF.1 ((cq _ _).1 hy);exact tg (hf a ha) hb) (by have:=nX (k++[t]);omega)
 have hE:fN k t=if 60<k.length then 3 else if gO (k++[t])≠0 then gO (k++[t])else if 200<(de (k++[t])).length then 3 else 0:=rfl;generalize hU:de (k++[t])=U at *;have Qw:fN k t=0->(if fN k t≠0 then[]else U)=U:=λh=>if_neg (by omega)
 have Qx:fN k t≠0->(if fN k t≠0 then[]else U)=[]:=λh=>if_pos h
 generalize(if fN k t≠0 then[]else U)=R at *;have abP:(ae [t]).length=1:=ai [t];refine aI.x T6 Tryz.func171 rfl ?_
 (repeat' (first |(refine Rn.go ?_;conv=>whnf)|refine .mk ?_ |refine .mk (λhc=>?_) λhc=>?_ |refine .lp λv H lp=>?_ |fail))
 ·rw[if_pos (by omega)]at hE;exact⟨_,rfl,by rw[Qx (by omega),hE];rfl⟩
 ·rw[if_neg (by omega)]at hE;have ho:=lp.out;have hH:=lp.hv;rw[acD]at ho;refine wG λv H lp=>?_;have ho:=lp.out;have hH:=lp.hv;rw[<-bS]at ho
  skip
  refine .XN (.inl ho) h1 ?_;refine wC (λhc=>?_) λhc=>?_
  ·have hz:gO (k++[t])=0:=by omega
   rw[if_neg (by omega)]at hE;refine .pl (.inl ho) h2 (λh' fz=>?_);refine wA ?_;refine .p h3 ?_;refine wC (λhc=>?_) λhc=>?_
   ·rw[Qw (by omega),show fN k t=0 by omega];exact⟨_,rfl,by simp[aR,cj,aQ]⟩
   exact⟨_,rfl,by rw[Qx (by omega),hE];rfl⟩
  ·rw[if_pos (by omega)]at hE;exact⟨_,rfl,by rw[Qx (by omega),hE];rfl⟩
theorem LO(k:List Tm)(t:Tm)(hf:∀u∈k++[t],iE u=true)(hl:br (k++[t])<1000000):
  aI C 120 [.aa false (ae k),enc t] (.cA [.aa false (ae (if fN k t≠0 then[]else de (k++[t]))),.int .i64 (fN k t)]):=by
 have h1:=LN k t hf hl;have uN:ae [t]=[.agg [.int .i64 t.k,.str t.s,.int .i64 t.o,.aa false (ae t.l)]]:=by rw[ae,ar];rfl
 rw[uN]at h1;rw[ar];refine aI.x T6 Tryz.func120 rfl ?_;refine wA ?_;refine .p h1 ?_;refine wA ?_;exact⟨_,rfl,by simp[aR,cj,aQ,aZ]⟩
theorem Py(s:ByteArray)(hs:s.size<1000000000):aI C 290 [.str s] (.bool (wV s.toList)):=by
 have hl:=bsize s;have hO:wV s.toList=((s.toList.take 2==[101,35])&& (!(s.toList.drop 2).isEmpty&& (s.toList.drop 2).all kO)):=rfl;have hx:(s.extract 0 2).toList=s.toList.take 2:=by rw[Bw,ac3]
 have hE:(⟨#[101,35]⟩:ByteArray).toList=[101,35]:=Wz;refine aI.x T6 Tryz.func290 rfl ?_;refine wI (λhc=>?_) (λhc hc=>?_) λhc hc=>?_
 ·have h0:s.toList.drop 2=[]:=acx (by omega);rw[h0]at hO;exact⟨_,rfl,by rw[hO];simp[aR,cj]⟩
 ·have ht:(s.toList.take 2==[101,35])=true:=by rw[<-hx,hc,hE];rfl
  have bO:(s.toList.drop 2).isEmpty=false:=by
   cases h:s.toList.drop 2 with
   |nil=>have:=congrArg List.length h;simp at this;omega
   |cons=>rfl
  rw[ht,bO]at hO;refine cU.zip T6 (s.toList.drop 2) (λp q L H=>L=[(0,.str s),(3,.int .i64 (2+p.length))]/\HV H/\p.all kO=true) (.nx ⟨rfl,HV.nil,rfl⟩) ?_ ?_
  ·rintro p c q _ H O e ⟨rfl,hH,hp⟩;have dp:=congrArg List.length e;simp only[ab3,ab9,adH]at dp;have hg:s[2+p.length]?=some c:=Lc (by rw[<-acy,e];simp);have hd:kO c=decide (48<=(c.toNat:Int)/\(c.toNat:Int)<=57):=rfl;have SX:kO c=false->wV s.toList=false:=λh=>by rw[hO,e,ac1,acT,h];simp
   refine wI (λhc=>?_) (λhc hc=>?_) λhc hc=>?_;exact⟨_,rfl,by rw[SX (by rw[hd];simp;omega)];rfl⟩;exact⟨_,rfl,by rw[SX (by rw[hd];simp;omega)];rfl⟩;exact .nx ⟨rfl,hH,by rw[ac1,hp];simp[hd];omega⟩
  ·rintro _ H O ⟨rfl,hH,hp⟩;have Cj:(s.toList.drop 2).length=s.size - 2:=by rw[adH,hl]
   refine wA ?_;exact⟨_,rfl,by rw[hO,hp];rfl⟩
 ·have ht:(s.toList.take 2==[101,35])=false:=by
   rw[<-hx];have:¬(s.extract 0 2).toList=[101,35]:=by rw[<-hE];exact hc
   simpa using this
  rw[ht]at hO;exact⟨_,rfl,by rw[hO];rfl⟩
theorem Fw(t:Tm)(hb:ax t<100000000)(hl:t.l.length<100000000):aI C 227 [enc t] (.bool (nV t)):=by
 have hss:t.s.size<100000000:=by obtain⟨k,s,o,l⟩:=t;simp only[ax]at hb;simp only[Tm.s];omega
 have h4:=Py t.s (by omega);have cz:=ai t.l;have hP:nV t=if t.k=3 then(eP t.s il ||eP t.s ql)&&t.l.isEmpty else if t.k≠2 then false else if t.o=1\/t.o=5 then true else if t.o=4 then eP t.s nG ||wV t.s.toList else if t.o=0\/t.o=2\/t.o=3 then wV t.s.toList else false:=rfl
 have Se:t.l.isEmpty=decide (((ae t.l).length:Int)=0):=by
  rw[cz]
  cases t.l with
  |nil=>rfl
  |cons a l=>rw[decide_eq_false (by simp only[ab9];omega)];rfl
 have z1:eP t.s il=(t.s.toList==(⟨#[122,101,114,111]⟩:ByteArray).toList):=rfl;have z2:eP t.s ql=(t.s.toList==(⟨#[111,110,101]⟩:ByteArray).toList):=rfl;have z3:eP t.s nG=(t.s.toList==(⟨#[103]⟩:ByteArray).toList):=rfl;generalize wV t.s.toList=W at *;rw[ar];refine aI.x T6 Tryz.func227 rfl ?_
 (repeat' (first |(refine Rn.go ?_;conv=>whnf)|refine .mk ?_ |refine .tt ?_ |refine .ff ?_ |refine .mk (λhc=>?_) λhc=>?_ |fail))
 all_goals first
  |exact⟨_,rfl,by rw[hP,z1,z2,z3,Se];clear hP z1 z2 z3 Se cz h4;generalize(⟨#[122,101,114,111]⟩:ByteArray).toList=L1 at *;generalize(⟨#[111,110,101]⟩:ByteArray).toList=L2 at *;generalize(⟨#[103]⟩:ByteArray).toList=L3 at *;generalize((ae t.l).length:Int)=N at *;simp[aR,cj, *]⟩
  |(refine .p h4 ?_
    refine wA ?_;exact⟨_,rfl,by rw[hP,z1,z2,z3,Se];clear hP z1 z2 z3 Se cz h4;generalize(⟨#[122,101,114,111]⟩:ByteArray).toList=L1 at *;generalize(⟨#[111,110,101]⟩:ByteArray).toList=L2 at *;generalize(⟨#[103]⟩:ByteArray).toList=L3 at *;generalize((ae t.l).length:Int)=N at *;simp[aR,cj, *]⟩)
end bC
set_option maxRecDepth 4000
theorem H6(a b c:ByteArray):a++b++c=a++(b++c):=xu (by simp only[BA,acp])
namespace bC
open Go.Proofs
attribute [local irreducible] aD az aL aJ Ev ah aj ay bg bN
theorem LQ(k s o l)(hb:ax (.mk k s o l)<1000000)(ih:∀t∈l,aI C 225 [enc t] (.str (uq t))):aI C 225 [enc (.mk k s o l)] (.str (uq (.mk k s o l))):=by
 have cz:=ai l;have uj:=aY l;simp only[ax]at hb;have hR:uq (.mk k s o l)=wX (ur [b8 k,b8 o,b8 l.length]++s++Us) l++sRp:=by rw[uq]
 rw[hR,bh];generalize IS:ur [b8 k,b8 o,b8 l.length]++s++Us=base;have W5:ur [b8 k,b8 o,b8 ((ae l).length:Nat)]++s++Us=base:=by rw[cz];exact IS
 have z1:(ur [b8 k,b8 o,b8 ((ae l).length:Nat)]).size=3:=rfl;have z2:(ur [b8 k,b8 o,b8 ((ae l).length:Nat)]++s).size=3+s.size:=by rw[nm,z1]
 have z3:(⟨#[40]⟩:ByteArray).size=1:=rfl;have z4:(⟨#[41]⟩:ByteArray).size=1:=rfl;have z5:(⟨#[44]⟩:ByteArray).size=1:=rfl;have zb:base.size=4+s.size:=by rw[<-W5,nm,z2];show 3+s.size+1=_;omega
 refine aI.x T6 Tryz.func225 rfl ?_;refine wA ?_;refine .raw (b8 k) rfl ?_;refine wA ?_;refine .raw (b8 o) rfl ?_;refine wA ?_;refine .raw (b8 (ae l).length) rfl ?_;refine wA ?_;refine cU.zip T6 l (λp q L H=>∃x,L=[(1,.ptr 0 0 0 0),(3,.str x),(4,.int .i64 p.length)]/\HV H/\H[0]?=some ⟨.m,0,4,[.agg [.int .i64 k,.str s,.int .i64 o,.aa false (ae l)]]⟩/\wX base l=wX x q/\x.size<=base.size+8 * br p) (.nx ⟨ur [b8 k,b8 o,b8 ((ae l).length:Nat)]++s++Us,rfl,HV.one (by simp),rfl,by rw[W5],by rw[W5];simp[br]⟩) ?_ ?_
 ·rintro p u q _ H O e ⟨x,rfl,hH,h0,hx,hz⟩;have cC:=ba e;have dp:=lenE e;have h1:=ih u (by rw[e];simp);have gR:=EV u;have DJ:br l=br p+(ax u+br q):=by rw[e,ke];simp[br]
  have hxz:=nm x (uq u);have hz9:(x++uq u++XU).size=x.size+(uq u).size+1:=by rw[nm,nm];rfl
  have lE:br (p++[u])=br p+ax u:=by rw[ke];simp[br]
  rw[ar]at h1;refine wA ?_;refine .p h1 ?_;refine wA ?_;refine .nx ⟨x++uq u++XU,rfl,hH,h0,?_,?_⟩;rw[hx,wX,<-H6];omega
 ·rintro _ H O ⟨x,rfl,hH,h0,hx,hz⟩;rw[hx];refine wA ?_;exact⟨_,rfl,rfl⟩
theorem pu(t:Tm):ax t<1000000->aI C 225 [enc t] (.str (uq t)):=by
 induction t using Tm.ind with
 |h k s o l ih=>
  intro hb
  refine LQ k s o l hb λt ht=>ih t ht ?_;have:=bD ht;simp only[ax]at hb;omega
theorem rf(u l:List Tm):(kW u l).length=l.length:=by simp[kW]
theorem C3{u l p q:List Tm}{x:Tm}(e:l=p++x::q):(kW u l)[p.length]?=some (.int .i64 (pI u x)):=by
 rw[kW,ace,e,ab6 (abZ _),ade];rfl
theorem PA{s n:ByteArray}(h:s.toList=n.toList)(hn:tK n=true):tK s=true:=by
 unfold tK eP at *;rw[h];exact hn
theorem H9(u r:List Tm)(U:xo u)(hl:u.length<10000000)(t:Tm)(ht:t∈u)(hb:ax t<10000000)(key:Int):aI C 228 [enc t,.agg [.aa false (kW u t.l),.int .i64 key],.aa false (ms u r)] (.bool (mn r t)):=by
 have lu:=rf u t.l;have sZ:=kE u r;have sF:t.l.length<10000000:=by obtain⟨k,n,o,l⟩:=t;have:=aY l;simp only[ax]at hb;simp only[Tm.l];omega
 have hR:mn r t=((decide (t.k=3)&&tK t.s)&&t.l.all (bJ r)):=rfl;have ZV:tK t.s=((t.s.toList==(⟨#[112,97,105,114]⟩:ByteArray).toList)||(t.s.toList==(⟨#[101,110,99]⟩:ByteArray).toList)||(t.s.toList==(⟨#[97,101,110,99]⟩:ByteArray).toList)||(t.s.toList==(⟨#[112,107]⟩:ByteArray).toList)||(t.s.toList==(⟨#[115,105,103,110]⟩:ByteArray).toList)||(t.s.toList==(⟨#[104,97,115,104]⟩:ByteArray).toList)):=rfl;rw[ar];refine aI.x T6 Tryz.func228 rfl ?_;refine wL (λhc=>?_) (λhc hc=>?_) (λhc hc hc=>?_) (λhc hc hc hc=>?_) (λhc hc hc hc hc=>?_) (λhc hc hc hc hc hc=>?_) λhc hc hc hc hc hc=>?_
 all_goals first
  |(have UA:tK t.s=true:=PA hc (by kernel_rfl)
    rw[UA,adp]at hR;refine cU.zip T6 t.l (λp q L H=>L=[(2,.aa false (ms u r)),(3,.ptr 0 0 0 0),(4,.ptr 1 0 0 0),(7,.int .i64 p.length)]/\HV H/\H[0]?=some ⟨.m,0,4,[.agg [.int .i64 t.k,.str t.s,.int .i64 t.o,.aa false (ae t.l)]]⟩/\H[1]?=some ⟨.m,0,2,[.agg [.aa false (kW u t.l),.int .i64 key]]⟩/\∀x∈p,bJ r x=true) (.nx ⟨rfl,(HV.one (by simp)).db (HV.one (by simp[ao,aU,kW])),rfl,rfl,by simp⟩) ?_ ?_
    ·rintro p x q _ H O e ⟨rfl,hH,h0,h1,hp⟩;have cC:=C3 (u:=u) e;have ri:=U.kids t ht x (by rw[e];simp);have DG:=vn (r:=r) U.oB ri;have cM:=vj U.oB ri;have dp:=lenE e
     cases hx:bJ r x
     ·rw[hx]at DG;refine wA ?_;exact⟨_,rfl,by rw[hR,e,ac1,acT,hx];simp[aR,cj]⟩
     ·rw[hx]at DG;refine wA ?_;refine .nx ⟨rfl,hH,h0,h1,λy hy=>?_⟩;rcases ab2.1 hy with h |h;exact hp y h;simp at h;rw[h];exact hx
    ·rintro _ H O ⟨rfl,hH,h0,h1,hp⟩;rw[abX.2 hp,adp]at hR;refine wC (λhc=>?_) λhc=>?_;exact⟨_,rfl,by rw[hR,decide_eq_true (by omega)];rfl⟩;exact⟨_,rfl,by rw[hR,decide_eq_false (by omega)];rfl⟩)
  |(have UA:tK t.s=false:=by
     rw[ZV];simp only[adO,beq_eq_false_iff_ne];refine⟨⟨⟨⟨⟨?_,?_⟩,?_⟩,?_⟩,?_⟩,?_⟩ <;>assumption
    rw[UA,Bool.and_false]at hR;exact⟨_,rfl,by rw[hR];rfl⟩)
def AD(u:List Tm)(t:Tm):Int:=if jH t=0 then pI u (ck t)else -1
def tM(H:ab)(u l:List Tm)(r:PV):Prop:=(l=[]/\r=.aa true [])\/∃a ep tl,r=.ak a ep 0 l.length/\H[a]?=some ⟨.m,ep,1,kW u l++tl⟩
theorem vp(u r:List Tm)(U:xo u)(hl:u.length<10000000)(t:Tm)(ht:t∈u)(hb:ax t<10000000)(v:PV)(b:Nat)(H:ab)(hH:HR H)(hv:Out 1 H v (kW u t.l))(h0:H[b]?=some ⟨.m,0,1,ms u r⟩):
  ay C 229 [enc t,.agg [v,.int .i64 (AD u t)],.ak b 0 0 u.length] H (λx h'=>HR h'/\H.length<=h'.length/\(∀j,j<H.length->h'[j]?=H[j]?)/\tM H u (mE r t) x):=by
 have h1:=kD t ⟨#[112,97,105,114]⟩;have h2:=kD t ⟨#[115,105,103,110]⟩;have n1:dg t ⟨#[112,97,105,114]⟩=dg t gq:=rfl;have n2:dg t ⟨#[115,105,103,110]⟩=dg t iN:=rfl;rw[n1]at h1;rw[n2]at h2;have hR:mE r t=if dg t gq=true then t.l else if dg t iN=true\/(jH t=0/\bJ r (ck t)=true)then t.l.take 1 else[]:=rfl;have hkb:=kE u r;have lu:=rf u t.l;have DJ:=ag h0;have hK:AD u t=if jH t=0 then(pI u (ck t):Int)else -1:=rfl;have gk:=U.ok t ht
 have sF:dg t gq=true\/dg t iN=true\/jH t=0->0<t.l.length:=λh=>by
  rcases h with h |h |h;rw[Ay gk h yr.1];omega;rw[Ay gk h yr.2.2.2.1];omega;exact List.length_pos_of_mem (U.key ht h).2.2
 have fr:∀j,j<H.length->(H++[(⟨.m,0,4,[.agg [.int .i64 t.k,.str t.s,.int .i64 t.o,.aa false (ae t.l)]]⟩:aw)]++[(⟨.m,0,2,[.agg [v,.int .i64 (AD u t)]]⟩:aw)])[j]?=H[j]?:=λj hj=>by rw[acp,abW hj]
 have fV:HR (H++[(⟨.m,0,4,[.agg [.int .i64 t.k,.str t.s,.int .i64 t.o,.aa false (ae t.l)]]⟩:aw)]++[(⟨.m,0,2,[.agg [v,.int .i64 (AD u t)]]⟩:aw)]):=by
  refine HR.wT (hH.du (HV.one (by simp))) (by simp) ?_;rcases hv with⟨rfl,_⟩|⟨a,ep,rfl,e⟩
  rfl
  ·have:=ag e;simp[bG,bu];omega
 have fb:=(fr b DJ).trans h0
 have fp:(H++[(⟨.m,0,4,[.agg [.int .i64 t.k,.str t.s,.int .i64 t.o,.aa false (ae t.l)]]⟩:aw)]++[(⟨.m,0,2,[.agg [v,.int .i64 (AD u t)]]⟩:aw)])[H.length+1]?=some (⟨.m,0,2,[.agg [v,.int .i64 (AD u t)]]⟩:aw):=by
  have:=ad2 (l:=H++[(⟨.m,0,4,[.agg [.int .i64 t.k,.str t.s,.int .i64 t.o,.aa false (ae t.l)]]⟩:aw)]) (a:=(⟨.m,0,2,[.agg [v,.int .i64 (AD u t)]]⟩:aw));simpa using this
 have ft:(H++[(⟨.m,0,4,[.agg [.int .i64 t.k,.str t.s,.int .i64 t.o,.aa false (ae t.l)]]⟩:aw)]++[(⟨.m,0,2,[.agg [v,.int .i64 (AD u t)]]⟩:aw)])[H.length]?=some (⟨.m,0,4,[.agg [.int .i64 t.k,.str t.s,.int .i64 t.o,.aa false (ae t.l)]]⟩:aw):=by simp
 generalize hK2:AD u t=ky at *;rw[ar]at h1 h2 ⊢;rcases hv with⟨rfl,e0⟩|⟨a,ep,rfl,e⟩
 ·have hz:t.l.length=0:=by rw[<-lu,e0];rfl
  have hp:dg t gq=false:=by
   cases h:dg t gq with
   |false=>rfl
   |true=>have:=sF (.inl h);omega
  have hs:dg t iN=false:=by
   cases h:dg t iN with
   |false=>rfl
   |true=>have:=sF (.inr (.inl h));omega
  have hk:jH t≠0:=λh=>by have:=sF (.inr (.inr h));omega
  rw[if_neg hk]at hK;rw[hp,hs,if_neg (by simp),if_neg (by simp[hk])]at hR;rw[hp]at h1;rw[hs]at h2;refine ay.x T6 Tryz.func229 rfl ?_;refine wA ?_;refine .p h1 ?_;refine wA ?_;refine .p h2 ?_;refine wA ?_;exact⟨fV,by simp,fr,.inl ⟨hR,rfl⟩⟩
 ·have fa:=(fr a (ag e)).trans e;have Yx:(kW u t.l).length=t.l.length:=lu;have hg:getM (H++[(⟨.m,0,4,[.agg [.int .i64 t.k,.str t.s,.int .i64 t.o,.aa false (ae t.l)]]⟩:aw)]++[⟨.m,0,2,[.agg [.ak a ep 0 (kW u t.l).length,.int .i64 ky]]⟩]) a ep=some ⟨.m,ep,1,kW u t.l⟩:=bp fa rfl (by simp);have MH:kW u t.l=kW u (t.l.take 1)++kW u (t.l.drop 1):=by unfold kW;rw[<-acK,adA]
  refine ay.x T6 Tryz.func229 rfl ?_;refine wA ?_;refine .p h1 ?_
  cases hp:dg t gq
  ·rw[hp,if_neg (by simp)]at hR;refine wA ?_;refine .p h2 ?_
   cases hs:dg t iN
   ·rw[hs]at hR
    by_cases hk:jH t=0
    ·rw[if_pos hk]at hK;have ge:=(U.key ht hk);have cM:=vj U.oB ge.1;have cC:=vn (r:=r) U.oB ge.1;rw[<-acf (pI u (ck t))]at cC;have ni:=sF (.inr (.inr hk))
     cases hh:bJ r (ck t)
     ·rw[hh]at cC hR;rw[if_neg (by simp)]at hR;subst hK;refine wA ?_;exact⟨fV,by simp,fr,.inl ⟨hR,rfl⟩⟩
     ·rw[hh]at cC hR;rw[if_pos (by simp[hk])]at hR;have Uj:(t.l.take 1).length=1:=by rw[acM];omega
      subst hK;refine wA ?_;refine .mk (λrun lv O=>OY T6 (o:=⟨.m,ep,1,kW u t.l⟩) (b:=1) rfl rfl rfl rfl hg rfl (abZ _) (by omega)) ?_;refine wA ?_;exact⟨fV,by simp,fr,.inr ⟨a,ep,kW u (t.l.drop 1),by rw[hR,Uj];rfl,by rw[hR,<-MH];exact e⟩⟩
    ·rw[if_neg hk]at hK;rw[if_neg (by simp[hk])]at hR;subst hK;refine wA ?_;exact⟨fV,by simp,fr,.inl ⟨hR,rfl⟩⟩
   ·rw[if_pos (.inl hs)]at hR;have ni:=sF (.inr (.inl hs));have Uj:(t.l.take 1).length=1:=by rw[acM];omega
    refine wA ?_;refine .mk (λrun lv O=>OY T6 (o:=⟨.m,ep,1,kW u t.l⟩) (b:=1) rfl rfl rfl rfl hg rfl (abZ _) (by omega)) ?_;refine wA ?_;exact⟨fV,by simp,fr,.inr ⟨a,ep,kW u (t.l.drop 1),by rw[hR,Uj];rfl,by rw[hR,<-MH];exact e⟩⟩
  ·rw[hp,if_pos rfl]at hR;refine wA ?_;exact⟨fV,by simp,fr,.inr ⟨a,ep,[],by rw[hR,<-Yx];rfl,by rw[hR,ack];exact e⟩⟩
end bC
end Go.Pm
