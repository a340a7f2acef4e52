/-
  A part of the library Pm (joined by program). Conditions: none.
-/
import Derived.Test.YtimogkojklpdnaaGreatDoorPzAA
import Derived.Test.YtimogkojklpdnaaGreatDoorPzAM
import Derived.Test.YtimogkojklpdnaaGreatDoorPzAJ
set_option linter.unusedVariables false
set_option linter.unusedSimpArgs false
set_option linter.unnecessarySimpa false
namespace Go.Pm
namespace bO
open Go.Proofs
attribute [local irreducible] aE aC aI aJ Ev ah ai ay aV bU
set_option maxRecDepth 4000
theorem sI(b:List Nat):∀(i:Nat) (l:List Tm),(ju b i l).map (·.v)=l
 |_,[]=>rfl
 |i,v::l=>by rw[ju,ZN,sI b (i+1) l]
def YL:Bool:=lZ.all λt=>(bF t).isEmpty
theorem SN:∀t∈lZ,bF t=[]:=λt ht=>by
 have h:YL=true:=by kernel_rfl
 simpa using Zw.1 h t ht
theorem OA(v:Tm)(c:Nat):bF (zZ v c)=[]:=by
 unfold zZ
 split
 ·refine SN _ ?_;rw[ZR,Zy (show c / 2 % 7<lZ.length by rw[gY];omega)];exact Z2 _
 ·refine abb.2 λy hy=>?_;obtain⟨h1,h2⟩:=(fG _ _).1 hy;simp only[BE,pre,cZ,ZY]at h1;subst h1;simp[Tm.k]at h2
theorem Gb(b:List Nat):∀(i:Nat) (l:List Tm),∀x∈ju b i l,bF x.t=[]
 |_,[],x,h=>by cases h
 |i,v::l,x,h=>by
  rw[ju]at h;rcases ZF.1 h with rfl |h
  ·exact OA _ _
  ·exact Gb b (i+1) l x h
theorem Lg(b:List (List Nat))(s:List Nat):NT (qD b s):=by
 refine⟨Gb s 0 _,?_⟩
 have h1:((qD b s).map (·.v)).Pairwise (·≠·):=by
  rw[qD,Hf,sI];have h2:fK (dL (ez b)):=ig (jO _);exact List.Pairwise.imp (λh e=>by rw[e,cX]at h;omega) h2
 exact List.pairwise_map.1 h1
theorem OB(b:List (List Nat))(s:List Nat):(dL (ez b)).all (Kt (qD b s))=true:=by
 rw[Zw]
 intro x hx
 have h1:x∈(qD b s).map (·.v):=by rw[qD,Hf,sI];exact hx
 obtain⟨c,hc,rfl⟩:=Z0.1 h1;exact aau.2 ⟨c,hc,by simp[cX]⟩
theorem Gc{T:List cY}(hT:∀b∈T,ax b.t<=20):∀l:List fg,oO (l.map (js T))<=oO l * 20
 |[]=>by simp[oO]
 |d::l=>by
  have h1:=zU (s:=T) (B:=20) (l:=d.kn) λt _=>By (by omega) hT t
  have h2:=By (by omega) hT d.tm;have h3:=Gc hT l;rw[ZN,kr,kr];simp only[js];omega
theorem inst_sum{l:List fg}{T:List cY}(hT:∀b∈T,ax b.t<=20):oO (instL l T)<=oO l * 20:=by
 unfold instL
 split
 ·simp[oO]
 ·exact Gc hT l
theorem Cp(b:List (List Nat))(s:List Nat)(n:Int)(hb:∀y∈b,Dl y)(hs:Dl s)(My:b.length<100000000)(TJ:s.length<100000000):
  aO C 8 [.aa false (gB b),.aa false (eG s),.int .u8 n] (.bool true):=by
 have haw:=GF;have h1:=Hi b s (by omega) (by omega);have hS:Ac b s=(decide (b.length<=5)&&decide (s.length<=10)&& !(b.any oN)):=rfl
 cases hsh:Ac b s
 ·rw[hsh]at h1;refine aO.x T6 Tryz.func8 rfl ?_;refine wXA ?_;refine .p haw ?_;refine wXA ?_;refine .p h1 ?_;refine wXA ?_;refine .p haw ?_;refine wXA ?_;exact⟨_,rfl,rfl⟩
 ·rw[hsh]at h1 hS;have hS:=hS.symm;simp only[ZD,decide_eq_true_eq,aaS]at hS;obtain⟨⟨hb5,Zn⟩,VF⟩:=hS
  have FY:∀y∈b,Dl y/\y.length<1000000:=λy hy=>by
   have:=aaU.1 VF y hy;simp only[oN,decide_eq_true_eq]at this;exact⟨hb y hy,by omega⟩
  have h2:=Hm b FY (by omega);have hd:=BJ b;have h3:=EI (ez b) (by omega);have h4:=Hs b;have hv4:=(nu b).1;have h5:aO C 20 [.aa false (ae (dL (ez b))),.aa false (eG s)] (.aa false (bE (qD b s))):=Eb (dL (ez b)) s hs (by omega) (by omega) (λt ht=>by have:=(vR t ((nu b).2 t ht)).2;omega);have Dx:=Kp b s;have BI:∀x∈qD b s,ko x.t=true:=λx hx=>(Ag b s x hx).2.1
  have IY:=oP (ez b);have Zo:=BK b s;have h6:=v7 (ez b) (qD b s) (by omega) (by omega) BI;have hg:=Lg b s;have MK:=OB b s;have kG:=Ag b s;generalize ez b=l at *;generalize qD b s=S at *;have cT:=gq l;have iP:=fu S
  have YM:∀d∈l,d.kn.length<10000000/\∀t∈d.kn++[d.tm],ax t<10000000:=λd Db=>by
   have h1:=Cr Db;have h2:=bD d.kn;refine⟨by omega,λt ht=>?_⟩;rcases ZE.1 ht with ht |ht
   ·have:=bN ht;omega
   ·simp at ht;subst ht;omega
  refine aO.x T6 Tryz.func8 rfl ?_;refine wXA ?_;refine .p haw ?_;refine wXA ?_;refine .p h1 ?_;refine wXA ?_;refine .p h2 ?_;refine wXA ?_;refine .p h3 ?_;refine wXA ?_;refine .p h4 ?_;refine wXA ?_;refine .p h5 ?_;refine wXA ?_;refine eJ.zip T6 S (λp q L H=>∃v T,L=[(2,.int .u8 n),(7,.aa false (bW l)),(9,.aa false (bE S)),(10,v),(36,.aa false (bE S)),(37,.int .i64 (bE S).length),(38,.int .i64 p.length)]/\HV H/\Out 8 H v (bE T)/\(v=.aa true []\/T≠[])/\(∀b∈T,b∈p)/\T.length<=p.length) (.nx ⟨_,[],rfl,HV.nil,.inl ⟨rfl,rfl⟩,.inl rfl,by simp,by simp⟩) ?_ ?_
  ·rintro p c q _ H ρ e ⟨v,T,rfl,hH,ho,hvT,WX,hTl⟩;have cV:=mz e;have cH:=congrArg List.length e;simp only[Zx,ZA]at cH;have heT:=fu T;have lA:=hH.ct (HV.one (ep:=0) (n:=8) (es:=[.agg [.int .i64 c.v.k,.str c.v.s,.int .i64 c.v.o,.aa false (ae c.v.l),.int .i64 c.t.k,.str c.t.s,.int .i64 c.t.o,.aa false (ae c.t.l)]]) (by simp));have I4:=ho.ct [(⟨.m,0,8,[.agg [.int .i64 c.v.k,.str c.v.s,.int .i64 c.v.o,.aa false (ae c.v.l),.int .i64 c.t.k,.str c.t.s,.int .i64 c.t.o,.aa false (ae c.t.l)]]⟩:au)];refine wXA ?_;refine .mk _ rfl ?_;refine wXM (λhc v H lp=>?_) λhc=>?_
   ·refine .nx ⟨_,T++[c],rfl,lp.hv,?_,.inr (by simp),λb hb=>?_,by simp;omega⟩
    ·have:=lp.out;rw[kV];exact this
    ·rcases ZE.1 hb with h |h
     ·exact aa3 _ (WX b h)
     ·exact abH _ h
   ·exact .nx ⟨v,T,rfl,lA,I4,hvT,λb hb=>aa3 _ (WX b hb),by simp;omega⟩
  ·rintro _ H ρ ⟨v,T,rfl,hH,ho,hvT,WX,hTl⟩;have hTS:∀b∈T,b∈S:=WX;have heT:=fu T;have hTb:∀b∈T,ax b.t<=20:=λb hb=>(kG b (hTS b hb)).2.2
   have m1:=HY l T (by omega) YM (by omega) (λb hb=>by have:=kG b (hTS b hb);omega);have Zp:=inst_sum (l:=l) hTb;have h7:=v7 (instL l T) S (by omega) (by omega) BI;have hI:=λhe=>Ht (l:=l) hg hTS MK he
   have Zq:=oP (instL l T);generalize instL l T=X at *;generalize instE l T=xe at *;obtain⟨r1,H1,a1,o1,v1,k1⟩:=jE (wH l) (by rw[gq];omega) H
   have I4:Out 8 H1 v (bE T):=ho.of_eq λi hi=>by
    have h1:=ho.mP i hi;rw[k1 i _ (Zy h1),Zy h1]
   obtain⟨r2,H2,a2,o2,k2⟩:=Ef I4 (hvT.imp_right λh hh=>h (ZL (by have:=congrArg List.length hh;simpa using this))) (qJ T) (by rw[heT];omega)
   have I6:Out 5 H2 r1 (bW l):=o1.of_eq λi hi=>by
    have h1:=o1.mP i hi;rw[k2 i _ (Zy h1),Zy h1]
   refine wXA ?_;refine ai.cu rfl a1 ?_;refine wXA ?_;refine ai.cu rfl a2 ?_;refine wXA ?_;refine call2 (.inl I6) (.inl o2) m1 (λh'=>?_);refine wXC (λhc=>?_) λhc=>?_
   ·have hX:=hI (by omega);obtain⟨r3,H3,a3,o3,v3,k3⟩:=jE (qJ S) (by rw[fu];omega) h'
    skip
    refine ai.cu rfl a3 ?_;refine wXA ?_;refine call2 (sz1:=5) (.inr ⟨false,rfl⟩) (.inl o3) h7 (λh''=>?_);obtain⟨r4,H4,a4,o4,v4,k4⟩:=jE (wH l) (by rw[gq];omega) h'';obtain⟨r5,H5,a5,o5,v5,k5⟩:=jE (qJ S) (by rw[fu];omega) H4
    have o4':Out 5 H5 r4 (bW l):=o4.of_eq λi hi=>by
     have h1:=o4.mP i hi;rw[k5 i _ (Zy h1),Zy h1]
    refine wXA ?_;refine ai.cu rfl a4 ?_;refine wXA ?_;refine ai.cu rfl a5 ?_;refine wXA ?_;refine call2 (.inl o4') (.inl o5) h6 (λh3'=>?_);rw[hX];generalize(l6 l S).1=hx at *;generalize(l6 l S).2=he at *
    cases hx
    all_goals
     refine wXA ?_;exact⟨_,rfl,rfl⟩
   ·exact⟨_,rfl,rfl⟩
end bO
end Go.Pm
