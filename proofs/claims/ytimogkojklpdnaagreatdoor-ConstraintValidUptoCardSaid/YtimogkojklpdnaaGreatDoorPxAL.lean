/-
  Pm, a part. Conditions: none.
-/
import Derived.Test.YtimogkojklpdnaaGreatDoorPxAK
set_option linter.unusedVariables false
set_option linter.unusedSimpArgs false
set_option linter.unnecessarySimpa false
set_option linter.unusedSectionVars false
namespace Go.Pm
namespace bu
open Go.Proofs
attribute [local irreducible] aA az aH aF Ev ag ai aD bw bY
set_option maxRecDepth 4000
theorem JV{l:List Tm}(h:∀t∈l,bH t=0):(l.flatMap bx).length<=l.length * 10000:=by
 induction l with
 |nil=>simp
 |cons t l ih=>
  have h1:=ih λx hx=>h x (by simp[hx])
  have h2:=eR t;have h3:=dg (h t (by simp));simp only[Vg,T0,T2]at h1 ⊢;omega
theorem GM(b l:List Tm):yj b l=(lF (l.flatMap bx)).all λx=>eQ b x:=by
 rw[Bool.eq_iff_iff];unfold yj;simp only[TH,qx,UY];exact⟨λh x ⟨t,ht,hx⟩=>h t ht x hx,λh t ht x hx=>h x ⟨t,ht,hx⟩⟩
theorem xm(l:List ee)(hl:l.length<1000000000)(hb:∀d∈l,d.kn.length<10000000/\∀t∈d.kn++[d.tm],aE t<10000000):aW C 31 [.ab false (aX l)] (.int .i64 (gD l)):=by
 have eE:=eP l;refine aW.x T6 Tryz.func31 rfl ?_;refine wD (λhc=>?_) λhc=>?_;exact⟨_,rfl,by rw[gD,if_pos (by omega)];rfl⟩;have L9:gD l=jq none [] l:=by rw[gD,if_neg (by omega)]
 refine ie.zip T6 l (λp q L H=>∃v,L=[(0,.ab false (aX l)),(3,v),(4,.int .i64 p.length)]/\HV H/\Out 4 H v (aj (c8 p))/\gD l=jq (jY p) (c8 p) q/\∀d∈p,bH d.tm=0) (.nx ⟨_,rfl,HV.nil,.inl ⟨rfl,rfl⟩,L9,by simp⟩) ?_ ?_
 ·rintro p d q _ H V e ⟨v,rfl,hH,ho,hs,hp⟩;have dL:=fh e;have gp:=lenE e;obtain⟨Bk,yg⟩:=hb d (by rw[e];simp);have Ka:=EW d (by omega) yg;have On:=ax d.kn;rw[oM]at Ka
  have Pv:bu.aZ d≠0->gD l=bu.aZ d:=λh=>by
   rw[hs,jq];unfold bu.aZ at h ⊢
   by_cases h1:40<d.kn.length
   rw[if_pos h1,if_pos h1]
   ·rw[if_neg h1]at h ⊢;rw[if_neg h1,if_pos h]
  have MS:bu.aZ d=0->d.kn.length<=40/\(∀t∈d.kn++[d.tm],bH t=0)/\gD l=if kept (jY p) d.kn=false then 9 else if yj (c8 p) d.kn=false then 13 else jq (some d.kn) (c8 p++bx d.tm) q:=λh=>by
   unfold bu.aZ at h
   split at h
   cases h
   ·rename_i h1
    exact⟨by omega,lG h,by rw[hs,jq,if_neg h1,if_neg (by omega)]⟩
  refine wA ?_;refine .p Ka ?_;refine wD (λhc=>?_) λhc=>?_
  ·obtain⟨SJ,JW,hs⟩:=MS (by omega);have Jq:=uM hp;have Ii:=x5 hp;have qA:p.length<41:=by omega
   have Df:=ax (c8 p);have Hw:=JV (l:=d.kn) λt ht=>JW t (by simp[ht])
   have QC:=x8 d.kn (by omega) (by omega) (λt ht=>by have:=dg (JW t (by simp[ht]));omega);have SI:=xg (d.kn.flatMap bx);have h9:=ax (lF (d.kn.flatMap bx))
   have Kv:∀x∈lF (d.kn.flatMap bx),aE x<=10000:=λx hx=>by
    obtain⟨t,ht,hx⟩:=UY.1 ((qx _ _).1 hx);have:=iW hx;have:=dg (JW t (by simp[ht]));omega
   have Lc:=dg (JW d.tm (by simp));have EU:=pC d.tm (by omega);have Hx:=eR d.tm;have sT:=ax (bx d.tm);have Fi:=GM (c8 p) d.kn;rw[aN]at EU
   by_cases JS:p=[]
   ·have Kz:kept (jY p) d.kn=true:=by rw[JS];rfl
    rw[Kz,if_neg (by simp)]at hs;have Nk:p.length=0:=by rw[JS];rfl
    refine ie.zip T6 ([]:List Tm) (λp2 q2 L K=>L=[(0,.ab false (aX l)),(3,v),(4,.int .i64 p.length),(6,.int .i64 p2.length)]/\H=K) (.nx ⟨rfl,rfl⟩) ?_ ?_
    ·rintro p2 u q2 _ K V e2 _
     cases p2 <;>cases e2
    ·rintro _ _ V ⟨rfl,rfl⟩;refine wA ?_;refine .p QC ?_;refine wA ?_;refine ie.zip T6 (lF (d.kn.flatMap bx)) (λp4 q4 L K=>L=[(0,.ab false (aX l)),(3,v),(4,.int .i64 p.length),(7,.ab false (aj (lF (d.kn.flatMap bx)))),(8,.int .i64 p4.length)]/\H=K/\∀x∈p4,eQ (c8 p) x=true) (.nx ⟨rfl,rfl,by simp⟩) ?_ ?_
     ·rintro p4 x q4 _ _ V e4 ⟨rfl,rfl,Aa⟩;have GL:=bA e4;have Hn:=lenE e4;have SK:=Kv x (by rw[e4];simp);have HI:=sC (c8 p) x (by omega) (by omega) (λt ht=>by have:=Jq t ht;omega);rw[aN]at HI;refine wA ?_;refine .Ky (.inl ho) HI ?_
      cases hh:eQ (c8 p) x
      ·have oq:yj (c8 p) d.kn=false:=by
        rw[Fi,U7];exact⟨x,by rw[e4];simp,by simp[hh]⟩
       refine wA ?_;exact⟨_,rfl,by rw[hs,if_pos oq];rfl⟩
      ·refine wA ?_;exact .nx ⟨rfl,rfl,λw hw=>by rcases TP.1 hw with h |h;exact Aa w h;simp at h;rw[h];exact hh⟩
     ·rintro _ _ V ⟨rfl,rfl,Aa⟩
      have oq:yj (c8 p) d.kn=true:=by
       rw[Fi,TH];exact Aa
      rw[oq,if_neg (by simp)]at hs;refine wA ?_;refine .p EU ?_;refine wG λv H lp=>?_;refine .nx ⟨_,rfl,lp.hv,?_,by rw[gK,fL];exact hs,λw hw=>by rcases TP.1 hw with h |h;exact hp w h;simp at h;rw[h];exact JW d.tm (by simp)⟩;have:=lp.out;rw[fL,du];exact this
   ·obtain⟨p',e0,sX⟩:∃p' e0,p=p'++[e0]:=by
     rcases List.eq_nil_or_concat p with h |⟨a,b,h⟩;exact absurd h JS;exact⟨a,b,by rw[h];simp⟩
    have EV:=fh (l:=l) (p:=p') (d:=e0) (q:=d::q) (by rw[e,sX];simp);have Nk:p.length=p'.length+1:=by rw[sX];simp
    have Ce:jY p=some e0.kn:=by rw[sX,gK]
    have SL:=hb e0 (by rw[e,sX];simp);have SM:=ax e0.kn;have MT:(aX l)[p.length]?=some (.agg [.ab false (aj d.kn),.int .i64 d.tm.k,.str d.tm.s,.int .i64 d.tm.o,.ab false (aj d.tm.l)]):=dL;refine ie.zip T6 e0.kn (λp2 q2 L K=>L=[(0,.ab false (aX l)),(3,v),(4,.int .i64 p.length),(6,.int .i64 p2.length)]/\H=K/\∀t∈p2,eQ d.kn t=true) (.nx ⟨rfl,rfl,by simp⟩) ?_ ?_
    ·rintro p2 u q2 _ _ V e2 ⟨rfl,rfl,CJ⟩;have Bj:=bA e2;have Ff:=lenE e2;have HI:=sC d.kn u (by have:=SL.2 u (by rw[e2];simp);omega) (by omega) (λt ht=>by have:=dg (JW t (by simp[ht]));omega);rw[aN]at HI;refine wA ?_;refine .mk (n:=p'.length) ?_ (by omega) EV rfl;refine wA ?_;refine .mk (n:=p'.length) ?_ (by omega) EV rfl;refine wA ?_;refine .p HI ?_
     cases hh:eQ d.kn u
     ·have JU:kept (jY p) d.kn=false:=by
       rw[Ce];show(e0.kn.all λt=>eQ d.kn t)=false;rw[U7];exact⟨u,by rw[e2];simp,by simp[hh]⟩
      refine wA ?_;exact⟨_,rfl,by rw[hs,if_pos JU];rfl⟩
     ·refine wA ?_;exact .nx ⟨rfl,rfl,λw hw=>by rcases TP.1 hw with h |h;exact CJ w h;simp at h;rw[h];exact hh⟩
    ·rintro _ _ V ⟨rfl,rfl,CJ⟩
     have JU:kept (jY p) d.kn=true:=by
      rw[Ce];show(e0.kn.all λt=>eQ d.kn t)=true;rw[TH];exact CJ
     rw[JU,if_neg (by simp)]at hs;refine wA ?_;refine .mk (n:=p'.length) ?_ (by omega) EV rfl;refine wA ?_;refine .p QC ?_;refine wA ?_;refine ie.zip T6 (lF (d.kn.flatMap bx)) (λp4 q4 L K=>L=[(0,.ab false (aX l)),(3,v),(4,.int .i64 p.length),(7,.ab false (aj (lF (d.kn.flatMap bx)))),(8,.int .i64 p4.length)]/\H=K/\∀x∈p4,eQ (c8 p) x=true) (.nx ⟨rfl,rfl,by simp⟩) ?_ ?_
     ·rintro p4 x q4 _ _ V e4 ⟨rfl,rfl,Aa⟩;have GL:=bA e4;have Hn:=lenE e4;have SK:=Kv x (by rw[e4];simp);have HI:=sC (c8 p) x (by omega) (by omega) (λt ht=>by have:=Jq t ht;omega);rw[aN]at HI;refine wA ?_;refine .Ky (.inl ho) HI ?_
      cases hh:eQ (c8 p) x
      ·have oq:yj (c8 p) d.kn=false:=by
        rw[Fi,U7];exact⟨x,by rw[e4];simp,by simp[hh]⟩
       refine wA ?_;exact⟨_,rfl,by rw[hs,if_pos oq];rfl⟩
      ·refine wA ?_;exact .nx ⟨rfl,rfl,λw hw=>by rcases TP.1 hw with h |h;exact Aa w h;simp at h;rw[h];exact hh⟩
     ·rintro _ _ V ⟨rfl,rfl,Aa⟩
      have oq:yj (c8 p) d.kn=true:=by
       rw[Fi,TH];exact Aa
      rw[oq,if_neg (by simp)]at hs;refine wA ?_;refine .p EU ?_;refine wG λv H lp=>?_;refine .nx ⟨_,rfl,lp.hv,?_,by rw[gK,fL];exact hs,λw hw=>by rcases TP.1 hw with h |h;exact hp w h;simp at h;rw[h];exact JW d.tm (by simp)⟩;have:=lp.out;rw[fL,du];exact this
  ·have hx:=Pv (by assumption);exact⟨_,rfl,by rw[hx];rfl⟩
 ·rintro _ H V ⟨v,rfl,hH,ho,hs,hp⟩;refine wA ?_;exact⟨_,rfl,by rw[hs,jq];rfl⟩
end bu
set_option maxRecDepth 4000
theorem Ho{C:bZ}(T:kM C.P){H:aa}{st xt el qf:TypeId}{sz iU:Nat}{z v:PV}{full:Bool}{es ys:List PV}(hk:T.kd st=some (.sl el))(fv:T.kd xt=some (.sl qf))(hs:T.ts el=some (sz+1))(hb:T.tb el=some iU)(hz:T.tz el=some z)(fS:iU<=1000)(hl:(cells z).length=sz+1)(ho:(cells z).all aZ=true)
  (o:Out (sz+1) H v es) (hy:dw (sz+1) ys) (hn:es.length+ys.length<1000000000) (h9:au es=true) (ms:au ys=true) (hH:HV H):
  ∃r H',cg C.P 2 H st xt v (.ab full ys)=some (r,H')/\Out (sz+1) H' r (es++ys)/\HV H'/\H.length<=H'.length/\(∀(j:Nat) (o:aC),H[j]?=some o->o.mu≠.m->H'[j]?=some o)/\∀(j:Nat) (o:aC),H'[j]?=some o->o.mu≠.l\/H[j]?=some o:=by
 by_cases aU:ys=[]
 ·subst aU;refine⟨v,H,?_,by simpa using o,hH,TI _,λ_ _ h _=>h,λ_ _ h=>.inr h⟩;unfold dw at hy;unfold cg;rw[aY (T.cI _ _ hk)];simp only[T.dF _ _ hs,T.tT _ _ hb,T.mC _ _ hz,cL,aY (T.cI _ _ fv),bC];rw[if_pos ⟨by omega,by omega,⟨hl,ho⟩,hy⟩];rcases o with⟨rfl,_⟩|⟨id,ep,rfl,e⟩;simp
  ·simp only[bo e rfl (by simp:Mu.m≠Mu.x)];rw[if_pos ⟨by simp,trivial⟩];simp
 ·have FV:ys.isEmpty=false:=by cases ys with |nil=>exact absurd rfl aU |cons=>rfl
  rcases o with⟨rfl,rfl⟩|⟨id,ep,rfl,e⟩
  ·refine⟨_,_,fH T (h:=H) (lv:=2) (full:=full) (by omega) hk fv hs hb hz fS hl ho hy FV (by simpa using hn),.inr ⟨H.length,0,by simp,by simp⟩,hH.gr (HV.one ms),by simp,λj o h _=>by rw[TG (ae h)];exact h,λj o h=>?_⟩
   by_cases hj:j<H.length
   rw[TG hj]at h;exact .inr h
   ·have cx:=ae h;simp at cx;have:j=H.length:=by omega
    subst this;simp at h;subst h;exact .inl (by simp)
  ·have cx:=ae e;have:=iB T (h:=H) (full:=full) (len:=es.length) hk fv hs hb hz fS hl ho hy FV hn (bo e rfl (by simp)) rfl rfl (TI _);rw[List.take_length]at this;refine⟨_,_,this,.inr ⟨id,ep+1,by simp,TM cx⟩,hH.set id (by simp) (by simp[bp]at h9 ms ⊢;exact⟨h9,ms⟩),by simp,λj o h hm=>?_,λj o h=>?_⟩
   ·by_cases hj:j=id
    ·subst hj;rw[e]at h;cases h;exact absurd rfl hm
    ·rw[TN (by omega)];exact h
   ·by_cases hj:j=id
    ·subst hj;rw[TM cx]at h;cases h;exact .inl (by simp)
    ·rw[TN (by omega)]at h;exact .inr h
section
variable{C:bZ}(T:kM C.P){run:gw}{ops:Array Oper}{b:List Nat}{h0:aa}{i:Nat}{L:Al}{V:Nat->PV}{h:aa}
theorem yO{o:Oper}{r:List Oper}{s s':St}(e:b8 C run ops b h0 i o s=some s'):bD C run ops b h0 i (o::r) s=bD C run ops b h0 (i+1) r s':=by rw[bD,e]
theorem kP{d:Nat}{op:Op}{v:PV}{y:TypeId}{s:String}{a:Array Edge}(hs:tU T op L (λx=>x=v)):b8 C run ops b h0 i ⟨some d,op,y,s,a,none⟩ ⟨al L V,h⟩=some ⟨al ((d,v)::L) V,h⟩:=by
 obtain⟨hh,v',e,rfl⟩:=oJ T hs;unfold b8;simp only[aK,hh,if_true,e,bd]
theorem kR{d:Nat}{op:Op}{v:PV}{y:TypeId}{s:String}{a:Array Edge}(hs:tV T op L h (λx=>x=v))(hg:p9 op (al L V)=none)(hr:eU op=true:=by rfl):b8 C run ops b h0 i ⟨some d,op,y,s,a,none⟩ ⟨al L V,h⟩=some ⟨al ((d,v)::L) V,h⟩:=by
 obtain⟨hh,v',e,rfl⟩:=mf T hs;refine Nl hh hr (by simp only[jA,hg]) ?_;have:=e run 1 V
 cases op <;>first |exact this |(cases hr)
end
theorem Oi{C:bZ}(T:kM C.P){L:Al}{V:Nat->PV}{M:aa}{t:TypeId}{n:Nat}{ps:Array (Nat×Operand)}{vs:List PV}(x:vj T t n ps.toList L (λ_ es=>es=vs))(hv:au vs=true):aw C.P 1 (.buildSlice t n ps) (al L V) M=some (.ab true vs,M):=by
 obtain⟨sz,es,rfl,e⟩:=lB T x;have:=e V M 1;rw[if_pos hv]at this;simpa only[aw]using this
theorem yP{C:bZ}{ops:Array Oper}{L L':Al}{H h':aa}(De:∀V,fo ops (before ops) (al L V)=[])(vg:sinks ops (before ops)=none)(wP:∀(j:Nat) (o:aC),h'[j]?=some o->o.mu≠.l\/H[j]?=some o)
  (sT:∀run V,bD C run ops (before ops) H 0 ops.toList ⟨al L V,H⟩=some ⟨al L' V,h'⟩):∀run V,gR C run ops ⟨al L V,H⟩=some ⟨al L' V,h'⟩:=by
 intro run V
 have h1:∀x:aa,dj [] x=x:=λx=>by
  apply Uw
  intro i
  rw[tO];simp
 have h2:eB [] H h'=h':=by
  apply Uw
  intro i
  rw[tP];simp
 unfold gR;rw[De,h1,sT];dsimp only
 have hn:ov [] H h'=true:=tQ λj o h=>by
  rcases wP j o h with h |h;exact .inl h;exact .inr (.inr h)
 rw[if_pos ⟨hn,by simp only[ow,vg]⟩,h2]
namespace bu
open Go.Proofs
attribute [local irreducible] aA az aH aF Ev ag ai aD bw bY
def kN(l:List ee):Nat:=(l.map λd=>bg d.kn+aE d.tm+2).sum
def dA(l:List ee):List Tm:=l.flatMap λd=>d.kn++[d.tm]
theorem pD(d:ee)(l:List ee):kN (d::l)=bg d.kn+aE d.tm+2+kN l:=by simp[kN]
theorem lx{d:ee}:∀{l:List ee},d∈l->bg d.kn+aE d.tm+2<=kN l
 |u::l,h=>by
  rw[pD];rcases TW.1 h with rfl |h;omega;have:=lx h;omega
theorem iR:∀(l:List ee),l.length<=kN l
 |[]=>by simp
 |d::l=>by have:=iR l;rw[pD,T2];omega
theorem Cr(t:Tm):bg [t]=aE t:=by simp[bg]
theorem lZ:∀(l:List ee),bg (dA l)<=kN l
 |[]=>by simp[dA,bg]
 |d::l=>by
  have:=lZ l;rw[pD];simp only[dA,Vg,uN,Cr]at this ⊢;omega
theorem Ac(l:List ee)(hl:kN l<100000000):aW C 22 [.ab false (aX l)] (.ab false (aj (dA l))):=by
 have eE:=eP l;have wa:=iR l;refine aW.x T6 Tryz.func22 rfl ?_;refine wA ?_;refine ie.zip T6 l (λp q L H=>∃v,L=[(0,.ab false (aX l)),(3,v),(4,.int .i64 p.length)]/\HV H/\Out 4 H v (aj (dA p))) (.nx ⟨_,rfl,HV.nil,.inl ⟨rfl,rfl⟩⟩) ?_ ?_
 ·rintro p d q _ H V e ⟨v,rfl,hH,ho⟩;have dL:=fh e;have gp:=lenE e;have sS:dA l=dA p++(d.kn++[d.tm])++dA q:=by rw[e];simp[dA]
  have tv:=lZ l;have Df:=bq (dA l);have FP:=congrArg List.length sS;simp only[T0,T2,Ut]at FP;have hle:=ax (dA p);have De:=ax d.kn;have QD:au [PV.agg [.int .i64 d.tm.k,.str d.tm.s,.int .i64 d.tm.o,.ab false (aj d.tm.l)]]=true:=by simp
  have e9:[.agg [.int .i64 d.tm.k,.str d.tm.s,.int .i64 d.tm.o,.ab false (aj d.tm.l)]]=aj [d.tm]:=by rw[aj,<-aN];rfl
  obtain⟨r1,H1,a1,o1,v1,l1,k1,n1⟩:=Ho T6 (st:=31) (xt:=31) (full:=false) (es:=aj (dA p)) (ys:=aj d.kn) rfl rfl rfl rfl rfl (by decide) rfl rfl ho (pB _) (by omega) (by simp) (by simp) hH;have wX:(aj (dA p)++aj d.kn).length=(dA p).length+d.kn.length:=by rw[T0];omega
  obtain⟨r2,H2,a2,o2,v2,l2,k2,n2⟩:=Ho T6 (st:=31) (xt:=31) (full:=true) (es:=aj (dA p)++aj d.kn) (ys:=[.agg [.int .i64 d.tm.k,.str d.tm.s,.int .i64 d.tm.o,.ab false (aj d.tm.l)]]) rfl rfl rfl rfl rfl (by decide) rfl rfl o1 rfl (by rw[wX];simp;omega) (by rw[nr];simp) QD v1;refine wA ?_;refine .calm ?_ H2 (yP (λ_=>rfl) rfl (λj o h=>?_) (λrun V=>?_)) ?_
  rotate_left
  ·rcases n2 j o h with h |h
   ·exact .inl h
   ·exact n1 j o h
  ·refine(yO (kP T6 (by exact rfl))).trans ?_;refine(yO (kP T6 (by exact rfl))).trans ?_;refine(yO (kP T6 (by exact rfl))).trans ?_;refine(yO (kR T6 (by(conv=>whnf);exact .mk (n:=p.length) ⟨rfl⟩ rfl dL rfl) rfl)).trans ?_;refine(yO (kP T6 (by exact rfl))).trans ?_;refine(yO (kR T6 (by exact rfl) rfl)).trans ?_;refine(yO (Nn rfl rfl rfl rfl (GK rfl rfl a1) l1 k1)).trans ?_;refine(yO (kP T6 (by exact rfl))).trans ?_;refine(yO (kP T6 (by exact rfl))).trans ?_;refine(yO (kR T6 (by(conv=>whnf);exact .mk (n:=p.length) ⟨rfl⟩ rfl dL rfl) rfl)).trans ?_;refine(yO (kP T6 (by exact rfl))).trans ?_;refine(yO (kR T6 (by exact rfl) rfl)).trans ?_;refine(yO (PQ rfl rfl rfl (Oi T6 (by exact rfl) QD))).trans ?_;refine(yO (Nn rfl rfl rfl rfl (GK rfl rfl a2) l2 k2)).trans ?_;refine(yO (kP T6 (by exact rfl))).trans ?_;exact rfl
  ·refine wA ?_;refine .nx ⟨_,rfl,v2,?_⟩;rw[e9,<-du,<-du]at o2;rw[show dA (p++[d])=dA p++d.kn++[d.tm] by simp[dA]];exact o2
 ·rintro _ H V ⟨v,rfl,hH,ho⟩;refine wA ?_;exact Ls.MJ (.inl ho) (by simp) (by simp)
def BD(l:List ee)(n:Int):Bool:=if 42<l.length then false else if l.any (λd=>decide (45<d.kn.length))=true then false else Kt (dA l) 700 n
theorem DV(l:List ee)(n:Int)(hn:n<1000000000)(hl:kN l<100000000):aW C 12 [.ab false (aX l),.int .i64 n] (.bool (BD l n)):=by
 have eE:=eP l;have wa:=iR l;have h1:=Ac l hl;have h2:=(Gd (dA l) (by have:=lZ l;omega) 700 n hn).nine;refine aW.x T6 Tryz.func12 rfl ?_;refine wD (λhc=>?_) λhc=>?_;exact⟨_,rfl,by rw[BD,if_pos (by omega)];rfl⟩;refine ie.zip T6 l (λp q L H=>L=[(0,.ab false (aX l)),(1,.int .i64 n),(5,.int .i64 p.length)]/\H=[]/\∀d∈p,¬45<d.kn.length) (.nx ⟨rfl,rfl,by simp⟩) ?_ ?_
 ·rintro p d q _ _ V e ⟨rfl,rfl,hp⟩;have dL:=fh e;have gp:=lenE e;have De:=ax d.kn;refine wD (λhc=>?_) λhc=>?_;exact⟨_,rfl,by rw[BD,if_neg (by omega),if_pos (UZ.2 ⟨d,by rw[e];simp,decide_eq_true (by omega)⟩)];rfl⟩;exact .nx ⟨rfl,rfl,λw hw=>by rcases TP.1 hw with h |h;exact hp w h;simp at h;rw[h];omega⟩
 ·rintro _ _ V ⟨rfl,rfl,hp⟩
  have ha:l.any (λd=>decide (45<d.kn.length))=false:=by
   rw[UR]
   intro d hd
   simpa using hp d hd
  have hd:BD l n=Kt (dA l) 700 n:=by rw[BD,if_neg (by omega),if_neg (by rw[ha];simp)]
  refine wA ?_;refine .p h1 ?_;refine wA ?_;refine .p h2 ?_;refine wA ?_;exact⟨_,rfl,by rw[hd];rfl⟩
end bu
namespace Hg
open Go.Proofs Go.RowKit
variable[iD:Inhabited Prop]
def nF:List PV->aa->Option (PV×aa)
 |[x],h=>match wJ x with
  |some t=>if aE t<100000000 then some (.cT [.str (bu.uZ t),.int .i64 (valid t)],h)else none
  |none=>none
 |_,_=>none
theorem yF{t:Tm}(hb:aE t<100000000)(h:aa):nF [enc t] h=some (.cT [.str (bu.uZ t),.int .i64 (valid t)],h):=by simp only[nF,q9,if_pos hb]
theorem FR(hD:¬yG):cW bu.C.P 80 nF:=by
 intro args h r h' e w F Y vs H ha
 unfold nF at e
 split at e
 ·rename_i x
  split at e
  ·rename_i t ht
   split at e
   ·rename_i hb
    obtain⟨rfl,rfl⟩:=TL (TF e);obtain rfl:=q' x ht
    obtain⟨v,rfl⟩:∃v,vs=[v]:=by
     match vs,ha.1 with
     |[v],_=>exact⟨v,rfl⟩
    have hv:aS w (Av F h Y) v (enc t):=(show ar w (Av F h Y) Y h v (enc t)from ha.2 0 (by simp)).yz (bu.tG t);refine(bu.u6 hb hv (λx hx=>Av.lt H hx) H.di).mono ?_;rintro en w' ⟨rfl,Ii⟩;have g:=mT hD Ii
    exact⟨_,Y,rfl,.val (.cT [.string (bu.uZ t),.int .i64 (valid t)] _ rfl (λj hj=>by
     match j,hj with
     |0,_=>exact .str _
     |1,_=>exact .int _ _
     |j+2,hj=>simp at hj;omega)),H.uY g,g.pG h Y,λhh=>by omega⟩
   cases e
  cases e
 cases e
def ps:List (FuncId× (List PV->aa->Option (PV×aa))):=[(82,jP),(80,nF)]
noncomputable def C:bZ:=FB bu.C ps
noncomputable def T6:kM C.P:=bu.T6
theorem C6(x)(h:x∈ps):bu.ra x.1=.no:=by
 simp only[ps,TW,UE,or_false]at h;rcases h with rfl |rfl <;>rfl
theorem up{f:FuncId}{args:List PV}{r:PV}(a:aW bu.C f args r):aW C f args r:=aW.up (qT C6) a
theorem ok(hD:¬yG):cj C:=Aj bu.fw (λx h=>by
 simp only[ps,TW,UE,or_false]at h;rcases h with rfl |rfl;exact C7 hD
 ·exact FR hD) (λx h=>by
 simp only[ps,TW,UE,or_false]at h;rcases h with rfl |rfl;exact⟨_,Tryz.func82,by kernel_rfl,by kernel_rfl⟩;exact⟨_,Tryz.func80,by kernel_rfl,by kernel_rfl⟩)
theorem gT:gL C:=qU bu.gW
theorem S(hD:¬yG):∀n,ch C (cN C n):=lj (ok hD) gT
attribute [local irreducible] aA az aH aF Ev ag ai aD bw cR tH kc jD
theorem tI(t:Tm)(hb:aE t<100000000):aW C 79 [enc t] (.str (bu.uZ t)):=by
 have hp:=λh=>yF hb h
 rw[aN]at hp ⊢;refine aW.x T6 Tryz.func79 rfl ?_;refine wA ?_;refine ai.PD (hp _) ?_;refine wA ?_;exact⟨_,rfl,rfl⟩
end Hg
namespace bu
open Go.Proofs
attribute [local irreducible] aA az aH aF Ev ag ai aD bw bY
theorem B0{o:Int}(ho:0<=o/\o<=5):aW C 185 [.int .i64 o] (.str (JK o)):=by
 have:o=0\/o=1\/o=2\/o=3\/o=4\/o=5:=by omega
 rcases this with rfl |rfl |rfl |rfl |rfl |rfl <;>exact aW.qO (n:=10) (by kernel_rfl)
theorem uy:∀(n:Nat) (t:Tm),aE t<=n->B1 t=true->aE t<10000000->aW C 138 [enc t] (.str (kE t)):=by
 intro n
 induction n with
 |zero=>intro k hk;have:=n5 k;omega
 |succ n ih=>
 intro x hk eO hb
 obtain⟨k,s,o,l⟩:=x;have dF:=ja _ eO;simp only[B1,TK,decide_eq_true_eq]at eO;obtain⟨eO,sc⟩:=eO;simp only[aE]at hk hb;have e63:(⟨#[63]⟩:ByteArray).size=1:=rfl;have e58:(⟨#[58]⟩:ByteArray).size=1:=rfl;have e40:(⟨#[40]⟩:ByteArray).size=1:=rfl;have e41:(⟨#[41]⟩:ByteArray).size=1:=rfl;have e5:(s++(⟨#[58]⟩:ByteArray)).size=s.size+1:=by rw[Uy];rfl
 have e6:((⟨#[63]⟩:ByteArray)++s).size=s.size+1:=by rw[Uy,e63];omega
 have e7:((⟨#[63]⟩:ByteArray)++s++(⟨#[58]⟩:ByteArray)).size=s.size+2:=by rw[Uy,e6];rfl
 have e44:(⟨#[44,32]⟩:ByteArray).size=2:=rfl;obtain⟨B2,Sk⟩:=zD eO;have hw:=B0 eO;refine aW.x T6 Tryz.func138 rfl ?_;rw[enc]
 (repeat' (first |(refine Rn.go ?_;conv=>whnf)|refine .mk ?_ |refine .mk (λhc=>?_) λhc=>?_ |fail))
 ·refine⟨_,rfl,?_⟩;simp only[aQ,cJ,kE];rw[if_pos (by assumption),if_pos (by assumption)]
 ·refine .p hw ?_;refine wA ?_;refine⟨_,rfl,?_⟩;simp only[aQ,cJ,kE];rw[if_pos (by assumption),if_neg (by assumption),db (_++s)]
 ·refine .p hw ?_;refine wA ?_;refine⟨_,rfl,?_⟩;simp only[aQ,cJ,kE];rw[if_neg (by assumption),if_pos (by assumption)]
 ·have Sl:¬k=1:=by assumption
  have Ke:¬k=2:=by assumption
  have eE:=ax l;have Df:=bq l;refine ie.zip T6 l (λp _ L H=>∃u,L=[(1,.ptr 0 0 0 0),(3,.str u),(4,.int .i64 p.length)]/\u=s++⟨#[40]⟩++kT false p/\H=[⟨.m,0,4,[.agg [.int .i64 k,.str s,.int .i64 o,.ab false (aj l)]]⟩]) (.nx ⟨_,rfl,by rw[kT,pn],rfl⟩) ?_ ?_
  ·rintro p a q _ _ V e ⟨u,rfl,hu,rfl⟩;have dL:=bA e;have gp:=lenE e;have Gv:a∈l:=by rw[e];simp
   have Qi:=bF Gv;have JL:=n9 sc Gv;have Qj:=se sc e;have Sm:=ja a JL;have hr:=ih a (by omega) JL (by omega);rw[aN]at hr;have z1:u.size=s.size+1+(kT false p).size:=by rw[hu];simp only[Uy];rfl
   have z2:(u++(⟨#[44,32]⟩:ByteArray)).size=s.size+1+(kT false p).size+2:=by rw[Uy,z1];rfl
   refine wD (λhc=>?_) λhc=>?_
   ·have MB:p≠[]:=by
     rintro rfl;simp at *
    refine .p hr ?_;refine wA ?_;refine .nx ⟨_,rfl,?_,rfl⟩;rw[hu,jb,if_pos (.inr MB)];simp only[db]
   ·obtain rfl:p=[]:=T3 (by omega);refine .p hr ?_;refine wA ?_;refine .nx ⟨_,rfl,?_,rfl⟩;rw[hu,jb,if_neg (by simp),kf];simp only[db]
  ·rintro _ _ V ⟨u,rfl,hu,rfl⟩;have hz:=jc false l sc;have z1:u.size=s.size+1+(kT false l).size:=by rw[hu];simp only[Uy];rfl
   refine wA ?_;refine⟨_,rfl,?_⟩;simp only[aQ,cJ,kE];rw[if_neg Sl,if_neg Ke,hu]
theorem rf:∀{l:List ee},(∀d∈l,Lb d)->(oF l).size<=10 * kN l
 |[],_=>by simp[oF,kN];rfl
 |d::l,h=>by
  have h1:=El (h d (by simp));have h2:=rf (l:=l) (λx hx=>h x (by simp[hx]));simp only[oF,b9,kN,TT,List.sum_cons]at h2 ⊢;omega
theorem Gy{l:List ee}(h:gD l=0):∀d∈l,Lb d:=λd hd=>
 ⟨re λt ht=>jQ (ke (((oG h).2 d hd).2 t (by simp[ht]))).1,jQ (ke (((oG h).2 d hd).2 d.tm (by simp))).1⟩
theorem zE(l:List ee)(hl:kN l<10000000)(ho:∀d∈l,Lb d):aW C 84 [.ab false (aX l)] (.str (oF l)):=by
 have eE:=eP l;have wa:=iR l;have Rh:=rf ho;refine aW.x T6 Tryz.func84 rfl ?_;refine wA ?_;refine ie.zip T6 l (λp _ L H=>∃u,L=[(0,.ab false (aX l)),(3,.str u),(4,.int .i64 p.length)]/\u=oF p/\H=[]) (.nx ⟨_,rfl,rfl,rfl⟩) ?_ ?_
 ·rintro p d q _ _ V e ⟨u,rfl,hu,rfl⟩;have dL:=fh e;have gp:=lenE e;have Hh:d∈l:=by rw[e];simp
  obtain⟨eO,Qk⟩:=ho d Hh;have h1:=lx Hh;have h2:=bq d.kn;have Bk:=ax d.kn;have NZ:(oF p).size+(CF d).size<=(oF l).size:=by rw[e,va];simp only[oF,b9];omega
  have Hi:=NZ;unfold CF at Hi;have e32:(⟨#[32]⟩:ByteArray).size=1:=rfl;have e10:(⟨#[10]⟩:ByteArray).size=1:=rfl;have e124:(⟨#[124,45,32]⟩:ByteArray).size=3:=rfl;have e44:(⟨#[44,32]⟩:ByteArray).size=2:=rfl;simp only[b9,e10,e124]at Hi;have Tt:=jc false d.kn eO;have mC:=ja d.tm Qk;have Tu:u.size<=100000000:=by rw[hu];omega
  have Fg:=uy (aE d.tm) d.tm (TI _) Qk (by omega);rw[aN]at Fg;refine wA ?_;refine ie.zip T6 d.kn (λp2 _ L H=>∃w,L=[(0,.ab false (aX l)),(3,.str w),(4,.int .i64 p.length),(5,.int .i64 p2.length)]/\w=u++kT false p2/\H=[]) (.nx ⟨_,rfl,by rw[kT,pn],rfl⟩) ?_ ?_
  ·rintro p2 a q2 _ _ V e2 ⟨w,rfl,hw,rfl⟩;have Bj:=bA e2;have Ff:=lenE e2;have Gv:a∈d.kn:=by rw[e2];simp
   have Qi:=bF Gv;have JL:=n9 eO Gv;have Qj:=se eO e2;have Sm:=ja a JL;have hr:=uy (aE a) a (TI _) JL (by omega);rw[aN]at hr;have z1:w.size=u.size+(kT false p2).size:=by rw[hw,b9]
   have z2:(w++(⟨#[44,32]⟩:ByteArray)).size=u.size+(kT false p2).size+2:=by rw[b9,z1];rfl
   refine wD (λhc=>?_) λhc=>?_
   ·have MB:p2≠[]:=by
     intro h
     have h0:p2.length=0:=by rw[h];rfl
     omega
    refine .p hr ?_;refine wA ?_;refine .nx ⟨_,rfl,?_,rfl⟩;rw[hw,jb,if_pos (.inr MB)];simp only[db]
   ·obtain rfl:p2=[]:=T3 (by omega);refine .p hr ?_;refine wA ?_;refine .nx ⟨_,rfl,?_,rfl⟩;rw[hw,jb,if_neg (by simp),kf];simp only[db]
  ·rintro _ _ V ⟨w,rfl,hw,rfl⟩;have z1:w.size=u.size+(kT false d.kn).size:=by rw[hw,b9]
   have z2:(w++(⟨#[32]⟩:ByteArray)).size=w.size+1:=by rw[b9];rfl
   have z3:(w++(⟨#[32]⟩:ByteArray)++(⟨#[124,45,32]⟩:ByteArray)).size=w.size+4:=by rw[b9,z2];rfl
   have z4:(w++(⟨#[124,45,32]⟩:ByteArray)).size=w.size+3:=by rw[b9];rfl
   have z5:(w++(⟨#[32]⟩:ByteArray)++(⟨#[124,45,32]⟩:ByteArray)++kE d.tm).size=w.size+4+(kE d.tm).size:=by rw[b9,z3]
   have z6:(w++(⟨#[124,45,32]⟩:ByteArray)++kE d.tm).size=w.size+3+(kE d.tm).size:=by rw[b9,z4]
   refine wD (λhc=>?_) λhc=>?_
   ·have aU:d.kn≠[]:=by
     intro h
     have h0:d.kn.length=0:=by rw[h];rfl
     omega
    refine .p Fg ?_;refine wA ?_;refine .nx ⟨_,rfl,?_,rfl⟩;rw[hw,hu,ly,CF,if_neg aU];simp only[db]
   ·have aU:d.kn=[]:=T3 (by omega);refine .p Fg ?_;refine wA ?_;refine .nx ⟨_,rfl,?_,rfl⟩;rw[hw,hu,ly,CF,if_pos aU,aU,kT,kf,pn];simp only[db]
 ·rintro _ _ V ⟨u,rfl,hu,rfl⟩;refine wA ?_;exact⟨_,rfl,by simp[aQ,cJ,hu]⟩
theorem xn(l:List ee)(hl:kN l<10000000):aW C 29 [.ab false (aX l)] (.cT [.str (if gD l=0 then oF l else⟨#[]⟩),.int .i64 (gD l)]):=by
 have wa:=iR l
 have yg:∀d∈l,d.kn.length<10000000/\∀t∈d.kn++[d.tm],aE t<10000000:=λd hd=>by
  have h1:=lx hd;have h2:=bq d.kn;refine⟨by omega,λt ht=>?_⟩;rcases TP.1 ht with ht |ht;have:=bF ht;omega;simp at ht;subst ht;omega
 have h1:=xm l (by omega) yg;refine aW.x T6 Tryz.func29 rfl ?_;refine wA ?_;refine .p h1 ?_;refine wD (λhc=>?_) λhc=>?_
 ·have h0:gD l=0:=by omega
  refine .p (zE l hl (Gy h0)) ?_;refine wA ?_;exact⟨_,rfl,by rw[if_pos h0,h0];rfl⟩
 exact⟨_,rfl,by rw[if_neg (by assumption)];rfl⟩
def pd:List ee->Nat->Int
 |[],_=>-1
 |d::l,n=>if d.tm.k≠1 then n else pd l (n+1)
theorem vK{d:ee}{q:List ee}:∀{p:List ee} {n:Nat},(∀y∈p,y.tm.k=1)->pd (p++d::q) n=if d.tm.k≠1 then((n+p.length:Nat):Int)else pd q (n+p.length+1)
 |[],n,_=>by simp[pd]
 |x::p,n,h=>by
  rw[Uh,pd,if_neg (by simp[h x (by simp)]),vK (λy hy=>h y (by simp[hy]))];simp only[T2];rw[show n+1+p.length=n+(p.length+1) by omega]
theorem pp:∀{l:List ee} {n:Nat},(∀y∈l,y.tm.k=1)->pd l n=-1
 |[],_,_=>rfl
 |x::l,n,h=>by rw[pd,if_neg (by simp[h x (by simp)]),pp (λy hy=>h y (by simp[hy]))]
theorem rJ(l:List ee)(hl:l.length<1000000000):aW C 35 [.ab false (aX l)] (.int .i64 (pd l 0)):=by
 have eE:=eP l;refine aW.x T6 Tryz.func35 rfl ?_;refine wA ?_;refine ie.zip T6 l (λp _ L H=>L=[(0,.ab false (aX l)),(3,.int .i64 p.length)]/\H=[]/\∀y∈p,y.tm.k=1) (.nx ⟨rfl,rfl,by simp⟩) ?_ ?_
 ·rintro p d q _ _ V e ⟨rfl,rfl,hp⟩;have dL:=fh e;have gp:=lenE e;refine wD (λhc=>?_) λhc=>?_
  ·refine .nx ⟨rfl,rfl,λy hy=>?_⟩;rcases TP.1 hy with h |h;exact hp y h;simp at h;rw[h];assumption
  ·refine⟨_,rfl,?_⟩;rw[e,vK hp,if_pos (by assumption)];simp[aQ,cJ]
 ·rintro _ _ V ⟨rfl,rfl,hp⟩;refine wA ?_;exact⟨_,rfl,by rw[pp hp];rfl⟩
theorem xo(l:List ee)(hl:l.length<1000000000):aW C 33 [.ab false (aX l)] (.bool (decide (pd l 0<0))):=by
 have h1:=rJ l hl;refine aW.x T6 Tryz.func33 rfl ?_;refine wA ?_;refine .p h1 ?_;refine wD (λhc=>?_) λhc=>?_
 all_goals exact⟨_,rfl,by simp[aQ,cJ, *]⟩
theorem zF(d:ee):aW C 93 [kg d] (.bool (decide (d.tm.k≠1))):=by
 rw[kg];refine aW.x T6 Tryz.func93 rfl ?_;refine wD (λhc=>?_) λhc=>?_
 all_goals exact⟨_,rfl,by simp[aQ,cJ, *]⟩
theorem Em(l:List ee)(hl:l.length<1000000000):aW C 92 [.ab false (aX l),.fn 93 []] (.int .i64 (pd l 0)):=by
 have eE:=eP l;refine aW.x T6 Tryz.func92 rfl ?_;refine wA ?_;refine ie.zip T6 l (λp _ L H=>L=[(0,.ab false (aX l)),(1,.fn 93 []),(7,.int .i64 (aX l).length),(8,.int .i64 p.length)]/\H=[]/\∀y∈p,y.tm.k=1) (.nx ⟨rfl,rfl,by simp⟩) ?_ ?_
 ·rintro p d q _ _ V e ⟨rfl,rfl,hp⟩;have dL:=fh e;have gp:=lenE e;have h1:=zF d;rw[kg]at h1;refine wA ?_;refine .p h1 ?_
  by_cases hk:d.tm.k=1
  ·rw[show decide (d.tm.k≠1)=false by simp[hk]];refine wA ?_;refine .nx ⟨rfl,rfl,λy hy=>?_⟩;rcases TP.1 hy with h |h;exact hp y h;simp at h;rw[h];exact hk
  ·rw[show decide (d.tm.k≠1)=true by simp[hk]];refine wA ?_;refine⟨_,rfl,?_⟩;rw[e,vK hp,if_pos hk];simp[aQ,cJ]
 ·rintro _ _ V ⟨rfl,rfl,hp⟩;refine wA ?_;exact⟨_,rfl,by rw[pp hp];rfl⟩
theorem uj(l:List ee)(hl:l.length<1000000000):aW C 34 [.ab false (aX l)] (.int .i64 (pd l 0)):=by
 have h1:=Em l hl;refine aW.x T6 Tryz.func34 rfl ?_;refine wA ?_;refine .p h1 ?_;refine wA ?_;exact⟨_,rfl,rfl⟩
theorem zn(l:List ee)(hl:l.length<1000000000):aW C 32 [.ab false (aX l)] (.bool (decide (pd l 0<0))):=by
 have h1:=uj l hl;refine aW.x T6 Tryz.func32 rfl ?_;refine wA ?_;refine .p h1 ?_;refine wD (λhc=>?_) λhc=>?_
 all_goals exact⟨_,rfl,by simp[aQ,cJ, *]⟩
end bu
namespace Hg
open Go.Proofs Go.RowKit bu
variable[iD:Inhabited Prop]
attribute [local irreducible] aA az aH aF Ev ag ai aD bw cR tH kc jD
def yH(l:List ee):ByteArray:=if gD l=0 then oF l else⟨#[]⟩
theorem FT{h:aa}{v:PV}{es:List PV}(o:Out 1 h v es)(hv:au es=true):∃f,sQ h v=some (.ab f es):=by
 rcases o with⟨rfl,rfl⟩|⟨id,ep,rfl,e2⟩;exact⟨true,rfl⟩
 ·refine⟨false,?_⟩;have hg:getM h id ep=some ⟨.m,ep,1,es⟩:=bo e2 rfl (by simp)
  have:rb h (.an id ep 0 es.length)=some (.ab false es):=by
   simp only[rb,ot,sP,hg];rw[if_pos ⟨by simp,.inl trivial,by simpa using hv⟩];simp
  simp only[sQ,this]
theorem u7{h:aa}{v:PV}{xs:List ByteArray}{sep:ByteArray}(o:Out 1 h v (xs.map .str))(h1:xs.length<=140737488355328)(h2:(pK xs sep).size<=140737488355328):jP [v,.str sep] h=some (.str (pK xs sep),h):=by
 obtain⟨f,hr⟩:=FT o (by rw[bp];simp[aJ]);simp only[jP,hr,Bh];rw[if_pos ⟨h1,h2⟩]
theorem sR(hD:¬yG){l:List ee}(hl:kN l<10000000){w:World}{A:Nat->Prop}{v:Value}(hv:aS w A v (.ab false (aX l)))(hA:∀x,A x->x<w.heap.size)(hG:cp w A):
  Calls C.P 28 #[v] w λe w'=>e=.returned (.tuple #[.string (yH l),.int .i64 (gD l)])/\Below w.heap.size w w':=by
 have eE:=eP l;have wa:=iR l
 have yg:∀d∈l,d.kn.length<10000000/\∀t∈d.kn++[d.tm],aE t<10000000:=λd hd=>by
  have h1:=lx hd;have h2:=bq d.kn;refine⟨by omega,λt ht=>?_⟩;rcases TP.1 ht with ht |ht;have:=bF ht;omega;simp at ht;subst ht;omega
 have NT:=up (rc l (by omega) yg)
 have R0:=wL (N:=Tryz.f28.ntmps) (show L2 (aS w A) [v] [.ab false (aX l)]from⟨rfl,λj hj=>by
  match j,hj with
  |0,_=>exact hv
  |j+1,hj=>simp at hj⟩) hA hG
 refine calls_of_wp Tryz.func28 rfl ?_;refine wp_seq ?_;refine bG (ok hD) gT.mixed (S hD) (M:=λex s'=>ex=.normal/\∃V',s'=⟨al [(0,.ab false (aX l))] V',[]⟩) (by rfl) (Ev.x T6 ?_) R0 ?_
 ·refine wA ?_;exact⟨rfl,_,St.aB ⟨rfl,trivial⟩⟩
 rintro ex s1 a1 w1 Y1 ⟨rfl,V1,rfl⟩ R1 S1;refine wp_seq ?_;refine bG (ok hD) gT.mixed (S hD) (M:=λex s'=>(ex=.ret/\gD l≠0/\∃V',s'=⟨al [(2,.str ⟨#[]⟩),(3,.int .i64 (gD l))] V',[]⟩)\/(ex=.normal/\gD l=0/\∃V',s'=⟨al [(0,.ab false (aX l))] V',[]⟩)) (by rfl) (Ev.x T6 ?_) R1 ?_
 ·refine wA ?_;refine .p NT ?_;refine wD (λhc=>?_) λhc=>?_;exact .inr ⟨rfl,by omega,_,St.aB ⟨rfl,trivial⟩⟩;exact .inl ⟨rfl,by assumption,_,St.aB ⟨rfl,rfl,trivial⟩⟩
 rintro ex s2 a2 w2 Y2 (⟨rfl,aU,V2,rfl⟩|⟨rfl,he,V2,rfl⟩) R2 S2
 ·have S:=S1.trans S2;exact⟨R2.df,_,qv (C:=C) R2 rfl rfl rfl,by rw[yH,if_neg aU],S.os,S.tape,S.output,S.size,λk hk=>S.aB k hk (gU k)⟩
 ·refine wp_seq ?_;refine bG (ok hD) gT.mixed (S hD) (M:=λex s'=>ex=.normal/\∃V',s'=⟨al [(5,.fn 79 []),(0,.ab false (aX l))] V',[]⟩) (by rfl) (Ev.x T6 ?_) R2 ?_
  ·refine wA ?_;exact⟨rfl,_,St.aB ⟨rfl,rfl,trivial⟩⟩
  rintro ex s3 a3 w3 Y3 ⟨rfl,V3,rfl⟩ R3 S3;show Code.wp _ _ _ _ _;refine wp_seq ?_;have PK:=R3.sz;have PL:17<a3.tmps.size:=T4 (by decide) PK;have h6:6<a3.tmps.size:=T4 (by decide) PK;refine Bi rfl (by decide) rfl h6 PL ?_;obtain⟨R4,I4,G4⟩:=(R3.FU PL (.agg #[.pointer none,.slice none 0 0])).PM (B:=w.heap.size) ((S1.trans S2).trans S3).size (d:=6) (by rw[cq];exact h6);have G0:=(GS.of (B:=w.heap.size) (F:=A) ((S1.trans S2).trans S3)).trans G4;rw[bd]at R4
  change GI 0 _ _ _ _ _ _ at I4
  change SR _ _ _ _ ⟨al [(6,.ptr 0 0 0 0),(17,.any),(5,.fn 79 []),(0,.ab false (aX l))] V3,[dC]⟩ _ at R4
  show Code.wp _ _ _ _ _;refine wp_seq ?_;refine cR.use (M:=λex s' u=>ex=.normal/\∃V' h',s'=⟨al [(6,.ptr 0 0 0 0)] V',h'⟩/\dE 0 h'/\u=oF l) (cR.NU T6 (ok hD) gT.mixed (S hD) ?_ (by kernel_rfl)) R4 I4 ?_
  ·have Rc:HR [dC]:=λo ho=>by simp at ho;subst ho;exact⟨by simp[dC],by simp[dC,bM,br]⟩
   have eO:∀d∈l,∀t∈d.kn++[d.tm],valid t=0:=λd hd t ht=>(ke (((oG he).2 d hd).2 t ht)).1
   have NV:∀d∈l,Lb d:=λd hd=>⟨re λt ht=>jQ (eO d hd t (by simp[ht])),jQ (eO d hd d.tm (by simp))⟩
   refine wA ?_;refine .sp (cR.zip T6 (ok hD) gT.mixed (S hD) l (λp _ L H u=>L=[(5,.fn 79 []),(6,.ptr 0 0 0 0),(18,.ab false (aX l)),(19,.int .i64 (aX l).length),(20,.int .i64 p.length)]/\HR H/\dE 0 H/\u=oF p) (.nx ⟨rfl,Rc,dE.one,rfl⟩) ?_ ?_)
   ·rintro p d q _ H V u e ⟨rfl,hH,hO,rfl⟩;have dL:=fh e;have gp:=lenE e;have Hh:d∈l:=by rw[e];simp
    have Nf:dE 0 (H++[⟨.m,0,5,[.agg [.ab false (aj d.kn),.int .i64 d.tm.k,.str d.tm.s,.int .i64 d.tm.o,.ab false (aj d.tm.l)]]⟩]):=hO.gr (λx hx=>by simp at hx;subst hx;exact .inl rfl);have wM:HR (H++[⟨.m,0,5,[.agg [.ab false (aj d.kn),.int .i64 d.tm.k,.str d.tm.s,.int .i64 d.tm.o,.ab false (aj d.tm.l)]]⟩]):=hH.jk (HV.one (by simp));have Bj:(H++[⟨.m,0,5,[.agg [.ab false (aj d.kn),.int .i64 d.tm.k,.str d.tm.s,.int .i64 d.tm.o,.ab false (aj d.tm.l)]]⟩])[H.length]?=some ⟨.m,0,5,[.agg [.ab false (aj d.kn),.int .i64 d.tm.k,.str d.tm.s,.int .i64 d.tm.o,.ab false (aj d.tm.l)]]⟩:=by simp
    have Bk:=ax d.kn;obtain⟨tv,Lc⟩:=yg d Hh;refine wA ?_;refine .sp (cR.zip T6 (ok hD) gT.mixed (S hD) d.kn (λp2 _ L J u=>∃v,L=[(5,.fn 79 []),(6,.ptr 0 0 0 0),(8,.ptr H.length 0 0 0),(9,v),(18,.ab false (aX l)),(19,.int .i64 (aX l).length),(20,.int .i64 p.length),(25,.ab false (aj d.kn)),(26,.int .i64 (aj d.kn).length),(27,.int .i64 p2.length)]/\HR J/\dE 0 J/\J[H.length]?=some ⟨.m,0,5,[.agg [.ab false (aj d.kn),.int .i64 d.tm.k,.str d.tm.s,.int .i64 d.tm.o,.ab false (aj d.tm.l)]]⟩/\H.length∉fx v/\Out 1 J v ((p2.map kE).map .str)/\u=oF p) (.nx ⟨_,rfl,wM,Nf,Bj,by simp[fx],.inl ⟨rfl,rfl⟩,rfl⟩) ?_ ?_)
    ·rintro p2 x q2 _ J V u e2 ⟨v,rfl,hJ,Ng,NW,Ld,ho,rfl⟩;have NX:=bA e2;have Ff:=lenE e2;have Aq:x∈d.kn++[d.tm]:=by rw[e2];simp
     have Fg:=tI x (by have:=Lc x Aq;omega);rw[uZ,if_pos (eO d Hh x Aq),aN]at Fg;have Re:dE 0 (J++[⟨.m,0,4,[.agg [.int .i64 x.k,.str x.s,.int .i64 x.o,.ab false (aj x.l)]]⟩]):=Ng.gr (λx hx=>by simp at hx;subst hx;exact .inl rfl);have Te:HR (J++[⟨.m,0,4,[.agg [.int .i64 x.k,.str x.s,.int .i64 x.o,.ab false (aj x.l)]]⟩]):=hJ.jk (HV.one (by simp));have Kg:=ho.gr [⟨.m,0,4,[.agg [.int .i64 x.k,.str x.s,.int .i64 x.o,.ab false (aj x.l)]]⟩];have NY:((p2.map kE).map PV.str).length=p2.length:=by simp
     have e9:(p2.map kE).map PV.str++[.str (kE x)]=((p2++[x]).map kE).map .str:=by simp
     have cx:=ae NW;refine wA ?_;refine .p Fg ?_;refine wA ?_;refine .lr (λv2 J2 lr=>?_) (hvs:=cf _ _ (by rw[bp];simp[aJ]));rw[e9]at lr;have Rg:=Re.lr lr Kg;refine wA ?_;have Nh:∀ep n,v≠.an H.length ep 0 n:=λep n hh=>Ld (by rw[hh];simp[fx])
     refine .nx ⟨_,rfl,lr.hr,Rg,?_,?_,lr.out,rfl⟩;rw[lr.fr H.length (by simp;omega) Nh,TG cx];exact NW
     ·intro hm
      rcases lr.out with⟨h1,_⟩|⟨id,ep,h1,h2⟩;rw[h1]at hm;simp[fx]at hm
      ·rw[h1]at hm;simp[fx]at hm;subst hm;rcases lr.ref _ _ _ h1 with⟨hY,n',hh⟩|hh;exact Nh _ _ hh;simp at hh;omega
    ·rintro _ J V u ⟨v,rfl,hJ,Ng,NW,Ld,ho,rfl⟩;have Fg:=tI d.tm (by have:=Lc d.tm (by simp);omega);rw[uZ,if_pos (eO d Hh d.tm (by simp)),aN]at Fg;have NY:((d.kn.map kE).map PV.str).length=d.kn.length:=by simp
     have Rh:=rf NV;have NZ:(oF p).size+(CF d).size<=(oF l).size:=by rw[e,va];simp only[oF,b9];omega
     have Hi:=NZ;unfold CF at Hi;have e32:(⟨#[32]⟩:ByteArray).size=1:=rfl;have e10:(⟨#[10]⟩:ByteArray).size=1:=rfl;have e124:(⟨#[124,45,32]⟩:ByteArray).size=3:=rfl;simp only[b9,e10,e124]at Hi;have Cz:((⟨#[124,45,32]⟩:ByteArray)++kE d.tm).size=3+(kE d.tm).size:=by rw[b9];rfl
     have CA:((⟨#[124,45,32]⟩:ByteArray)++kE d.tm++(⟨#[10]⟩:ByteArray)).size=3+(kE d.tm).size+1:=by rw[b9,Cz];rfl
     refine wD (λhc=>?_) λhc=>?_
     ·have aU:d.kn≠[]:=by
       intro h
       have h0:d.kn.length=0:=by rw[h];rfl
       omega
      rw[if_neg aU]at Hi;simp only[b9,e32]at Hi
      have hj:jP [v,.str ⟨#[44,32]⟩] J=some (.str (kT false d.kn),J):=by
       rw[<-wN];refine u7 ho (by simp;omega) ?_;have:=wN d.kn;rw[pK,this];omega
      have Ri:(kT false d.kn++(⟨#[32]⟩:ByteArray)).size=(kT false d.kn).size+1:=by rw[b9];rfl
      refine .sp (cR.ws T6 (ok hD) (S hD) rfl [_,_,_] ?_);refine wA ?_;refine ai.PD hj ?_;refine wA ?_;refine .ws ?_;refine wA ?_;refine .sp (cR.ws T6 (ok hD) (S hD) rfl [_,_,_,_,_,_] ?_);refine wA ?_;refine .p Fg ?_;refine wA ?_;refine .ws ?_;refine wA ?_;refine .nx ⟨rfl,hJ,Ng,?_⟩;rw[ly,CF,if_neg aU];simp only[db]
     ·have aU:d.kn=[]:=by
       apply T3;omega
      rw[if_pos aU]at Hi;refine .sp (cR.ws T6 (ok hD) (S hD) rfl [_,_,_,_,_,_] ?_);refine wA ?_;refine .p Fg ?_;refine wA ?_;refine .ws ?_;refine wA ?_;refine .nx ⟨rfl,hJ,Ng,?_⟩;rw[ly,CF,if_pos aU,kf]
   ·rintro _ H V u ⟨rfl,hH,hO,rfl⟩;refine wA ?_;exact⟨rfl,_,_,St.aB ⟨rfl,trivial⟩,hO,rfl⟩
  rintro ex s5 u w5 F5 Y5 a5 ⟨rfl,V5,h5,rfl,oU,rfl⟩ R5 I5 G5;show Code.wp _ _ _ _ _;refine wp_seq ?_;refine mB (ok hD) (S hD) rfl (A:=A) (w0:=w) (M:=λs=>∃V',s=⟨al [(2,.str (oF l)),(3,.int .i64 0)] V',[]⟩) R5 I5 oU (G0.trans G5) hA hG (x0:=.tmp 6) rfl rfl rfl (eG T6 (Rn.out ?_) (λL' h' q=>q)) ?_
  ·refine wA ?_;exact⟨_,St.aB ⟨rfl,rfl,trivial⟩⟩
  rintro s6 a6 w6 Y6 ⟨V6,rfl⟩ R6 B6;show Code.wp _ _ _ _ _;refine wp_ret ⟨R6.df,_,qv (C:=C) R6 rfl rfl rfl,by rw[yH,if_pos he,he],B6⟩
end Hg
namespace Fh
open Go.Proofs Go.RowKit bu
variable[iD:Inhabited Prop]
def C8:PV->Option ee
 | .agg [.ab false kn,a,b,c,d]=>match nG kn with
  |some ks=>match wJ (.agg [a,b,c,d])with
   |some t=>some ⟨ks,t⟩
   |none=>none
  |none=>none
 |_=>none
def ri:List PV->Option (List ee)
 |[]=>some []
 |x::l=>match C8 x with
  |some d=>match ri l with
   |some ds=>some (d::ds)
   |none=>none
  |none=>none
theorem C9(d:ee):C8 (kg d)=some d:=by
 have h:=q9 d.tm;rw[vb]at h;simp only[kg,C8,ki,h]
theorem tJ:∀l:List ee,ri (aX l)=some l
 |[]=>rfl
 |d::l=>by
  have:=tJ l;rw[aX]at this;simp only[aX,TT,ri,C9,this]
theorem C'{p:PV}{d:ee}(h:C8 p=some d):kg d=p:=by
 unfold C8 at h
 split at h
 ·split at h
  ·rename_i ks hk
   split at h
   ·rename_i t ht
    obtain rfl:=TF h;have h1:=q' _ ht;rw[vb]at h1;have h2:=iS _ hk;rw[kg];simp only[PV.agg.injEq,List.cons.injEq,and_true]at h1 ⊢;exact⟨by rw[h2],h1⟩
   cases h
  ·cases h
 cases h
theorem tK:∀{ps:List PV} {l:List ee},ri ps=some l->aX l=ps
 |[],l,h=>by simp[ri]at h;subst h;rfl
 |x::ps,l,h=>by
  simp only[ri]at h
  split at h
  ·rename_i d hd
   split at h
   ·rename_i ds N0
    obtain rfl:=TF h;have:=tK N0;rw[aX]at this;rw[aX,TT,C' hd,this]
   cases h
  cases h
def lz:List PV->aa->Option (PV×aa)
 |[p],h=>match sQ h p with
  |some (.ab _ es)=>match ri es with
   |some l=>if kN l<10000000 then some (.cT [.str (Hg.yH l),.int .i64 (gD l)],h)else none
   |none=>none
  |_=>none
 |_,_=>none
theorem wO{l:List ee}(hl:kN l<10000000){p:PV}{h:aa}{f:Bool}(hr:sQ h p=some (.ab f (aX l))):lz [p] h=some (.cT [.str (Hg.yH l),.int .i64 (gD l)],h):=by simp only[lz,hr,tJ,if_pos hl]
theorem Ij{w:World}{A:Nat->Prop}{v:Value}{f:Bool}{es:List PV}(h:aS w A v (.ab f es)):aS w A v (.ab false es):=by
 cases h with
 |dP a cap _ hf=>exact .dP a cap false (λh=>by cases h)
 |ab b off cap sz _ _ j0 h1 h2 h3 h4 h5 h6 h7 h8=>exact .ab b off cap sz false es j0 h1 h2 (λh=>by cases h) h4 h5 h6 h7 h8
theorem Da(hD:¬yG):cW bu.C.P 28 lz:=by
 intro args h r h' e w F Y vs H ha
 unfold lz at e
 split at e
 ·rename_i p
  split at e
  ·rename_i fl es hr
   split at e
   ·rename_i l hd
    split at e
    ·rename_i hl
     obtain⟨rfl,rfl⟩:=TL (TF e);obtain rfl:=tK hd
     obtain⟨v,rfl⟩:∃v,vs=[v]:=by
      match vs,ha.1 with
      |[v],_=>exact⟨v,rfl⟩
     have hs:aS w (λ_=>False) v (.ab fl (aX l)):=qs H (λ_ _ _ h=>h) (show ar w (Av F h Y) Y h v p from ha.2 0 (by simp)) hr (λ_ _ _ _ _ _ h=>h);refine(Hg.sR hD hl (Ij hs) (λx hx=>hx.elim) (H.di.ia λx hx=>hx.elim)).mono ?_;rintro en w' ⟨rfl,Ii⟩;have g:=mT hD Ii
     exact⟨_,Y,rfl,.val (.cT [.string (Hg.yH l),.int .i64 (gD l)] _ rfl (λj hj=>by
      match j,hj with
      |0,_=>exact .str _
      |1,_=>exact .int _ _
      |j+2,hj=>simp at hj;omega)),H.uY g,g.pG h Y,λhh=>by omega⟩
    cases e
   cases e
  cases e
 cases e
def ps:List (FuncId× (List PV->aa->Option (PV×aa))):=[(28,lz)]
noncomputable def C:bZ:=FB bu.C ps
noncomputable def T6:kM C.P:=bu.T6
theorem C6(x)(h:x∈ps):bu.ra x.1=.no:=by
 simp only[ps,TW,UE,or_false]at h;rcases h with rfl
 rfl
theorem up{f:FuncId}{args:List PV}{r:PV}(a:aW bu.C f args r):aW C f args r:=aW.up (qT C6) a
theorem ok(hD:¬yG):cj C:=Aj bu.fw (λx h=>by
 simp only[ps,TW,UE,or_false]at h;rcases h with rfl;exact Da hD) (λx h=>by
 simp only[ps,TW,UE,or_false]at h;rcases h with rfl;exact⟨_,Tryz.func28,by kernel_rfl,by kernel_rfl⟩)
theorem gT:gL C:=qU bu.gW
end Fh
namespace bu
open Go.Proofs
attribute [local irreducible] aA az aH aF Ev ag ai aD bw
@[simp] theorem kv(l:List ee):dw 5 (aX l):=by
 unfold dw;rw[TH]
 intro v hv
 obtain⟨t,_,rfl⟩:=U1.1 hv
 rfl
@[simp] theorem Jv(l:List F3):dw 8 (nN l):=by
 unfold dw;rw[TH]
 intro v hv
 obtain⟨t,_,rfl⟩:=U1.1 hv
 rfl
theorem gM{sz:Nat}{es:List PV}(ho:dw sz es)(hn:es.length<1000000000)(H:aa):∃r H',bz sz [.ab false es] H=some (r,H')/\Out sz H' r es/\(HV H->au es=true->HV H')/\(∀(j:Nat) (o:aC),H[j]?=some o->H'[j]?=some o):=by
 unfold bz
 cases es with
 |nil=>exact⟨.ab true [],H,rfl,.inl ⟨rfl,rfl⟩,λh _=>h,λ_ _ h=>h⟩
 |cons x r=>
  unfold dw at ho;simp only[List.isEmpty_cons,TR,if_false];rw[if_pos ⟨ho,hn⟩];exact⟨_,_,rfl,.inr ⟨H.length,0,rfl,by simp[newObj]⟩,λh hv=>h.gr (HV.one hv),λj o h=>by rw[newObj,TG (ae h)];exact h⟩
end bu
namespace Fh
open Go.Proofs bu
attribute [local irreducible] aA az aH aF Ev ag ai aD bw bY
theorem Gj{sz:Nat}{h:aa}{v:PV}{es:List PV}(o:Out sz h v es)(hv:au es=true):∃f,sQ h v=some (.ab f es):=by
 rcases o with⟨rfl,rfl⟩|⟨id,ep,rfl,e2⟩;exact⟨true,rfl⟩
 ·refine⟨false,?_⟩;have hg:getM h id ep=some ⟨.m,ep,sz,es⟩:=bo e2 rfl (by simp)
  have:rb h (.an id ep 0 es.length)=some (.ab false es):=by
   simp only[rb,ot,sP,hg];rw[if_pos ⟨by simp,.inl trivial,by simpa using hv⟩];simp
  simp only[sQ,this]
theorem vv(l:List ee)(hl:kN l<5000000):aW C 9 [.ab false (aX l)] (.bool true):=by
 have wa:=iR l;have eE:=eP l
 have yg:∀d∈l,d.kn.length<10000000/\∀t∈d.kn++[d.tm],aE t<10000000:=λd hd=>by
  have h1:=lx hd;have h2:=bq d.kn;refine⟨by omega,λt ht=>?_⟩;rcases TP.1 ht with ht |ht;have:=bF ht;omega;simp at ht;subst ht;omega
 have Qb:=up A9;have f1:=up (DV l 800 (by omega) (by omega));have v1:=up (rc l (by omega) yg);have v2:=up (xm l (by omega) yg);have t2:aW C _ _ (.cT [.str (Hg.yH l),.int .i64 (gD l)]):=up (xn l (by omega));obtain⟨sv,L9⟩:∃sv,sv=decide (pd l 0<0):=⟨_,rfl⟩;have s1:=up (zn l (by omega));have s2:=up (xo l (by omega));rw[<-L9]at s1 s2;have g1:=up (uj l (by omega));have g2:=up (rJ l (by omega));obtain⟨r1,H1,a1,o1,w1,k1⟩:=gM (kv l) (by omega) [];refine aW.x T6 Tryz.func9 rfl ?_;refine wA ?_;refine .p Qb ?_;refine wA ?_;refine .p f1 ?_
 cases BD l 800
 ·refine wA ?_;refine .p Qb ?_;refine wA ?_;exact⟨_,rfl,rfl⟩
 ·refine wA ?_;refine ai.cH rfl a1 ?_;refine wA ?_;have Hx:au (aX l)=true:=by simp
  obtain⟨f2,hr⟩:=Gj o1 Hx;refine ai.cH rfl (wO (by omega) hr) ?_;refine wA ?_;refine .p t2 ?_;refine wA ?_;obtain⟨r2,H2,a2,o2,w2,k2⟩:=gM (kv l) (by omega) H1;refine ai.cH rfl a2 ?_;refine wA ?_;refine .Ky (.inl o2) v1 ?_;refine wA ?_;refine .p v2 ?_;refine wD (λhc=>?_) λhc=>?_
  ·obtain⟨r3,H3,a3,o3,w3,k3⟩:=gM (kv l) (by omega) H2;refine ai.cH rfl a3 ?_;refine wA ?_;refine .Ky (.inl o3) s1 ?_;refine wA ?_;refine .p s2 ?_
   cases sv <;>refine wA ?_
   all_goals
    obtain⟨r4,H4,a4,o4,w4,k4⟩:=gM (kv l) (by omega) H3;refine ai.cH rfl a4 ?_;refine wA ?_;refine .Ky (.inl o4) g1 ?_;refine wA ?_;refine .p g2 ?_;refine wA ?_;exact⟨_,rfl,rfl⟩
  exact absurd rfl hc
end Fh
end Go.Pm
