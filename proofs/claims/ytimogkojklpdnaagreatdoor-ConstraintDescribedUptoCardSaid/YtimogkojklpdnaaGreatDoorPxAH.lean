/-
  Pm, a part. Conditions: none.
-/
import Derived.Test.YtimogkojklpdnaaGreatDoorPxAG
import Derived.Shelf.SlLaysF0
import Derived.Test.YtimogkojklpdnaaGreatDoorProg
import Derived.KernelRfl
import Derived.Shelf.SlSortCmp.NoneTotal
set_option linter.unusedVariables false
set_option linter.unusedSimpArgs false
set_option linter.unnecessarySimpa false
namespace Go.Pm
open Go.Proofs
set_option maxRecDepth 100000
set_option maxHeartbeats 4000000
theorem qQ{f:Nat->Bool}:∀{a b:List PV},bw f a=true->bw f b=true->bw f (a++b)=true
 |[],_,_,hb=>hb
 |x::a,b,ha,hb=>by
  simp only[bw,abq,abH]at ha ⊢;exact⟨ha.1,qQ ha.2 hb⟩
theorem JD{e:PV}(h:aW e=true):∀q∈cells e,aW q=true:=by
 intro q hq
 cases e with
 |agg cs=>
  simp only[aW]at h;rw[bB]at h;exact abk.1 h q hq
 |_=>simp only[cells,abP]at hq;subst hq;exact h
theorem aE.IU{w:World}{A A':Nat->Prop}{β β':List (Nat×Nat)}{h h':ab}{v:Value}{p:PV}(hv:aE w A β h v p)(hp:aW p=true)(hA:∀b,A' b->A b):aE w A' β' h' v p:=
 .val ((hv.JE hp).wc hA)
attribute [local irreducible] aD az aL aJ Ev ah aj ay aY
namespace Zero
variable{w:World}{F:Nat->Prop}{β:List (Nat×Nat)}
theorem lB{h:ab}{f:FuncId}{args:List PV}{r:PV}{h':ab}(hm:C0.mode f=.opened)(e:ay C0 f args h (λr' h2=>r'=r/\h2=h')){vs:List Value}(H:bm w F β h)(ha:L2 (aE w (Av F h β) β h) vs args):mZ C0.P 2 w F β h f vs r h':=by
 unfold ay at e;obtain⟨r3,h3,⟨rfl,rfl⟩,n0,Tc⟩:=e;exact S0 n0 _ (.inr hm) _ h _ _ (Tc n0 (abn _)) w F β vs H ha
theorem jC{R R':Value->PV->Prop}{vs:List Value}{a b c a' b' c':PV}(h:L2 R vs [a,b,c])(ha:∀v,R v a->R' v a')(hb:∀v,R v b->R' v b')(hc:∀v,R v c->R' v c'):L2 R' vs [a',b',c']:=by
 refine⟨h.1,λj hj=>?_⟩;have h0:=h.2 0 (by simp);have h1:=h.2 1 (by simp);have h2:=h.2 2 (by simp)
 match j,hj with
 |0,_=>exact ha _ h0
 |1,_=>exact hb _ h1
 |2,_=>exact hc _ h2
 |j+3,hj=>simp at hj;omega
theorem GM:fL C0.P 351 jO:=by
 intro args h r h' e w F β vs H ha
 unfold jO at e
 split at e
 ·rename_i i fl e1
  split at e
  ·rename_i hc
   obtain⟨rfl,he⟩:=hc;obtain⟨rfl,rfl⟩:=abv (abi e);exact lB (sL rfl) (uK he) H ha
  ·cases e
 ·rename_i id ep len i fl e1
  split at e
  ·rename_i o hg
   split at e
   ·rename_i hc
    obtain⟨hm,hz,hle,XT,hi,hn,he,ga,dw⟩:=hc;obtain⟨rfl,rfl⟩:=abv (abi e);obtain⟨k,rfl⟩:=acF XT;have hk:k<=len:=by omega
    rw[show Int.toNat (k:Int)=k from rfl];obtain⟨g1,g2,g3⟩:=getM_some hg;have cG:=ag g1;obtain⟨bc,ot⟩:=du H.len g1;have kH:(o.es.take len).length=len:=by simp;omega
    by_cases Ae:k=len
    ·subst Ae
     have pu:(o.es.take k).take k++[e1]++(o.es.take k).drop k=o.es.take k++[e1]:=by
      rw[acE,Nat.min_self,abR (by omega),abJ]
     rw[pu];exact lB (sL rfl) (uL he hg hm hz hle hn) H ha
    ·have gv:k<len:=by omega
     by_cases nR:len+1<=bc.2
     ·-- there is room
      have hXc:(cells (PV.agg [.any,.any,.any,.any,.any])).length=5:=rfl
      obtain⟨Hp,Sp⟩:=H.oV g1 ot hm (o.es.take len++[.agg [.any,.any,.any,.any,.any]]) (ep+1) (by omega) (by simp;omega) (λi e he=>by
       rcases ab0 i len with lu |lu
       ·left
        rw[abj (by omega),abF,if_pos lu]at he;exact he
       ·right
        rw[abt (by omega)]at he;obtain rfl:=abP.1 (aby he);refine⟨by rw[hXc,hz],λp hp=>?_⟩;simp only[cells]at hp;simpa using hp)
      have yq:(h.set id {o with es:=o.es.take len++[.agg [.any,.any,.any,.any,.any]],ep:=ep+1})[id]?=some {o with es:=o.es.take len++[.agg [.any,.any,.any,.any,.any]],ep:=ep+1}:=abl cG
      have VC:aV (h.set id {o with es:=o.es.take len++[.agg [.any,.any,.any,.any,.any]],ep:=ep+1})=true:=by
       refine mR (h:=h) (λi hi=>?_) (λo' h1=>?_) dw
       ·unfold aQ at hi ⊢
        by_cases Q9:i=id
        ·subst Q9;rw[yq];simp[hm]
        ·rw[abm (acd Q9)];exact hi
       ·rcases acR h1 with h1 |rfl
        ·exact .inr (.inr ⟨o',h1,rfl,λhh=>hh⟩)
        ·exact .inr (.inl (qQ (bj _ _ (l6 ga)) rfl))
      have mK:L2 (aE w (Av F (h.set id {o with es:=o.es.take len++[.agg [.any,.any,.any,.any,.any]],ep:=ep+1}) β) β (h.set id {o with es:=o.es.take len++[.agg [.any,.any,.any,.any,.any]],ep:=ep+1})) vs [.ak id (ep+1) 0 len,.int .i64 (k:Int),.aa fl [e1]]:=
       jC ha (λv hv=>aE.oV g1 ot hm hv g2 hle _ _) (λv hv=>hv.mono Sp) (λv hv=>hv.mono Sp)
      have cs:=uJ (o:={o with es:=o.es.take len++[.agg [.any,.any,.any,.any,.any]],ep:=ep+1}) (X:=.agg [.any,.any,.any,.any,.any]) (pre:=o.es.take len) Hp mK (bo yq rfl (by show o.mu≠.x;rw[hm];simp)) hm hz rfl kH gv hn ga rfl he VC;refine cs.mono ?_;rintro en w' ⟨v,β1,rfl,q1,q2,q3,_⟩;rw[acn]at q1 q2 q3;exact⟨v,β1,rfl,q1,q2,Sp.trans q3,λhh=>by omega⟩
     ·-- all is made anew
      obtain⟨p1,p2,p3,p4,p5,p6⟩:=bO o;have gl:getM (h.map bS) id ep=some (bS o):=bo (by rw[abB,g1];rfl) (by rw[p1];exact g2) (λhh=>g3 (p4.1 hh));have PW:∀b,Av (Av F h β) (h.map bS) β b->Av F h β b:=λb hb=>hb.elim (λhh=>hh) (λhm=>absurd hm (jD h β b))
      have cs:=ym (o:=bS o) (bc:=bc) H.lock (jC ha (λv hv=>hv.alike (gJ h) PW) (λv hv=>hv.alike (gJ h) PW) (λv hv=>hv.alike (gJ h) PW)) gl (by rw[p2];exact hz) (by rw[p3];exact hle) ot (by omega) gv hn (by rw[p3];exact ga) he (vF dw);rw[p3,acy]at cs;refine cs.mono ?_;rintro en w' ⟨v,β1,rfl,q1,q2,q3,_⟩;obtain⟨pw,GN⟩:∃pw,pw=(o.es.take len).take k++[e1]++(o.es.take len).drop k:=⟨_,rfl⟩;rw[<-GN]at q1 q2 q3 ⊢;have AX:pw.length=len+1:=by rw[GN];simp;omega
      have VD:pw.all (kX 5)=true:=by
       rw[abk]at ga ⊢
       intro x hx
       rw[GN]at hx;rcases abp.1 hx with hx |hx
       ·rcases abp.1 hx with hx |hx
        ·exact ga x (ab3 hx)
        ·obtain rfl:=abP.1 hx;exact he
       ·exact ga x (ab4 hx)
      have enew:(h.map bS++[(⟨.m,0,5,pw⟩:aw)])[h.length]?=some ⟨.m,0,5,pw⟩:=by
       rw[abt (by simp)];simp
      obtain⟨bn,sC⟩:=du q2.len enew;have mnew:Mb (h.map bS++[⟨.m,0,5,pw⟩]) β1 bn.1:=⟨h.length,_,bn,enew,sC,rfl,rfl⟩;obtain⟨T,ue,k1,k2,k3,k4,k5⟩:=(q2.obj h.length _ bn enew sC (by simp)).c (by simp)
      have Ac:w.heap.size<=bn.1:=by
       rcases ab0 bn.1 w.heap.size with hh |hh
       ·exact absurd (q3.shr bn.1 hh mnew) (jD h β bn.1)
       ·exact hh
      have hA:∀b,Av F (h.set id {o with es:=pw,ep:=ep+1}) (β.set id bn) b->Av (Av F h β) (h.map bS++[⟨.m,0,5,pw⟩]) β1 b:=by
       rintro b (hb |⟨eA,o',dm,JU,Ra,WY,YE⟩)
       ·exact .inl (.inl hb)
       ·by_cases bW:eA=id
        ·subst bW;rw[abl (by rw[H.len];exact cG)]at Ra;obtain rfl:=abi Ra;rw[<-YE];exact .inr mnew
        ·rw[abm (acd bW)]at JU Ra;exact .inl (.inr ⟨eA,o',dm,JU,Ra,WY,YE⟩)
      obtain⟨HH,SS⟩:=H.NN (w':=w') g1 ot hm T ue pw (ep+1) bn q3.size k1 (λb hb=>q3.aU b hb (jD h β b)) Ac (by omega) q3.os q3.tape q3.output k2 (by rw[hz];exact k3) (λi e Rb=>by
       obtain⟨m1,m2⟩:=k5 i e Rb;refine⟨by rw[hz];exact m1,λj p hp=>?_⟩;obtain⟨u,n1,n2⟩:=m2 j p hp
       have hv:aW e=true:=by
        have:=abk.1 VD e (aby Rb);unfold kX at this;simp only[abq]at this;exact this.1.1
       exact⟨u,by rw[hz];exact n1,n2.IU (JD hv p (aby hp)) hA⟩) q3.drawn
      obtain⟨_,_,m3⟩:=q1.dP;obtain⟨cap,c1,c2⟩:=m3 _ bn enew sC (by simp) rfl (by show 0+(len+1)<=pw.length;omega);refine⟨v,β.set id bn,rfl,?_,HH,SS,λhh=>by omega⟩;refine .ak v id (ep+1) 0 (len+1) {o with es:=pw,ep:=ep+1} bn ⟨_,_,_,c1⟩ (abl cG) (abl (by rw[H.len];exact cG)) (by show o.mu≠.x;rw[hm];simp) ⟨abn _,by show 0<o.bM;omega⟩ (λ_ _=>⟨cap,?_,c2⟩);rw[c1,ac6,ac6]
   ·cases e
  ·cases e
 ·cases e
end Zero
theorem GO:fL C.P 45 (bG 4):=by
 intro args h r h' e w F β vs H ha
 unfold bG at e
 split at e
 ·rename_i fl es
  split at e
  ·rename_i xR
   obtain⟨rfl,rfl⟩:=abv (abi e);obtain rfl:es=[]:=by simpa using xR
   exact Zero.Ix H ha rfl (by simp) (.inl ⟨rfl,rfl,rfl⟩)
  ·rename_i xR
   split at e
   ·rename_i hc
    obtain⟨rfl,rfl⟩:=abv (abi e);exact Zero.Ix H ha hc.1 hc.2 (.inr ⟨by simpa using xR,rfl,rfl⟩)
   ·cases e
 ·cases e
theorem GP:fL C.P 397 (bG 1):=by
 intro args h r h' e w F β vs H ha
 unfold bG at e
 split at e
 ·rename_i fl es
  split at e
  ·rename_i xR
   obtain⟨rfl,rfl⟩:=abv (abi e);obtain rfl:es=[]:=by simpa using xR
   exact Zero.Iy H ha rfl (by simp) (.inl ⟨rfl,rfl,rfl⟩)
  ·rename_i xR
   split at e
   ·rename_i hc
    obtain⟨rfl,rfl⟩:=abv (abi e);exact Zero.Iy H ha hc.1 hc.2 (.inr ⟨by simpa using xR,rfl,rfl⟩)
   ·cases e
 ·cases e
theorem yr:gu C where
 enters f hf bN:=Kj f (λh=>hf h) bN
 sF f g hh:=by
  have hm:jP f=.sF g:=hh;unfold jP at hm
  repeat' split at hm
  all_goals cases hm
 cS f g hh:=by
  have hm:jP f=.cS g:=hh;unfold jP at hm
  split at hm
  ·cases hm
  split at hm
  ·cases hm
  split at hm
  ·rename_i hf
   subst hf;obtain rfl:=Mode.cS.inj hm;exact Zero.GM
  split at hm
  ·rename_i hf
   subst hf;obtain rfl:=Mode.cS.inj hm;exact Zero.Gk
  split at hm
  ·rename_i hf
   subst hf;obtain rfl:=Mode.cS.inj hm;exact GO
  split at hm
  ·rename_i hf
   subst hf;obtain rfl:=Mode.cS.inj hm;exact GP
  repeat' split at hm
  all_goals cases hm
 ext:=VE
end Go.Pm
namespace Go.Pm
open Go.Proofs Go.Shelf
def yM:Go.Shelf.Ren:=⟨λ|6=>161 |15=>208 |14=>207 |28=>266 |29=>267 |20=>258 |21=>259 |22=>260 |23=>261 |24=>262 |25=>263 |26=>264 |27=>265 |46=>313 |47=>314 |48=>315 |49=>316 |50=>317 |57=>355 |n=>n,λ|22=>31 |24=>33 |25=>75 |3=>3 |39=>190 |0=>0 |53=>223 |55=>202 |4=>4 |46=>217 |45=>216 |50=>164 |5=>5 |9=>9 |66=>246 |70=>154 |76=>285 |77=>286 |n=>n,λ|n=>n⟩
theorem Y2:Go.Proofs.SlLaysF0.n6 Tryz.prog yM:={
 mixed:=by kernel_rfl
 f6:=⟨Tryz.f161.name,by decide,Tryz.func161.trans (congrArg some (by kernel_rfl))⟩
 f14:=⟨Tryz.f207.name,by decide,Tryz.func207.trans (congrArg some (by kernel_rfl))⟩
 f15:=Tryz.func208.trans (congrArg some (by kernel_rfl))
 f20:=⟨Tryz.f258.name,by decide,Tryz.func258.trans (congrArg some (by kernel_rfl))⟩
 f21:=⟨Tryz.f259.name,by decide,Tryz.func259.trans (congrArg some (by kernel_rfl))⟩
 f22:=⟨Tryz.f260.name,by decide,Tryz.func260.trans (congrArg some (by kernel_rfl))⟩
 f23:=⟨Tryz.f261.name,by decide,Tryz.func261.trans (congrArg some (by kernel_rfl))⟩
 f24:=⟨Tryz.f262.name,by decide,Tryz.func262.trans (congrArg some (by kernel_rfl))⟩
 f25:=⟨Tryz.f263.name,by decide,Tryz.func263.trans (congrArg some (by kernel_rfl))⟩
 f26:=⟨Tryz.f264.name,by decide,Tryz.func264.trans (congrArg some (by kernel_rfl))⟩
 f27:=⟨Tryz.f265.name,by decide,Tryz.func265.trans (congrArg some (by kernel_rfl))⟩
 f28:=Tryz.func266.trans (congrArg some (by kernel_rfl))
 f29:=Tryz.func267.trans (congrArg some (by kernel_rfl))
 f46:=⟨Tryz.f313.name,by decide,Tryz.func313.trans (congrArg some (by kernel_rfl))⟩
 f47:=Tryz.func314.trans (congrArg some (by kernel_rfl))
 f48:=Tryz.func315.trans (congrArg some (by kernel_rfl))
 f49:=⟨Tryz.f316.name,by decide,Tryz.func316.trans (congrArg some (by kernel_rfl))⟩
 f50:=⟨Tryz.f317.name,by decide,Tryz.func317.trans (congrArg some (by kernel_rfl))⟩
 f57:=⟨Tryz.f355.name,by decide,Tryz.func355.trans (congrArg some (by kernel_rfl))⟩
 t0:=Tryz.underlying0
 a0:=Tryz.isAgg0
 z0:=Tryz.sizeOf0
 v0:=Tryz.zeroValue0
 t3:=Tryz.underlying3
 a3:=Tryz.isAgg3
 z3:=Tryz.sizeOf3
 v3:=Tryz.zeroValue3
 t4:=Tryz.underlying4
 a4:=Tryz.isAgg4
 z4:=Tryz.sizeOf4
 v4:=Tryz.zeroValue4
 t5:=Tryz.underlying5
 a5:=Tryz.isAgg5
 z5:=Tryz.sizeOf5
 v5:=Tryz.zeroValue5
 t9:=Tryz.underlying9
 a9:=Tryz.isAgg9
 z9:=Tryz.sizeOf9
 v9:=Tryz.zeroValue9
 t22:=Tryz.underlying31
 a22:=Tryz.isAgg31
 z22:=Tryz.sizeOf31
 v22:=Tryz.zeroValue31
 t25:=Tryz.underlying75
 a25:=Tryz.isAgg75
 z25:=Tryz.sizeOf75
 v25:=Tryz.zeroValue75
 t39:=Tryz.underlying190
 a39:=Tryz.isAgg190
 z39:=Tryz.sizeOf190
 v39:=Tryz.zeroValue190
 t45:=Tryz.underlying216
 a45:=Tryz.isAgg216
 z45:=Tryz.sizeOf216
 v45:=Tryz.zeroValue216
 t46:=Tryz.underlying217
 a46:=Tryz.isAgg217
 z46:=Tryz.sizeOf217
 v46:=Tryz.zeroValue217
 t50:=Tryz.underlying164
 a50:=Tryz.isAgg164
 z50:=Tryz.sizeOf164
 v50:=Tryz.zeroValue164
 t53:=Tryz.underlying223
 a53:=Tryz.isAgg223
 z53:=Tryz.sizeOf223
 v53:=Tryz.zeroValue223
 t55:=Tryz.underlying202
 a55:=Tryz.isAgg202
 z55:=Tryz.sizeOf202
 v55:=Tryz.zeroValue202
 t66:=Tryz.underlying246
 a66:=Tryz.isAgg246
 z66:=Tryz.sizeOf246
 v66:=Tryz.zeroValue246
 t70:=Tryz.underlying154
 a70:=Tryz.isAgg154
 z70:=Tryz.sizeOf154
 v70:=Tryz.zeroValue154
 t76:=Tryz.underlying285
 a76:=Tryz.isAgg285
 z76:=Tryz.sizeOf285
 v76:=Tryz.zeroValue285
 t77:=Tryz.underlying286
 a77:=Tryz.isAgg286
 z77:=Tryz.sizeOf286
 v77:=Tryz.zeroValue286}
theorem Y3:∀w,(isAgg (yM.t 24)).run Tryz.prog w=.ok true w:=Tryz.isAgg33
theorem Y4:∀w,(Go.sizeOf (yM.t 24)).run Tryz.prog w=.ok 4 w:=Tryz.sizeOf33
end Go.Pm
namespace Go.Pm
open Go.Proofs Go.Sort
set_option maxRecDepth 20000
theorem O4(l:List Tm):ae l=l.map enc:=by
 induction l with
 |nil=>rfl
 |cons t l ih=>simp only[ae,abD,ih]
theorem Ff{l:List Tm}{i:Nat}{t:Tm}(h:l[i]?=some t):(ae l)[i]?=some (enc t):=by rw[O4,abB,h];rfl
mutual
def Le:PV->Option Tm
 | .agg [.int .i64 k,.str s,.int .i64 o,.aa false l]=>match vW l with
  |some l'=>some (.mk k s o l')
  |none=>none
 |_=>none
def vW:List PV->Option (List Tm)
 |[]=>some []
 |x::l=>match Le x with
  |some t=>match vW l with
   |some ts=>some (t::ts)
   |none=>none
  |none=>none
end
mutual
theorem O5:∀t:Tm,Le (enc t)=some t
 | .mk k s o l=>by simp only[enc,Le,sw l]
theorem sw:∀l:List Tm,vW (ae l)=some l
 |[]=>rfl
 |t::l=>by simp only[ae,vW,O5 t,sw l]
end
mutual
theorem O6:∀(p:PV) {t:Tm},Le p=some t->enc t=p
 | .agg [.int .i64 k,.str s,.int .i64 o,.aa false l],t,h=>by
  simp only[Le]at h
  split at h
  ·rename_i l' hl
   obtain rfl:=abi h;simp only[enc,pg l hl]
  ·cases h
 |p,t,h=>by
  unfold Le at h
  split at h
  ·rename_i k s o l
   split at h
   ·rename_i l' hl
    obtain rfl:=abi h;simp only[enc,pg l hl]
   ·cases h
  ·cases h
theorem pg:∀(es:List PV) {ts:List Tm},vW es=some ts->ae ts=es
 |[],ts,h=>by simp only[vW,abU]at h;subst h;rfl
 |x::l,ts,h=>by
  simp only[vW]at h
  split at h
  ·rename_i t ht
   split at h
   ·rename_i ts' dV
    obtain rfl:=abi h;simp only[ae,O6 x ht,pg l dV]
   ·cases h
  ·cases h
end
theorem rI{a b c:Tm}(h1:aT a b<=0)(h2:aT b c<=0):aT a c<=0:=by
 rcases Int.lt_or_eq_of_le h1 with h1 |h1
 ·rcases Int.lt_or_eq_of_le h2 with h2 |h2
  ·exact Int.le_of_lt (eU h1 h2)
  ·rw[<-cP h2];exact Int.le_of_lt h1
 ·rw[cP h1];exact h2
def HJ(t:Tm):List Tm->List Tm
 |[]=>[t]
 |x::r=>if aT t x<=0 then t::x::r else x::HJ t r
def eD:List Tm->List Tm
 |[]=>[]
 |t::r=>HJ t (eD r)
theorem u5(t:Tm):∀l:List Tm,(HJ t l).Perm (t::l)
 |[]=>.refl _
 |x::r=>by
  unfold HJ
  split
  ·exact .refl _
  ·exact((u5 t r).cons x).trans (.swap t x r)
theorem fy:∀ts:List Tm,(eD ts).Perm ts
 |[]=>.refl _
 |t::r=>(u5 t (eD r)).trans ((fy r).cons t)
theorem Fg(t:Tm):∀{l:List Tm},(l.Pairwise λx y=>aT x y<=0)->(HJ t l).Pairwise λx y=>aT x y<=0
 |[],_=>by simp[HJ]
 |x::r,h=>by
  unfold HJ;have h2:=abG.1 h
  split
  ·rename_i hc
   refine abG.2 ⟨λy hy=>?_,h⟩;rcases abu.1 hy with rfl |hy
   ·exact hc
   ·exact rI hc (h2.1 y hy)
  ·rename_i hc
   have ng:=eC t x;refine abG.2 ⟨λy hy=>?_,Fg t h2.2⟩;rcases abu.1 ((u5 t r).mem_iff.1 hy)with rfl |hy
   ·omega
   ·exact h2.1 y hy
theorem qG:∀ts:List Tm,(eD ts).Pairwise λx y=>aT x y<=0
 |[]=>.nil
 |t::r=>Fg t (qG r)
theorem Fh{a b:List Tm}(hp:a.Perm b)(ha:a.Pairwise λx y=>aT x y<=0)(hb:b.Pairwise λx y=>aT x y<=0):a=b:=
 hp.eq_of_pairwise (λx y _ _ h1 h2=>cP (by have:=eC x y;omega)) ha hb
def qk(args:List PV)(h:ab):Option (PV×ab):=
 match args with
 |[.aa true [],.fn _ []]=>some (.ct [],h)
 |[.ak id ep 0 len,.fn g []]=>match getM h id ep with
  |some o=>match vW o.es with
   |some ts=>if g=52/\o.mu=.m/\o.bM=4/\len=o.es.length/\len<1000000000/\(ts.all λt=>decide (ax t<1000000000))=true then
     some (.ct [],h.set id {o with es:=ae (eD ts)})else none
   |none=>none
  |none=>none
 |_=>none
theorem mM{h:ab}{id ep:Nat}{ts:List Tm}(e:h[id]?=some ⟨.m,ep,4,ae ts⟩)(hn:ts.length<1000000000)(hb:∀t∈ts,ax t<1000000000):
  qk [.ak id ep 0 ts.length,.fn 52 []] h=some (.ct [],h.set id ⟨.m,ep,4,ae (eD ts)⟩):=by
 have hg:getM h id ep=some ⟨.m,ep,4,ae ts⟩:=bo e rfl (by simp);have hl:=ai ts;simp only[qk,hg,sw];rw[if_pos ⟨trivial,trivial,trivial,hl.symm,hn,by simpa using hb⟩]
def TV(w:World)(A:Nat->Prop):Type:={x:Tm×List Value // x.2.length=4/\(∀v∈x.2,v.oneCell'=true)/\ax x.1<1000000000/\ch w A (.agg x.2.toArray) (enc x.1)}
instance(w:World)(A:Nat->Prop):Inhabited (TV w A):=
 ⟨⟨(.mk 0 ByteArray.empty 0 [],[.int .i64 0,.string ByteArray.empty,.int .i64 0,.slice none 0 0]),rfl,by simp[Value.oneCell'],by simp[ax,bp],.agg _ _ rfl (λj hj=>by
  match j,hj with
  |0,_=>exact .int _ _
  |1,_=>exact .str _
  |2,_=>exact .int _ _
  |3,_=>exact .gY _ _ _ (λh=>by cases h)
  |j+4,hj=>simp at hj;omega)⟩⟩
theorem zq{α:Type}[Inhabited α]{R:Nat->α->Prop}:∀n:Nat,(∀i,i<n->∃x,R i x)->∃d:Array α,d.size=n/\∀i,i<n->R i d[i]!
 |0,_=>⟨#[],rfl,λi hi=>by omega⟩
 |n+1,h=>by
  obtain⟨d,d1,d2⟩:=zq n (λi hi=>h i (by omega));obtain⟨x,hx⟩:=h n (by omega);refine⟨d.push x,by simp[d1],λi hi=>?_⟩
  by_cases jJ:i=n
  ·subst jJ;have:(d.push x)[i]! =x:=by simp[<-d1]
   rw[this];exact hx
  ·have:(d.push x)[i]! =d[i]!:=by
    have cG:i<d.size:=by omega
    simp[Array.getElem!_eq_getD,Array.getD,Array.getElem_push,cG,Nat.lt_succ_of_lt cG]
   rw[this];exact d2 i (by omega)
theorem Zq(w:World)(A:Nat->Prop):SWO (ltOf λx y:TV w A=>aT x.1.1 y.1.1) where
 irrefl x:=by simp[ltOf,cq]
 trans x y z h1 h2:=by
  simp only[ltOf,decide_eq_true_eq]at *;exact eU h1 h2
 ntrans x y z h1 h2:=by
  simp only[ltOf,decide_eq_false_iff_not,Int.not_lt]at *;have a:=eC x.1.1 y.1.1;have b:=eC y.1.1 z.1.1;have c:=eC x.1.1 z.1.1;have:=rI (a:=z.1.1) (b:=y.1.1) (c:=x.1.1) (by omega) (by omega);omega
theorem qu{α:Type}[Inhabited α](enc:α->List Value)(k:Nat)(w:World)(blk off m:Nat)(dk:Array α)(os:Array Obj)(b:Nat)(hb:b<w.heap.size)(bN:b≠blk):(sortWorldK enc k w blk off m dk os).heap[b]?=w.heap[b]?:=by
 unfold sortWorldK putRowK putRow mapBlock;rw[heap_grow_old _ _ (by simpa[ahead]using hb)];show(Array.modify w.heap blk _)[b]?=_;rw[adj,if_neg (acd bN)]
theorem AA{α:Type}[Inhabited α](enc:α->List Value)(k:Nat)(w:World)(blk off m:Nat)(dk:Array α)(os:Array Obj){cs:Array Value}{T:TypeId}{fr:Nat×Nat}(hb:w.heap[blk]?=some (.cells cs T fr)):
  (sortWorldK enc k w blk off m dk os).heap[blk]?=some (.cells (putCells id off (flatK enc k dk) cs) T fr):=by
 have cG:blk<w.heap.size:=by
  rcases ab0 blk w.heap.size with h |h
  ·exact h
  ·rw[adf h]at hb;cases hb
 unfold sortWorldK putRowK putRow mapBlock;rw[heap_grow_old _ _ (by simpa[ahead]using cG)];show(Array.modify w.heap blk _)[blk]?=_;rw[adj,if_pos rfl,hb]
 rfl
theorem wz{α:Type}[Inhabited α](enc:α->List Value)(k:Nat)(w:World)(blk off m:Nat)(dk:Array α)(os:Array Obj):w.heap.size<=(sortWorldK enc k w blk off m dk os).heap.size:=by
 unfold sortWorldK putRowK putRow mapBlock;rw[size_grow];simp[ahead]
theorem CV{α:Type}[Inhabited α]{enc:α->List Value}{k:Nat}{dk:Array α}{cs:Array Value}{i j:Nat}(hi:i<dk.size)(hj:j<k)(hs:dk.size * k<=cs.size)(hk:∀x,(enc x).length=k):
  (putCells id 0 (flatK enc k dk) cs)[i * k+j]?=(enc dk[i]!)[j]?:=by
 have lt:i * k+j<dk.size * k:=by
  have:=abY k (show i+1<=dk.size from hi);rw[ab9,Nat.one_mul]at this;omega
 have e1:(i * k+j) / k=i:=(blk_iff k i _ (by omega)).1 ⟨by omega,by omega⟩;have e2:(i * k+j) % k=j:=by rw[Nat.mod_eq_sub_div_mul,e1];omega
 unfold putCells;rw[Array.getElem?_mapIdx,acz (show i * k+j<cs.size by omega)];simp only[abw,acM,true_and,abE,size_flatK,if_pos lt,id,Nat.sub_zero];rw[get_flatK _ _ _ _ lt,e1,e2,abo (by rw[hk];exact hj)];rw[getElem!_pos _ j (by rw[hk];exact hj)]
variable{w:World}{F:Nat->Prop}{β:List (Nat×Nat)}{h:ab}
theorem Zr{cs:Array Value}{t:Tm}{i:Nat}(hb:ax t<1000000000)(q2:∀(j:Nat) (p:PV),(cells (enc t))[j]?=some p->∃v:Value,cs[i * 4+j]?=some v/\aE w (Av F h β) β h v p):
  ∃x:TV w (Av F h β),x.1.1=t/\∀j,j<4->cs[i * 4+j]?=x.1.2[j]?:=by
 obtain⟨k,s,o,l⟩:=t;obtain⟨a,a1,a2⟩:=q2 0 (.int .i64 k) rfl;obtain⟨b,b1,b2⟩:=q2 1 (.str s) rfl;obtain⟨c,c1,c2⟩:=q2 2 (.int .i64 o) rfl;obtain⟨d,d1,d2⟩:=q2 3 (.aa false (ae l)) rfl;have a3:=a2.JE rfl;have b3:=b2.JE rfl;have c3:=c2.JE rfl;have d3:=d2.fN;have o4:d.oneCell'=true:=by obtain⟨ad,cap,rfl,_⟩:=d3.kG;rfl
 refine⟨⟨(.mk k s o l,[a,b,c,d]),rfl,?_,hb,.agg [a,b,c,d] _ rfl (λj hj=>?_)⟩,rfl,λj hj=>?_⟩
 ·intro v hv
  simp only[abu,acB,or_false]at hv;rcases hv with rfl |rfl |rfl |rfl
  ·cases a3;rfl
  ·cases b3;rfl
  ·cases c3;rfl
  ·exact o4
 ·match j,hj with
  |0,_=>exact a3
  |1,_=>exact b3
  |2,_=>exact c3
  |3,_=>exact d3
  |j+4,hj=>simp at hj;omega
 ·match j,hj with
  |0,_=>exact a1
  |1,_=>exact b1
  |2,_=>exact c1
  |3,_=>exact d1
  |j+4,hj=>omega
theorem L2.two{R:Value->PV->Prop}{vs:List Value}{a b:PV}(h:L2 R vs [a,b]):∃x y,vs=[x,y]/\R x a/\R y b:=by
 obtain⟨h1,h2⟩:=h
 match vs,h1 with
 |[x,y],_=>exact⟨x,y,rfl,h2 0 (by simp),h2 1 (by simp)⟩
theorem HK(args:Array Value)(w:World):(callFunc 52 args).run C.P w=.ok (.enter 52 args) w:=enters_of Tryz.func52 (by kernel_rfl) rfl args w
theorem Lf{vs:List Value}{id ep:Nat}{o:aw}{ts:List Tm}(H:bm w F β h)(ha:L2 (aE w (Av F h β) β h) vs [.ak id ep 0 o.es.length,.fn 52 []])(hg:getM h id ep=some o)(hm:o.mu=.m)(hz:o.bM=4)
  (hn:o.es.length<1000000000) (iK:ae ts=o.es) (FK:∀t∈ts,ax t<1000000000):mZ C.P 2 w F β h 161 vs (.ct []) (h.set id {o with es:=ae (eD ts)}):=by
 obtain⟨g1,g2,g3⟩:=getM_some hg;obtain⟨bc,ot⟩:=du H.len g1;obtain⟨v0,v1,rfl,h0,h1⟩:=ha.two;obtain⟨_,_,m3⟩:=h0.dP;obtain⟨cap,c1,c2⟩:=m3 o bc g1 ot g3 g2 (by omega);rw[ac6]at c1;obtain⟨us,d1,d2,_⟩:=h1.F9;obtain rfl:us=[]:=abA d2;subst c1 d1;obtain⟨T,cs,k1,k2,k3,k4,k5⟩:=(H.obj id o bc g1 ot g3).c (by omega);have hblk:bc.1<w.heap.size:=Mb.lt H ⟨id,o,bc,g1,ot,hm,rfl⟩;have hav:Av F h β bc.1:=.inr ⟨id,o,bc,g1,ot,hm,rfl⟩;have hlen:ts.length=o.es.length:=by rw[<-iK,ai]
 have hcs:ts.length * 4<=cs.size:=by rw[hz]at k3;omega
 obtain⟨d,dl,dh⟩:=zq (α:=TV w (Av F h β)) (R:=λi x=>ts[i]?=some x.1.1/\∀j,j<4->cs[i * 4+j]?=x.1.2[j]?) ts.length (λi hi=>by
  have ht:ts[i]?=some ts[i]:=abo hi;obtain⟨_,q2⟩:=k5 i (enc ts[i]) (by rw[<-iK];exact Ff ht);rw[hz]at q2;obtain⟨x,x1,x2⟩:=Zr (FK _ (abV hi)) q2;exact⟨x,by rw[ht,x1],x2⟩)
 have hk:∀x:TV w (Av F h β),x.1.2.length=4:=λx=>x.2.1
 have hH:HoldsK (λx:TV w (Av F h β)=>x.1.2) 4 w bc.1 0 d:=by
  intro j hj
  rw[size_flatK]at hj;have hj4:j / 4<d.size:=by omega
  obtain⟨_,r2⟩:=dh (j / 4) (by omega);have:=r2 (j % 4) (by omega);rw[show j / 4 * 4+j % 4=j by omega]at this;refine⟨?_,by simp[World.frozen?,k1]⟩;rw[get_flatK _ _ _ _ hj];have hl:j % 4<(d[j / 4]!).1.2.length:=by rw[hk];omega
  rw[abo hl]at this;simp only[World.cell?,k1,abE,this];rw[getElem!_pos (d[j / 4]!).1.2 (j % 4) hl]
  rfl
 have aaM:CmpLays C.P 52 #[] (λx:TV w (Av F h β)=>x.1.2) 4 (λx y=>aT x.1.1 y.1.1) bc.1 0 d.size w:=by
  intro m os dk hs x y
  obtain⟨n,hn⟩:=(eB x.1.1 y.1.1 x.2.2.2.1 y.2.2.2.1).pH
  have up:∀(x:TV w (Av F h β)),ch (sortWorldK (λx:TV w (Av F h β)=>x.1.2) 4 w bc.1 0 m dk os) (λ_=>False) (.agg x.1.2.toArray) (enc x.1.1):=λx=>
   x.2.2.2.2.mono (λb hb Uf=>qu _ _ _ _ _ _ _ _ b hb (λe=>Uf (e▸hav))) (λ_ _ _ hh=>hh)
  have rz:L2 (ch (sortWorldK (λx:TV w (Av F h β)=>x.1.2) 4 w bc.1 0 m dk os) (λ_=>False)) [.agg x.1.2.toArray,.agg y.1.2.toArray] [enc x.1.1,enc y.1.1]:=⟨rfl,λj hj=>by
   match j,hj with
   |0,_=>exact up x
   |1,_=>exact up y
   |j+2,hj=>simp at hj;omega⟩
  rw[Array.append_empty];refine(Bx yr pM (.inl rfl) hn (λb hb=>hb.elim) rz).mono ?_;rintro e w' ⟨v,rfl,hv,uG⟩
  cases hv
  exact⟨rfl,uG.grow⟩
 have Sj:=AnyQ.slices_SortFunc Y2 4 Y3 Y4 (λx:TV w (Av F h β)=>x.1.2) hk (λx=>x.2.2.1) (λx y=>aT x.1.1 y.1.1) (Zq w _) 52 #[] bc.1 0 cap d w HK aaM hH hblk (by omega);rw[dl,hlen]at Sj;refine Sj.mono ?_;rintro e w' ⟨rfl,d',n,os,hp,hs,rfl⟩;rw[<-hlen,<-dl]at hp hs;have aaN:d'.size=d.size:=hp.1
 have hdt:d.toList.map (λx=>x.1.1)=ts:=by
  apply acr
  intro i
  by_cases hi:i<ts.length
  ·rw[abB,(dh i hi).1,abQ,acz (by omega),getElem!_pos d i (by omega)];rfl
  ·rw[abC (by simp;omega),abC (by omega)]
 have dV:d'.toList.map (λx=>x.1.1)=eD ts:=by
  refine Fh ?_ ?_ (qG ts)
  ·have h3:=hp.2.2;rw[show d.extract 0 d.size=d by simp,show d'.extract 0 d.size=d' by rw[<-aaN];simp]at h3;refine(h3.map _).trans ?_;rw[hdt];exact(fy ts).symm
  ·rw[List.pairwise_map,List.pairwise_iff_getElem]
   intro i j hi hj QC
   simp only[acL]at hi hj;have:=hs i j (acM _) QC (by omega);rw[getElem!_pos d' i (by omega),getElem!_pos d' j (by omega)]at this;simp only[ltOf,decide_eq_false_iff_not,Int.not_lt]at this;have ng:=eC d'[i].1.1 d'[j].1.1;simp only[Array.getElem_toList];omega
 have di:(ae (eD ts)).length=o.es.length:=by rw[ai,<-dV];simp;omega
 obtain⟨H',S'⟩:=H.set (w':=sortWorldK (λx:TV w (Av F h β)=>x.1.2) 4 w bc.1 0 n d' os) g1 ot hm T (putCells _root_.id 0 (flatK (λx:TV w (Av F h β)=>x.1.2) 4 d') cs) (ae (eD ts)) o.ep bc (wz _ _ _ _ _ _ _ _) (AA _ _ _ _ _ _ _ _ k1)
  (λb hb bN=>qu _ _ _ _ _ _ _ _ b hb bN) (.inl ⟨rfl,λ_=>di⟩) (abn _) rfl rfl rfl (by rw[di];exact k2) (by simpa[putCells]using k3) (λi e he=>by
   have hi:i<d'.size:=by have:=ag he;omega
   have Ct:(eD ts)[i]?=some d'[i].1.1:=by rw[<-dV,abB,abQ,acz hi];rfl
   rw[Ff Ct]at he;obtain rfl:=abi he;have sr:=d'[i].2.2.2.2;obtain⟨z1,z2⟩:=sr.cells;rw[hz]
   have dw:(cells (enc d'[i].1.1)).length=4:=by
    rw[<-z1];show d'[i].1.2.toArray.size=4;simpa using hk d'[i]
   refine⟨dw,λj p hp=>?_⟩;obtain⟨u,u1,u2⟩:=z2 j p hp;refine⟨u,?_,.val u2⟩;have hj:=ag hp;rw[CV (enc:=λx:TV w (Av F h β)=>x.1.2) hi (by omega) (by omega) hk,getElem!_pos d' i hi];have u3:d'[i].1.2.toArray[j]?=some u:=u1;simpa using u3) (by show w.drawn<=w.drawn+n;omega)
 rw[y8 ot]at H' S';exact⟨_,β,rfl,.val (.ct [] [] rfl (λj hj=>by simp at hj)),H',S',λhh=>by omega⟩
theorem OE:fL C.P 161 qk:=by
 intro args h r h' e w F β vs H ha
 unfold qk at e
 split at e
 ·rename_i g
  obtain⟨rfl,rfl⟩:=abv (abi e);obtain⟨v0,v1,rfl,h0,h1⟩:=ha.two;obtain⟨ad,cap,rfl,_,_⟩:=h0.fN.kG;have Sj:=AnyF.slices_SortFunc_none Y2 ad cap v1 w;refine Sj.mono ?_;rintro e w' ⟨rfl,rfl⟩;exact⟨_,β,rfl,.val (.ct [] [] rfl (λj hj=>by simp at hj)),H,eg.refl w' h β,λhh=>by omega⟩
 ·rename_i id ep len g
  split at e
  ·rename_i o hg
   split at e
   ·rename_i ts hd
    split at e
    ·rename_i hc
     obtain⟨rfl,rfl⟩:=abv (abi e);obtain⟨rfl,c1,c2,rfl,c4,c5⟩:=hc;exact Lf H ha hg c1 c2 c4 (pg _ hd) (by simpa using c5)
    ·cases e
   ·cases e
  ·cases e
 ·cases e
end Go.Pm
namespace Go.Pm
def BC(md md':FuncId->Mode):Prop:=∀f,md f=.no\/md f=md' f
variable{P:Program}{md md':FuncId->Mode}{run run':iI}
def my(P:Program)(md md':FuncId->Mode)(run run':iI):Prop:=∀(lv:Nat) (f:FuncId) (args:List PV) (h:ab) (x:PV×ab),dg ⟨P,md⟩ run lv f args h=some x->dg ⟨P,md'⟩ run' lv f args h=some x
theorem Pf(M:BC md md')(L:iG run run'){lv:Nat}{f:FuncId}{args:List PV}{h:ab}{x:PV×ab}(e:dg ⟨P,md⟩ run lv f args h=some x):dg ⟨P,md'⟩ run' lv f args h=some x:=by
 unfold dg at e ⊢;rcases M f with hz |hz
 ·simp only[hz]at e
  cases e
 simp only[<-hz]
 cases hm:md f <;>simp only[hm]at e ⊢
 ·cases e
 ·exact np L e
 ·exact nq L e
 ·exact e
 ·exact ko (λ_ _ _ x=>x) e
 ·exact e
theorem Lp(M:BC md md')(L:iG run run'):my P md md' run run':=λlv f args h x e=>Pf M L e
theorem oe(M:my P md md' run run'){lv:Nat}{op:Op}{ρ:Nat->PV}{h:ab}{x:PV×ab}(e:au ⟨P,md⟩ run lv op ρ h=some x):au ⟨P,md'⟩ run' lv op ρ h=some x:=by
 unfold au at e ⊢
 split at e
 ·split at e
  ·unfold gr at e ⊢
   split at e
   ·exact M _ _ _ _ _ e
   ·exact M _ _ _ _ _ e
   ·cases e
  ·exact e
  ·cases e
 ·exact e
theorem Lq(M:my P md md' run run'){ops:Array Oper}{o:Oper}{s s':St}(e:fU ⟨P,md⟩ run ops o s=some s'):fU ⟨P,md'⟩ run' ops o s=some s':=by
 unfold fU at e ⊢
 split at e
 ·cases hr:au ⟨P,md⟩ run 2 o.op s.ρ s.h with
  |none=>rw[hr]at e;cases e
  |some y=>rw[hr]at e;rw[oe M hr];exact e
 ·exact e
 ·cases e
theorem zw(M:my P md md' run run'){ops:Array Oper}:∀{l:List Oper} {s s':St},dE ⟨P,md⟩ run ops l s=some s'->dE ⟨P,md'⟩ run' ops l s=some s'
 |[],s,s',e=>e
 |o::l,s,s',e=>by
  simp only[dE]at e ⊢
  cases hr:fU ⟨P,md⟩ run ops o s with
  |none=>rw[hr]at e;cases e
  |some y=>
   rw[hr]at e;rw[Lq M hr];exact zw M e
theorem HX(M:my P md md' run run'){ops:Array Oper}{b:List Nat}{i:Nat}{o:Oper}{s s':wP}(e:cz ⟨P,md⟩ run ops b i o s=some s'):cz ⟨P,md'⟩ run' ops b i o s=some s':=by
 unfold cz at e ⊢
 split at e
 ·split at e
  ·rename_i hh
   rw[if_pos hh]
   cases hr:au ⟨P,md⟩ run 1 o.op s.s.ρ s.s.h with
   |none=>rw[hr]at e;cases e
   |some y=>rw[hr]at e;rw[oe M hr];exact e
  ·rename_i hh
   rw[if_neg hh]
   split at e
   ·rename_i hl
    rw[if_pos hl]
    cases hr:au ⟨P,md⟩ run 2 o.op s.s.ρ s.s.h with
    |none=>rw[hr]at e;cases e
    |some y=>rw[hr]at e;rw[oe M hr];exact e
   ·rename_i hl
    rw[if_neg hl];simp only at e ⊢
    split at e
    ·rename_i hc
     rw[if_pos hc]
     cases hr:au ⟨P,md⟩ run 1 o.op s.s.ρ (cy (b.getD i 0).testBit s.L0 s.own s.s.h)with
     |none=>rw[hr]at e;cases e
     |some y=>rw[hr]at e;rw[oe M hr];exact e
    ·cases e
 ·exact e
 ·cases e
theorem vZ(M:my P md md' run run'){ops:Array Oper}{b:List Nat}:∀{l:List Oper} {i:Nat} {s s':wP},dF ⟨P,md⟩ run ops b i l s=some s'->dF ⟨P,md'⟩ run' ops b i l s=some s'
 |[],i,s,s',e=>e
 |o::l,i,s,s',e=>by
  simp only[dF]at e ⊢
  cases hr:cz ⟨P,md⟩ run ops b i o s with
  |none=>rw[hr]at e;cases e
  |some y=>
   rw[hr]at e;rw[HX M hr];exact vZ M e
theorem HY(M:my P md md' run run'){ops:Array Oper}{b:List Nat}{h0:ab}{i:Nat}{o:Oper}{s s':St}(e:cY ⟨P,md⟩ run ops b h0 i o s=some s'):cY ⟨P,md'⟩ run' ops b h0 i o s=some s':=by
 unfold cY at e ⊢
 split at e
 ·split at e
  ·rename_i hh
   rw[if_pos hh]
   cases hr:au ⟨P,md⟩ run 1 o.op s.ρ s.h with
   |none=>rw[hr]at e;cases e
   |some y=>rw[hr]at e;rw[oe M hr];exact e
  ·rename_i hh
   rw[if_neg hh]
   split at e
   ·rename_i hl
    rw[if_pos hl];exact e
   ·rename_i hl
    rw[if_neg hl]
    cases hs:(if jN o.op then aC P 1 o.op s.ρ s.h else none)with
    |some y=>rw[hs]at e;exact e
    |none=>
     rw[hs]at e;simp only at e ⊢
     split at e
     ·rename_i hk
      rw[if_pos hk]
      cases hr:au ⟨P,md⟩ run 2 o.op s.ρ s.h with
      |none=>rw[hr]at e;cases e
      |some y=>rw[hr]at e;rw[oe M hr];exact e
     ·cases e
 ·exact e
 ·cases e
theorem v7(M:my P md md' run run'){ops:Array Oper}{b:List Nat}{h0:ab}:∀{l:List Oper} {i:Nat} {s s':St},ck ⟨P,md⟩ run ops b h0 i l s=some s'->ck ⟨P,md'⟩ run' ops b h0 i l s=some s'
 |[],i,s,s',e=>e
 |o::l,i,s,s',e=>by
  simp only[ck]at e ⊢
  cases hr:cY ⟨P,md⟩ run ops b h0 i o s with
  |none=>rw[hr]at e;cases e
  |some y=>
   rw[hr]at e;rw[HY M hr];exact v7 M e
theorem Pg(M:my P md md' run run'){ops:Array Oper}{s s':St}(e:js ⟨P,md⟩ run ops s=some s'):js ⟨P,md'⟩ run' ops s=some s':=by
 unfold js at e ⊢
 cases hr:ck ⟨P,md⟩ run ops (before ops) (cF (gO ops (before ops) s.ρ) s.h) 0 ops.toList ⟨s.ρ,cF (gO ops (before ops) s.ρ) s.h⟩with
 |none=>rw[hr]at e;cases e
 |some y=>rw[hr]at e;rw[v7 M hr];exact e
theorem Ph(M:my P md md' run run'){n m:Nat}(Qy:n<=m):∀(c:Code) {s:St} {x:Ex×St},bR ⟨P,md⟩ run n c s=some x->bR ⟨P,md'⟩ run' m c s=some x:=by
 intro c
 induction c with
 |region id ops draw=>
  intro s x e
  simp only[bR]at e ⊢
  cases draw with
  |false=>
   simp only[abz,if_false]at e ⊢
   cases hr:dE ⟨P,md⟩ run ops ops.toList s with
   |none=>rw[hr]at e;cases e
   |some y=>rw[hr]at e;rw[zw M hr];exact e
  |true=>
   simp only[if_true]at e ⊢
   by_cases hk:sH ops=true
   ·simp only[hk,if_true]at e ⊢
    cases hr:js ⟨P,md⟩ run ops s with
    |none=>rw[hr]at e;cases e
    |some y=>rw[hr]at e;rw[Pg M hr];exact e
   ·simp only[hk]at e ⊢
    cases hr:dF ⟨P,md⟩ run ops (before ops) 0 ops.toList ⟨s,s.h.length,[]⟩with
    |none=>rw[hr]at e;simp at e
    |some y=>rw[hr]at e;rw[vZ M hr];exact e
 |seq a b iha ihb=>
  intro s x e
  simp only[bR]at e ⊢
  cases hr:bR ⟨P,md⟩ run n a s with
  |none=>rw[hr]at e;cases e
  |some y=>
   rw[hr]at e;rw[iha hr];obtain⟨ex,s'⟩:=y
   cases ex with
   |normal=>exact ihb e
   |exit id=>exact e
   |ret=>exact e
 |cond c a b iha ihb=>
  intro s x e
  simp only[bR]at e ⊢
  split at e
  ·exact iha e
  ·exact ihb e
  ·cases e
 |block id c ih=>
  intro s x e
  simp only[bR]at e ⊢
  cases hr:bR ⟨P,md⟩ run n c s with
  |none=>rw[hr]at e;cases e
  |some y=>rw[hr]at e;rw[ih hr];exact e
 |loop c ih=>
  intro s x e
  simp only[bR]at e ⊢;exact qE (λs x=>ih) Qy e
 |scope c ih=>
  intro s x e
  simp only[bR]at e ⊢;exact ih e
 |_=>
  intro s x e
  first
   |exact e
   |(simp[bR]at e;done)
   |(simp only[bR]at e ⊢;exact e)
theorem EM(M:my P md md' run run'){n m:Nat}(Qy:n<=m):iG (pG ⟨P,md⟩ run n) (pG ⟨P,md'⟩ run' m):=by
 intro f args h x e
 unfold pG at e ⊢
 cases hf:P.funcs[f]? with
 |none=>rw[hf]at e;cases e
 |some fn=>
  rw[hf]at e;simp only at e ⊢
  cases hb:fn.body with
  |none=>rw[hb]at e;cases e
  |some c=>
   rw[hb]at e;simp only at e ⊢
   cases hr:bR ⟨P,md⟩ run n c ⟨nB args,h⟩with
   |none=>rw[hr]at e;cases e
   |some y=>rw[hr]at e;rw[Ph M Qy c hr];exact e
theorem CY(M:BC md md'):∀n,iG (fo ⟨P,md⟩ n) (fo ⟨P,md'⟩ n)
 |0=>λf args h x e=>by cases e
 |n+1=>EM (Lp M (CY M n)) (abn n)
theorem ay.up(M:BC md md'){f:FuncId}{args:List PV}{h:ab}{Q:PV->ab->Prop}(a:ay ⟨P,md⟩ f args h Q):ay ⟨P,md'⟩ f args h Q:=by
 obtain⟨r,h',q,n0,hn⟩:=a;exact⟨r,h',q,n0,λn h1=>CY M n _ _ _ _ (hn n h1)⟩
theorem aI.up(M:BC md md'){f:FuncId}{args:List PV}{r:PV}(a:aI ⟨P,md⟩ f args r):aI ⟨P,md'⟩ f args r:=by
 obtain⟨n0,hn⟩:=a;refine⟨n0,λn h1=>?_⟩;obtain⟨r0,hc,r1,e1,e2⟩:=hn n h1;exact⟨r0,hc,r1,CY M n _ _ _ _ e1,e2⟩
end Go.Pm
namespace Go.Pm
open Go.Proofs
open Go.Pm.Zero (lB jC)
attribute [local irreducible] aD az aL aJ Ev ah aj ay aY
variable{w:World}{F:Nat->Prop}{β:List (Nat×Nat)}{h:ab}
namespace rC
set_option maxRecDepth 100000
set_option maxHeartbeats 4000000
noncomputable abbrev T6:lQ C0.P:=Zero.T6
theorem uK{h:ab}{fl:Bool}{e:PV}(he:kX 4 e=true):ay C0 215 [.aa true [],.int .i64 0,.aa fl [e]] h (λr h'=>r=.ak h.length 0 0 1/\h'=h++[⟨.m,0,4,[e]⟩]):=by
 refine ay.dG Tryz.func215 rfl ?_;have hu:C0.P.underlying 132=some (.slice 33):=bz (T6.cT 132 _ rfl);have wQ:([e]:List PV).length=1:=rfl;refine wD ?_;apply R.slice
 ·exact rfl
 ·exact rfl
 ·exact rfl
 ·exact rfl
 ·exact Bi hu (T6.dV 33 4 rfl)
 (repeat' (first |refine ah.nil ?_ |(apply R.move;exact rfl)|(apply R.assign;exact rfl)|(apply R.cmp;exact rfl;exact rfl;exact rfl;all_goals intro hc;all_goals(try(exfalso;omega)))|(apply R.rV T6;exact rfl;exact rfl)|refine Ev.seq ?_ |refine Ev.region ?_ |(apply Ev.fJ;exact rfl)|refine Ev.skip ?_ |refine aD.normal ?_ |fail))
 all_goals try(exfalso;revert hc;decide)
 all_goals(
  apply R.jy T6;exact rfl;exact rfl;exact rfl;exact rfl;exact rfl;exact rfl;exact rfl;exact(by decide);exact rfl;exact rfl;exact tj he;exact(by simp);exact(by show 1<_;decide);refine wD ?_;exact⟨rfl,rfl⟩)
theorem uL{h:ab}{fl:Bool}{e:PV}{id ep len:Nat}{o:aw}(he:kX 4 e=true)(hg:getM h id ep=some o)(hm:o.mu=.m)(hz:o.bM=4)(hle:len<=o.es.length)(hn:len<100000000):
  ay C0 215 [.ak id ep 0 len,.int .i64 (len:Int),.aa fl [e]] h (λr h'=>r=.ak id (ep+1) 0 (len+1)/\h'=h.set id {o with ep:=ep+1,es:=o.es.take len++[e]}):=by
 refine ay.dG Tryz.func215 rfl ?_;have hu:C0.P.underlying 132=some (.slice 33):=bz (T6.cT 132 _ rfl);have wQ:([e]:List PV).length=1:=rfl;have gM:cA C0.P 33=some o.bM:=by rw[hz];exact T6.dV 33 4 rfl
 refine wD ?_;apply R.slice
 ·exact rfl
 ·exact rfl
 ·exact rfl
 ·exact rfl
 ·exact qH hu gM hg (abn _) hle
 refine wF λhc=>?_
 all_goals try(exfalso;revert hc;decide)
 all_goals(
  apply R.zZ T6 (o:=o);exact rfl;exact rfl;exact hg;exact(by omega);refine wF λhc=>?_;apply R.D5 T6 (o:=o);exact rfl;exact rfl;exact rfl;exact rfl;exact rfl;exact rfl;exact rfl;exact(by decide);exact rfl;exact rfl;exact tj he;exact rfl;exact(by show len+1<_;omega);exact hg;exact hm;exact hz;exact hle;refine wD ?_;exact⟨rfl,rfl⟩)
noncomputable def NK:Code:=match Tryz.f215.body with |some c=>c |none=>.skip
theorem yn:Tryz.f215.body=some NK:=rfl
variable{w:World}{F:Nat->Prop}{β:List (Nat×Nat)}
theorem tg{h:ab}{id ep len i N:Nat}{o:aw}{fl:Bool}{e:PV}{a:Act}{Q:Exit->Act->World->Prop}(hg:getM h id ep=some o)(hz:o.bM=4)(hle:len<=o.es.length)(hi:i<len)(hn:len<100000000)(hN:N=Tryz.f215.ntmps)
  (RR:SR N w F β ⟨nB [.ak id ep 0 len,.int .i64 (i:Int),.aa fl [e]],h⟩ a)
  (k:∀a' w' β' ρ',SR N w' F β' ⟨al [(0,.ak id ep 0 len),(1,.int .i64 (i:Int)),(2,.aa fl [e]),(7,.int .i64 1),(8,.int .i64 (len:Int))] ρ',h⟩ a'->eg w h β w' h β'->(tlC 6 NK).wp C0.P Q a' w'):NK.wp C0.P Q a w:=by
 subst hN;have hu:C0.P.underlying 132=some (.slice 33):=bz (T6.cT 132 _ rfl);have gM:cA C0.P 33=some o.bM:=by rw[hz];exact T6.dV 33 4 rfl
 have wQ:([e]:List PV).length=1:=rfl;refine wp_seq ?_;refine cL K0 bX S0 (M:=λex s'=>ex=.normal/\∃ρ',s'=⟨al [(0,.ak id ep 0 len),(1,.int .i64 (i:Int)),(2,.aa fl [e])] ρ',h⟩) rfl ?_ RR ?_
 ·rw[iB];refine wD ?_;exact⟨rfl,_,St.aU ⟨rfl,rfl,rfl,trivial⟩⟩
 rintro ex s' a1 w1 β1 ⟨rfl,ρ1,rfl⟩ R1 S1;refine wp_seq ?_;refine cL K0 bX S0 (M:=λex s'=>ex=.normal/\∃ρ',s'=⟨al [(0,.ak id ep 0 len),(1,.int .i64 (i:Int)),(2,.aa fl [e])] ρ',h⟩) rfl ?_ R1 ?_
 ·refine wD ?_;apply R.slice
  ·exact rfl
  ·exact rfl
  ·exact rfl
  ·exact rfl
  ·exact cX hu gM hg hi hle
  refine wD ?_;exact⟨rfl,_,St.aU ⟨rfl,rfl,rfl,trivial⟩⟩
 rintro ex s' a2 w2 β2 ⟨rfl,ρ2,rfl⟩ R2 S2;refine wp_seq ?_;refine cL K0 bX S0 (M:=λex s'=>ex=.normal/\∃ρ',s'=⟨al [(0,.ak id ep 0 len),(1,.int .i64 (i:Int)),(2,.aa fl [e]),(7,.int .i64 1)] ρ',h⟩) rfl ?_ R2 ?_
 ·refine wD ?_;exact⟨rfl,_,St.aU ⟨rfl,rfl,rfl,rfl,trivial⟩⟩
 rintro ex s' a3 w3 β3 ⟨rfl,ρ3,rfl⟩ R3 S3;refine wp_seq ?_;refine cL K0 bX S0 (M:=λex s'=>ex=.normal/\∃ρ',s'=⟨al [(0,.ak id ep 0 len),(1,.int .i64 (i:Int)),(2,.aa fl [e]),(7,.int .i64 1)] ρ',h⟩) rfl ?_ R3 ?_
 ·refine wF λhc=>?_;exact⟨rfl,_,St.aU ⟨rfl,rfl,rfl,rfl,trivial⟩⟩
 rintro ex s' a4 w4 β4 ⟨rfl,ρ4,rfl⟩ R4 S4;refine wp_seq ?_;refine cL K0 bX S0 (M:=λex s'=>ex=.normal/\∃ρ',s'=⟨al [(0,.ak id ep 0 len),(1,.int .i64 (i:Int)),(2,.aa fl [e]),(7,.int .i64 1),(8,.int .i64 (len:Int))] ρ',h⟩) rfl ?_ R4 ?_
 ·refine wD ?_;apply R.zZ T6 (o:=o);exact rfl;exact rfl;exact hg;exact(by omega);refine wD ?_;exact⟨rfl,_,St.aU ⟨rfl,rfl,rfl,rfl,rfl,trivial⟩⟩
 rintro ex s' a5 w5 β5 ⟨rfl,ρ5,rfl⟩ R5 S5;refine wp_seq ?_;refine cL K0 bX S0 (M:=λex s'=>ex=.normal/\∃ρ',s'=⟨al [(0,.ak id ep 0 len),(1,.int .i64 (i:Int)),(2,.aa fl [e]),(7,.int .i64 1),(8,.int .i64 (len:Int))] ρ',h⟩) rfl ?_ R5 ?_
 ·refine wF λhc=>?_;exact⟨rfl,_,St.aU ⟨rfl,rfl,rfl,rfl,rfl,trivial⟩⟩
 rintro ex s' a6 w6 β6 ⟨rfl,ρ6,rfl⟩ R6 S6;exact k _ _ _ _ R6 (((((S1.trans S2).trans S3).trans S4).trans S5).trans S6)
theorem uJ{h:ab}{id ep len i:Nat}{o:aw}{fl:Bool}{e X:PV}{pre:List PV}{vs:List Value}(H:bm w F β h)(ha:L2 (aE w (Av F h β) β h) vs [.ak id ep 0 len,.int .i64 (i:Int),.aa fl [e]])
  (hg:getM h id ep=some o) (hm:o.mu=.m) (hz:o.bM=4) (iK:o.es=pre++[X]) (kH:pre.length=len) (hi:i<len) (hn:len<100000000) (ga:pre.all (kX 4)=true) (hX:(cells X).length=4) (he:kX 4 e=true) (dw:aV h=true):
  mZ C0.P 2 w F β h 215 vs (.ak id ep 0 (len+1)) (h.set id {o with es:=pre.take i++[e]++pre.drop i}):=by
 have cr:o.es.length=len+1:=by rw[iK];simp[kH]
 have hu:C0.P.underlying 132=some (.slice 33):=bz (T6.cT 132 _ rfl);have sc:cA C0.P 33=some 4:=T6.dV 33 4 rfl;have gM:cA C0.P 33=some o.bM:=by rw[hz];exact sc
 obtain⟨g1,g2,g3⟩:=getM_some hg;have cG:=ag g1;obtain⟨bc,ot⟩:=du H.len g1;obtain⟨T,cs,k1,k2,k3,k4,k5⟩:=(H.obj id o bc g1 ot g3).c (by omega);have Cs:len+1<=bc.2:=by omega
 have ij:aQ h id=true:=by unfold aQ;rw[g1];simp[hm]
 have hj:((len:Int)+1)=((len+1:Nat):Int):=by omega
 have vu:((i:Int)+1)=((i+1:Nat):Int):=by omega
 have dS:∀{w':World} {β':List (Nat×Nat)},eg w h β w' h β'->β'[id]?=some bc:=by
  intro w' β' S
  obtain⟨o',dm,f1,f2,f3,f4,f5⟩:=S.refs id o bc g1 ot g3;obtain rfl:=abi (g1.symm.trans f1);rw[f2,(f5 rfl).2.2]
 refine jz (P:=C0.P) (c:=NK) Tryz.func215 yn H ha (λa RR=>tg hg hz (by omega) hi hn rfl RR (λa1 w1 β1 ρ1 R1 S1=>?_));refine wp_seq ?_;refine wp_seq ?_;apply bY K0 S0 (pre:=[_,_,_,_]) (post:=[_]) (R:=R1) (M:=λs'=>∃ρ',s'=⟨al ((28,.int .i64 ((len:Int)+1))::(29,.ak id ep 0 len)::[(0,.ak id ep 0 len),(1,.int .i64 (i:Int)),(2,.aa fl [e]),(7,.int .i64 1),(8,.int .i64 (len:Int))]) ρ',h⟩) (M2:=λs'=>∃ρ',s'=⟨al ((31,.bool false)::[(0,.ak id ep 0 len),(1,.int .i64 (i:Int)),(2,.aa fl [e]),(7,.int .i64 1),(8,.int .i64 (len:Int))]) ρ',h⟩)
 ·rfl
 ·rfl
 ·refine wD ?_;exact⟨_,St.aU ⟨rfl,rfl,rfl,rfl,rfl,rfl,rfl,trivial⟩⟩
 ·rintro s1 a2 w2 β2 ⟨ρ2,rfl⟩ R2 S2;refine⟨.int .i64 (bc.2:Int),h,th (t:=132) (x:=.tmp 29) R2.hr R2.er hu (dC (t:=29) rfl ρ2) hg (dS (S1.trans S2)) (by omega) _ rfl,?_⟩;show ah C0 _ _ ⟨cd (al _ ρ2) (some 30) (.int .i64 (bc.2:Int)),h⟩ _;rw[cj];refine wF λhc=>?_;exact⟨_,St.aU ⟨rfl,rfl,rfl,rfl,rfl,rfl,trivial⟩⟩
 rintro s3 a3 w3 β3 ⟨ρ3,rfl⟩ R3 S3;refine cL K0 bX S0 (M:=λex s'=>ex=.normal/\∃ρ',s'=⟨al [(0,.ak id ep 0 len),(1,.int .i64 (i:Int)),(2,.aa fl [e]),(7,.int .i64 1),(8,.int .i64 (len:Int))] ρ',h⟩) rfl ?_ R3 ?_
 ·refine wD ?_;exact⟨rfl,_,St.aU ⟨rfl,rfl,rfl,rfl,rfl,trivial⟩⟩
 rintro ex s' a4 w4 β4 ⟨rfl,ρ4,rfl⟩ R4 S4;refine wp_seq ?_;refine cL K0 bX S0 (M:=λex s'=>ex=.normal/\∃ρ',s'=⟨al [(0,.ak id ep 0 (len+1)),(1,.int .i64 (i:Int)),(2,.aa fl [e]),(7,.int .i64 1)] ρ',h⟩) rfl ?_ R4 ?_
 ·refine wD ?_;apply R.slice
  ·exact rfl
  ·exact rfl
  ·exact rfl
  ·exact rfl
  ·show cf C0.P h 132 (.ak id ep 0 len) none (some (.int .i64 ((len:Int)+1))) none=_;rw[hj];exact pS hu gM hg (by omega) (by omega)
  refine wD ?_;exact⟨rfl,_,St.aU ⟨rfl,rfl,rfl,rfl,trivial⟩⟩
 rintro ex s' a5 w5 β5 ⟨rfl,ρ5,rfl⟩ R5 S5;refine wp_seq ?_;refine wp_seq ?_;apply bY K0 S0 (pre:=[_,_,_,_,_,_]) (post:=[_]) (R:=R5) (M:=λs'=>∃ρ',s'=⟨al ((61,.aa fl [e])::(66,.ak id ep (i+1) (len+1 - (i+1)))::[(0,.ak id ep 0 (len+1)),(1,.int .i64 (i:Int)),(2,.aa fl [e]),(7,.int .i64 1)]) ρ',h⟩) (M2:=λs'=>∃ρ',s'=⟨al ((68,.bool true)::[(0,.ak id ep 0 (len+1)),(1,.int .i64 (i:Int)),(2,.aa fl [e]),(7,.int .i64 1)]) ρ',h⟩)
 ·rfl
 ·rfl
 ·refine wD ?_;apply R.slice
  ·exact rfl
  ·exact rfl
  ·exact rfl
  ·exact rfl
  ·show cf C0.P h 132 (.ak id ep 0 (len+1)) (some (.int .i64 ((i:Int)+1))) none none=_;rw[vu];exact cX hu gM hg (by omega) (by omega)
  refine wD ?_;exact⟨_,St.aU ⟨rfl,rfl,rfl,rfl,rfl,rfl,trivial⟩⟩
 ·rintro s1 a6 w6 β6 ⟨ρ6,rfl⟩ R6 S6;refine⟨.bool false,h,rD (t:=31) (tR:=4) (x:=.tmp 61) (y:=.tmp 66) (f:=281) R6.hr R6.er (bz (T6.cT 31 _ rfl)) sc (dC (t:=61) rfl ρ6) (dC (t:=66) rfl ρ6) hg hm (by omega) Tryz.func281 (by kernel_rfl) (by kernel_rfl) (by kernel_rfl) (by kernel_rfl) _ rfl,?_⟩;show ah C0 _ _ ⟨cd (al _ ρ6) (some 67) (.bool false),h⟩ _;rw[cj];refine wD ?_;exact⟨_,St.aU ⟨rfl,rfl,rfl,rfl,rfl,trivial⟩⟩
 rintro s7 a7 w7 β7 ⟨ρ7,rfl⟩ R7 S7;obtain⟨ys,pB⟩:∃ys,ys=((pre++[X]).drop i).take (pre.length+1 - i):=⟨_,rfl⟩;obtain⟨dL,oU⟩:∃dL,dL=(pre++[X]).take (i+1)++ys.take (pre.length - i)++(pre++[X]).drop (i+1+(pre.length - i)):=⟨_,rfl⟩;obtain⟨l1,l2,l3⟩:=yp (e:=e) (by omega) pB oU;rw[kH]at l1 l2;have XR:ys.length=len+1 - i:=by rw[pB];simp;omega
 have NO:∀v∈ys,(cells v).length=4:=by
  intro v hv
  rw[pB]at hv;have:=ab4 (ab3 hv);rcases abp.1 this with hv |hv
  ·have:=abk.1 ga v hv;unfold kX at this;simp only[abq,decide_eq_true_eq]at this;exact this.1.2
  ·obtain rfl:=abP.1 hv;exact hX
 have Ct:(cells e).length=4/\(cells e).all bH=true:=by
  unfold kX at he;simp only[abq,decide_eq_true_eq]at he;exact⟨he.1.2,he.2⟩
 have NL:min ys.length (len+1 - (i+1))=len - i:=by omega
 have AO:h.set id {o with es:=o.es.take (i+1)++ys.take (min ys.length (len+1 - (i+1)))++o.es.drop (i+1+min ys.length (len+1 - (i+1)))}=h.set id {o with es:=dL}:=by
  rw[NL,iK,oU,kH]
 have qI:getM (h.set id {o with es:=dL}) id ep=some {o with es:=dL}:=bo (abl cG) g2 (by show o.mu≠.x;rw[hm];simp);have yo:min ([e]:List PV).length (len+1 - i)=1:=by show min 1 _=1;omega
 have pu:(h.set id {o with es:=dL}).set id {({o with es:=dL}:aw)with es:=dL.take i++[e].take (min ([e]:List PV).length (len+1 - i))++dL.drop (i+min ([e]:List PV).length (len+1 - i))}=h.set id {o with es:=pre.take i++[e]++pre.drop i}:=by
  rw[acn,yo,<-l3];rfl
 refine cL K0 bX S0 (M:=λex s'=>ex=.ret/\∃ρ',s'=⟨al [(6,.ak id ep 0 (len+1))] ρ',h.set id {o with es:=pre.take i++[e]++pre.drop i}⟩) rfl ?_ R7 ?_
 ·refine wD ?_;apply D.slice
  ·exact dw
  ·exact rfl
  ·exact ij
  ·exact rfl
  ·exact rfl
  ·exact rfl
  ·exact rfl
  ·exact rfl
  ·exact rfl
  ·show cf C0.P h 132 (.ak id ep 0 (len+1)) (some (.int .i64 ((i:Int)+1))) none none=_;rw[vu];exact cX hu gM hg (by omega) (by omega)
  refine wD ?_;apply D.slice
  ·exact dw
  ·exact rfl
  ·exact ij
  ·exact rfl
  ·exact rfl
  ·exact rfl
  ·exact rfl
  ·exact rfl
  ·exact rfl
  ·exact cX hu gM hg (by omega) (by omega)
  apply D.copy T6 (ys:=ys) (o:=o) (sz:=4)
  ·exact rfl
  ·exact rfl
  ·exact rfl
  ·exact rfl
  ·exact rfl
  ·simp only[cu,hg];rw[if_pos (by omega),iK,pB,kH]
  ·exact hg
  ·exact hm
  ·exact hz
  ·omega
  ·rw[abk]
   intro v hv
   simp[NO v hv]
  ·rw[NL,l1,abk]
   intro v hv
   have:=abk.1 ga v (ab4 hv);unfold kX at this;simp only[abq]at this ⊢;exact⟨this.1.2,this.2⟩
  refine aY.heap AO ?_;refine wD ?_;apply R.slice
  ·exact rfl
  ·exact rfl
  ·exact rfl
  ·exact rfl
  ·exact cX (o:={o with es:=dL}) hu gM qI (by omega) (by show len+1<=dL.length;omega)
  refine wD ?_;apply R.copy T6 (ys:=[e]) (o:={o with es:=dL}) (sz:=4)
  ·exact rfl
  ·exact rfl
  ·exact rfl
  ·exact rfl
  ·exact rfl
  ·exact qI
  ·exact hm
  ·exact hz
  ·show i+(len+1 - i)<=dL.length;omega
  ·simp[Ct.1]
  ·simp only[yo,adq,adT,ace,acS,Ct.1,Ct.2];rfl
  refine wD ?_;exact⟨rfl,_,(congrArg (λhh=>(⟨_,hh⟩:St)) pu).trans (St.aU ⟨rfl,trivial⟩)⟩
 rintro ex s8 a8 w8 β8 ⟨rfl,ρ8,rfl⟩ R8 S8;refine⟨.inr rfl,_,β8,R8,(((((S1.trans S3).trans S4).trans S5).trans S7).trans S8),[.ak id ep 0 (len+1)],?_,λu Vz=>⟨β8,Vz,R8.hr,(((((S1.trans S3).trans S4).trans S5).trans S7).trans S8)⟩⟩
 ·exact eF (L:=[(6,.ak id ep 0 (len+1))]) rfl
 all_goals rfl
theorem ym{h:ab}{id ep len i:Nat}{o:aw}{bc:Nat×Nat}{fl:Bool}{e:PV}{vs:List Value}(H:bm w F β h)(ha:L2 (aE w (Av F h β) β h) vs [.ak id ep 0 len,.int .i64 (i:Int),.aa fl [e]])
  (hg:getM h id ep=some o) (hz:o.bM=4) (hle:len<=o.es.length) (ot:β[id]?=some bc) (Cs:bc.2<len+1) (hi:i<len) (hn:len<100000000) (ga:(o.es.take len).all (kX 4)=true) (he:kX 4 e=true) (dw:aV h=true):
  mZ C0.P 2 w F β h 215 vs (.ak h.length 0 0 (len+1)) (h++[⟨.m,0,4,(o.es.take len).take i++[e]++(o.es.take len).drop i⟩]):=by
 have hu:C0.P.underlying 132=some (.slice 33):=bz (T6.cT 132 _ rfl);have sc:cA C0.P 33=some 4:=T6.dV 33 4 rfl;have gM:cA C0.P 33=some o.bM:=by rw[hz];exact sc
 obtain⟨g1,g2,g3⟩:=getM_some hg;have cG:=ag g1;have hj:((i:Int)+1)=((i+1:Nat):Int):=by omega
 have XL:((len:Int)+1 - (i:Int))=((len+1 - i:Nat):Int):=by omega
 have jJ:i+(len+1 - i)=len+1:=by omega
 have dS:∀{w':World} {β':List (Nat×Nat)},eg w h β w' h β'->β'[id]?=some bc:=by
  intro w' β' S
  obtain⟨o',dm,f1,f2,f3,f4,f5⟩:=S.refs id o bc g1 ot g3;obtain rfl:=abi (g1.symm.trans f1);rw[f2,(f5 rfl).2.2]
 obtain⟨mD,GK⟩:∃mD,mD=o.es.take i++List.replicate (len+1 - i) (.agg [.int .i64 0,.str ByteArray.empty,.int .i64 0,.aa true []]:PV):=⟨_,rfl⟩;obtain⟨dL,oU⟩:∃dL,dL=mD.take i++[e]++mD.drop (i+1):=⟨_,rfl⟩;obtain⟨ys,pB⟩:∃ys,ys=(o.es.drop i).take (len - i):=⟨_,rfl⟩;obtain⟨l1,l2,l3,l4,l5⟩:=Bg hi hle GK oU pB
 have Ct:(cells e).length=4/\(cells e).all bH=true/\aW e=true:=by
  unfold kX at he;simp only[abq,decide_eq_true_eq]at he;exact⟨he.1.2,he.2,he.1.1⟩
 have Gj:ys.all (kX 4)=true:=by
  rw[l4,abk]
  intro v hv
  exact abk.1 ga v (ab4 hv)
 have zR:ar mD=true:=by
  rw[GK,bB,acj,<-bB]
  have:ar (o.es.take i)=true:=by
   refine l6 (sz:=4) ?_;rw[abk]
   intro v hv
   refine abk.1 ga v ?_;have:o.es.take i=(o.es.take len).take i:=by rw[acE];congr 1;omega
   rw[this]at hv;exact ab3 hv
  rw[this,acs,abk]
  intro v hv
  obtain rfl:=acg hv
  rfl
 have Di:ar dL=true:=by
  rw[bB,abk]at zR ⊢
  intro v hv
  rw[oU]at hv;rcases abp.1 hv with hv |hv
  ·rcases abp.1 hv with hv |hv
   ·exact zR v (ab3 hv)
   ·obtain rfl:=abP.1 hv;exact Ct.2.2
  ·exact zR v (ab4 hv)
 have GL:aV (h++[⟨.m,0,4,dL⟩])=true:=vG Di dw;have QX:∀es,getM (h++[⟨.m,0,4,es⟩]) h.length 0=some ⟨.m,0,4,es⟩:=λes=>IT (o:=⟨.m,0,4,es⟩) (by simp)
 have YB:∀es,getM (h++[⟨.m,0,4,es⟩]) id ep=some o:=λes=>oY hg
 have ij:∀es,aQ (h++[⟨.m,0,4,es⟩]) id=true:=λes=>by unfold aQ;rw[abj cG,g1];simpa using g3
 have NJ:∀es,aQ (h++[⟨.m,0,4,es⟩]) h.length=true:=λes=>by unfold aQ;simp
 refine jz (P:=C0.P) (c:=NK) Tryz.func215 yn H ha (λa RR=>tg hg hz (by omega) hi hn rfl RR (λa1 w1 β1 ρ1 R1 S1=>?_));refine wp_seq ?_;refine wp_seq ?_;apply bY K0 S0 (pre:=[_,_,_,_]) (post:=[_]) (R:=R1) (M:=λs'=>∃ρ',s'=⟨al ((28,.int .i64 ((len:Int)+1))::(29,.ak id ep 0 len)::[(0,.ak id ep 0 len),(1,.int .i64 (i:Int)),(2,.aa fl [e]),(7,.int .i64 1),(8,.int .i64 (len:Int))]) ρ',h⟩) (M2:=λs'=>∃ρ',s'=⟨al ((31,.bool true)::[(0,.ak id ep 0 len),(1,.int .i64 (i:Int)),(2,.aa fl [e]),(7,.int .i64 1),(8,.int .i64 (len:Int))]) ρ',h⟩)
 ·rfl
 ·rfl
 ·refine wD ?_;exact⟨_,St.aU ⟨rfl,rfl,rfl,rfl,rfl,rfl,rfl,trivial⟩⟩
 ·rintro s1 a2 w2 β2 ⟨ρ2,rfl⟩ R2 S2;refine⟨.int .i64 (bc.2:Int),h,th (t:=132) (x:=.tmp 29) R2.hr R2.er hu (dC (t:=29) rfl ρ2) hg (dS (S1.trans S2)) (by omega) _ rfl,?_⟩;show ah C0 _ _ ⟨cd (al _ ρ2) (some 30) (.int .i64 (bc.2:Int)),h⟩ _;rw[cj];refine wF λhc=>?_;exact⟨_,St.aU ⟨rfl,rfl,rfl,rfl,rfl,rfl,trivial⟩⟩
 rintro s3 a3 w3 β3 ⟨ρ3,rfl⟩ R3 S3
 have Vy:a3.eval (.tmp 31)=.bool true:=by
  have:=R3.er.ev (.tmp 31);rw[show ev (al ((31,PV.bool true)::[(0,.ak id ep 0 len),(1,.int .i64 (i:Int)),(2,.aa fl [e]),(7,.int .i64 1),(8,.int .i64 (len:Int))]) ρ3) (.tmp 31)=.bool true from dC (t:=31) rfl ρ3]at this;exact this.gG
 refine wp_cond_true Vy ?_;refine wp_seq ?_;apply bY K0 S0 (pre:=[_,_,_,_,_,_,_,_]) (post:=[_]) (R:=R3) (M:=λs'=>∃ρ',s'=⟨al ((34,.ak id ep 0 i)::(39,.int .i64 ((len:Int)+1 - (i:Int)))::[(0,.ak id ep 0 len),(1,.int .i64 (i:Int)),(2,.aa fl [e]),(7,.int .i64 1),(8,.int .i64 (len:Int))]) ρ',h⟩) (M2:=λs'=>∃ρ',s'=⟨al ((9,.ak h.length 0 0 (len+1))::[(0,.ak id ep 0 len),(1,.int .i64 (i:Int)),(2,.aa fl [e]),(7,.int .i64 1),(8,.int .i64 (len:Int))]) ρ',h++[⟨.m,0,4,mD⟩]⟩)
 case ho=>rfl
 case hg=>rfl
 ·refine wD ?_;apply R.slice
  ·exact rfl
  ·exact rfl
  ·exact rfl
  ·exact rfl
  ·exact um hu gM hg (by omega) hle
  refine wD ?_;exact⟨_,St.aU ⟨rfl,rfl,rfl,rfl,rfl,rfl,rfl,trivial⟩⟩
 ·rintro s1 a4 w4 β4 ⟨ρ4,rfl⟩ R4 S4;have os:=vH (P:=C0.P) (st:=132) (xt:=3) (el:=33) (x:=.tmp 34) (y:=.tmp 39) (k:=.i64) (n:=len+1 - i) (len:=i) R4.hr R4.er hu (pK (T6.cT 3 _ rfl)) sc (by decide) (T6.rU 33 _ rfl) (by decide) (T6.nt 33 (.agg [.int .i64 0,.str ByteArray.empty,.int .i64 0,.aa true []]) rfl) rfl rfl (dC (t:=34) rfl ρ4) (by rw[<-XL];exact dC (t:=39) rfl ρ4) hg (dS ((S1.trans S3).trans S4)) (by omega) hz (by omega) (by omega);rw[jJ,<-GK]at os;refine⟨.ak h.length 0 0 (len+1),h++[⟨.m,0,4,mD⟩],os _ rfl,?_⟩;show ah C0 _ _ ⟨cd (al _ ρ4) (some 40) (.ak h.length 0 0 (len+1)),_⟩ _;rw[cj];refine wD ?_;exact⟨_,St.aU ⟨rfl,rfl,rfl,rfl,rfl,rfl,trivial⟩⟩
 rintro s5 a5 w5 β5 ⟨ρ5,rfl⟩ R5 S5;have NL:min ([e]:List PV).length (len+1 - i)=1:=by show min 1 _=1;omega
 have yo:min ys.length (len+1 - (i+1))=len - i:=by omega
 have YC:ys.take (len - i)=ys:=abO (by omega)
 have AO:(h++[⟨.m,0,4,mD⟩]:ab).set h.length {(⟨.m,0,4,mD⟩:aw)with es:=mD.take i++[e].take (min ([e]:List PV).length (len+1 - i))++mD.drop (i+min ([e]:List PV).length (len+1 - i))}=h++[⟨.m,0,4,dL⟩]:=by
  rw[NL,set_push,oU];rfl
 have hh3:(h++[⟨.m,0,4,dL⟩]:ab).set h.length {(⟨.m,0,4,dL⟩:aw)with es:=dL.take (i+1)++ys.take (min ys.length (len+1 - (i+1)))++dL.drop (i+1+min ys.length (len+1 - (i+1)))}=h++[⟨.m,0,4,(o.es.take len).take i++[e]++(o.es.take len).drop i⟩]:=by
  rw[yo,set_push,YC,l5]
 refine cL K0 bX S0 (M:=λex s'=>ex=.ret/\∃ρ',s'=⟨al [(6,.ak h.length 0 0 (len+1))] ρ',h++[⟨.m,0,4,(o.es.take len).take i++[e]++(o.es.take len).drop i⟩]⟩) rfl ?_ R5 ?_
 ·refine wD ?_;apply R.slice
  ·exact rfl
  ·exact rfl
  ·exact rfl
  ·exact rfl
  ·exact cX hu sc (QX mD) (by omega) (by show len+1<=mD.length;omega)
  refine wD ?_;apply R.copy T6 (ys:=[e]) (o:=⟨.m,0,4,mD⟩) (sz:=4)
  ·exact rfl
  ·exact rfl
  ·exact rfl
  ·exact rfl
  ·exact rfl
  ·exact QX mD
  ·exact rfl
  ·exact rfl
  ·show i+(len+1 - i)<=mD.length;omega
  ·simp[Ct.1]
  ·simp only[NL,adq,adT,ace,acS,Ct.1,Ct.2.1];rfl
  rw[AO];refine wD ?_;apply D.slice
  ·exact GL
  ·exact rfl
  ·exact NJ dL
  ·exact rfl
  ·exact rfl
  ·exact rfl
  ·exact rfl
  ·exact rfl
  ·exact rfl
  ·show cf C0.P _ 132 (.ak h.length 0 0 (len+1)) (some (.int .i64 ((i:Int)+1))) none none=_;rw[hj];exact cX hu sc (QX dL) (by omega) (by show len+1<=dL.length;omega)
  refine wD ?_;apply D.slice
  ·exact GL
  ·exact rfl
  ·exact ij dL
  ·exact rfl
  ·exact rfl
  ·exact rfl
  ·exact rfl
  ·exact rfl
  ·exact rfl
  ·exact cX hu gM (YB dL) hi hle
  apply D.copy T6 (ys:=ys) (o:=⟨.m,0,4,dL⟩) (sz:=4)
  ·exact rfl
  ·exact rfl
  ·exact rfl
  ·exact rfl
  ·exact rfl
  ·simp only[cu,YB];rw[if_pos (by omega),pB]
  ·exact QX dL
  ·exact rfl
  ·exact rfl
  ·show i+1+(len+1 - (i+1))<=dL.length;omega
  ·rw[abk]
   intro v hv
   have:=abk.1 Gj v hv;unfold kX at this;simp only[abq]at this;exact this.1.2
  ·rw[yo,YC,abk]
   intro v hv
   have:=abk.1 Gj v hv;unfold kX at this;simp only[abq]at this ⊢;exact⟨this.1.2,this.2⟩
  refine aY.heap hh3 ?_;refine wD ?_;exact⟨rfl,_,St.aU ⟨rfl,trivial⟩⟩
 rintro ex s8 a8 w8 β8 ⟨rfl,ρ8,rfl⟩ R8 S8;have SS:=(((S1.trans S3).trans S5).trans S8);refine⟨.inr rfl,_,β8,R8,SS,[.ak h.length 0 0 (len+1)],?_,λu Vz=>⟨β8,Vz,R8.hr,SS⟩⟩
 ·exact eF (L:=[(6,.ak h.length 0 0 (len+1))]) rfl
 all_goals rfl
theorem D0:fL C0.P 215 iX:=by
 intro args h r h' e w F β vs H ha
 unfold iX at e
 split at e
 ·rename_i i fl e1
  split at e
  ·rename_i hc
   obtain⟨rfl,he⟩:=hc;obtain⟨rfl,rfl⟩:=abv (abi e);exact lB (sL rfl) (uK he) H ha
  ·cases e
 ·rename_i id ep len i fl e1
  split at e
  ·rename_i o hg
   split at e
   ·rename_i hc
    obtain⟨hm,hz,hle,XT,hi,hn,he,ga,dw⟩:=hc;obtain⟨rfl,rfl⟩:=abv (abi e);obtain⟨k,rfl⟩:=acF XT;have hk:k<=len:=by omega
    rw[show Int.toNat (k:Int)=k from rfl];obtain⟨g1,g2,g3⟩:=getM_some hg;have cG:=ag g1;obtain⟨bc,ot⟩:=du H.len g1;have kH:(o.es.take len).length=len:=by simp;omega
    by_cases Ae:k=len
    ·subst Ae
     have pu:(o.es.take k).take k++[e1]++(o.es.take k).drop k=o.es.take k++[e1]:=by
      rw[acE,Nat.min_self,abR (by omega),abJ]
     rw[pu];exact lB (sL rfl) (uL he hg hm hz hle hn) H ha
    ·have gv:k<len:=by omega
     by_cases nR:len+1<=bc.2
     ·-- there is room
      have hXc:(cells (PV.agg [.any,.any,.any,.any])).length=4:=rfl
      obtain⟨Hp,Sp⟩:=H.oV g1 ot hm (o.es.take len++[.agg [.any,.any,.any,.any]]) (ep+1) (by omega) (by simp;omega) (λi e he=>by
       rcases ab0 i len with lu |lu
       ·left
        rw[abj (by omega),abF,if_pos lu]at he;exact he
       ·right
        rw[abt (by omega)]at he;obtain rfl:=abP.1 (aby he);refine⟨by rw[hXc,hz],λp hp=>?_⟩;simp only[cells]at hp;simpa using hp)
      have yq:(h.set id {o with es:=o.es.take len++[.agg [.any,.any,.any,.any]],ep:=ep+1})[id]?=some {o with es:=o.es.take len++[.agg [.any,.any,.any,.any]],ep:=ep+1}:=abl cG
      have VC:aV (h.set id {o with es:=o.es.take len++[.agg [.any,.any,.any,.any]],ep:=ep+1})=true:=by
       refine mR (h:=h) (λi hi=>?_) (λo' h1=>?_) dw
       ·unfold aQ at hi ⊢
        by_cases Q9:i=id
        ·subst Q9;rw[yq];simp[hm]
        ·rw[abm (acd Q9)];exact hi
       ·rcases acR h1 with h1 |rfl
        ·exact .inr (.inr ⟨o',h1,rfl,λhh=>hh⟩)
        ·exact .inr (.inl (qQ (bj _ _ (l6 ga)) rfl))
      have mK:L2 (aE w (Av F (h.set id {o with es:=o.es.take len++[.agg [.any,.any,.any,.any]],ep:=ep+1}) β) β (h.set id {o with es:=o.es.take len++[.agg [.any,.any,.any,.any]],ep:=ep+1})) vs [.ak id (ep+1) 0 len,.int .i64 (k:Int),.aa fl [e1]]:=
       jC ha (λv hv=>aE.oV g1 ot hm hv g2 hle _ _) (λv hv=>hv.mono Sp) (λv hv=>hv.mono Sp)
      have cs:=uJ (o:={o with es:=o.es.take len++[.agg [.any,.any,.any,.any]],ep:=ep+1}) (X:=.agg [.any,.any,.any,.any]) (pre:=o.es.take len) Hp mK (bo yq rfl (by show o.mu≠.x;rw[hm];simp)) hm hz rfl kH gv hn ga rfl he VC;refine cs.mono ?_;rintro en w' ⟨v,β1,rfl,q1,q2,q3,_⟩;rw[acn]at q1 q2 q3;exact⟨v,β1,rfl,q1,q2,Sp.trans q3,λhh=>by omega⟩
     ·-- all is made anew
      obtain⟨p1,p2,p3,p4,p5,p6⟩:=bO o;have gl:getM (h.map bS) id ep=some (bS o):=bo (by rw[abB,g1];rfl) (by rw[p1];exact g2) (λhh=>g3 (p4.1 hh));have PW:∀b,Av (Av F h β) (h.map bS) β b->Av F h β b:=λb hb=>hb.elim (λhh=>hh) (λhm=>absurd hm (jD h β b))
      have cs:=ym (o:=bS o) (bc:=bc) H.lock (jC ha (λv hv=>hv.alike (gJ h) PW) (λv hv=>hv.alike (gJ h) PW) (λv hv=>hv.alike (gJ h) PW)) gl (by rw[p2];exact hz) (by rw[p3];exact hle) ot (by omega) gv hn (by rw[p3];exact ga) he (vF dw);rw[p3,acy]at cs;refine cs.mono ?_;rintro en w' ⟨v,β1,rfl,q1,q2,q3,_⟩;obtain⟨pw,GN⟩:∃pw,pw=(o.es.take len).take k++[e1]++(o.es.take len).drop k:=⟨_,rfl⟩;rw[<-GN]at q1 q2 q3 ⊢;have AX:pw.length=len+1:=by rw[GN];simp;omega
      have VD:pw.all (kX 4)=true:=by
       rw[abk]at ga ⊢
       intro x hx
       rw[GN]at hx;rcases abp.1 hx with hx |hx
       ·rcases abp.1 hx with hx |hx
        ·exact ga x (ab3 hx)
        ·obtain rfl:=abP.1 hx;exact he
       ·exact ga x (ab4 hx)
      have enew:(h.map bS++[(⟨.m,0,4,pw⟩:aw)])[h.length]?=some ⟨.m,0,4,pw⟩:=by
       rw[abt (by simp)];simp
      obtain⟨bn,sC⟩:=du q2.len enew;have mnew:Mb (h.map bS++[⟨.m,0,4,pw⟩]) β1 bn.1:=⟨h.length,_,bn,enew,sC,rfl,rfl⟩;obtain⟨T,ue,k1,k2,k3,k4,k5⟩:=(q2.obj h.length _ bn enew sC (by simp)).c (by simp)
      have Ac:w.heap.size<=bn.1:=by
       rcases ab0 bn.1 w.heap.size with hh |hh
       ·exact absurd (q3.shr bn.1 hh mnew) (jD h β bn.1)
       ·exact hh
      have hA:∀b,Av F (h.set id {o with es:=pw,ep:=ep+1}) (β.set id bn) b->Av (Av F h β) (h.map bS++[⟨.m,0,4,pw⟩]) β1 b:=by
       rintro b (hb |⟨eA,o',dm,JU,Ra,WY,YE⟩)
       ·exact .inl (.inl hb)
       ·by_cases bW:eA=id
        ·subst bW;rw[abl (by rw[H.len];exact cG)]at Ra;obtain rfl:=abi Ra;rw[<-YE];exact .inr mnew
        ·rw[abm (acd bW)]at JU Ra;exact .inl (.inr ⟨eA,o',dm,JU,Ra,WY,YE⟩)
      obtain⟨HH,SS⟩:=H.NN (w':=w') g1 ot hm T ue pw (ep+1) bn q3.size k1 (λb hb=>q3.aU b hb (jD h β b)) Ac (by omega) q3.os q3.tape q3.output k2 (by rw[hz];exact k3) (λi e Rb=>by
       obtain⟨m1,m2⟩:=k5 i e Rb;refine⟨by rw[hz];exact m1,λj p hp=>?_⟩;obtain⟨u,n1,n2⟩:=m2 j p hp
       have hv:aW e=true:=by
        have:=abk.1 VD e (aby Rb);unfold kX at this;simp only[abq]at this;exact this.1.1
       exact⟨u,by rw[hz];exact n1,n2.IU (JD hv p (aby hp)) hA⟩) q3.drawn
      obtain⟨_,_,m3⟩:=q1.dP;obtain⟨cap,c1,c2⟩:=m3 _ bn enew sC (by simp) rfl (by show 0+(len+1)<=pw.length;omega);refine⟨v,β.set id bn,rfl,?_,HH,SS,λhh=>by omega⟩;refine .ak v id (ep+1) 0 (len+1) {o with es:=pw,ep:=ep+1} bn ⟨_,_,_,c1⟩ (abl cG) (abl (by rw[H.len];exact cG)) (by show o.mu≠.x;rw[hm];simp) ⟨abn _,by show 0<o.bM;omega⟩ (λ_ _=>⟨cap,?_,c2⟩);rw[c1,ac6,ac6]
   ·cases e
  ·cases e
 ·cases e
end rC
end Go.Pm
namespace Go.Pm
open Go.Proofs
attribute [local irreducible] aD az aL aJ Ev ah aj ay aY
variable{w:World}{F:Nat->Prop}{β:List (Nat×Nat)}{h:ab}
namespace Zero
set_option maxRecDepth 100000
set_option maxHeartbeats 4000000
theorem MI{fl:Bool}{es:List PV}{vs:List Value}(H:bm w F β h)(ha:L2 (aE w (Av F h β) β h) vs [.aa fl es])(iK:dK 4 es)(hn:es.length<1000000000){r:PV}{h':ab}
  (hr:(es=[]/\r=.aa true []/\h'=h)\/(es≠[]/\r=.ak h.length 0 0 es.length/\h'=h++[⟨.m,0,4,es⟩])):mZ C0.P 2 w F β h 216 vs r h':=by
 refine jz (P:=C0.P) Tryz.func216 rfl H ha (λa RR=>?_);refine wp_seq ?_;refine cL K0 bX S0 (M:=λex s'=>ex=.normal/\∃ρ',s'=⟨al [(0,.aa fl es)] ρ',h⟩) rfl ?_ RR ?_
 ·rw[iB];refine wB ?_;exact⟨rfl,_,St.aU ⟨rfl,trivial⟩⟩
 rintro ex s' a1 w1 β1 ⟨rfl,ρ1,rfl⟩ R1 S1;refine wp_seq ?_;refine wp_seq ?_;apply bY K0 S0 (pre:=[_]) (post:=[]) (R:=R1) (M:=λs'=>∃ρ',s'=⟨al [(0,.aa fl es),(3,.aa fl es)] ρ',h⟩) (M2:=λs'=>∃bb ρ',s'=⟨al [(0,.aa fl es),(4,.bool bb)] ρ',h⟩/\(bb=true->es=[]))
 ·rfl
 ·rfl
 ·refine wB ?_;exact⟨_,St.aU ⟨rfl,rfl,trivial⟩⟩
 ·rintro s1 a2 w2 β2 ⟨ρ2,rfl⟩ R2 S2;obtain⟨bb,hb,os⟩:=jS (t:=132) (yt:=132) (el:=33) (x:=.tmp 3) (fl:=fl) (es:=es) R2.hr R2.er (bz (T6.cT 132 _ rfl)) (dC (L:=[(0,.aa fl es),(3,.aa fl es)]) (t:=3) rfl ρ2);refine⟨.bool bb,h,os _ rfl,ah.nil ⟨bb,al ((4,.bool bb)::[(0,.aa fl es),(3,.aa fl es)]) ρ2,?_,hb⟩⟩;show(⟨cd (al [(0,.aa fl es),(3,.aa fl es)] ρ2) (some 4) (.bool bb),h⟩:St)=_;rw[cj];exact St.aU ⟨rfl,rfl,trivial⟩
 rintro s3 a3 w3 β3 ⟨bb,ρ3,rfl,hb⟩ R3 S3
 cases bb
 ·refine cL K0 bX S0 (M:=λex s'=>ex=.normal/\∃ρ',s'=⟨al [(0,.aa fl es)] ρ',h⟩) rfl ?_ R3 ?_
  ·refine wB ?_;exact⟨rfl,_,St.aU ⟨rfl,trivial⟩⟩
  rintro ex s' a4 w4 β4 ⟨rfl,ρ4,rfl⟩ R4 S4;refine cL K0 bX S0 (M:=λex s'=>ex=.ret/\∃ρ',s'=⟨al [(2,r)] ρ',h'⟩) rfl ?_ R4 ?_
  ·refine wB ?_;rcases hr with⟨rfl,rfl,rfl⟩|⟨bN,rfl,rfl⟩
   ·apply R.lU T6;exact rfl;exact rfl;exact rfl;exact rfl;exact rfl;exact rfl;exact rfl;exact(by decide);exact rfl;exact rfl;refine wB ?_;exact⟨rfl,_,St.aU ⟨rfl,trivial⟩⟩
   ·apply R.jy T6;exact rfl;exact rfl;exact rfl;exact rfl;exact rfl;exact rfl;exact rfl;exact(by decide);exact rfl;exact rfl;exact iK;exact bN;exact hn;refine wB ?_;exact⟨rfl,_,St.aU ⟨rfl,trivial⟩⟩
  rintro ex s5 a5 w5 β5 ⟨rfl,ρ5,rfl⟩ R5 S5;refine⟨.inr rfl,_,β5,R5,((S1.trans S3).trans S4).trans S5,[r],?_,λu hu=>⟨β5,hu,R5.hr,((S1.trans S3).trans S4).trans S5⟩⟩;exact eF (L:=[(2,r)]) rfl
 ·obtain rfl:=hb rfl;rcases hr with⟨_,rfl,rfl⟩|⟨bN,_⟩
  ·refine cL K0 bX S0 (M:=λex s'=>ex=.ret/\∃ρ',s'=⟨al [(2,.aa true [])] ρ',h'⟩) rfl ?_ R3 ?_
   ·refine wB ?_;exact⟨rfl,_,St.aU ⟨rfl,trivial⟩⟩
   rintro ex s5 a5 w5 β5 ⟨rfl,ρ5,rfl⟩ R5 S5;refine⟨.inr rfl,_,β5,R5,(S1.trans S3).trans S5,[.aa true []],?_,λu hu=>⟨β5,hu,R5.hr,(S1.trans S3).trans S5⟩⟩;exact eF (L:=[(2,.aa true [])]) rfl
  ·exact absurd rfl bN
 ·rfl
end Zero
set_option maxRecDepth 100000
set_option maxHeartbeats 4000000
theorem F4:fL C.P 216 (bG 4):=by
 intro args h r h' e w F β vs H ha
 unfold bG at e
 split at e
 ·rename_i fl es
  split at e
  ·rename_i xR
   obtain⟨rfl,rfl⟩:=abv (abi e);obtain rfl:es=[]:=by simpa using xR
   exact Zero.MI H ha rfl (by simp) (.inl ⟨rfl,rfl,rfl⟩)
  ·rename_i xR
   split at e
   ·rename_i hc
    obtain⟨rfl,rfl⟩:=abv (abi e);exact Zero.MI H ha hc.1 hc.2 (.inr ⟨by simpa using xR,rfl,rfl⟩)
   ·cases e
 ·cases e
namespace Zero
theorem MJ{fl:Bool}{es:List PV}{vs:List Value}(H:bm w F β h)(ha:L2 (aE w (Av F h β) β h) vs [.aa fl es])(iK:dK 5 es)(hn:es.length<1000000000){r:PV}{h':ab}
  (hr:(es=[]/\r=.aa true []/\h'=h)\/(es≠[]/\r=.ak h.length 0 0 es.length/\h'=h++[⟨.m,0,5,es⟩])):mZ C0.P 2 w F β h 370 vs r h':=by
 refine jz (P:=C0.P) Tryz.func370 rfl H ha (λa RR=>?_);refine wp_seq ?_;refine cL K0 bX S0 (M:=λex s'=>ex=.normal/\∃ρ',s'=⟨al [(0,.aa fl es)] ρ',h⟩) rfl ?_ RR ?_
 ·rw[iB];refine wB ?_;exact⟨rfl,_,St.aU ⟨rfl,trivial⟩⟩
 rintro ex s' a1 w1 β1 ⟨rfl,ρ1,rfl⟩ R1 S1;refine wp_seq ?_;refine wp_seq ?_;apply bY K0 S0 (pre:=[_]) (post:=[]) (R:=R1) (M:=λs'=>∃ρ',s'=⟨al [(0,.aa fl es),(3,.aa fl es)] ρ',h⟩) (M2:=λs'=>∃bb ρ',s'=⟨al [(0,.aa fl es),(4,.bool bb)] ρ',h⟩/\(bb=true->es=[]))
 ·rfl
 ·rfl
 ·refine wB ?_;exact⟨_,St.aU ⟨rfl,rfl,trivial⟩⟩
 ·rintro s1 a2 w2 β2 ⟨ρ2,rfl⟩ R2 S2;obtain⟨bb,hb,os⟩:=jS (t:=175) (yt:=175) (el:=187) (x:=.tmp 3) (fl:=fl) (es:=es) R2.hr R2.er (bz (T6.cT 175 _ rfl)) (dC (L:=[(0,.aa fl es),(3,.aa fl es)]) (t:=3) rfl ρ2);refine⟨.bool bb,h,os _ rfl,ah.nil ⟨bb,al ((4,.bool bb)::[(0,.aa fl es),(3,.aa fl es)]) ρ2,?_,hb⟩⟩;show(⟨cd (al [(0,.aa fl es),(3,.aa fl es)] ρ2) (some 4) (.bool bb),h⟩:St)=_;rw[cj];exact St.aU ⟨rfl,rfl,trivial⟩
 rintro s3 a3 w3 β3 ⟨bb,ρ3,rfl,hb⟩ R3 S3
 cases bb
 ·refine cL K0 bX S0 (M:=λex s'=>ex=.normal/\∃ρ',s'=⟨al [(0,.aa fl es)] ρ',h⟩) rfl ?_ R3 ?_
  ·refine wB ?_;exact⟨rfl,_,St.aU ⟨rfl,trivial⟩⟩
  rintro ex s' a4 w4 β4 ⟨rfl,ρ4,rfl⟩ R4 S4;refine cL K0 bX S0 (M:=λex s'=>ex=.ret/\∃ρ',s'=⟨al [(2,r)] ρ',h'⟩) rfl ?_ R4 ?_
  ·refine wB ?_;rcases hr with⟨rfl,rfl,rfl⟩|⟨bN,rfl,rfl⟩
   ·apply R.lU T6;exact rfl;exact rfl;exact rfl;exact rfl;exact rfl;exact rfl;exact rfl;exact(by decide);exact rfl;exact rfl;refine wB ?_;exact⟨rfl,_,St.aU ⟨rfl,trivial⟩⟩
   ·apply R.jy T6;exact rfl;exact rfl;exact rfl;exact rfl;exact rfl;exact rfl;exact rfl;exact(by decide);exact rfl;exact rfl;exact iK;exact bN;exact hn;refine wB ?_;exact⟨rfl,_,St.aU ⟨rfl,trivial⟩⟩
  rintro ex s5 a5 w5 β5 ⟨rfl,ρ5,rfl⟩ R5 S5;refine⟨.inr rfl,_,β5,R5,((S1.trans S3).trans S4).trans S5,[r],?_,λu hu=>⟨β5,hu,R5.hr,((S1.trans S3).trans S4).trans S5⟩⟩;exact eF (L:=[(2,r)]) rfl
 ·obtain rfl:=hb rfl;rcases hr with⟨_,rfl,rfl⟩|⟨bN,_⟩
  ·refine cL K0 bX S0 (M:=λex s'=>ex=.ret/\∃ρ',s'=⟨al [(2,.aa true [])] ρ',h'⟩) rfl ?_ R3 ?_
   ·refine wB ?_;exact⟨rfl,_,St.aU ⟨rfl,trivial⟩⟩
   rintro ex s5 a5 w5 β5 ⟨rfl,ρ5,rfl⟩ R5 S5;refine⟨.inr rfl,_,β5,R5,(S1.trans S3).trans S5,[.aa true []],?_,λu hu=>⟨β5,hu,R5.hr,(S1.trans S3).trans S5⟩⟩;exact eF (L:=[(2,.aa true [])]) rfl
  ·exact absurd rfl bN
 ·rfl
end Zero
theorem F5:fL C.P 370 (bG 5):=by
 intro args h r h' e w F β vs H ha
 unfold bG at e
 split at e
 ·rename_i fl es
  split at e
  ·rename_i xR
   obtain⟨rfl,rfl⟩:=abv (abi e);obtain rfl:es=[]:=by simpa using xR
   exact Zero.MJ H ha rfl (by simp) (.inl ⟨rfl,rfl,rfl⟩)
  ·rename_i xR
   split at e
   ·rename_i hc
    obtain⟨rfl,rfl⟩:=abv (abi e);exact Zero.MJ H ha hc.1 hc.2 (.inr ⟨by simpa using xR,rfl,rfl⟩)
   ·cases e
 ·cases e
namespace Zero
theorem MH{fl:Bool}{es:List PV}{vs:List Value}(H:bm w F β h)(ha:L2 (aE w (Av F h β) β h) vs [.aa fl es])(iK:dK 5 es)(hn:es.length<1000000000){r:PV}{h':ab}
  (hr:(es=[]/\r=.aa true []/\h'=h)\/(es≠[]/\r=.ak h.length 0 0 es.length/\h'=h++[⟨.m,0,5,es⟩])):mZ C0.P 2 w F β h 15 vs r h':=by
 refine jz (P:=C0.P) Tryz.func15 rfl H ha (λa RR=>?_);refine wp_seq ?_;refine cL K0 bX S0 (M:=λex s'=>ex=.normal/\∃ρ',s'=⟨al [(0,.aa fl es)] ρ',h⟩) rfl ?_ RR ?_
 ·rw[iB];refine wB ?_;exact⟨rfl,_,St.aU ⟨rfl,trivial⟩⟩
 rintro ex s' a1 w1 β1 ⟨rfl,ρ1,rfl⟩ R1 S1;refine wp_seq ?_;refine wp_seq ?_;apply bY K0 S0 (pre:=[_]) (post:=[]) (R:=R1) (M:=λs'=>∃ρ',s'=⟨al [(0,.aa fl es),(3,.aa fl es)] ρ',h⟩) (M2:=λs'=>∃bb ρ',s'=⟨al [(0,.aa fl es),(4,.bool bb)] ρ',h⟩/\(bb=true->es=[]))
 ·rfl
 ·rfl
 ·refine wB ?_;exact⟨_,St.aU ⟨rfl,rfl,trivial⟩⟩
 ·rintro s1 a2 w2 β2 ⟨ρ2,rfl⟩ R2 S2;obtain⟨bb,hb,os⟩:=jS (t:=22) (yt:=22) (el:=35) (x:=.tmp 3) (fl:=fl) (es:=es) R2.hr R2.er (bz (T6.cT 22 _ rfl)) (dC (L:=[(0,.aa fl es),(3,.aa fl es)]) (t:=3) rfl ρ2);refine⟨.bool bb,h,os _ rfl,ah.nil ⟨bb,al ((4,.bool bb)::[(0,.aa fl es),(3,.aa fl es)]) ρ2,?_,hb⟩⟩;show(⟨cd (al [(0,.aa fl es),(3,.aa fl es)] ρ2) (some 4) (.bool bb),h⟩:St)=_;rw[cj];exact St.aU ⟨rfl,rfl,trivial⟩
 rintro s3 a3 w3 β3 ⟨bb,ρ3,rfl,hb⟩ R3 S3
 cases bb
 ·refine cL K0 bX S0 (M:=λex s'=>ex=.normal/\∃ρ',s'=⟨al [(0,.aa fl es)] ρ',h⟩) rfl ?_ R3 ?_
  ·refine wB ?_;exact⟨rfl,_,St.aU ⟨rfl,trivial⟩⟩
  rintro ex s' a4 w4 β4 ⟨rfl,ρ4,rfl⟩ R4 S4;refine cL K0 bX S0 (M:=λex s'=>ex=.ret/\∃ρ',s'=⟨al [(2,r)] ρ',h'⟩) rfl ?_ R4 ?_
  ·refine wB ?_;rcases hr with⟨rfl,rfl,rfl⟩|⟨bN,rfl,rfl⟩
   ·apply R.lU T6;exact rfl;exact rfl;exact rfl;exact rfl;exact rfl;exact rfl;exact rfl;exact(by decide);exact rfl;exact rfl;refine wB ?_;exact⟨rfl,_,St.aU ⟨rfl,trivial⟩⟩
   ·apply R.jy T6;exact rfl;exact rfl;exact rfl;exact rfl;exact rfl;exact rfl;exact rfl;exact(by decide);exact rfl;exact rfl;exact iK;exact bN;exact hn;refine wB ?_;exact⟨rfl,_,St.aU ⟨rfl,trivial⟩⟩
  rintro ex s5 a5 w5 β5 ⟨rfl,ρ5,rfl⟩ R5 S5;refine⟨.inr rfl,_,β5,R5,((S1.trans S3).trans S4).trans S5,[r],?_,λu hu=>⟨β5,hu,R5.hr,((S1.trans S3).trans S4).trans S5⟩⟩;exact eF (L:=[(2,r)]) rfl
 ·obtain rfl:=hb rfl;rcases hr with⟨_,rfl,rfl⟩|⟨bN,_⟩
  ·refine cL K0 bX S0 (M:=λex s'=>ex=.ret/\∃ρ',s'=⟨al [(2,.aa true [])] ρ',h'⟩) rfl ?_ R3 ?_
   ·refine wB ?_;exact⟨rfl,_,St.aU ⟨rfl,trivial⟩⟩
   rintro ex s5 a5 w5 β5 ⟨rfl,ρ5,rfl⟩ R5 S5;refine⟨.inr rfl,_,β5,R5,(S1.trans S3).trans S5,[.aa true []],?_,λu hu=>⟨β5,hu,R5.hr,(S1.trans S3).trans S5⟩⟩;exact eF (L:=[(2,.aa true [])]) rfl
  ·exact absurd rfl bN
 ·rfl
end Zero
theorem F1:fL C.P 15 (bG 5):=by
 intro args h r h' e w F β vs H ha
 unfold bG at e
 split at e
 ·rename_i fl es
  split at e
  ·rename_i xR
   obtain⟨rfl,rfl⟩:=abv (abi e);obtain rfl:es=[]:=by simpa using xR
   exact Zero.MH H ha rfl (by simp) (.inl ⟨rfl,rfl,rfl⟩)
  ·rename_i xR
   split at e
   ·rename_i hc
    obtain⟨rfl,rfl⟩:=abv (abi e);exact Zero.MH H ha hc.1 hc.2 (.inr ⟨by simpa using xR,rfl,rfl⟩)
   ·cases e
 ·cases e
namespace Zero
theorem MF{fl:Bool}{es:List PV}{vs:List Value}(H:bm w F β h)(ha:L2 (aE w (Av F h β) β h) vs [.aa fl es])(iK:dK 8 es)(hn:es.length<1000000000){r:PV}{h':ab}
  (hr:(es=[]/\r=.aa true []/\h'=h)\/(es≠[]/\r=.ak h.length 0 0 es.length/\h'=h++[⟨.m,0,8,es⟩])):mZ C0.P 2 w F β h 16 vs r h':=by
 refine jz (P:=C0.P) Tryz.func16 rfl H ha (λa RR=>?_);refine wp_seq ?_;refine cL K0 bX S0 (M:=λex s'=>ex=.normal/\∃ρ',s'=⟨al [(0,.aa fl es)] ρ',h⟩) rfl ?_ RR ?_
 ·rw[iB];refine wB ?_;exact⟨rfl,_,St.aU ⟨rfl,trivial⟩⟩
 rintro ex s' a1 w1 β1 ⟨rfl,ρ1,rfl⟩ R1 S1;refine wp_seq ?_;refine wp_seq ?_;apply bY K0 S0 (pre:=[_]) (post:=[]) (R:=R1) (M:=λs'=>∃ρ',s'=⟨al [(0,.aa fl es),(3,.aa fl es)] ρ',h⟩) (M2:=λs'=>∃bb ρ',s'=⟨al [(0,.aa fl es),(4,.bool bb)] ρ',h⟩/\(bb=true->es=[]))
 ·rfl
 ·rfl
 ·refine wB ?_;exact⟨_,St.aU ⟨rfl,rfl,trivial⟩⟩
 ·rintro s1 a2 w2 β2 ⟨ρ2,rfl⟩ R2 S2;obtain⟨bb,hb,os⟩:=jS (t:=23) (yt:=23) (el:=38) (x:=.tmp 3) (fl:=fl) (es:=es) R2.hr R2.er (bz (T6.cT 23 _ rfl)) (dC (L:=[(0,.aa fl es),(3,.aa fl es)]) (t:=3) rfl ρ2);refine⟨.bool bb,h,os _ rfl,ah.nil ⟨bb,al ((4,.bool bb)::[(0,.aa fl es),(3,.aa fl es)]) ρ2,?_,hb⟩⟩;show(⟨cd (al [(0,.aa fl es),(3,.aa fl es)] ρ2) (some 4) (.bool bb),h⟩:St)=_;rw[cj];exact St.aU ⟨rfl,rfl,trivial⟩
 rintro s3 a3 w3 β3 ⟨bb,ρ3,rfl,hb⟩ R3 S3
 cases bb
 ·refine cL K0 bX S0 (M:=λex s'=>ex=.normal/\∃ρ',s'=⟨al [(0,.aa fl es)] ρ',h⟩) rfl ?_ R3 ?_
  ·refine wB ?_;exact⟨rfl,_,St.aU ⟨rfl,trivial⟩⟩
  rintro ex s' a4 w4 β4 ⟨rfl,ρ4,rfl⟩ R4 S4;refine cL K0 bX S0 (M:=λex s'=>ex=.ret/\∃ρ',s'=⟨al [(2,r)] ρ',h'⟩) rfl ?_ R4 ?_
  ·refine wB ?_;rcases hr with⟨rfl,rfl,rfl⟩|⟨bN,rfl,rfl⟩
   ·apply R.lU T6;exact rfl;exact rfl;exact rfl;exact rfl;exact rfl;exact rfl;exact rfl;exact(by decide);exact rfl;exact rfl;refine wB ?_;exact⟨rfl,_,St.aU ⟨rfl,trivial⟩⟩
   ·apply R.jy T6;exact rfl;exact rfl;exact rfl;exact rfl;exact rfl;exact rfl;exact rfl;exact(by decide);exact rfl;exact rfl;exact iK;exact bN;exact hn;refine wB ?_;exact⟨rfl,_,St.aU ⟨rfl,trivial⟩⟩
  rintro ex s5 a5 w5 β5 ⟨rfl,ρ5,rfl⟩ R5 S5;refine⟨.inr rfl,_,β5,R5,((S1.trans S3).trans S4).trans S5,[r],?_,λu hu=>⟨β5,hu,R5.hr,((S1.trans S3).trans S4).trans S5⟩⟩;exact eF (L:=[(2,r)]) rfl
 ·obtain rfl:=hb rfl;rcases hr with⟨_,rfl,rfl⟩|⟨bN,_⟩
  ·refine cL K0 bX S0 (M:=λex s'=>ex=.ret/\∃ρ',s'=⟨al [(2,.aa true [])] ρ',h'⟩) rfl ?_ R3 ?_
   ·refine wB ?_;exact⟨rfl,_,St.aU ⟨rfl,trivial⟩⟩
   rintro ex s5 a5 w5 β5 ⟨rfl,ρ5,rfl⟩ R5 S5;refine⟨.inr rfl,_,β5,R5,(S1.trans S3).trans S5,[.aa true []],?_,λu hu=>⟨β5,hu,R5.hr,(S1.trans S3).trans S5⟩⟩;exact eF (L:=[(2,.aa true [])]) rfl
  ·exact absurd rfl bN
 ·rfl
end Zero
theorem F0:fL C.P 16 (bG 8):=by
 intro args h r h' e w F β vs H ha
 unfold bG at e
 split at e
 ·rename_i fl es
  split at e
  ·rename_i xR
   obtain⟨rfl,rfl⟩:=abv (abi e);obtain rfl:es=[]:=by simpa using xR
   exact Zero.MF H ha rfl (by simp) (.inl ⟨rfl,rfl,rfl⟩)
  ·rename_i xR
   split at e
   ·rename_i hc
    obtain⟨rfl,rfl⟩:=abv (abi e);exact Zero.MF H ha hc.1 hc.2 (.inr ⟨by simpa using xR,rfl,rfl⟩)
   ·cases e
 ·cases e
theorem DC{a:Act}{ρ:Nat->PV}(H:bm w F β h)(R:iz w (Av F h β) β h a ρ){t yt el:TypeId}{x:Operand}{id ep:Nat}{mu:Mu}{sz:Nat}{es:List PV}(hu:C0.P.underlying t=some (.slice el))(hx:ev ρ x=.ak id ep 0 es.length)(he:h[id]?=some ⟨mu,ep,sz,es⟩):
  ∀o:Oper,o.op=.binOp .eql t x (.const (.slice none 0 0)) yt->wg C0.P 2 w F β h (execOp a.eval o) (.bool false) h:=by
 have hv:=R.ev x;rw[hx]at hv
 obtain⟨ad,cap,e1⟩:∃ad cap,a.eval x=.slice (some ad) es.length cap:=by
  generalize a.eval x=v at hv
  cases hv with
  |ak v id ep off len o bc h1 h2 h3 h4 h5 h6=>
   rw[he]at h2;obtain rfl:=abi h2;obtain⟨cap,e,_⟩:=h6 rfl (by simp);exact⟨_,cap,e⟩
  |val hs=>cases hs
 intro o ho
 refine⟨.bool false,w,β,.inl ?_,.val (.bool _),H,eg.refl w h β,λ_=>dH.refl w⟩;obtain⟨d,op,ty,pos,af,g⟩:=o;simp only at ho;subst ho;have h2:a.eval (.const (.slice none 0 0))=.slice none 0 0:=rfl;have g1:(eqGuard .eql t x (.const (.slice none 0 0)) (.slice (some ad) es.length cap) (.slice none 0 0)).run C0.P w=.ok () w:=by simp[eqGuard]
 have g2:(binOp .eql t (.slice (some ad) es.length cap) (.slice none 0 0)).run C0.P w=.ok (.bool false) w:=by
  simp only[binOp];simp[run_equal_slice_nil w t el (some ad) es.length cap hu]
 simp only[execOp,e1,h2,Sem.run_bind,g1,g2,Result.andThen_ok,Sem.run_pure]
theorem R.MK{C:cR}(T:lQ C.P){ops:Array Oper}{d:Nat}{ty:TypeId}{pos:String}{af:Array Edge}{r:List Oper}{ρ:Nat->PV}{L:List (Nat×PV)}{Q:St->Prop}{st xt el rk:TypeId}{sz gh id ep:Nat}{mu:Mu}{z:PV}{ys:List PV}{x y:Operand}(hx:cM L x=some (.aa true []))(hy:cM L y=some (.ak id ep 0 ys.length))(he:h[id]?=some ⟨mu,ep,sz+1,ys⟩)(Aa:mu≠.x)(hk:T.kd st=some (.sl el))(gv:T.kd xt=some (.sl rk))(hs:T.ts el=some (sz+1))(hb:T.tb el=some gh)(hz:T.tz el=some z)
  (jo:gh<=1000) (hl:(cells z).length=sz+1) (ho:(cells z).all bH=true) (AQ:dK (sz+1) ys) (bN:ys≠[]) (hn:ys.length<1000000000) (kk:ah C ops r ⟨al ((d,.ak h.length 0 0 ys.length)::L) ρ,h++[⟨.m,0,sz+1,ys⟩]⟩ Q):
  ah C ops (⟨some d,.call ⟨.builtin .append,#[x,y],#[st,xt]⟩,ty,pos,af,none⟩::r) ⟨al L ρ,h⟩ Q:=by
 refine ah.fe (λrun=>?_) kk;have cr:cu h (.ak id ep 0 ys.length)=some ys:=by simp[cu,getM,he,Aa]
 have Cb:ys.isEmpty=false:=by cases ys with |nil=>exact absurd rfl bN |cons=>rfl
 have mK:bP C.P 2 h st xt (.aa true []) (.ak id ep 0 ys.length)=some (.ak h.length 0 0 ys.length,h++[⟨.m,0,sz+1,ys⟩]):=by
  unfold bP;rw[bz (T.cT _ _ hk)];simp only[T.dV _ _ hs,T.rU _ _ hb,T.nt _ _ hz,cC,bz (T.cT _ _ gv),cr];unfold dK at AQ;rw[if_pos ⟨by omega,by omega,⟨hl,ho⟩,AQ⟩];simp[Cb,jv hn jo,newObj]
 simp only[au,bt,abD,abM,an hx,an hy,mK]
namespace Zero
theorem Qt{id ep:Nat}{mu:Mu}{es:List PV}{vs:List Value}(H:bm w F β h)(ha:L2 (aE w (Av F h β) β h) vs [.ak id ep 0 es.length])(he:h[id]?=some ⟨mu,ep,8,es⟩)(Aa:mu≠.x)(iK:dK 8 es)(hn:es.length<1000000000)(bN:es≠[]):
  mZ C0.P 2 w F β h 16 vs (.ak h.length 0 0 es.length) (h++[⟨.m,0,8,es⟩]):=by
 refine jz (P:=C0.P) Tryz.func16 rfl H ha (λa RR=>?_);refine wp_seq ?_;refine cL K0 bX S0 (M:=λex s'=>ex=.normal/\∃ρ',s'=⟨al [(0,.ak id ep 0 es.length)] ρ',h⟩) rfl ?_ RR ?_
 ·rw[iB];refine wB ?_;exact⟨rfl,_,St.aU ⟨rfl,trivial⟩⟩
 rintro ex s' a1 w1 β1 ⟨rfl,ρ1,rfl⟩ R1 S1;refine wp_seq ?_;refine wp_seq ?_;apply bY K0 S0 (pre:=[_]) (post:=[]) (R:=R1) (M:=λs'=>∃ρ',s'=⟨al [(0,.ak id ep 0 es.length),(3,.ak id ep 0 es.length)] ρ',h⟩) (M2:=λs'=>∃ρ',s'=⟨al [(0,.ak id ep 0 es.length),(4,.bool false)] ρ',h⟩)
 ·rfl
 ·rfl
 ·refine wB ?_;exact⟨_,St.aU ⟨rfl,rfl,trivial⟩⟩
 ·rintro s1 a2 w2 β2 ⟨ρ2,rfl⟩ R2 S2;have os:=DC (t:=23) (yt:=23) (el:=38) (x:=.tmp 3) R2.hr R2.er (bz (T6.cT 23 _ rfl)) (dC (L:=[(0,.ak id ep 0 es.length),(3,.ak id ep 0 es.length)]) (t:=3) rfl ρ2) he;refine⟨.bool false,h,os _ rfl,ah.nil ⟨al ((4,.bool false)::[(0,.ak id ep 0 es.length),(3,.ak id ep 0 es.length)]) ρ2,?_⟩⟩;show(⟨cd (al [(0,.ak id ep 0 es.length),(3,.ak id ep 0 es.length)] ρ2) (some 4) (.bool false),h⟩:St)=_;rw[cj];exact St.aU ⟨rfl,rfl,trivial⟩
 rintro s3 a3 w3 β3 ⟨ρ3,rfl⟩ R3 S3;refine cL K0 bX S0 (M:=λex s'=>ex=.normal/\∃ρ',s'=⟨al [(0,.ak id ep 0 es.length)] ρ',h⟩) rfl ?_ R3 ?_
 ·refine wB ?_;exact⟨rfl,_,St.aU ⟨rfl,trivial⟩⟩
 rintro ex s' a4 w4 β4 ⟨rfl,ρ4,rfl⟩ R4 S4;refine cL K0 bX S0 (M:=λex s'=>ex=.ret/\∃ρ',s'=⟨al [(2,.ak h.length 0 0 es.length)] ρ',h++[⟨.m,0,8,es⟩]⟩) rfl ?_ R4 ?_
 ·refine wB ?_;apply R.MK T6;exact rfl;exact rfl;exact he;exact Aa;exact rfl;exact rfl;exact rfl;exact rfl;exact rfl;exact(by decide);exact rfl;exact rfl;exact iK;exact bN;exact hn;refine wB ?_;exact⟨rfl,_,St.aU ⟨rfl,trivial⟩⟩
 rintro ex s5 a5 w5 β5 ⟨rfl,ρ5,rfl⟩ R5 S5;refine⟨.inr rfl,_,β5,R5,((S1.trans S3).trans S4).trans S5,[.ak h.length 0 0 es.length],?_,λu hu=>⟨β5,hu,R5.hr,((S1.trans S3).trans S4).trans S5⟩⟩;exact eF (L:=[(2,.ak h.length 0 0 es.length)]) rfl
 rfl
end Zero
def rY(bM:Nat)(args:List PV)(h:ab):Option (PV×ab):=
 match args with
 |[.ak id ep off len]=>match h[id]? with
  |some o=>if o.mu≠.x/\o.ep=ep/\o.bM=bM/\off=0/\len=o.es.length/\o.es≠[]/\o.es.all (λv=>decide ((cells v).length=bM)&& (cells v).all bH)=true/\o.es.length<1000000000 then some (.ak h.length 0 0 o.es.length,newObj h bM o.es)else none
  |none=>none
 |args=>bG bM args h
theorem F6:fL C.P 16 (rY 8):=by
 intro args h r h' e w F β vs H ha
 unfold rY at e
 split at e
 ·rename_i id ep off len
  split at e
  ·rename_i o ho
   split at e
   ·rename_i hc
    obtain⟨rfl,rfl⟩:=abv (abi e);obtain⟨h1,rfl,h3,rfl,rfl,h6,h7,h8⟩:=hc;obtain⟨mu,ep,bM,es⟩:=o;simp only at *;subst h3;exact Zero.Qt H ha ho h1 h7 h8 h6
   ·cases e
  ·cases e
 ·exact F0 _ _ _ _ e _ _ _ _ H ha
end Go.Pm
namespace Go.Pm
namespace bE
open Go.Proofs
set_option maxRecDepth 100000
abbrev PrL:=List PV->ab->Option (PV×ab)
def tG:List (FuncId×PrL):=[(161,qk),(215,iX),(216,bG 4),(370,bG 5),(15,bG 5),(16,rY 8)]
def EQ(f:FuncId):Mode:=match tG.lookup f with |some g=>.cS g |none=>jP f
noncomputable def C:cR:=⟨Go.Pm.C.P,EQ⟩
noncomputable def T6:lQ C.P:=Go.Pm.T6
theorem Ho{α:Type}{l:List (Nat×α)}{f:Nat}{g:α}(h:l.lookup f=some g):(f,g)∈l:=by
 induction l with
 |nil=>cases h
 |cons x l ih=>
  obtain⟨a,b⟩:=x;simp only[List.lookup]at h
  split at h
  ·rename_i he
   obtain rfl:=abi h;rw[eq_of_beq he];simp
  ·exact adM _ (ih h)
theorem jh(f:FuncId):(∃g,(f,g)∈tG/\EQ f=.cS g)\/EQ f=jP f:=by
 unfold EQ
 cases h:tG.lookup f with
 |none=>exact .inr rfl
 |some g=>exact .inl ⟨g,Ho h,rfl⟩
theorem OD(x:FuncId×PrL)(h:x∈tG):jP x.1=.no:=by
 simp only[tG,abu,List.mem_nil_iff,or_false]at h
 repeat' (first |(rcases h with rfl |h)|subst h |fail)
 all_goals rfl
theorem KM(x:FuncId×PrL)(h:x∈tG):fL C.P x.1 x.2:=by
 simp only[tG,abu,List.mem_nil_iff,or_false]at h
 repeat' (first |(rcases h with rfl |h)|subst h |fail)
 all_goals first |exact OE |exact rC.D0 |exact F4 |exact F5 |exact F1 |exact F6
theorem OF (x : FuncId × PrL) (h : x ∈ tG) : ∃ fn, C.P.funcs[x.1]? = some fn ∧ fn.body.isSome = true ∧ (fn.name == "runtime.NumGoroutine") = false := by
 simp only[tG,abu,List.mem_nil_iff,or_false]at h
 repeat' (first |(rcases h with rfl |h)|subst h |fail)
 all_goals first
  |exact⟨_,Tryz.func161,by kernel_rfl,by kernel_rfl⟩
  |exact⟨_,Tryz.func215,by kernel_rfl,by kernel_rfl⟩
  |exact⟨_,Tryz.func216,by kernel_rfl,by kernel_rfl⟩
  |exact⟨_,Tryz.func370,by kernel_rfl,by kernel_rfl⟩
  |exact⟨_,Tryz.func15,by kernel_rfl,by kernel_rfl⟩
  |exact⟨_,Tryz.func16,by kernel_rfl,by kernel_rfl⟩
theorem TS:BC jP EQ:=λf=>by
 rcases jh f with⟨g,h,_⟩|h
 ·exact .inl (OD _ h)
 ·exact .inr h.symm
theorem _root_.Go.Pm.aI.nine{f:FuncId}{args:List PV}{r:PV}(a:aI Go.Pm.C f args r):aI C f args r:=aI.up TS a
theorem _root_.Go.Pm.ay.nine{f:FuncId}{args:List PV}{h:ab}{Q:PV->ab->Prop}(a:ay Go.Pm.C f args h Q):ay C f args h Q:=ay.up TS a
theorem V4:gu C where
 enters f hf bN:=by
  rcases jh f with⟨g,h,_⟩|h
  ·exact OF _ h
  ·exact yr.enters f (λh2=>hf (h.trans h2)) (λg h2=>bN g (h.trans h2))
 sF f g hh:=by
  rcases jh f with⟨g',_,h⟩|h
  ·cases h.symm.trans hh
  ·exact yr.sF f g (h.symm.trans hh)
 cS f g hh:=by
  rcases jh f with⟨g',h1,h⟩|h
  ·obtain rfl:=Mode.cS.inj (h.symm.trans hh);exact KM _ h1
  ·exact yr.cS f g (h.symm.trans hh)
 ext f g hh:=by
  rcases jh f with⟨g',_,h⟩|h
  ·cases h.symm.trans hh
  ·exact yr.ext f g (h.symm.trans hh)
theorem Ow:qD C where
 mixed:=pM.mixed
 Df f fn c hm hf hb:=by
  rcases jh f with⟨g',_,h⟩|h
  ·rcases hm with hm |hm <;>cases h.symm.trans hm
  ·exact pM.Df f fn c (hm.imp (λh2=>h.symm.trans h2) (λh2=>h.symm.trans h2)) hf hb
end bE
open Go.Proofs
set_option maxRecDepth 4000
def tZ(p:Tm):List Tm->List Tm
 |[]=>[]
 |a::r=>if aT a p=0 then tZ a r else a::tZ a r
def dd:List Tm->List Tm
 |[]=>[]
 |x::r=>x::tZ x r
theorem IB(p:Tm):∀l:List Tm,(tZ p l).length<=l.length
 |[]=>by simp[tZ]
 |a::r=>by
  have:=IB a r;unfold tZ
  split <;>simp <;>omega
theorem Gh:∀l:List Tm,(dd l).length<=l.length
 |[]=>by simp[dd]
 |a::r=>by have:=IB a r;simp[dd];omega
theorem gR{l:List Tm}{i:Nat}{t:Tm}(h:l[i]?=some t):(ae l)[i]?=some (.agg [.int .i64 t.k,.str t.s,.int .i64 t.o,.aa false (ae t.l)]):=by rw[c9,abB,h,<-ao];rfl
theorem xX{l:List Tm}{i:Nat}{t:Tm}:(ae l).set i (enc t)=ae (l.set i t):=by rw[c9,c9,List.map_set]
theorem uj{α:Type}{L A B:List α}{x:α}{i:Nat}(e:L=A++x::B)(hi:i=A.length):L[i]?=some x:=by subst e hi;simp
theorem c8{α:Type}{l:List α}{i:Nat}{x:α}(h:l[i]?=some x):l.set i x=l:=by
 obtain⟨h1,rfl⟩:=ac4.1 h;exact adI h1
section
variable{C:cR}(T:lQ C.P){h:ab}
theorem sU{t el:TypeId}{sz id ep len n:Nat}{k:IntKind}{es:List PV}(hk:T.kd t=some (.sl el))(hs:T.ts el=some sz)(e:h[id]?=some ⟨.m,ep,sz,es⟩)(hl:len<=es.length)(h0:0<n)(hn:n<len):
  cf C.P h t (.ak id ep 0 len) (some (.int k n)) none none=some (.ak id ep (0+n) (len - n)):=by
 have hg:getM h id ep=some ⟨.m,ep,sz,es⟩:=bo e rfl (by simp);simp only[cf,bz (T.cT _ _ hk),T.dV _ _ hs,hg];rw[if_pos ⟨trivial,by show 0+len<=es.length;omega⟩];have hb:beyond none none len (es.length - 0)=none:=rfl;simp only[beyond,cJ];rw[if_pos (by omega)];simp only[acI];rw[if_pos (by rfl),if_neg (by simp),if_neg (by omega),if_neg (by omega)]
theorem DL{t el:TypeId}{sz id ep len n:Nat}{k:IntKind}{es:List PV}(hk:T.kd t=some (.sl el))(hs:T.ts el=some sz)(e:h[id]?=some ⟨.m,ep,sz,es⟩)(hl:len<=es.length)(hn:n<=len):
  cf C.P h t (.ak id ep 0 len) none (some (.int k n)) none=some (.ak id ep 0 n):=by
 have hg:getM h id ep=some ⟨.m,ep,sz,es⟩:=bo e rfl (by simp);simp only[cf,bz (T.cT _ _ hk),T.dV _ _ hs,hg];rw[if_pos ⟨trivial,by show 0+len<=es.length;omega⟩];simp only[beyond,cJ];rw[if_neg (by omega),if_pos (by omega)];simp
theorem DM{t el:TypeId}{sz id ep off len:Nat}{z:PV}{es:List PV}(hk:T.kd t=some (.sl el))(hs:T.ts el=some sz)(hz:T.tz el=some z)(e:h[id]?=some ⟨.m,ep,sz,es⟩)(hl:off+len<=es.length)(hc:(cells z).length=sz)(ho:(cells z).all bH=true):
  mX C.P 2 h t (.ak id ep off len)=some (.ct [],h.set id ⟨.m,ep,sz,es.take off++List.replicate len z++es.drop (off+len)⟩):=by
 have hg:getM h id ep=some ⟨.m,ep,sz,es⟩:=bo e rfl (by simp);simp only[mX,bz (T.cT _ _ hk),T.dV _ _ hs,T.nt _ _ hz,hg];rw[if_pos ⟨by omega,trivial,trivial,hl,hc,ho⟩]
theorem pR.sl{L:Al}{t:TypeId}{x lo:Operand}{v u w:PV}{K:PV->Prop}(hx:cM L x=some v)(hl:cM L lo=some u)(hs:cf C.P h t v (some u) none none=some w)(kk:Rn (K w)):pR C (.slice t x (some lo) none none) L h K:=
 .mk (λrun lv ρ=>by simp only[au,aC,an hx,an hl,abw,adu,hs]) kk
theorem pR.sh{L:Al}{t:TypeId}{x hi:Operand}{v u w:PV}{K:PV->Prop}(hx:cM L x=some v)(hl:cM L hi=some u)(hs:cf C.P h t v none (some u) none=some w)(kk:Rn (K w)):pR C (.slice t x none (some hi) none) L h K:=
 .mk (λrun lv ρ=>by simp only[au,aC,an hx,an hl,abw,adu,hs]) kk
theorem wh.clr{L:Al}{t:TypeId}{x:Operand}{v:PV}{h':ab}{K:PV->ab->Prop}(hx:cM L x=some v)(hs:mX C.P 2 h t v=some (.ct [],h'))(kk:Rn (K (.ct []) h')):wh C (.call ⟨.builtin .clear,#[x],#[t]⟩) L h K:=
 .mk (λrun ρ=>by simp only[au,bt,abD,abM,an hx,hs]) kk
end
attribute [local irreducible] aD az aL aJ Ev ah aj ay aY
theorem DN(a b:Tm)(ha:ax a<1000000000)(hb:ax b<1000000000):aI C 407 [enc a,enc b] (.bool (decide (aT a b=0))):=by
 have h1:=eB a b ha hb;rw[ao,ao]at h1 ⊢;refine aI.x T6 Tryz.func407 rfl ?_;refine wA ?_;refine .p h1 ?_;refine wC (λhc=>?_) λhc=>?_
 all_goals exact⟨_,rfl,by simp[aO, *]⟩
theorem DJ(H:ab):ay C 162 [.aa true [],.fn 407 []] H (λr h'=>r=.aa true []/\h'=H):=by
 refine ay.x T6 Tryz.func162 rfl ?_;refine wA ?_;exact⟨rfl,rfl⟩
theorem Gd(x:Tm)(l:List Tm)(H:ab)(hH:HV H)(id ep:Nat)(e1:H[id]?=some ⟨.m,ep,4,ae (x::l)⟩)(hn:l.length<100000000)(hb:∀t∈x::l,ax t<1000000000):
  ay C 162 [.ak id ep 0 (ae (x::l)).length,.fn 407 []] H
   (λr h'=>r=.ak id ep 0 (dd (x::l)).length/\∃tl,ar tl=true/\h'=H.set id ⟨.m,ep,4,ae (dd (x::l))++tl⟩):=by
 have cr:(ae (x::l)).length=l.length+1:=by rw[ai];rfl
 refine ay.x T6 Tryz.func162 rfl ?_;refine wC (λhc=>?_) λhc=>?_
 ·obtain rfl:l=[]:=abA (by omega);exact⟨rfl,[],rfl,by rw[abJ];exact(c8 e1).symm⟩
 refine cO.zip T6 l (λp q L h=>h=H/\∃P' prev,x::p=P'++[prev]/\P'++prev::tZ prev q=dd (x::l)/\L=[(0,.ak id ep 0 (ae (x::l)).length),(1,.fn 407 []),(5,.int .i64 ((p.length+1:Nat):Int))]) (.nx ⟨rfl,[],x,rfl,rfl,rfl⟩) ?_ ?_
 ·rintro p a q _ h ρ e ⟨rfl,P',prev,hp,hd,rfl⟩;have di:=lenE e;have kH:=congrArg List.length hp;simp only[abr,abx,abX]at kH;have DG:(ae (x::l))[0+(p.length+1)]?=some (.agg [.int .i64 a.k,.str a.s,.int .i64 a.o,.aa false (ae a.l)]):=gR (by rw[e,abE];simp)
  have nf:(ae (x::l))[0+(((p.length+1:Nat):Int) - 1).toNat]?=some (.agg [.int .i64 prev.k,.str prev.s,.int .i64 prev.o,.aa false (ae prev.l)]):=gR (by
   rw[show(((p.length+1:Nat):Int) - 1).toNat=p.length by omega,e,<-abH,hp,abE,abj (by simp;omega),abt (by omega)];simp[show p.length - P'.length=0 by omega])
  have hq:=DN a prev (hb a (by rw[e];simp)) (hb prev (by rw[e,<-abH,hp];simp));rw[ao,ao]at hq;refine wA ?_;refine .p hq ?_
  cases hc:decide (aT a prev=0)
  ·refine wA ?_;refine .nx ⟨rfl,P'++[prev],a,by rw[<-abH,hp],?_,rfl⟩;rw[<-hd,tZ,if_neg (by simpa using hc)];simp
  ·refine wA ?_;rw[cr]at *;refine .sl rfl rfl (sU T6 rfl rfl e1 (by rw[ai];simp) (by omega) (by omega)) ?_;refine wA ?_
   refine cO.zip T6 q (λp2 q2 L h'=>∃R M0 pr,ax pr<1000000000/\R.length+M0.length=p.length+1+p2.length/\R++tZ pr q2=dd (x::l)/\h'=h.set id ⟨.m,ep,4,ae (R++(M0++[pr]++q2))⟩/\
    L=[(0,.ak id ep 0 (l.length+1)),(1,.fn 407 []),(5,.int .i64 (R.length:Int)),(6,.ak id ep (0+(p.length+1)) (l.length+1 - (p.length+1))),(7,.int .i64 ((p2.length+1:Nat):Int))]) (.nx ⟨P'++[prev],[],a,hb a (by rw[e];simp),by simp only[abr,abx,abX];omega,?_,?_,rfl⟩) ?_ ?_
   ·rw[<-hd,tZ,if_pos (by simpa using hc)];simp
   ·rw[c8];rw[e1,e,<-abH,hp];simp
   ·rintro p2 b q2 _ _ ρ2 e2 ⟨R,M0,pr,Tp,AX,Gi,rfl,rfl⟩;have Qr:=lenE e2;have JU:(h.set id ⟨.m,ep,4,ae (R++(M0++[pr]++b::q2))⟩)[id]?=some ⟨.m,ep,4,ae (R++(M0++[pr]++b::q2))⟩:=abl (ag e1);have XC:HV (h.set id ⟨.m,ep,4,ae (R++(M0++[pr]++b::q2))⟩):=hH.set id (by simp) (by simp);have Tq:(ae (R++(M0++[pr]++b::q2))).length=l.length+1:=by rw[ai];simp;omega
    have ZW:(ae (R++(M0++[pr]++b::q2)))[0+(p.length+1)+(p2.length+1)]?=some (.agg [.int .i64 b.k,.str b.s,.int .i64 b.o,.aa false (ae b.l)]):=gR (uj (A:=R++M0++[pr]) (B:=q2) (by simp) (by simp;omega));have MV:(ae (R++(M0++[pr]++b::q2)))[0+(p.length+1)+(((p2.length+1:Nat):Int) - 1).toNat]?=some (.agg [.int .i64 pr.k,.str pr.s,.int .i64 pr.o,.aa false (ae pr.l)]):=gR (uj (A:=R++M0) (B:=b::q2) (by simp) (by simp;omega));have XQ:=DN b pr (hb b (by rw[e,e2];simp)) Tp;rw[ao,ao]at XQ;obtain⟨m,M1,hM⟩:∃m M1,M0++[pr]=m::M1:=by cases M0 with |nil=>exact⟨_,_,rfl⟩|cons m M=>exact⟨m,M++[pr],rfl⟩
    have hM1:=congrArg List.length hM;simp only[abr,abx,abX]at hM1;have ZX:(ae (R++(M0++[pr]++b::q2)))[0+R.length]?=some (.agg [.int .i64 m.k,.str m.s,.int .i64 m.o,.aa false (ae m.l)]):=gR (uj (A:=R) (B:=M1++b::q2) (by rw[hM];simp) (by omega))
    have eL:(ae (R++(M0++[pr]++b::q2))).set (0+R.length) (.agg [.int .i64 b.k,.str b.s,.int .i64 b.o,.aa false (ae b.l)])=ae ((R++[b])++(M1++[b]++q2)):=by
     rw[<-ao,xX,hM,abE];simp
    clear hq DG nf;refine wA ?_;refine .p XQ ?_
    cases LS:decide (aT b pr=0)
    ·refine wA ?_;rw[eL,acn];refine .nx ⟨R++[b],M1,b,hb b (by rw[e,e2];simp),by simp;omega,?_,rfl,rfl⟩;rw[<-Gi,tZ,if_neg (by simpa using LS)];simp
    ·refine wA ?_;refine .nx ⟨R,M0++[pr],b,hb b (by rw[e,e2];simp),by simp;omega,?_,by simp,rfl⟩;rw[<-Gi,tZ,if_pos (by simpa using LS)]
   ·rintro _ _ ρ2 ⟨R,M0,pr,Tp,AX,Gi,rfl,rfl⟩;have JU:(h.set id ⟨.m,ep,4,ae (R++(M0++[pr]++[]))⟩)[id]?=some ⟨.m,ep,4,ae (R++(M0++[pr]++[]))⟩:=abl (ag e1);have XC:HV (h.set id ⟨.m,ep,4,ae (R++(M0++[pr]++[]))⟩):=hH.set id (by simp) (by simp);have Tq:(ae (R++(M0++[pr]++[]))).length=l.length+1:=by rw[ai];simp;omega
    rw[tZ,abJ]at Gi;subst Gi;refine wA ?_;refine .sl rfl rfl (sU T6 rfl rfl JU (by omega) ?_ (by omega)) ?_
    ·simp[dd]
    refine wA ?_;refine .clr rfl (DM T6 rfl rfl rfl JU (by omega) rfl rfl) ?_;have pu:List.take (0+(dd (x::l)).length) (ae (dd (x::l)++(M0++[pr]++[])))=ae (dd (x::l)):=by rw[c9,c9,abE,ab6,List.take_left' (by simp)]
    have B8:List.drop (0+(dd (x::l)).length+(l.length+1 - (dd (x::l)).length)) (ae (dd (x::l)++(M0++[pr]++[])))=[]:=abR (by omega);rw[pu,B8,acn]
    obtain⟨tl,uk,cG,JV⟩:∃tl:List PV,tl=List.replicate (l.length+1 - (dd (x::l)).length) (.agg [.int .i64 0,.str ByteArray.empty,.int .i64 0,.aa true []])/\tl.length=l.length+1 - (dd (x::l)).length/\ar tl=true:=
     ⟨_,rfl,by simp,by rw[bB,abk];intro y hy;rw[acg hy];rfl⟩
    have e3:(h.set id ⟨.m,ep,4,ae (dd (x::l))++tl⟩)[id]?=some ⟨.m,ep,4,ae (dd (x::l))++tl⟩:=abl (ag e1);rw[<-uk,abJ];refine wA ?_;refine .sh rfl rfl (DL T6 rfl rfl e3 (by rw[abr,ai,cG];have:=Gh (x::l);simp at this;omega) (by omega)) ?_;refine wA ?_;exact⟨rfl,tl,JV,rfl⟩
 ·rintro _ h ρ ⟨rfl,P',prev,hp,hd,rfl⟩;have Uu:ae (dd (x::l))=ae (x::l):=by rw[<-hd,hp,tZ]
  refine wA ?_;exact⟨congrArg (PV.ak id ep 0) (by rw[<-Uu,ai]),[],rfl,by rw[Uu,abJ];exact(c8 e1).symm⟩
end Go.Pm
namespace Go.Pm
open Go.Proofs
set_option maxRecDepth 4000
theorem MN:∀(l:List Tm) (p y:Tm),y∈p::tZ p l↔y∈p::l
 |[],p,y=>by simp[tZ]
 |a::r,p,y=>by
  have ih:=MN r a y;unfold tZ
  split
  ·rename_i h
   obtain rfl:=cP h;rw[ih];simp
  ·rw[abu,ih,abu (b:=p)]
theorem IA:∀(l:List Tm) (p:Tm),((p::l).Pairwise λx y=>aT x y<=0)->fv (p::tZ p l)
 |[],p,_=>by simp[tZ,fv]
 |a::r,p,h=>by
  have h2:=abG.1 h;have ih:=IA r a h2.2;unfold tZ
  split
  ·rename_i hc
   obtain rfl:=cP hc;exact ih
  ·rename_i hc
   have hp:=h2.1 a (by simp);have ng:=eC p a;refine abG.2 ⟨λy hy=>?_,ih⟩;rcases abu.1 hy with rfl |hy
   ·omega
   ·exact eU (show aT p a<0 by omega) ((abG.1 ih).1 y hy)
theorem MO(l:List Tm)(y:Tm):y∈dd l↔y∈l:=by
 cases l with
 |nil=>simp[dd]
 |cons x r=>exact MN r x y
theorem MP{l:List Tm}(h:l.Pairwise λx y=>aT x y<=0):fv (dd l):=by
 cases l with
 |nil=>simp[dd,fv]
 |cons x r=>exact IA r x h
theorem Qx(l:List (List Pw)):dd (eD (jR l))=JO l:=
 mL (MP (qG _)) (MC l) (λy=>by rw[MO,Qp];exact(fy _).mem_iff)
theorem aj.ln{C:cR}{f:FuncId}{args:List PV}{H:ab}{P Q:PV->ab->Prop}(a:ay C f args H P)(hl:∀r h',P r h'->h'.length=H.length)(q:∀r h',P r h'->Q r h')(hm:C.mode f=.opened:=by rfl):aj C 2 f args H Q:=by
 refine aj.opened hm (a.mono λr k hr=>?_)
 split
 ·rw[abO (by rw[hl r k hr];exact abn _)];exact q r k hr
 ·exact q r k hr
theorem MQ(a b:List (List Pw)):jR (a++b)=jR a++jR b:=by simp[jR]
attribute [local irreducible] aD az aL aJ Ev ah aj ay aY
theorem Gb(H:ab)(id ep:Nat)(e1:H[id]?=some ⟨.m,ep,4,ae []⟩):ay C 162 [.ak id ep 0 0,.fn 407 []] H (λr h'=>r=.ak id ep 0 0/\h'=H):=by
 refine ay.x T6 Tryz.func162 rfl ?_;refine wA ?_;exact⟨rfl,rfl⟩
theorem iC{h:ab}{id ep sz n:Nat}{es fA tl:List PV}(e:h[id]?=some ⟨.m,ep,sz,es++tl⟩)(hl:es.length=n)(hv:ar es=true)(hn:aR es=fA):∃r1,rb h (aO [.ak id ep 0 n])=some r1/\b9 r1=.aa false fA:=by
 subst hl hn;refine⟨.aa false es,?_,rfl⟩;have hg:getM h id ep=some ⟨.m,ep,sz,es++tl⟩:=bo e rfl (by simp);show rb h (.ak id ep 0 es.length)=_;simp[rb,ke,oB,hg,hv]
namespace bE
theorem MR(l:List (List Pw))(hs:SmT l):aI C 396 [.aa false (iN l)] (.aa false (ae (JO l))):=by
 have cr:(iN l).length=l.length:=by simp
 have wQ:=hs.2;have DG:=B9 (l:=l) λx hx=>(hs.1 x hx).2
 have PK:∀t∈jR l,ax t<1000000000:=λt ht=>by
  obtain⟨x,hx,ht⟩:=acp.1 ht;obtain⟨p,hp,rfl⟩:=abZ.1 ht;exact Nat.lt_trans ((hs.1 x hx).1 p hp) (by decide)
 refine aI.x T6 Tryz.func396 rfl ?_;refine wA ?_;refine cO.zip T6 l (λp q L H=>∃v,L=[(3,v),(8,.aa false (iN l)),(9,.int .i64 l.length),(10,.int .i64 p.length)]/\HV H/\Out 4 H v (ae (jR p))) (.nx ⟨.aa true [],rfl,HV.nil,.inl ⟨rfl,rfl⟩⟩) ?_ ?_
 ·rintro p x q _ H ρ e ⟨v,rfl,hH,ho⟩;have cm:=JN e;have di:=lenE e;have hx:=hs.1 x (by rw[e];simp);have ZV:=fh x;have mK:=B9 (l:=p) λy hy=>(hs.1 y (by rw[e];simp[hy])).2
  refine wA ?_;refine cO.zip T6 x (λp2 q2 L H=>∃v,L=[(3,v),(8,.aa false (iN l)),(9,.int .i64 l.length),(10,.int .i64 p.length),(14,.aa false (br x)),(15,.int .i64 x.length),(16,.int .i64 p2.length)]/\HV H/\Out 4 H v (ae (jR p++p2.map (·.1)))) (.nx ⟨v,rfl,hH,by simpa using ho⟩) ?_ ?_
  ·rintro p2 ⟨u,n⟩ q2 _ H2 ρ e2 ⟨v2,rfl,oN,ui⟩;have nf:=DH e2;have AX:=lenE e2;have zJ:(ae (jR p++p2.map (·.1))).length+1<1000000000:=by rw[ai];simp;omega
   have zO:=ui.cB [⟨.m,0,5,[.agg [.int .i64 u.k,.str u.s,.int .i64 u.o,.aa false (ae u.l),.int .i64 n]]⟩];have Ui:HV (H2++[⟨.m,0,5,[.agg [.int .i64 u.k,.str u.s,.int .i64 u.o,.aa false (ae u.l),.int .i64 n]]⟩]):=oN.cB (HV.one (by simp));refine wG λv H lp=>?_;refine .nx ⟨_,rfl,lp.hv,?_⟩;have:=lp.out;rw[DI,c9]at this;rw[c9,ab6,ab6,ab6];simpa using this
  ·rintro _ H2 ρ ⟨v2,rfl,oN,ui⟩;refine wA ?_;exact .nx ⟨v2,rfl,oN,by rw[MQ];simpa[jR]using ui⟩
 ·rintro _ H ρ ⟨v,rfl,hH,ho⟩;rw[<-Qx];rcases ho with⟨rfl,e0⟩|⟨id,ep,rfl,e1⟩
  ·have e2:jR l=[]:=abA (by rw[<-ai,e0];rfl);rw[e2];refine wA ?_;refine aj.cS rfl rfl ?_;refine wA ?_;refine .ln (DJ H).nine (λr h' hr=>by rw[hr.2]) (λr h' hr=>?_);obtain⟨rfl,rfl⟩:=hr;refine wA ?_;exact⟨_,rfl,rfl⟩
  ·have oS:=ai (jR l);refine wA ?_;refine aj.cS rfl (by rw[oS];exact mM e1 (by omega) PK) ?_;have e2:(H.set id ⟨.m,ep,4,ae (eD (jR l))⟩)[id]?=some ⟨.m,ep,4,ae (eD (jR l))⟩:=abl (ag e1);have oN:HV (H.set id ⟨.m,ep,4,ae (eD (jR l))⟩):=hH.set id (by simp) (by simp);have zJ:=(fy (jR l)).length_eq;have fu:∀t∈eD (jR l),ax t<1000000000:=λt ht=>PK t ((fy _).mem_iff.1 ht)
   rw[oS,<-zJ];rw[<-zJ]at oS DG;generalize eD (jR l)=S at *
   cases S with
   |nil=>
    refine wA ?_;refine .ln (Gb _ id ep e2).nine (λr h' hr=>by rw[hr.2]) (λr h' hr=>?_);obtain⟨rfl,rfl⟩:=hr;refine wA ?_;exact Ls.Gc (.inl (.inr ⟨id,ep,rfl,e2⟩)) rfl (by simp[dd,ae])
   |cons x r=>
    have hc:=(Gd x r _ oN id ep e2 (by simp at DG;omega) fu).nine;rw[ai]at hc;refine wA ?_;refine .ln hc (λr h' hr=>by obtain⟨_,_,_,rfl⟩:=hr;simp) (λr h' hr=>?_);obtain⟨rfl,tl,hv,rfl⟩:=hr;rw[acn];have e3:(H.set id ⟨.m,ep,4,ae (dd (x::r))++tl⟩)[id]?=some ⟨.m,ep,4,ae (dd (x::r))++tl⟩:=abl (ag e1);refine wA ?_;exact iC e3 (by rw[ai]) (by simp) (by simp)
end bE
end Go.Pm
namespace Go.Pm
theorem JW{s:ByteArray}(h:dR s=true):s.size<=24:=by
 rw[<-bsize];unfold dR wV at h
 cases e:s.toList with
 |nil=>simp
 |cons c l=>
  rw[e]at h;simp only[abq,decide_eq_true_eq]at h;simp;omega
theorem uq{k n o l}(h:node (.mk k n o l)=0):dR n=true/\l.length<=8:=by
 simp only[node]at h
 split at h
 ·cases h
 ·split at h
  ·cases h
  ·rename_i hn
   split at h
   ·cases h
   ·exact⟨by simpa using hn,by omega⟩
theorem lV{k n o l}(h:nodes (.mk k n o l)=0):node (.mk k n o l)=0/\ia l=0:=by
 rw[nodes]at h
 split at h
 ·rename_i hn;exact absurd h hn
 ·exact⟨by omega,h⟩
theorem AZ{f:Nat}:∀{l:List Tm},(∀t∈l,(ax t:Int)<=f * size t)->(bp l:Int)<=f * dU l
 |[],_=>by simp[bp,dU]
 |t::l,h=>by
  have h1:=h t (by simp);have h2:=AZ (l:=l) λu hu=>h u (by simp[hu])
  simp only[bp,dU,Int.mul_add];omega
theorem Gl(t:Tm):nodes t=0->(ax t:Int)<=25 * size t:=by
 induction t using Tm.ind with
 |h k n o l ih=>
  intro h
  obtain⟨h1,h2⟩:=lV h;have h3:=JW (uq h1).1;have h4:=AZ (f:=25) λt ht=>by simpa using ih t ht (oG h2 t ht)
  simp only[ax,size,Int.mul_add];omega
theorem ee{t:Tm}(h:valid t=0):ax t<=10000:=by
 obtain⟨h1,h2,_⟩:=fq.1 h;have:=Gl t h1;omega
theorem JX{k n o l}(h:valid (.mk k n o l)=0){t:Tm}(ht:t∈l):valid t=0:=by
 rw[fq]at h ⊢;exact VQ.kids h t ht
theorem Cc{B:Nat}{x:Tm}:∀{s:List dD},(∀b∈s,ax b.t<=B)->ax (ly s x)<=max B (ax x)
 |[],_=>by simp[ly];omega
 |b::s,h=>by
  unfold ly
  split
  ·have:=h b (by simp);omega
  ·exact Cc λc hc=>h c (by simp[hc])
theorem eG(l:List Tm)(y:Tm):y∈gb l↔y∈l:=by rw[gb,Ca];simp
theorem jA(l:List Tm):fv (gb l):=xP (by simp[fv])
theorem Gm(l:List Tm):dd (eD l)=gb l:=mL (MP (qG _)) (jA l) (λy=>by rw[MO,eG];exact(fy _).mem_iff)
theorem MY(n:Int)(t y:Tm):y∈rB n t↔y∈pre t/\y.k=n:=by rw[rB,eG];simp
theorem sX(t y:Tm):y∈bu t↔y∈pre t/\y.k=1:=MY 1 t y
theorem fm{l:List Tm}{y:Tm}:y∈cQ l↔∃t∈l,y∈pre t:=by
 induction l with
 |nil=>simp[cQ]
 |cons t l ih=>simp[cQ,ih]
theorem nM(t:Tm):∀y∈pre t,ax y<=ax t:=by
 induction t using Tm.ind with
 |h k n o l ih=>
  intro y hy
  rw[pre,abu]at hy;rcases hy with rfl |hy
  ·exact abn _
  ·obtain⟨t,ht,hy⟩:=fm.1 hy;have h1:=ih t ht y hy;have h2:=bC ht;simp only[ax];omega
theorem ur:∀{l:List Tm},(∀t∈l,(pre t).length<=ax t)->(cQ l).length<=bp l
 |[],_=>by simp[cQ,bp]
 |t::l,h=>by
  have h1:=h t (by simp);have h2:=ur (l:=l) λu hu=>h u (by simp[hu])
  simp only[cQ,bp,abr];omega
theorem qJ(t:Tm):(pre t).length<=ax t:=by
 induction t using Tm.ind with
 |h k n o l ih=>
  have:=ur ih;simp only[pre,ax,abx];omega
theorem lW(l:List Tm):(cQ l).length<=bp l:=ur λt _=>qJ t
theorem pU(l:List Tm):(gb l).length<=l.length:=by have:=xN l [];simpa[gb]using this
theorem JY(n:Int)(t:Tm):(rB n t).length<=ax t:=by
 have h1:=pU ((pre t).filter λu=>decide (u.k=n));have h2:=acm (λu=>decide (u.k=n)) (pre t);have h3:=qJ t;unfold rB;omega
theorem eO(t:Tm):(bu t).length<=ax t:=JY 1 t
theorem jU{t y:Tm}(h:y∈bu t):ax y<=ax t:=nM t y ((sX t y).1 h).1
theorem xZ{p:ByteArray->Bool}:∀{l:List Tm},(∀t∈l,every p t=(pre t).all λu=>decide (u.k≠3)||p u.s)->gI p l=(cQ l).all λu=>decide (u.k≠3)||p u.s
 |[],_=>rfl
 |t::l,h=>by
  rw[gI,cQ,acj,h t (by simp),xZ λu hu=>h u (by simp[hu])]
theorem uu{p:ByteArray->Bool}(t:Tm):every p t=(pre t).all λu=>decide (u.k≠3)||p u.s:=by
 induction t using Tm.ind with
 |h k n o l ih=>
  rw[every,pre,ace,xZ ih]
  rfl
theorem x0{t:Tm}(h:cx t=0):valid t=0/\lI t=0/\kK t=true/\(bu t).any C8=false/\size t<=60:=by
 unfold cx at h
 split at h
 ·rename_i hn;exact absurd h hn
 ·rename_i h1
  split at h
  ·cases h
  ·rename_i h2
   split at h
   ·cases h
   ·have h3:gw t=0:=by omega
    unfold gw at h3
    split at h3
    ·rename_i hn;exact absurd h3 hn
    ·refine⟨by omega,h3,?_,?_,by omega⟩
     ·cases hf:kK t with
      |true=>rfl
      |false=>exact absurd (.inl hf) h2
     ·cases hf:(bu t).any C8 with
      |false=>rfl
      |true=>exact absurd (.inr hf) h2
theorem pV:∀{l:List Tm},fW l=0->∀t∈l,cx t=0
 |[],_,t,h=>by cases h
 |u::l,e,t,h=>by
  rw[fW]at e
  split at e
  ·rename_i hn;exact absurd e hn
  ·rcases abu.1 h with rfl |h
   ·omega
   ·exact pV e t h
theorem rZ:∀{l:List fV} {p:Option (List Tm)} {b:List Tm},mO p b l=0->∀d∈l,d.kn.length<=40/\fW (d.kn++[d.tm])=0
 |[],_,_,_,d,h=>by cases h
 |u::l,p,b,e,d,h=>by
  rw[mO]at e
  split at e
  ·cases e
  ·split at e
   ·rename_i hn;exact absurd e hn
   ·split at e
    ·cases e
    ·split at e
     ·cases e
     ·rcases abu.1 h with rfl |h
      ·exact⟨by omega,by omega⟩
      ·exact rZ e d h
theorem A0{l:List fV}(h:nL l=0):l.length<=40/\∀d∈l,d.kn.length<=40/\∀t∈d.kn++[d.tm],cx t=0:=by
 unfold nL at h
 split at h
 ·cases h
 ·exact⟨by omega,λd hd=>⟨(rZ h d hd).1,pV (rZ h d hd).2⟩⟩
theorem lX{b:dD}(h:vw b=0):valid b.v=0/\b.v.k=1/\valid b.t=0/\aT b.v b.t≠0/\lq b.v b.t=true:=by
 unfold vw at h
 split at h
 ·rename_i hn;exact absurd h hn
 ·split at h
  ·cases h
  ·rename_i h2
   split at h
   ·rename_i hn;exact absurd h hn
   ·split at h
    ·cases h
    ·rename_i h4
     exact⟨by omega,by omega,by omega,by omega,by simpa using h4⟩
theorem x3:∀{s:List dD} {p:Option Tm},mP p s=0->(∀b∈s,vw b=0)/\(s.Pairwise λa b=>aT a.v b.v<0)/\(∀q,p=some q->∀b∈s,aT q b.v<0)
 |[],_,_=>⟨λ_ h=>(by cases h),.nil,λ_ _ _ h=>(by cases h)⟩
 |u::s,p,e=>by
  rw[mP]at e
  split at e
  ·rename_i hn;exact absurd e hn
  ·rename_i h1
   split at e
   ·cases e
   ·rename_i h2
    obtain⟨g1,g2,g3⟩:=x3 e;refine⟨λb hb=>?_,abG.2 ⟨λb hb=>g3 _ rfl b hb,g2⟩,?_⟩
    ·rcases abu.1 hb with rfl |hb
     ·omega
     ·exact g1 b hb
    ·rintro q rfl b hb;have h3:aT q u.v<0:=by simpa[behind]using h2
     rcases abu.1 hb with rfl |hb
     ·exact h3
     ·exact eU h3 (g3 _ rfl b hb)
theorem qK{s:List dD}(h:iD s=0):s.length<=200/\(∀b∈s,vw b=0)/\s.Pairwise λa b=>aT a.v b.v<0:=by
 unfold iD at h
 split at h
 ·cases h
 ·obtain⟨g1,g2,_⟩:=x3 h;exact⟨by omega,g1,g2⟩
end Go.Pm
