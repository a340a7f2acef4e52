/-
  Pm, a part. Conditions: none.
-/
import Derived.Test.YtimogkojklpdnaaGreatDoorPwAG
import Derived.Shelf.SlLaysF0
import Derived.Test.YtimogkojklpdnaaGreatDoorProg
import Derived.KernelRfl
import Derived.Shelf.SlSortCmp.NoneTotal
set_option linter.unusedVariables false
set_option linter.unusedSimpArgs false
set_option linter.unnecessarySimpa false
namespace Go.Pm
open Go.Proofs
set_option maxRecDepth 100000
set_option maxHeartbeats 4000000
theorem q8{f:Nat->Bool}:∀{a b:List PV},bG f a=true->bG f b=true->bG f (a++b)=true
 |[],_,_,hb=>hb
 |x::a,b,ha,hb=>by
  simp only[bG,ab4,aco]at ha ⊢;exact⟨ha.1,q8 ha.2 hb⟩
theorem J5{e:PV}(h:aU e=true):∀q∈cells e,aU q=true:=by
 intro q hq
 cases e with
 |agg cs=>
  simp only[aU]at h;rw[bw]at h;exact abX.1 h q hq
 |_=>simp only[cells,acv]at hq;subst hq;exact h
theorem aE.Jp{w:World}{A A':Nat->Prop}{X X':List (Nat×Nat)}{h h':ab}{v:Value}{p:PV}(hv:aE w A X h v p)(hp:aU p=true)(hA:∀b,A' b->A b):aE w A' X' h' v p:=
 .val ((hv.J6 hp).wz hA)
attribute [local irreducible] aD az aL aJ Ev ah aj ay bg
namespace Zero
variable{w:World}{F:Nat->Prop}{X:List (Nat×Nat)}
theorem lz{h:ab}{f:FuncId}{args:List PV}{r:PV}{h':ab}(hm:C0.mode f=.opened)(e:ay C0 f args h (λr' h2=>r'=r/\h2=h')){vs:List Value}(H:bo w F X h)(ha:L2 (aE w (Av F h X) X h) vs args):na C0.P 2 w F X h f vs r h':=by
 unfold ay at e;obtain⟨r3,h3,⟨rfl,rfl⟩,n0,TS⟩:=e;exact S0 n0 _ (.inr hm) _ h _ _ (TS n0 (abZ _)) w F X vs H ha
theorem jI{R R':Value->PV->Prop}{vs:List Value}{a b c a' b' c':PV}(h:L2 R vs [a,b,c])(ha:∀v,R v a->R' v a')(hb:∀v,R v b->R' v b')(hc:∀v,R v c->R' v c'):L2 R' vs [a',b',c']:=by
 refine⟨h.1,λj hj=>?_⟩;have h0:=h.2 0 (by simp);have h1:=h.2 1 (by simp);have h2:=h.2 2 (by simp)
 match j,hj with
 |0,_=>exact ha _ h0
 |1,_=>exact hb _ h1
 |2,_=>exact hc _ h2
 |j+3,hj=>simp at hj;omega
theorem Hj:fT C0.P 351 jU:=by
 intro args h r h' e w F X vs H ha
 unfold jU at e
 split at e
 ·rename_i i fl e1
  split at e
  ·rename_i hc
   obtain⟨rfl,he⟩:=hc;obtain⟨rfl,rfl⟩:=ab7 (abV e);exact lz (sO rfl) (u5 he) H ha
  cases e
 ·rename_i id ep len i fl e1
  split at e
  ·rename_i o hg
   split at e
   ·rename_i hc
    obtain⟨hm,hz,hle,YQ,hi,hn,he,gk,ee⟩:=hc;obtain⟨rfl,rfl⟩:=ab7 (abV e);obtain⟨k,rfl⟩:=adr YQ;have hk:k<=len:=by omega
    rw[show Int.toNat (k:Int)=k from rfl];obtain⟨g1,g2,g3⟩:=getM_some hg;have cM:=ag g1;obtain⟨bc,oC⟩:=dB H.len g1;have jR:(o.es.take len).length=len:=by simp;omega
    by_cases sZ:k=len
    ·subst sZ
     have pF:(o.es.take k).take k++[e1]++(o.es.take k).drop k=o.es.take k++[e1]:=by
      rw[adq,Nat.min_self,acx (by omega),ack]
     rw[pF];exact lz (sO rfl) (u6 he hg hm hz hle hn) H ha
    ·have fZ:k<len:=by omega
     by_cases nY:len+1<=bc.2
     ·-- there is room
      have hXc:(cells (PV.agg [.any,.any,.any,.any,.any])).length=5:=rfl
      obtain⟨Hp,Sp⟩:=H.oZ g1 oC hm (o.es.take len++[.agg [.any,.any,.any,.any,.any]]) (ep+1) (by omega) (by simp;omega) (λi e he=>by
       rcases acE i len with lu |lu
       ·left
        rw[abW (by omega),acj,if_pos lu]at he;exact he
       ·right
        rw[ab6 (by omega)]at he;obtain rfl:=acv.1 (acb he);refine⟨by rw[hXc,hz],λp hp=>?_⟩;simp only[cells]at hp;simpa using hp)
      have yE:(h.set id {o with es:=o.es.take len++[.agg [.any,.any,.any,.any,.any]],ep:=ep+1})[id]?=some {o with es:=o.es.take len++[.agg [.any,.any,.any,.any,.any]],ep:=ep+1}:=abY cM
      have Wv:aV (h.set id {o with es:=o.es.take len++[.agg [.any,.any,.any,.any,.any]],ep:=ep+1})=true:=by
       refine mS (h:=h) (λi hi=>?_) (λo' h1=>?_) ee
       ·unfold aO at hi ⊢
        by_cases R9:i=id
        ·subst R9;rw[yE];simp[hm]
        rw[ab0 (acS R9)];exact hi
       ·rcases adl h1 with h1 |rfl;exact .inr (.inr ⟨o',h1,rfl,λhh=>hh⟩);exact .inr (.inl (q8 (bm _ _ (mi gk)) rfl))
      have oA:L2 (aE w (Av F (h.set id {o with es:=o.es.take len++[.agg [.any,.any,.any,.any,.any]],ep:=ep+1}) X) X (h.set id {o with es:=o.es.take len++[.agg [.any,.any,.any,.any,.any]],ep:=ep+1})) vs [.ak id (ep+1) 0 len,.int .i64 (k:Int),.aa fl [e1]]:=
       jI ha (λv hv=>aE.oZ g1 oC hm hv g2 hle _ _) (λv hv=>hv.mono Sp) (λv hv=>hv.mono Sp)
      have cs:=uZ (o:={o with es:=o.es.take len++[.agg [.any,.any,.any,.any,.any]],ep:=ep+1}) (fo:=.agg [.any,.any,.any,.any,.any]) (pre:=o.es.take len) Hp oA (bp yE rfl (by show o.mu≠.x;rw[hm];simp)) hm hz rfl jR fZ hn gk rfl he Wv;refine cs.mono ?_;rintro en w' ⟨v,X1,rfl,q1,q2,q3,_⟩;rw[ac4]at q1 q2 q3;exact⟨v,X1,rfl,q1,q2,Sp.trans q3,λhh=>by omega⟩
     ·-- all is made anew
      obtain⟨p1,p2,p3,p4,p5,p6⟩:=bR o;have gl:getM (h.map bY) id ep=some (bY o):=bp (by rw[ace,g1];rfl) (by rw[p1];exact g2) (λhh=>g3 (p4.1 hh));have QD:∀b,Av (Av F h X) (h.map bY) X b->Av F h X b:=λb hb=>hb.elim (λhh=>hh) (λhm=>absurd hm (jJ h X b))
      have cs:=yA (o:=bY o) (bc:=bc) H.lock (jI ha (λv hv=>hv.alike (gP h) QD) (λv hv=>hv.alike (gP h) QD) (λv hv=>hv.alike (gP h) QD)) gl (by rw[p2];exact hz) (by rw[p3];exact hle) oC (by omega) fZ hn (by rw[p3];exact gk) he (vS ee);rw[p3,acW]at cs;refine cs.mono ?_;rintro en w' ⟨v,X1,rfl,q1,q2,q3,_⟩;obtain⟨pG,Hk⟩:∃pG,pG=(o.es.take len).take k++[e1]++(o.es.take len).drop k:=⟨_,rfl⟩;rw[<-Hk]at q1 q2 q3 ⊢;have Cj:pG.length=len+1:=by rw[Hk];simp;omega
      have Ww:pG.all (kY 5)=true:=by
       rw[abX]at gk ⊢
       intro x hx
       rw[Hk]at hx;rcases ab2.1 hx with hx |hx
       ·rcases ab2.1 hx with hx |hx;exact gk x (acI hx)
        ·obtain rfl:=acv.1 hx;exact he
       exact gk x (acJ hx)
      have enew:(h.map bY++[(⟨.m,0,5,pG⟩:aw)])[h.length]?=some ⟨.m,0,5,pG⟩:=by
       rw[ab6 (by simp)];simp
      obtain⟨bn,sG⟩:=dB q2.len enew;have mnew:Mb (h.map bY++[⟨.m,0,5,pG⟩]) X1 bn.1:=⟨h.length,_,bn,enew,sG,rfl,rfl⟩;obtain⟨T,uv,k1,k2,k3,k4,k5⟩:=(q2.obj h.length _ bn enew sG (by simp)).c (by simp)
      have DT:w.heap.size<=bn.1:=by
       rcases acE bn.1 w.heap.size with hh |hh;exact absurd (q3.shr bn.1 hh mnew) (jJ h X bn.1);exact hh
      have hA:∀b,Av F (h.set id {o with es:=pG,ep:=ep+1}) (X.set id bn) b->Av (Av F h X) (h.map bY++[⟨.m,0,5,pG⟩]) X1 b:=by
       rintro b (hb |⟨eH,o',dq,Kn,Sa,XR,e4'⟩);exact .inl (.inl hb)
       ·by_cases bZ:eH=id
        ·subst bZ;rw[abY (by rw[H.len];exact cM)]at Sa;obtain rfl:=abV Sa;rw[<-e4'];exact .inr mnew
        ·rw[ab0 (acS bZ)]at Kn Sa;exact .inl (.inr ⟨eH,o',dq,Kn,Sa,XR,e4'⟩)
      obtain⟨HH,SS⟩:=H.OD (w':=w') g1 oC hm T uv pG (ep+1) bn q3.size k1 (λb hb=>q3.aT b hb (jJ h X b)) DT (by omega) q3.os q3.tape q3.output k2 (by rw[hz];exact k3) (λi e Sb=>by
       obtain⟨m1,m2⟩:=k5 i e Sb;refine⟨by rw[hz];exact m1,λj p hp=>?_⟩;obtain⟨u,n1,n2⟩:=m2 j p hp
       have hv:aU e=true:=by
        have:=abX.1 Ww e (acb Sb);unfold kY at this;simp only[ab4]at this;exact this.1.1
       exact⟨u,by rw[hz];exact n1,n2.Jp (J5 hv p (acb hp)) hA⟩) q3.drawn
      obtain⟨_,_,m3⟩:=q1.dW;obtain⟨cap,c1,c2⟩:=m3 _ bn enew sG (by simp) rfl (by show 0+(len+1)<=pG.length;omega);refine⟨v,X.set id bn,rfl,?_,HH,SS,λhh=>by omega⟩;refine .ak v id (ep+1) 0 (len+1) {o with es:=pG,ep:=ep+1} bn ⟨_,_,_,c1⟩ (abY cM) (abY (by rw[H.len];exact cM)) (by show o.mu≠.x;rw[hm];simp) ⟨abZ _,by show 0<o.bQ;omega⟩ (λ_ _=>⟨cap,?_,c2⟩);rw[c1,adQ,adQ]
   cases e
  cases e
 cases e
end Zero
theorem Hl:fT C.P 45 (bE 4):=by
 intro args h r h' e w F X vs H ha
 unfold bE at e
 split at e
 ·rename_i fl es
  split at e
  ·rename_i x3
   obtain⟨rfl,rfl⟩:=ab7 (abV e);obtain rfl:es=[]:=by simpa using x3
   exact Zero.IX H ha rfl (by simp) (.inl ⟨rfl,rfl,rfl⟩)
  ·rename_i x3
   split at e
   ·rename_i hc
    obtain⟨rfl,rfl⟩:=ab7 (abV e);exact Zero.IX H ha hc.1 hc.2 (.inr ⟨by simpa using x3,rfl,rfl⟩)
   cases e
 cases e
theorem Hm:fT C.P 397 (bE 1):=by
 intro args h r h' e w F X vs H ha
 unfold bE at e
 split at e
 ·rename_i fl es
  split at e
  ·rename_i x3
   obtain⟨rfl,rfl⟩:=ab7 (abV e);obtain rfl:es=[]:=by simpa using x3
   exact Zero.IY H ha rfl (by simp) (.inl ⟨rfl,rfl,rfl⟩)
  ·rename_i x3
   split at e
   ·rename_i hc
    obtain⟨rfl,rfl⟩:=ab7 (abV e);exact Zero.IY H ha hc.1 hc.2 (.inr ⟨by simpa using x3,rfl,rfl⟩)
   cases e
 cases e
theorem yF:gB C where
 enters f hf bO:=K7 f (λh=>hf h) bO
 sI f g hh:=by
  have hm:jV f=.sI g:=hh;unfold jV at hm
  repeat' split at hm
  all_goals cases hm
 cV f g hh:=by
  have hm:jV f=.cV g:=hh;unfold jV at hm
  split at hm
  cases hm
  split at hm
  cases hm
  split at hm
  ·rename_i hf
   subst hf;obtain rfl:=Mode.cV.inj hm;exact Zero.Hj
  split at hm
  ·rename_i hf
   subst hf;obtain rfl:=Mode.cV.inj hm;exact Zero.GG
  split at hm
  ·rename_i hf
   subst hf;obtain rfl:=Mode.cV.inj hm;exact Hl
  split at hm
  ·rename_i hf
   subst hf;obtain rfl:=Mode.cV.inj hm;exact Hm
  repeat' split at hm
  all_goals cases hm
 ext:=Wx
end Go.Pm
namespace Go.Pm
open Go.Proofs Go.Shelf
def yU:Go.Shelf.Ren:=⟨λ|6=>161 |15=>208 |14=>207 |28=>266 |29=>267 |20=>258 |21=>259 |22=>260 |23=>261 |24=>262 |25=>263 |26=>264 |27=>265 |46=>313 |47=>314 |48=>315 |49=>316 |50=>317 |57=>355 |n=>n,λ|22=>31 |24=>33 |25=>75 |3=>3 |39=>190 |0=>0 |53=>223 |55=>202 |4=>4 |46=>217 |45=>216 |50=>164 |5=>5 |9=>9 |66=>246 |70=>154 |76=>285 |77=>286 |n=>n,λ|n=>n⟩
theorem ZG:Go.Proofs.SlLaysF0.n6 Tryz.prog yU:={
 mixed:=by kernel_rfl
 f6:=⟨Tryz.f161.name,by decide,Tryz.func161.trans (congrArg some (by kernel_rfl))⟩
 f14:=⟨Tryz.f207.name,by decide,Tryz.func207.trans (congrArg some (by kernel_rfl))⟩
 f15:=Tryz.func208.trans (congrArg some (by kernel_rfl))
 f20:=⟨Tryz.f258.name,by decide,Tryz.func258.trans (congrArg some (by kernel_rfl))⟩
 f21:=⟨Tryz.f259.name,by decide,Tryz.func259.trans (congrArg some (by kernel_rfl))⟩
 f22:=⟨Tryz.f260.name,by decide,Tryz.func260.trans (congrArg some (by kernel_rfl))⟩
 f23:=⟨Tryz.f261.name,by decide,Tryz.func261.trans (congrArg some (by kernel_rfl))⟩
 f24:=⟨Tryz.f262.name,by decide,Tryz.func262.trans (congrArg some (by kernel_rfl))⟩
 f25:=⟨Tryz.f263.name,by decide,Tryz.func263.trans (congrArg some (by kernel_rfl))⟩
 f26:=⟨Tryz.f264.name,by decide,Tryz.func264.trans (congrArg some (by kernel_rfl))⟩
 f27:=⟨Tryz.f265.name,by decide,Tryz.func265.trans (congrArg some (by kernel_rfl))⟩
 f28:=Tryz.func266.trans (congrArg some (by kernel_rfl))
 f29:=Tryz.func267.trans (congrArg some (by kernel_rfl))
 f46:=⟨Tryz.f313.name,by decide,Tryz.func313.trans (congrArg some (by kernel_rfl))⟩
 f47:=Tryz.func314.trans (congrArg some (by kernel_rfl))
 f48:=Tryz.func315.trans (congrArg some (by kernel_rfl))
 f49:=⟨Tryz.f316.name,by decide,Tryz.func316.trans (congrArg some (by kernel_rfl))⟩
 f50:=⟨Tryz.f317.name,by decide,Tryz.func317.trans (congrArg some (by kernel_rfl))⟩
 f57:=⟨Tryz.f355.name,by decide,Tryz.func355.trans (congrArg some (by kernel_rfl))⟩
 t0:=Tryz.underlying0
 a0:=Tryz.isAgg0
 z0:=Tryz.sizeOf0
 v0:=Tryz.zeroValue0
 t3:=Tryz.underlying3
 a3:=Tryz.isAgg3
 z3:=Tryz.sizeOf3
 v3:=Tryz.zeroValue3
 t4:=Tryz.underlying4
 a4:=Tryz.isAgg4
 z4:=Tryz.sizeOf4
 v4:=Tryz.zeroValue4
 t5:=Tryz.underlying5
 a5:=Tryz.isAgg5
 z5:=Tryz.sizeOf5
 v5:=Tryz.zeroValue5
 t9:=Tryz.underlying9
 a9:=Tryz.isAgg9
 z9:=Tryz.sizeOf9
 v9:=Tryz.zeroValue9
 t22:=Tryz.underlying31
 a22:=Tryz.isAgg31
 z22:=Tryz.sizeOf31
 v22:=Tryz.zeroValue31
 t25:=Tryz.underlying75
 a25:=Tryz.isAgg75
 z25:=Tryz.sizeOf75
 v25:=Tryz.zeroValue75
 t39:=Tryz.underlying190
 a39:=Tryz.isAgg190
 z39:=Tryz.sizeOf190
 v39:=Tryz.zeroValue190
 t45:=Tryz.underlying216
 a45:=Tryz.isAgg216
 z45:=Tryz.sizeOf216
 v45:=Tryz.zeroValue216
 t46:=Tryz.underlying217
 a46:=Tryz.isAgg217
 z46:=Tryz.sizeOf217
 v46:=Tryz.zeroValue217
 t50:=Tryz.underlying164
 a50:=Tryz.isAgg164
 z50:=Tryz.sizeOf164
 v50:=Tryz.zeroValue164
 t53:=Tryz.underlying223
 a53:=Tryz.isAgg223
 z53:=Tryz.sizeOf223
 v53:=Tryz.zeroValue223
 t55:=Tryz.underlying202
 a55:=Tryz.isAgg202
 z55:=Tryz.sizeOf202
 v55:=Tryz.zeroValue202
 t66:=Tryz.underlying246
 a66:=Tryz.isAgg246
 z66:=Tryz.sizeOf246
 v66:=Tryz.zeroValue246
 t70:=Tryz.underlying154
 a70:=Tryz.isAgg154
 z70:=Tryz.sizeOf154
 v70:=Tryz.zeroValue154
 t76:=Tryz.underlying285
 a76:=Tryz.isAgg285
 z76:=Tryz.sizeOf285
 v76:=Tryz.zeroValue285
 t77:=Tryz.underlying286
 a77:=Tryz.isAgg286
 z77:=Tryz.sizeOf286
 v77:=Tryz.zeroValue286}
theorem ZH:∀w,(isAgg (yU.t 24)).run Tryz.prog w=.ok true w:=Tryz.isAgg33
theorem ZI:∀w,(Go.sizeOf (yU.t 24)).run Tryz.prog w=.ok 4 w:=Tryz.sizeOf33
end Go.Pm
namespace Go.Pm
open Go.Proofs Go.Sort
set_option maxRecDepth 20000
theorem PO(l:List Tm):ae l=l.map enc:=by
 induction l with
 |nil=>rfl
 |cons t l ih=>simp only[ae,acg,ih]
theorem FE{l:List Tm}{i:Nat}{t:Tm}(h:l[i]?=some t):(ae l)[i]?=some (enc t):=by rw[PO,ace,h];rfl
mutual
def LY:PV->Option Tm
 | .agg [.int .i64 k,.str s,.int .i64 o,.aa false l]=>match wj l with
  |some l'=>some (.mk k s o l')
  |none=>none
 |_=>none
def wj:List PV->Option (List Tm)
 |[]=>some []
 |x::l=>match LY x with
  |some t=>match wj l with
   |some ts=>some (t::ts)
   |none=>none
  |none=>none
end
mutual
theorem PQ:∀t:Tm,LY (enc t)=some t
 | .mk k s o l=>by simp only[enc,LY,sx l]
theorem sx:∀l:List Tm,wj (ae l)=some l
 |[]=>rfl
 |t::l=>by simp only[ae,wj,PQ t,sx l]
end
mutual
theorem PR:∀(p:PV) {t:Tm},LY p=some t->enc t=p
 | .agg [.int .i64 k,.str s,.int .i64 o,.aa false l],t,h=>by
  simp only[LY]at h
  split at h
  ·rename_i l' hl
   obtain rfl:=abV h;simp only[enc,pw l hl]
  cases h
 |p,t,h=>by
  unfold LY at h
  split at h
  ·rename_i k s o l
   split at h
   ·rename_i l' hl
    obtain rfl:=abV h;simp only[enc,pw l hl]
   cases h
  cases h
theorem pw:∀(es:List PV) {ts:List Tm},wj es=some ts->ae ts=es
 |[],ts,h=>by simp only[wj,acA]at h;subst h;rfl
 |x::l,ts,h=>by
  simp only[wj]at h
  split at h
  ·rename_i t ht
   split at h
   ·rename_i ts' ez
    obtain rfl:=abV h;simp only[ae,PR x ht,pw l ez]
   cases h
  cases h
end
theorem rO{a b c:Tm}(h1:aW a b<=0)(h2:aW b c<=0):aW a c<=0:=by
 rcases Int.lt_or_eq_of_le h1 with h1 |h1
 ·rcases Int.lt_or_eq_of_le h2 with h2 |h2;exact Int.le_of_lt (eC h1 h2);rw[<-cy h2];exact Int.le_of_lt h1
 rw[cy h1];exact h2
def Ii(t:Tm):List Tm->List Tm
 |[]=>[t]
 |x::r=>if aW t x<=0 then t::x::r else x::Ii t r
def eJ:List Tm->List Tm
 |[]=>[]
 |t::r=>Ii t (eJ r)
theorem vw(t:Tm):∀l:List Tm,(Ii t l).Perm (t::l)
 |[]=>.refl _
 |x::r=>by
  unfold Ii
  split
  exact .refl _
  ·exact((vw t r).cons x).trans (.swap t x r)
theorem fI:∀ts:List Tm,(eJ ts).Perm ts
 |[]=>.refl _
 |t::r=>(vw t (eJ r)).trans ((fI r).cons t)
theorem FF(t:Tm):∀{l:List Tm},(l.Pairwise λx y=>aW x y<=0)->(Ii t l).Pairwise λx y=>aW x y<=0
 |[],_=>by simp[Ii]
 |x::r,h=>by
  unfold Ii;have h2:=acm.1 h
  split
  ·rename_i hc
   refine acm.2 ⟨λy hy=>?_,h⟩;rcases ab5.1 hy with rfl |hy;exact hc;exact rO hc (h2.1 y hy)
  ·rename_i hc
   have ng:=eI t x;refine acm.2 ⟨λy hy=>?_,FF t h2.2⟩;rcases ab5.1 ((vw t r).mem_iff.1 hy)with rfl |hy;omega;exact h2.1 y hy
theorem qO:∀ts:List Tm,(eJ ts).Pairwise λx y=>aW x y<=0
 |[]=>.nil
 |t::r=>FF t (qO r)
theorem FG{a b:List Tm}(hp:a.Perm b)(ha:a.Pairwise λx y=>aW x y<=0)(hb:b.Pairwise λx y=>aW x y<=0):a=b:=
 hp.eq_of_pairwise (λx y _ _ h1 h2=>cy (by have:=eI x y;omega)) ha hb
def qu(args:List PV)(h:ab):Option (PV×ab):=
 match args with
 |[.aa true [],.fn _ []]=>some (.cA [],h)
 |[.ak id ep 0 len,.fn g []]=>match getM h id ep with
  |some o=>match wj o.es with
   |some ts=>if g=52/\o.mu=.m/\o.bQ=4/\len=o.es.length/\len<1000000000/\(ts.all λt=>decide (ax t<1000000000))=true then
     some (.cA [],h.set id {o with es:=ae (eJ ts)})else none
   |none=>none
  |none=>none
 |_=>none
theorem mN{h:ab}{id ep:Nat}{ts:List Tm}(e:h[id]?=some ⟨.m,ep,4,ae ts⟩)(hn:ts.length<1000000000)(hb:∀t∈ts,ax t<1000000000):
  qu [.ak id ep 0 ts.length,.fn 52 []] h=some (.cA [],h.set id ⟨.m,ep,4,ae (eJ ts)⟩):=by
 have hg:getM h id ep=some ⟨.m,ep,4,ae ts⟩:=bp e rfl (by simp);have hl:=ai ts;simp only[qu,hg,sx];rw[if_pos ⟨trivial,trivial,trivial,hl.symm,hn,by simpa using hb⟩]
def TV(w:World)(A:Nat->Prop):Type:={x:Tm×List Value // x.2.length=4/\(∀v∈x.2,v.oneCell'=true)/\ax x.1<1000000000/\cu w A (.agg x.2.toArray) (enc x.1)}
instance(w:World)(A:Nat->Prop):Inhabited (TV w A):=
 ⟨⟨(.mk 0 ByteArray.empty 0 [],[.int .i64 0,.string ByteArray.empty,.int .i64 0,.slice none 0 0]),rfl,by simp[Value.oneCell'],by simp[ax,br],.agg _ _ rfl (λj hj=>by
  match j,hj with
  |0,_=>exact .int _ _
  |1,_=>exact .str _
  |2,_=>exact .int _ _
  |3,_=>exact .ig _ _ _ (λh=>by cases h)
  |j+4,hj=>simp at hj;omega)⟩⟩
theorem zB{α:Type}[Inhabited α]{R:Nat->α->Prop}:∀n:Nat,(∀i,i<n->∃x,R i x)->∃d:Array α,d.size=n/\∀i,i<n->R i d[i]!
 |0,_=>⟨#[],rfl,λi hi=>by omega⟩
 |n+1,h=>by
  obtain⟨d,d1,d2⟩:=zB n (λi hi=>h i (by omega));obtain⟨x,hx⟩:=h n (by omega);refine⟨d.push x,by simp[d1],λi hi=>?_⟩
  by_cases iB:i=n
  ·subst iB;have:(d.push x)[i]! =x:=by simp[<-d1]
   rw[this];exact hx
  ·have:(d.push x)[i]! =d[i]!:=by
    have cM:i<d.size:=by omega
    simp[Array.getElem!_eq_getD,Array.getD,Array.getElem_push,cM,Nat.lt_succ_of_lt cM]
   rw[this];exact d2 i (by omega)
theorem Z6(w:World)(A:Nat->Prop):SWO (ltOf λx y:TV w A=>aW x.1.1 y.1.1) where
 irrefl x:=by simp[ltOf,cc]
 trans x y z h1 h2:=by
  simp only[ltOf,decide_eq_true_eq]at *;exact eC h1 h2
 ntrans x y z h1 h2:=by
  simp only[ltOf,decide_eq_false_iff_not,Int.not_lt]at *;have a:=eI x.1.1 y.1.1;have b:=eI y.1.1 z.1.1;have c:=eI x.1.1 z.1.1;have:=rO (a:=z.1.1) (b:=y.1.1) (c:=x.1.1) (by omega) (by omega);omega
theorem qC{α:Type}[Inhabited α](enc:α->List Value)(k:Nat)(w:World)(blk off m:Nat)(dk:Array α)(os:Array Obj)(b:Nat)(hb:b<w.heap.size)(bO:b≠blk):(sortWorldK enc k w blk off m dk os).heap[b]?=w.heap[b]?:=by
 unfold sortWorldK putRowK putRow mapBlock;rw[heap_grow_old _ _ (by simpa[ahead]using hb)];show(Array.modify w.heap blk _)[b]?=_;rw[ad0,if_neg (acS bO)]
theorem AF{α:Type}[Inhabited α](enc:α->List Value)(k:Nat)(w:World)(blk off m:Nat)(dk:Array α)(os:Array Obj){cs:Array Value}{T:TypeId}{fr:Nat×Nat}(hb:w.heap[blk]?=some (.cells cs T fr)):
  (sortWorldK enc k w blk off m dk os).heap[blk]?=some (.cells (putCells id off (flatK enc k dk) cs) T fr):=by
 have cM:blk<w.heap.size:=by
  rcases acE blk w.heap.size with h |h;exact h;rw[adW h]at hb;cases hb
 unfold sortWorldK putRowK putRow mapBlock;rw[heap_grow_old _ _ (by simpa[ahead]using cM)];show(Array.modify w.heap blk _)[blk]?=_;rw[ad0,if_pos rfl,hb]
 rfl
theorem wZ{α:Type}[Inhabited α](enc:α->List Value)(k:Nat)(w:World)(blk off m:Nat)(dk:Array α)(os:Array Obj):w.heap.size<=(sortWorldK enc k w blk off m dk os).heap.size:=by
 unfold sortWorldK putRowK putRow mapBlock;rw[size_grow];simp[ahead]
theorem C9{α:Type}[Inhabited α]{enc:α->List Value}{k:Nat}{dk:Array α}{cs:Array Value}{i j:Nat}(hi:i<dk.size)(hj:j<k)(hs:dk.size * k<=cs.size)(hk:∀x,(enc x).length=k):
  (putCells id 0 (flatK enc k dk) cs)[i * k+j]?=(enc dk[i]!)[j]?:=by
 have lt:i * k+j<dk.size * k:=by
  have:=acF k (show i+1<=dk.size from hi);rw[acU,Nat.one_mul]at this;omega
 have e1:(i * k+j) / k=i:=(blk_iff k i _ (by omega)).1 ⟨by omega,by omega⟩;have e2:(i * k+j) % k=j:=by rw[Nat.mod_eq_sub_div_mul,e1];omega
 unfold putCells;rw[Array.getElem?_mapIdx,adk (show i * k+j<cs.size by omega)];simp only[ab8,adw,true_and,acf,size_flatK,if_pos lt,id,Nat.sub_zero];rw[get_flatK _ _ _ _ lt,e1,e2,ab1 (by rw[hk];exact hj)];rw[getElem!_pos _ j (by rw[hk];exact hj)]
variable{w:World}{F:Nat->Prop}{X:List (Nat×Nat)}{h:ab}
theorem Z7{cs:Array Value}{t:Tm}{i:Nat}(hb:ax t<1000000000)(q2:∀(j:Nat) (p:PV),(cells (enc t))[j]?=some p->∃v:Value,cs[i * 4+j]?=some v/\aE w (Av F h X) X h v p):
  ∃x:TV w (Av F h X),x.1.1=t/\∀j,j<4->cs[i * 4+j]?=x.1.2[j]?:=by
 obtain⟨k,s,o,l⟩:=t;obtain⟨a,a1,a2⟩:=q2 0 (.int .i64 k) rfl;obtain⟨b,b1,b2⟩:=q2 1 (.str s) rfl;obtain⟨c,c1,c2⟩:=q2 2 (.int .i64 o) rfl;obtain⟨d,d1,d2⟩:=q2 3 (.aa false (ae l)) rfl;have a3:=a2.J6 rfl;have b3:=b2.J6 rfl;have c3:=c2.J6 rfl;have d3:=d2.fV;have o4:d.oneCell'=true:=by obtain⟨ad,cap,rfl,_⟩:=d3.kK;rfl
 refine⟨⟨(.mk k s o l,[a,b,c,d]),rfl,?_,hb,.agg [a,b,c,d] _ rfl (λj hj=>?_)⟩,rfl,λj hj=>?_⟩
 ·intro v hv
  simp only[ab5,adh,or_false]at hv;rcases hv with rfl |rfl |rfl |rfl
  cases a3;rfl
  cases b3;rfl
  cases c3;rfl
  exact o4
 ·match j,hj with
  |0,_=>exact a3
  |1,_=>exact b3
  |2,_=>exact c3
  |3,_=>exact d3
  |j+4,hj=>simp at hj;omega
 ·match j,hj with
  |0,_=>exact a1
  |1,_=>exact b1
  |2,_=>exact c1
  |3,_=>exact d1
  |j+4,hj=>omega
theorem L2.two{R:Value->PV->Prop}{vs:List Value}{a b:PV}(h:L2 R vs [a,b]):∃x y,vs=[x,y]/\R x a/\R y b:=by
 obtain⟨h1,h2⟩:=h
 match vs,h1 with
 |[x,y],_=>exact⟨x,y,rfl,h2 0 (by simp),h2 1 (by simp)⟩
theorem Ij(args:Array Value)(w:World):(callFunc 52 args).run C.P w=.ok (.enter 52 args) w:=enters_of Tryz.func52 (by kernel_rfl) rfl args w
theorem LZ{vs:List Value}{id ep:Nat}{o:aw}{ts:List Tm}(H:bo w F X h)(ha:L2 (aE w (Av F h X) X h) vs [.ak id ep 0 o.es.length,.fn 52 []])(hg:getM h id ep=some o)(hm:o.mu=.m)(hz:o.bQ=4)
  (hn:o.es.length<1000000000) (jt:ae ts=o.es) (F9:∀t∈ts,ax t<1000000000):na C.P 2 w F X h 161 vs (.cA []) (h.set id {o with es:=ae (eJ ts)}):=by
 obtain⟨g1,g2,g3⟩:=getM_some hg;obtain⟨bc,oC⟩:=dB H.len g1;obtain⟨v0,v1,rfl,h0,h1⟩:=ha.two;obtain⟨_,_,m3⟩:=h0.dW;obtain⟨cap,c1,c2⟩:=m3 o bc g1 oC g3 g2 (by omega);rw[adQ]at c1;obtain⟨us,d1,d2,_⟩:=h1.Gu;obtain rfl:us=[]:=acd d2;subst c1 d1;obtain⟨T,cs,k1,k2,k3,k4,k5⟩:=(H.obj id o bc g1 oC g3).c (by omega);have hblk:bc.1<w.heap.size:=Mb.lt H ⟨id,o,bc,g1,oC,hm,rfl⟩;have hav:Av F h X bc.1:=.inr ⟨id,o,bc,g1,oC,hm,rfl⟩;have hlen:ts.length=o.es.length:=by rw[<-jt,ai]
 have hcs:ts.length * 4<=cs.size:=by rw[hz]at k3;omega
 obtain⟨d,dl,dh⟩:=zB (α:=TV w (Av F h X)) (R:=λi x=>ts[i]?=some x.1.1/\∀j,j<4->cs[i * 4+j]?=x.1.2[j]?) ts.length (λi hi=>by
  have ht:ts[i]?=some ts[i]:=ab1 hi;obtain⟨_,q2⟩:=k5 i (enc ts[i]) (by rw[<-jt];exact FE ht);rw[hz]at q2;obtain⟨x,x1,x2⟩:=Z7 (F9 _ (acB hi)) q2;exact⟨x,by rw[ht,x1],x2⟩)
 have hk:∀x:TV w (Av F h X),x.1.2.length=4:=λx=>x.2.1
 have hH:HoldsK (λx:TV w (Av F h X)=>x.1.2) 4 w bc.1 0 d:=by
  intro j hj
  rw[size_flatK]at hj;have hj4:j / 4<d.size:=by omega
  obtain⟨_,r2⟩:=dh (j / 4) (by omega);have:=r2 (j % 4) (by omega);rw[show j / 4 * 4+j % 4=j by omega]at this;refine⟨?_,by simp[World.frozen?,k1]⟩;rw[get_flatK _ _ _ _ hj];have hl:j % 4<(d[j / 4]!).1.2.length:=by rw[hk];omega
  rw[ab1 hl]at this;simp only[World.cell?,k1,acf,this];rw[getElem!_pos (d[j / 4]!).1.2 (j % 4) hl]
  rfl
 have abp:CmpLays C.P 52 #[] (λx:TV w (Av F h X)=>x.1.2) 4 (λx y=>aW x.1.1 y.1.1) bc.1 0 d.size w:=by
  intro m os dk hs x y
  obtain⟨n,hn⟩:=(eY x.1.1 y.1.1 x.2.2.2.1 y.2.2.2.1).pR
  have up:∀(x:TV w (Av F h X)),cu (sortWorldK (λx:TV w (Av F h X)=>x.1.2) 4 w bc.1 0 m dk os) (λ_=>False) (.agg x.1.2.toArray) (enc x.1.1):=λx=>
   x.2.2.2.2.mono (λb hb UX=>qC _ _ _ _ _ _ _ _ b hb (λe=>UX (e▸hav))) (λ_ _ _ hh=>hh)
  have rF:L2 (cu (sortWorldK (λx:TV w (Av F h X)=>x.1.2) 4 w bc.1 0 m dk os) (λ_=>False)) [.agg x.1.2.toArray,.agg y.1.2.toArray] [enc x.1.1,enc y.1.1]:=⟨rfl,λj hj=>by
   match j,hj with
   |0,_=>exact up x
   |1,_=>exact up y
   |j+2,hj=>simp at hj;omega⟩
  rw[Array.append_empty];refine(BC yF pV (.inl rfl) hn (λb hb=>hb.elim) rF).mono ?_;rintro e w' ⟨v,rfl,hv,uP⟩
  cases hv
  exact⟨rfl,uP.grow⟩
 have Tg:=AnyQ.slices_SortFunc ZG 4 ZH ZI (λx:TV w (Av F h X)=>x.1.2) hk (λx=>x.2.2.1) (λx y=>aW x.1.1 y.1.1) (Z6 w _) 52 #[] bc.1 0 cap d w Ij abp hH hblk (by omega);rw[dl,hlen]at Tg;refine Tg.mono ?_;rintro e w' ⟨rfl,d',n,os,hp,hs,rfl⟩;rw[<-hlen,<-dl]at hp hs;have abq:d'.size=d.size:=hp.1
 have hdt:d.toList.map (λx=>x.1.1)=ts:=by
  apply ac9
  intro i
  by_cases hi:i<ts.length
  rw[ace,(dh i hi).1,acw,adk (by omega),getElem!_pos d i (by omega)];rfl;rw[ach (by simp;omega),ach (by omega)]
 have ez:d'.toList.map (λx=>x.1.1)=eJ ts:=by
  refine FG ?_ ?_ (qO ts)
  ·have h3:=hp.2.2;rw[show d.extract 0 d.size=d by simp,show d'.extract 0 d.size=d' by rw[<-abq];simp]at h3;refine(h3.map _).trans ?_;rw[hdt];exact(fI ts).symm
  ·rw[List.pairwise_map,List.pairwise_iff_getElem]
   intro i j hi hj Ks
   simp only[adu]at hi hj;have:=hs i j (adw _) Ks (by omega);rw[getElem!_pos d' i (by omega),getElem!_pos d' j (by omega)]at this;simp only[ltOf,decide_eq_false_iff_not,Int.not_lt]at this;have ng:=eI d'[i].1.1 d'[j].1.1;simp only[Array.getElem_toList];omega
 have dp:(ae (eJ ts)).length=o.es.length:=by rw[ai,<-ez];simp;omega
 obtain⟨H',S'⟩:=H.set (w':=sortWorldK (λx:TV w (Av F h X)=>x.1.2) 4 w bc.1 0 n d' os) g1 oC hm T (putCells _root_.id 0 (flatK (λx:TV w (Av F h X)=>x.1.2) 4 d') cs) (ae (eJ ts)) o.ep bc (wZ _ _ _ _ _ _ _ _) (AF _ _ _ _ _ _ _ _ k1)
  (λb hb bO=>qC _ _ _ _ _ _ _ _ b hb bO) (.inl ⟨rfl,λ_=>dp⟩) (abZ _) rfl rfl rfl (by rw[dp];exact k2) (by simpa[putCells]using k3) (λi e he=>by
   have hi:i<d'.size:=by have:=ag he;omega
   have CH:(eJ ts)[i]?=some d'[i].1.1:=by rw[<-ez,ace,acw,adk hi];rfl
   rw[FE CH]at he;obtain rfl:=abV he;have sr:=d'[i].2.2.2.2;obtain⟨z1,z2⟩:=sr.cells;rw[hz]
   have ee:(cells (enc d'[i].1.1)).length=4:=by
    rw[<-z1];show d'[i].1.2.toArray.size=4;simpa using hk d'[i]
   refine⟨ee,λj p hp=>?_⟩;obtain⟨u,u1,u2⟩:=z2 j p hp;refine⟨u,?_,.val u2⟩;have hj:=ag hp;rw[C9 (enc:=λx:TV w (Av F h X)=>x.1.2) hi (by omega) (by omega) hk,getElem!_pos d' i hi];have u3:d'[i].1.2.toArray[j]?=some u:=u1;simpa using u3) (by show w.drawn<=w.drawn+n;omega)
 rw[zj oC]at H' S';exact⟨_,X,rfl,.val (.cA [] [] rfl (λj hj=>by simp at hj)),H',S',λhh=>by omega⟩
theorem Pl:fT C.P 161 qu:=by
 intro args h r h' e w F X vs H ha
 unfold qu at e
 split at e
 ·rename_i g
  obtain⟨rfl,rfl⟩:=ab7 (abV e);obtain⟨v0,v1,rfl,h0,h1⟩:=ha.two;obtain⟨ad,cap,rfl,_,_⟩:=h0.fV.kK;have Tg:=AnyF.slices_SortFunc_none ZG ad cap v1 w;refine Tg.mono ?_;rintro e w' ⟨rfl,rfl⟩;exact⟨_,X,rfl,.val (.cA [] [] rfl (λj hj=>by simp at hj)),H,eD.refl w' h X,λhh=>by omega⟩
 ·rename_i id ep len g
  split at e
  ·rename_i o hg
   split at e
   ·rename_i ts hd
    split at e
    ·rename_i hc
     obtain⟨rfl,rfl⟩:=ab7 (abV e);obtain⟨rfl,c1,c2,rfl,c4,c5⟩:=hc;exact LZ H ha hg c1 c2 c4 (pw _ hd) (by simpa using c5)
    cases e
   cases e
  cases e
 cases e
end Go.Pm
namespace Go.Pm
def BH(md md':FuncId->Mode):Prop:=∀f,md f=.no\/md f=md' f
variable{P:Program}{md md':FuncId->Mode}{run run':iR}
def mB(P:Program)(md md':FuncId->Mode)(run run':iR):Prop:=∀(lv:Nat) (f:FuncId) (args:List PV) (h:ab) (x:PV×ab),dn ⟨P,md⟩ run lv f args h=some x->dn ⟨P,md'⟩ run' lv f args h=some x
theorem P3(M:BH md md')(L:iO run run'){lv:Nat}{f:FuncId}{args:List PV}{h:ab}{x:PV×ab}(e:dn ⟨P,md⟩ run lv f args h=some x):dn ⟨P,md'⟩ run' lv f args h=some x:=by
 unfold dn at e ⊢;rcases M f with hz |hz
 ·simp only[hz]at e
  cases e
 simp only[<-hz]
 cases hm:md f <;>simp only[hm]at e ⊢
 cases e
 exact np L e;exact nq L e;exact e;exact kz (λ_ _ _ x=>x) e;exact e
theorem Mh(M:BH md md')(L:iO run run'):mB P md md' run run':=λlv f args h x e=>P3 M L e
theorem ou(M:mB P md md' run run'){lv:Nat}{op:Op}{O:Nat->PV}{h:ab}{x:PV×ab}(e:au ⟨P,md⟩ run lv op O h=some x):au ⟨P,md'⟩ run' lv op O h=some x:=by
 unfold au at e ⊢
 split at e
 ·split at e
  ·unfold gA at e ⊢
   split at e
   exact M _ _ _ _ _ e;exact M _ _ _ _ _ e
   cases e
  exact e
  cases e
 exact e
theorem Mi(M:mB P md md' run run'){ops:Array Oper}{o:Oper}{s s':St}(e:gf ⟨P,md⟩ run ops o s=some s'):gf ⟨P,md'⟩ run' ops o s=some s':=by
 unfold gf at e ⊢
 split at e
 ·cases hr:au ⟨P,md⟩ run 2 o.op s.O s.h with
  |none=>rw[hr]at e;cases e
  |some y=>rw[hr]at e;rw[ou M hr];exact e
 exact e
 cases e
theorem zF(M:mB P md md' run run'){ops:Array Oper}:∀{l:List Oper} {s s':St},dK ⟨P,md⟩ run ops l s=some s'->dK ⟨P,md'⟩ run' ops l s=some s'
 |[],s,s',e=>e
 |o::l,s,s',e=>by
  simp only[dK]at e ⊢
  cases hr:gf ⟨P,md⟩ run ops o s with
  |none=>rw[hr]at e;cases e
  |some y=>
   rw[hr]at e;rw[Mi M hr];exact zF M e
theorem It(M:mB P md md' run run'){ops:Array Oper}{b:List Nat}{i:Nat}{o:Oper}{s s':xc}(e:cD ⟨P,md⟩ run ops b i o s=some s'):cD ⟨P,md'⟩ run' ops b i o s=some s':=by
 unfold cD at e ⊢
 split at e
 ·split at e
  ·rename_i hh
   rw[if_pos hh]
   cases hr:au ⟨P,md⟩ run 1 o.op s.s.O s.s.h with
   |none=>rw[hr]at e;cases e
   |some y=>rw[hr]at e;rw[ou M hr];exact e
  ·rename_i hh
   rw[if_neg hh]
   split at e
   ·rename_i hl
    rw[if_pos hl]
    cases hr:au ⟨P,md⟩ run 2 o.op s.s.O s.s.h with
    |none=>rw[hr]at e;cases e
    |some y=>rw[hr]at e;rw[ou M hr];exact e
   ·rename_i hl
    rw[if_neg hl];simp only at e ⊢
    split at e
    ·rename_i hc
     rw[if_pos hc]
     cases hr:au ⟨P,md⟩ run 1 o.op s.s.O (cI (b.getD i 0).testBit s.L0 s.own s.s.h)with
     |none=>rw[hr]at e;cases e
     |some y=>rw[hr]at e;rw[ou M hr];exact e
    cases e
 exact e
 cases e
theorem wo(M:mB P md md' run run'){ops:Array Oper}{b:List Nat}:∀{l:List Oper} {i:Nat} {s s':xc},dL ⟨P,md⟩ run ops b i l s=some s'->dL ⟨P,md'⟩ run' ops b i l s=some s'
 |[],i,s,s',e=>e
 |o::l,i,s,s',e=>by
  simp only[dL]at e ⊢
  cases hr:cD ⟨P,md⟩ run ops b i o s with
  |none=>rw[hr]at e;cases e
  |some y=>
   rw[hr]at e;rw[It M hr];exact wo M e
theorem Iu(M:mB P md md' run run'){ops:Array Oper}{b:List Nat}{h0:ab}{i:Nat}{o:Oper}{s s':St}(e:da ⟨P,md⟩ run ops b h0 i o s=some s'):da ⟨P,md'⟩ run' ops b h0 i o s=some s':=by
 unfold da at e ⊢
 split at e
 ·split at e
  ·rename_i hh
   rw[if_pos hh]
   cases hr:au ⟨P,md⟩ run 1 o.op s.O s.h with
   |none=>rw[hr]at e;cases e
   |some y=>rw[hr]at e;rw[ou M hr];exact e
  ·rename_i hh
   rw[if_neg hh]
   split at e
   ·rename_i hl
    rw[if_pos hl];exact e
   ·rename_i hl
    rw[if_neg hl]
    cases hs:(if jT o.op then aC P 1 o.op s.O s.h else none)with
    |some y=>rw[hs]at e;exact e
    |none=>
     rw[hs]at e;simp only at e ⊢
     split at e
     ·rename_i hk
      rw[if_pos hk]
      cases hr:au ⟨P,md⟩ run 2 o.op s.O s.h with
      |none=>rw[hr]at e;cases e
      |some y=>rw[hr]at e;rw[ou M hr];exact e
     cases e
 exact e
 cases e
theorem wq(M:mB P md md' run run'){ops:Array Oper}{b:List Nat}{h0:ab}:∀{l:List Oper} {i:Nat} {s s':St},cx ⟨P,md⟩ run ops b h0 i l s=some s'->cx ⟨P,md'⟩ run' ops b h0 i l s=some s'
 |[],i,s,s',e=>e
 |o::l,i,s,s',e=>by
  simp only[cx]at e ⊢
  cases hr:da ⟨P,md⟩ run ops b h0 i o s with
  |none=>rw[hr]at e;cases e
  |some y=>
   rw[hr]at e;rw[Iu M hr];exact wq M e
theorem P4(M:mB P md md' run run'){ops:Array Oper}{s s':St}(e:jy ⟨P,md⟩ run ops s=some s'):jy ⟨P,md'⟩ run' ops s=some s':=by
 unfold jy at e ⊢
 cases hr:cx ⟨P,md⟩ run ops (before ops) (cK (gT ops (before ops) s.O) s.h) 0 ops.toList ⟨s.O,cK (gT ops (before ops) s.O) s.h⟩with
 |none=>rw[hr]at e;cases e
 |some y=>rw[hr]at e;rw[wq M hr];exact e
theorem P5(M:mB P md md' run run'){n m:Nat}(NE:n<=m):∀(c:Code) {s:St} {x:Ex×St},bW ⟨P,md⟩ run n c s=some x->bW ⟨P,md'⟩ run' m c s=some x:=by
 intro c
 induction c with
 |region id ops draw=>
  intro s x e
  simp only[bW]at e ⊢
  cases draw with
  |false=>
   simp only[aca,if_false]at e ⊢
   cases hr:dK ⟨P,md⟩ run ops ops.toList s with
   |none=>rw[hr]at e;cases e
   |some y=>rw[hr]at e;rw[zF M hr];exact e
  |true=>
   simp only[if_true]at e ⊢
   by_cases hk:sL ops=true
   ·simp only[hk,if_true]at e ⊢
    cases hr:jy ⟨P,md⟩ run ops s with
    |none=>rw[hr]at e;cases e
    |some y=>rw[hr]at e;rw[P4 M hr];exact e
   ·simp only[hk]at e ⊢
    cases hr:dL ⟨P,md⟩ run ops (before ops) 0 ops.toList ⟨s,s.h.length,[]⟩with
    |none=>rw[hr]at e;simp at e
    |some y=>rw[hr]at e;rw[wo M hr];exact e
 |seq a b iha ihb=>
  intro s x e
  simp only[bW]at e ⊢
  cases hr:bW ⟨P,md⟩ run n a s with
  |none=>rw[hr]at e;cases e
  |some y=>
   rw[hr]at e;rw[iha hr];obtain⟨ex,s'⟩:=y
   cases ex with
   |normal=>exact ihb e
   |exit id=>exact e
   |ret=>exact e
 |cond c a b iha ihb=>
  intro s x e
  simp only[bW]at e ⊢
  split at e
  exact iha e;exact ihb e
  cases e
 |block id c ih=>
  intro s x e
  simp only[bW]at e ⊢
  cases hr:bW ⟨P,md⟩ run n c s with
  |none=>rw[hr]at e;cases e
  |some y=>rw[hr]at e;rw[ih hr];exact e
 |loop c ih=>
  intro s x e
  simp only[bW]at e ⊢;exact qM (λs x=>ih) NE e
 |scope c ih=>
  intro s x e
  simp only[bW]at e ⊢;exact ih e
 |_=>
  intro s x e
  first
   |exact e
   |(simp[bW]at e;done)
   |(simp only[bW]at e ⊢;exact e)
theorem E5(M:mB P md md' run run'){n m:Nat}(NE:n<=m):iO (pQ ⟨P,md⟩ run n) (pQ ⟨P,md'⟩ run' m):=by
 intro f args h x e
 unfold pQ at e ⊢
 cases hf:P.funcs[f]? with
 |none=>rw[hf]at e;cases e
 |some fn=>
  rw[hf]at e;simp only at e ⊢
  cases hb:fn.body with
  |none=>rw[hb]at e;cases e
  |some c=>
   rw[hb]at e;simp only at e ⊢
   cases hr:bW ⟨P,md⟩ run n c ⟨nw args,h⟩with
   |none=>rw[hr]at e;cases e
   |some y=>rw[hr]at e;rw[P5 M NE c hr];exact e
theorem Db(M:BH md md'):∀n,iO (fF ⟨P,md⟩ n) (fF ⟨P,md'⟩ n)
 |0=>λf args h x e=>by cases e
 |n+1=>E5 (Mh M (Db M n)) (abZ n)
theorem ay.up(M:BH md md'){f:FuncId}{args:List PV}{h:ab}{Q:PV->ab->Prop}(a:ay ⟨P,md⟩ f args h Q):ay ⟨P,md'⟩ f args h Q:=by
 obtain⟨r,h',q,n0,hn⟩:=a;exact⟨r,h',q,n0,λn h1=>Db M n _ _ _ _ (hn n h1)⟩
theorem aI.up(M:BH md md'){f:FuncId}{args:List PV}{r:PV}(a:aI ⟨P,md⟩ f args r):aI ⟨P,md'⟩ f args r:=by
 obtain⟨n0,hn⟩:=a;refine⟨n0,λn h1=>?_⟩;obtain⟨r0,hc,r1,e1,e2⟩:=hn n h1;exact⟨r0,hc,r1,Db M n _ _ _ _ e1,e2⟩
end Go.Pm
namespace Go.Pm
open Go.Proofs
open Go.Pm.Zero (lz jI)
attribute [local irreducible] aD az aL aJ Ev ah aj ay bg
variable{w:World}{F:Nat->Prop}{X:List (Nat×Nat)}{h:ab}
namespace rI
set_option maxRecDepth 100000
set_option maxHeartbeats 4000000
noncomputable abbrev T6:mD C0.P:=Zero.T6
theorem u5{h:ab}{fl:Bool}{e:PV}(he:kY 4 e=true):ay C0 215 [.aa true [],.int .i64 0,.aa fl [e]] h (λr h'=>r=.ak h.length 0 0 1/\h'=h++[⟨.m,0,4,[e]⟩]):=by
 refine ay.dM Tryz.func215 rfl ?_;have hu:C0.P.underlying 132=some (.slice 33):=bB (T6.cY 132 _ rfl);have xe:([e]:List PV).length=1:=rfl;refine wD ?_;apply R.slice;exact rfl;exact rfl;exact rfl;exact rfl;exact Bv hu (T6.ez 33 4 rfl)
 (repeat' (first |refine ah.nil ?_ |(apply R.move;exact rfl)|(apply R.assign;exact rfl)|(apply R.cmp;exact rfl;exact rfl;exact rfl;all_goals intro hc;all_goals(try(exfalso;omega)))|(apply R.rX T6;exact rfl;exact rfl)|refine Ev.seq ?_ |refine Ev.region ?_ |(apply Ev.fR;exact rfl)|refine Ev.skip ?_ |refine aD.normal ?_ |fail))
 all_goals try(exfalso;revert hc;decide)
 all_goals(
  apply R.jC T6;exact rfl;exact rfl;exact rfl;exact rfl;exact rfl;exact rfl;exact rfl;exact(by decide);exact rfl;exact rfl;exact tH he;exact(by simp);exact(by show 1<_;decide);refine wD ?_;exact⟨rfl,rfl⟩)
theorem u6{h:ab}{fl:Bool}{e:PV}{id ep len:Nat}{o:aw}(he:kY 4 e=true)(hg:getM h id ep=some o)(hm:o.mu=.m)(hz:o.bQ=4)(hle:len<=o.es.length)(hn:len<100000000):
  ay C0 215 [.ak id ep 0 len,.int .i64 (len:Int),.aa fl [e]] h (λr h'=>r=.ak id (ep+1) 0 (len+1)/\h'=h.set id {o with ep:=ep+1,es:=o.es.take len++[e]}):=by
 refine ay.dM Tryz.func215 rfl ?_;have hu:C0.P.underlying 132=some (.slice 33):=bB (T6.cY 132 _ rfl);have xe:([e]:List PV).length=1:=rfl;have gR:cF C0.P 33=some o.bQ:=by rw[hz];exact T6.ez 33 4 rfl
 refine wD ?_;apply R.slice;exact rfl;exact rfl;exact rfl;exact rfl;exact qP hu gR hg (abZ _) hle;refine wF λhc=>?_
 all_goals try(exfalso;revert hc;decide)
 all_goals(
  apply R.Ag T6 (o:=o);exact rfl;exact rfl;exact hg;exact(by omega);refine wF λhc=>?_;apply R.Eu T6 (o:=o);exact rfl;exact rfl;exact rfl;exact rfl;exact rfl;exact rfl;exact rfl;exact(by decide);exact rfl;exact rfl;exact tH he;exact rfl;exact(by show len+1<_;omega);exact hg;exact hm;exact hz;exact hle;refine wD ?_;exact⟨rfl,rfl⟩)
noncomputable def OA:Code:=match Tryz.f215.body with |some c=>c |none=>.skip
theorem yB:Tryz.f215.body=some OA:=rfl
variable{w:World}{F:Nat->Prop}{X:List (Nat×Nat)}
theorem tE{h:ab}{id ep len i N:Nat}{o:aw}{fl:Bool}{e:PV}{a:Act}{Q:Exit->Act->World->Prop}(hg:getM h id ep=some o)(hz:o.bQ=4)(hle:len<=o.es.length)(hi:i<len)(hn:len<100000000)(hN:N=Tryz.f215.ntmps)
  (RR:SR N w F X ⟨nw [.ak id ep 0 len,.int .i64 (i:Int),.aa fl [e]],h⟩ a)
  (k:∀a' w' X' O',SR N w' F X' ⟨al [(0,.ak id ep 0 len),(1,.int .i64 (i:Int)),(2,.aa fl [e]),(7,.int .i64 1),(8,.int .i64 (len:Int))] O',h⟩ a'->eD w h X w' h X'->(tlC 6 OA).wp C0.P Q a' w'):OA.wp C0.P Q a w:=by
 subst hN;have hu:C0.P.underlying 132=some (.slice 33):=bB (T6.cY 132 _ rfl);have gR:cF C0.P 33=some o.bQ:=by rw[hz];exact T6.ez 33 4 rfl
 have xe:([e]:List PV).length=1:=rfl;refine wp_seq ?_;refine cR K0 cf S0 (M:=λex s'=>ex=.normal/\∃O',s'=⟨al [(0,.ak id ep 0 len),(1,.int .i64 (i:Int)),(2,.aa fl [e])] O',h⟩) rfl ?_ RR ?_
 ·rw[iK];refine wD ?_;exact⟨rfl,_,St.aT ⟨rfl,rfl,rfl,trivial⟩⟩
 rintro ex s' a1 w1 X1 ⟨rfl,O1,rfl⟩ R1 S1;refine wp_seq ?_;refine cR K0 cf S0 (M:=λex s'=>ex=.normal/\∃O',s'=⟨al [(0,.ak id ep 0 len),(1,.int .i64 (i:Int)),(2,.aa fl [e])] O',h⟩) rfl ?_ R1 ?_
 ·refine wD ?_;apply R.slice;exact rfl;exact rfl;exact rfl;exact rfl;exact c9 hu gR hg hi hle;refine wD ?_;exact⟨rfl,_,St.aT ⟨rfl,rfl,rfl,trivial⟩⟩
 rintro ex s' a2 w2 X2 ⟨rfl,O2,rfl⟩ R2 S2;refine wp_seq ?_;refine cR K0 cf S0 (M:=λex s'=>ex=.normal/\∃O',s'=⟨al [(0,.ak id ep 0 len),(1,.int .i64 (i:Int)),(2,.aa fl [e]),(7,.int .i64 1)] O',h⟩) rfl ?_ R2 ?_
 ·refine wD ?_;exact⟨rfl,_,St.aT ⟨rfl,rfl,rfl,rfl,trivial⟩⟩
 rintro ex s' a3 w3 X3 ⟨rfl,O3,rfl⟩ R3 S3;refine wp_seq ?_;refine cR K0 cf S0 (M:=λex s'=>ex=.normal/\∃O',s'=⟨al [(0,.ak id ep 0 len),(1,.int .i64 (i:Int)),(2,.aa fl [e]),(7,.int .i64 1)] O',h⟩) rfl ?_ R3 ?_
 ·refine wF λhc=>?_;exact⟨rfl,_,St.aT ⟨rfl,rfl,rfl,rfl,trivial⟩⟩
 rintro ex s' a4 w4 X4 ⟨rfl,O4,rfl⟩ R4 S4;refine wp_seq ?_;refine cR K0 cf S0 (M:=λex s'=>ex=.normal/\∃O',s'=⟨al [(0,.ak id ep 0 len),(1,.int .i64 (i:Int)),(2,.aa fl [e]),(7,.int .i64 1),(8,.int .i64 (len:Int))] O',h⟩) rfl ?_ R4 ?_
 ·refine wD ?_;apply R.Ag T6 (o:=o);exact rfl;exact rfl;exact hg;exact(by omega);refine wD ?_;exact⟨rfl,_,St.aT ⟨rfl,rfl,rfl,rfl,rfl,trivial⟩⟩
 rintro ex s' a5 w5 X5 ⟨rfl,O5,rfl⟩ R5 S5;refine wp_seq ?_;refine cR K0 cf S0 (M:=λex s'=>ex=.normal/\∃O',s'=⟨al [(0,.ak id ep 0 len),(1,.int .i64 (i:Int)),(2,.aa fl [e]),(7,.int .i64 1),(8,.int .i64 (len:Int))] O',h⟩) rfl ?_ R5 ?_
 ·refine wF λhc=>?_;exact⟨rfl,_,St.aT ⟨rfl,rfl,rfl,rfl,rfl,trivial⟩⟩
 rintro ex s' a6 w6 X6 ⟨rfl,O6,rfl⟩ R6 S6;exact k _ _ _ _ R6 (((((S1.trans S2).trans S3).trans S4).trans S5).trans S6)
theorem uZ{h:ab}{id ep len i:Nat}{o:aw}{fl:Bool}{e fo:PV}{pre:List PV}{vs:List Value}(H:bo w F X h)(ha:L2 (aE w (Av F h X) X h) vs [.ak id ep 0 len,.int .i64 (i:Int),.aa fl [e]])
  (hg:getM h id ep=some o) (hm:o.mu=.m) (hz:o.bQ=4) (jt:o.es=pre++[fo]) (jR:pre.length=len) (hi:i<len) (hn:len<100000000) (gk:pre.all (kY 4)=true) (hX:(cells fo).length=4) (he:kY 4 e=true) (ee:aV h=true):
  na C0.P 2 w F X h 215 vs (.ak id ep 0 (len+1)) (h.set id {o with es:=pre.take i++[e]++pre.drop i}):=by
 have cz:o.es.length=len+1:=by rw[jt];simp[jR]
 have hu:C0.P.underlying 132=some (.slice 33):=bB (T6.cY 132 _ rfl);have si:cF C0.P 33=some 4:=T6.ez 33 4 rfl;have gR:cF C0.P 33=some o.bQ:=by rw[hz];exact si
 obtain⟨g1,g2,g3⟩:=getM_some hg;have cM:=ag g1;obtain⟨bc,oC⟩:=dB H.len g1;obtain⟨T,cs,k1,k2,k3,k4,k5⟩:=(H.obj id o bc g1 oC g3).c (by omega);have CG:len+1<=bc.2:=by omega
 have iv:aO h id=true:=by unfold aO;rw[g1];simp[hm]
 have hj:((len:Int)+1)=((len+1:Nat):Int):=by omega
 have vJ:((i:Int)+1)=((i+1:Nat):Int):=by omega
 have eg:∀{w':World} {X':List (Nat×Nat)},eD w h X w' h X'->X'[id]?=some bc:=by
  intro w' X' S
  obtain⟨o',dq,f1,f2,f3,f4,f5⟩:=S.refs id o bc g1 oC g3;obtain rfl:=abV (g1.symm.trans f1);rw[f2,(f5 rfl).2.2]
 refine jD (P:=C0.P) (c:=OA) Tryz.func215 yB H ha (λa RR=>tE hg hz (by omega) hi hn rfl RR (λa1 w1 X1 O1 R1 S1=>?_));refine wp_seq ?_;refine wp_seq ?_;apply cg K0 S0 (pre:=[_,_,_,_]) (post:=[_]) (R:=R1) (M:=λs'=>∃O',s'=⟨al ((28,.int .i64 ((len:Int)+1))::(29,.ak id ep 0 len)::[(0,.ak id ep 0 len),(1,.int .i64 (i:Int)),(2,.aa fl [e]),(7,.int .i64 1),(8,.int .i64 (len:Int))]) O',h⟩) (M2:=λs'=>∃O',s'=⟨al ((31,.bool false)::[(0,.ak id ep 0 len),(1,.int .i64 (i:Int)),(2,.aa fl [e]),(7,.int .i64 1),(8,.int .i64 (len:Int))]) O',h⟩)
 rfl
 rfl
 ·refine wD ?_;exact⟨_,St.aT ⟨rfl,rfl,rfl,rfl,rfl,rfl,rfl,trivial⟩⟩
 ·rintro s1 a2 w2 X2 ⟨O2,rfl⟩ R2 S2;refine⟨.int .i64 (bc.2:Int),h,tF (t:=132) (x:=.tmp 29) R2.hr R2.er hu (dJ (t:=29) rfl O2) hg (eg (S1.trans S2)) (by omega) _ rfl,?_⟩;show ah C0 _ _ ⟨cm (al _ O2) (some 30) (.int .i64 (bc.2:Int)),h⟩ _;rw[cw];refine wF λhc=>?_;exact⟨_,St.aT ⟨rfl,rfl,rfl,rfl,rfl,rfl,trivial⟩⟩
 rintro s3 a3 w3 X3 ⟨O3,rfl⟩ R3 S3;refine cR K0 cf S0 (M:=λex s'=>ex=.normal/\∃O',s'=⟨al [(0,.ak id ep 0 len),(1,.int .i64 (i:Int)),(2,.aa fl [e]),(7,.int .i64 1),(8,.int .i64 (len:Int))] O',h⟩) rfl ?_ R3 ?_
 ·refine wD ?_;exact⟨rfl,_,St.aT ⟨rfl,rfl,rfl,rfl,rfl,trivial⟩⟩
 rintro ex s' a4 w4 X4 ⟨rfl,O4,rfl⟩ R4 S4;refine wp_seq ?_;refine cR K0 cf S0 (M:=λex s'=>ex=.normal/\∃O',s'=⟨al [(0,.ak id ep 0 (len+1)),(1,.int .i64 (i:Int)),(2,.aa fl [e]),(7,.int .i64 1)] O',h⟩) rfl ?_ R4 ?_
 ·refine wD ?_;apply R.slice;exact rfl;exact rfl;exact rfl;exact rfl
  ·show cr C0.P h 132 (.ak id ep 0 len) none (some (.int .i64 ((len:Int)+1))) none=_;rw[hj];exact p9 hu gR hg (by omega) (by omega)
  refine wD ?_;exact⟨rfl,_,St.aT ⟨rfl,rfl,rfl,rfl,trivial⟩⟩
 rintro ex s' a5 w5 X5 ⟨rfl,O5,rfl⟩ R5 S5;refine wp_seq ?_;refine wp_seq ?_;apply cg K0 S0 (pre:=[_,_,_,_,_,_]) (post:=[_]) (R:=R5) (M:=λs'=>∃O',s'=⟨al ((61,.aa fl [e])::(66,.ak id ep (i+1) (len+1 - (i+1)))::[(0,.ak id ep 0 (len+1)),(1,.int .i64 (i:Int)),(2,.aa fl [e]),(7,.int .i64 1)]) O',h⟩) (M2:=λs'=>∃O',s'=⟨al ((68,.bool true)::[(0,.ak id ep 0 (len+1)),(1,.int .i64 (i:Int)),(2,.aa fl [e]),(7,.int .i64 1)]) O',h⟩)
 rfl
 rfl
 ·refine wD ?_;apply R.slice;exact rfl;exact rfl;exact rfl;exact rfl
  ·show cr C0.P h 132 (.ak id ep 0 (len+1)) (some (.int .i64 ((i:Int)+1))) none none=_;rw[vJ];exact c9 hu gR hg (by omega) (by omega)
  refine wD ?_;exact⟨_,St.aT ⟨rfl,rfl,rfl,rfl,rfl,rfl,trivial⟩⟩
 ·rintro s1 a6 w6 X6 ⟨O6,rfl⟩ R6 S6;refine⟨.bool false,h,rJ (t:=31) (tR:=4) (x:=.tmp 61) (y:=.tmp 66) (f:=281) R6.hr R6.er (bB (T6.cY 31 _ rfl)) si (dJ (t:=61) rfl O6) (dJ (t:=66) rfl O6) hg hm (by omega) Tryz.func281 (by kernel_rfl) (by kernel_rfl) (by kernel_rfl) (by kernel_rfl) _ rfl,?_⟩;show ah C0 _ _ ⟨cm (al _ O6) (some 67) (.bool false),h⟩ _;rw[cw];refine wD ?_;exact⟨_,St.aT ⟨rfl,rfl,rfl,rfl,rfl,trivial⟩⟩
 rintro s7 a7 w7 X7 ⟨O7,rfl⟩ R7 S7;obtain⟨ys,pK⟩:∃ys,ys=((pre++[fo]).drop i).take (pre.length+1 - i):=⟨_,rfl⟩;obtain⟨dQ,oY⟩:∃dQ,dQ=(pre++[fo]).take (i+1)++ys.take (pre.length - i)++(pre++[fo]).drop (i+1+(pre.length - i)):=⟨_,rfl⟩;obtain⟨l1,l2,l3⟩:=yD (e:=e) (by omega) pK oY;rw[jR]at l1 l2;have YO:ys.length=len+1 - i:=by rw[pK];simp;omega
 have OE:∀v∈ys,(cells v).length=4:=by
  intro v hv
  rw[pK]at hv;have:=acJ (acI hv);rcases ab2.1 this with hv |hv
  ·have:=abX.1 gk v hv;unfold kY at this;simp only[ab4,decide_eq_true_eq]at this;exact this.1.2
  ·obtain rfl:=acv.1 hv;exact hX
 have CH:(cells e).length=4/\(cells e).all bM=true:=by
  unfold kY at he;simp only[ab4,decide_eq_true_eq]at he;exact⟨he.1.2,he.2⟩
 have OB:min ys.length (len+1 - (i+1))=len - i:=by omega
 have AS:h.set id {o with es:=o.es.take (i+1)++ys.take (min ys.length (len+1 - (i+1)))++o.es.drop (i+1+min ys.length (len+1 - (i+1)))}=h.set id {o with es:=dQ}:=by
  rw[OB,jt,oY,jR]
 have qQ:getM (h.set id {o with es:=dQ}) id ep=some {o with es:=dQ}:=bp (abY cM) g2 (by show o.mu≠.x;rw[hm];simp);have yC:min ([e]:List PV).length (len+1 - i)=1:=by show min 1 _=1;omega
 have pF:(h.set id {o with es:=dQ}).set id {({o with es:=dQ}:aw)with es:=dQ.take i++[e].take (min ([e]:List PV).length (len+1 - i))++dQ.drop (i+min ([e]:List PV).length (len+1 - i))}=h.set id {o with es:=pre.take i++[e]++pre.drop i}:=by
  rw[ac4,yC,<-l3];rfl
 refine cR K0 cf S0 (M:=λex s'=>ex=.ret/\∃O',s'=⟨al [(6,.ak id ep 0 (len+1))] O',h.set id {o with es:=pre.take i++[e]++pre.drop i}⟩) rfl ?_ R7 ?_
 ·refine wD ?_;apply D.slice;exact ee;exact rfl;exact iv;exact rfl;exact rfl;exact rfl;exact rfl;exact rfl;exact rfl
  ·show cr C0.P h 132 (.ak id ep 0 (len+1)) (some (.int .i64 ((i:Int)+1))) none none=_;rw[vJ];exact c9 hu gR hg (by omega) (by omega)
  refine wD ?_;apply D.slice;exact ee;exact rfl;exact iv;exact rfl;exact rfl;exact rfl;exact rfl;exact rfl;exact rfl;exact c9 hu gR hg (by omega) (by omega);apply D.copy T6 (ys:=ys) (o:=o) (sz:=4);exact rfl;exact rfl;exact rfl;exact rfl;exact rfl
  ·simp only[cB,hg];rw[if_pos (by omega),jt,pK,jR]
  exact hg;exact hm;exact hz;omega
  ·rw[abX]
   intro v hv
   simp[OE v hv]
  ·rw[OB,l1,abX]
   intro v hv
   have:=abX.1 gk v (acJ hv);unfold kY at this;simp only[ab4]at this ⊢;exact⟨this.1.2,this.2⟩
  refine bg.heap AS ?_;refine wD ?_;apply R.slice;exact rfl;exact rfl;exact rfl;exact rfl;exact c9 (o:={o with es:=dQ}) hu gR qQ (by omega) (by show len+1<=dQ.length;omega);refine wD ?_;apply R.copy T6 (ys:=[e]) (o:={o with es:=dQ}) (sz:=4);exact rfl;exact rfl;exact rfl;exact rfl;exact rfl;exact qQ;exact hm;exact hz;show i+(len+1 - i)<=dQ.length;omega;simp[CH.1];simp only[yC,ad6,aey,acT,adC,CH.1,CH.2];rfl;refine wD ?_;exact⟨rfl,_,(congrArg (λhh=>(⟨_,hh⟩:St)) pF).trans (St.aT ⟨rfl,trivial⟩)⟩
 rintro ex s8 a8 w8 X8 ⟨rfl,O8,rfl⟩ R8 S8;refine⟨.inr rfl,_,X8,R8,(((((S1.trans S3).trans S4).trans S5).trans S7).trans S8),[.ak id ep 0 (len+1)],?_,λu RB=>⟨X8,RB,R8.hr,(((((S1.trans S3).trans S4).trans S5).trans S7).trans S8)⟩⟩;exact eL (L:=[(6,.ak id ep 0 (len+1))]) rfl
 all_goals rfl
theorem yA{h:ab}{id ep len i:Nat}{o:aw}{bc:Nat×Nat}{fl:Bool}{e:PV}{vs:List Value}(H:bo w F X h)(ha:L2 (aE w (Av F h X) X h) vs [.ak id ep 0 len,.int .i64 (i:Int),.aa fl [e]])
  (hg:getM h id ep=some o) (hz:o.bQ=4) (hle:len<=o.es.length) (oC:X[id]?=some bc) (CG:bc.2<len+1) (hi:i<len) (hn:len<100000000) (gk:(o.es.take len).all (kY 4)=true) (he:kY 4 e=true) (ee:aV h=true):
  na C0.P 2 w F X h 215 vs (.ak h.length 0 0 (len+1)) (h++[⟨.m,0,4,(o.es.take len).take i++[e]++(o.es.take len).drop i⟩]):=by
 have hu:C0.P.underlying 132=some (.slice 33):=bB (T6.cY 132 _ rfl);have si:cF C0.P 33=some 4:=T6.ez 33 4 rfl;have gR:cF C0.P 33=some o.bQ:=by rw[hz];exact si
 obtain⟨g1,g2,g3⟩:=getM_some hg;have cM:=ag g1;have hj:((i:Int)+1)=((i+1:Nat):Int):=by omega
 have YI:((len:Int)+1 - (i:Int))=((len+1 - i:Nat):Int):=by omega
 have iB:i+(len+1 - i)=len+1:=by omega
 have eg:∀{w':World} {X':List (Nat×Nat)},eD w h X w' h X'->X'[id]?=some bc:=by
  intro w' X' S
  obtain⟨o',dq,f1,f2,f3,f4,f5⟩:=S.refs id o bc g1 oC g3;obtain rfl:=abV (g1.symm.trans f1);rw[f2,(f5 rfl).2.2]
 obtain⟨lc,Hh⟩:∃lc,lc=o.es.take i++List.replicate (len+1 - i) (.agg [.int .i64 0,.str ByteArray.empty,.int .i64 0,.aa true []]:PV):=⟨_,rfl⟩;obtain⟨dQ,oY⟩:∃dQ,dQ=lc.take i++[e]++lc.drop (i+1):=⟨_,rfl⟩;obtain⟨ys,pK⟩:∃ys,ys=(o.es.drop i).take (len - i):=⟨_,rfl⟩;obtain⟨l1,l2,l3,l4,l5⟩:=Bt hi hle Hh oY pK
 have CH:(cells e).length=4/\(cells e).all bM=true/\aU e=true:=by
  unfold kY at he;simp only[ab4,decide_eq_true_eq]at he;exact⟨he.1.2,he.2,he.1.1⟩
 have GF:ys.all (kY 4)=true:=by
  rw[l4,abX]
  intro v hv
  exact abX.1 gk v (acJ hv)
 have uo:ao lc=true:=by
  rw[Hh,bw,ac1,<-bw]
  have:ao (o.es.take i)=true:=by
   refine mi (sz:=4) ?_;rw[abX]
   intro v hv
   refine abX.1 gk v ?_;have:o.es.take i=(o.es.take len).take i:=by rw[adq];congr 1;omega
   rw[this]at hv;exact acI hv
  rw[this,ada,abX]
  intro v hv
  obtain rfl:=acY hv
  rfl
 have zR:ao dQ=true:=by
  rw[bw,abX]at uo ⊢
  intro v hv
  rw[oY]at hv;rcases ab2.1 hv with hv |hv
  ·rcases ab2.1 hv with hv |hv;exact uo v (acI hv)
   ·obtain rfl:=acv.1 hv;exact CH.2.2
  exact uo v (acJ hv)
 have Hi:aV (h++[⟨.m,0,4,dQ⟩])=true:=vT zR ee;have RW:∀es,getM (h++[⟨.m,0,4,es⟩]) h.length 0=some ⟨.m,0,4,es⟩:=λes=>Jo (o:=⟨.m,0,4,es⟩) (by simp)
 have hgo:∀es,getM (h++[⟨.m,0,4,es⟩]) id ep=some o:=λes=>o9 hg
 have iv:∀es,aO (h++[⟨.m,0,4,es⟩]) id=true:=λes=>by unfold aO;rw[abW cM,g1];simpa using g3
 have Oz:∀es,aO (h++[⟨.m,0,4,es⟩]) h.length=true:=λes=>by unfold aO;simp
 refine jD (P:=C0.P) (c:=OA) Tryz.func215 yB H ha (λa RR=>tE hg hz (by omega) hi hn rfl RR (λa1 w1 X1 O1 R1 S1=>?_));refine wp_seq ?_;refine wp_seq ?_;apply cg K0 S0 (pre:=[_,_,_,_]) (post:=[_]) (R:=R1) (M:=λs'=>∃O',s'=⟨al ((28,.int .i64 ((len:Int)+1))::(29,.ak id ep 0 len)::[(0,.ak id ep 0 len),(1,.int .i64 (i:Int)),(2,.aa fl [e]),(7,.int .i64 1),(8,.int .i64 (len:Int))]) O',h⟩) (M2:=λs'=>∃O',s'=⟨al ((31,.bool true)::[(0,.ak id ep 0 len),(1,.int .i64 (i:Int)),(2,.aa fl [e]),(7,.int .i64 1),(8,.int .i64 (len:Int))]) O',h⟩)
 rfl
 rfl
 ·refine wD ?_;exact⟨_,St.aT ⟨rfl,rfl,rfl,rfl,rfl,rfl,rfl,trivial⟩⟩
 ·rintro s1 a2 w2 X2 ⟨O2,rfl⟩ R2 S2;refine⟨.int .i64 (bc.2:Int),h,tF (t:=132) (x:=.tmp 29) R2.hr R2.er hu (dJ (t:=29) rfl O2) hg (eg (S1.trans S2)) (by omega) _ rfl,?_⟩;show ah C0 _ _ ⟨cm (al _ O2) (some 30) (.int .i64 (bc.2:Int)),h⟩ _;rw[cw];refine wF λhc=>?_;exact⟨_,St.aT ⟨rfl,rfl,rfl,rfl,rfl,rfl,trivial⟩⟩
 rintro s3 a3 w3 X3 ⟨O3,rfl⟩ R3 S3
 have Ws:a3.eval (.tmp 31)=.bool true:=by
  have:=R3.er.ev (.tmp 31);rw[show ev (al ((31,PV.bool true)::[(0,.ak id ep 0 len),(1,.int .i64 (i:Int)),(2,.aa fl [e]),(7,.int .i64 1),(8,.int .i64 (len:Int))]) O3) (.tmp 31)=.bool true from dJ (t:=31) rfl O3]at this;exact this.gK
 refine wp_cond_true Ws ?_;refine wp_seq ?_;apply cg K0 S0 (pre:=[_,_,_,_,_,_,_,_]) (post:=[_]) (R:=R3) (M:=λs'=>∃O',s'=⟨al ((34,.ak id ep 0 i)::(39,.int .i64 ((len:Int)+1 - (i:Int)))::[(0,.ak id ep 0 len),(1,.int .i64 (i:Int)),(2,.aa fl [e]),(7,.int .i64 1),(8,.int .i64 (len:Int))]) O',h⟩) (M2:=λs'=>∃O',s'=⟨al ((9,.ak h.length 0 0 (len+1))::[(0,.ak id ep 0 len),(1,.int .i64 (i:Int)),(2,.aa fl [e]),(7,.int .i64 1),(8,.int .i64 (len:Int))]) O',h++[⟨.m,0,4,lc⟩]⟩)
 case ho=>rfl
 case hg=>rfl
 ·refine wD ?_;apply R.slice;exact rfl;exact rfl;exact rfl;exact rfl;exact uB hu gR hg (by omega) hle;refine wD ?_;exact⟨_,St.aT ⟨rfl,rfl,rfl,rfl,rfl,rfl,rfl,trivial⟩⟩
 ·rintro s1 a4 w4 X4 ⟨O4,rfl⟩ R4 S4;have os:=vU (P:=C0.P) (st:=132) (xt:=3) (el:=33) (x:=.tmp 34) (y:=.tmp 39) (k:=.i64) (n:=len+1 - i) (len:=i) R4.hr R4.er hu (oP (T6.cY 3 _ rfl)) si (by decide) (T6.rE 33 _ rfl) (by decide) (T6.nH 33 (.agg [.int .i64 0,.str ByteArray.empty,.int .i64 0,.aa true []]) rfl) rfl rfl (dJ (t:=34) rfl O4) (by rw[<-YI];exact dJ (t:=39) rfl O4) hg (eg ((S1.trans S3).trans S4)) (by omega) hz (by omega) (by omega);rw[iB,<-Hh]at os;refine⟨.ak h.length 0 0 (len+1),h++[⟨.m,0,4,lc⟩],os _ rfl,?_⟩;show ah C0 _ _ ⟨cm (al _ O4) (some 40) (.ak h.length 0 0 (len+1)),_⟩ _;rw[cw];refine wD ?_;exact⟨_,St.aT ⟨rfl,rfl,rfl,rfl,rfl,rfl,trivial⟩⟩
 rintro s5 a5 w5 X5 ⟨O5,rfl⟩ R5 S5;have OB:min ([e]:List PV).length (len+1 - i)=1:=by show min 1 _=1;omega
 have yC:min ys.length (len+1 - (i+1))=len - i:=by omega
 have hyt:ys.take (len - i)=ys:=acu (by omega)
 have AS:(h++[⟨.m,0,4,lc⟩]:ab).set h.length {(⟨.m,0,4,lc⟩:aw)with es:=lc.take i++[e].take (min ([e]:List PV).length (len+1 - i))++lc.drop (i+min ([e]:List PV).length (len+1 - i))}=h++[⟨.m,0,4,dQ⟩]:=by
  rw[OB,set_push,oY];rfl
 have hh3:(h++[⟨.m,0,4,dQ⟩]:ab).set h.length {(⟨.m,0,4,dQ⟩:aw)with es:=dQ.take (i+1)++ys.take (min ys.length (len+1 - (i+1)))++dQ.drop (i+1+min ys.length (len+1 - (i+1)))}=h++[⟨.m,0,4,(o.es.take len).take i++[e]++(o.es.take len).drop i⟩]:=by
  rw[yC,set_push,hyt,l5]
 refine cR K0 cf S0 (M:=λex s'=>ex=.ret/\∃O',s'=⟨al [(6,.ak h.length 0 0 (len+1))] O',h++[⟨.m,0,4,(o.es.take len).take i++[e]++(o.es.take len).drop i⟩]⟩) rfl ?_ R5 ?_
 ·refine wD ?_;apply R.slice;exact rfl;exact rfl;exact rfl;exact rfl;exact c9 hu si (RW lc) (by omega) (by show len+1<=lc.length;omega);refine wD ?_;apply R.copy T6 (ys:=[e]) (o:=⟨.m,0,4,lc⟩) (sz:=4);exact rfl;exact rfl;exact rfl;exact rfl;exact rfl;exact RW lc;exact rfl;exact rfl;show i+(len+1 - i)<=lc.length;omega;simp[CH.1];simp only[OB,ad6,aey,acT,adC,CH.1,CH.2.1];rfl;rw[AS];refine wD ?_;apply D.slice;exact Hi;exact rfl;exact Oz dQ;exact rfl;exact rfl;exact rfl;exact rfl;exact rfl;exact rfl
  ·show cr C0.P _ 132 (.ak h.length 0 0 (len+1)) (some (.int .i64 ((i:Int)+1))) none none=_;rw[hj];exact c9 hu si (RW dQ) (by omega) (by show len+1<=dQ.length;omega)
  refine wD ?_;apply D.slice;exact Hi;exact rfl;exact iv dQ;exact rfl;exact rfl;exact rfl;exact rfl;exact rfl;exact rfl;exact c9 hu gR (hgo dQ) hi hle;apply D.copy T6 (ys:=ys) (o:=⟨.m,0,4,dQ⟩) (sz:=4);exact rfl;exact rfl;exact rfl;exact rfl;exact rfl
  ·simp only[cB,hgo];rw[if_pos (by omega),pK]
  exact RW dQ;exact rfl;exact rfl;show i+1+(len+1 - (i+1))<=dQ.length;omega
  ·rw[abX]
   intro v hv
   have:=abX.1 GF v hv;unfold kY at this;simp only[ab4]at this;exact this.1.2
  ·rw[yC,hyt,abX]
   intro v hv
   have:=abX.1 GF v hv;unfold kY at this;simp only[ab4]at this ⊢;exact⟨this.1.2,this.2⟩
  refine bg.heap hh3 ?_;refine wD ?_;exact⟨rfl,_,St.aT ⟨rfl,trivial⟩⟩
 rintro ex s8 a8 w8 X8 ⟨rfl,O8,rfl⟩ R8 S8;have SS:=(((S1.trans S3).trans S5).trans S8);refine⟨.inr rfl,_,X8,R8,SS,[.ak h.length 0 0 (len+1)],?_,λu RB=>⟨X8,RB,R8.hr,SS⟩⟩;exact eL (L:=[(6,.ak h.length 0 0 (len+1))]) rfl
 all_goals rfl
theorem Es:fT C0.P 215 jf:=by
 intro args h r h' e w F X vs H ha
 unfold jf at e
 split at e
 ·rename_i i fl e1
  split at e
  ·rename_i hc
   obtain⟨rfl,he⟩:=hc;obtain⟨rfl,rfl⟩:=ab7 (abV e);exact lz (sO rfl) (u5 he) H ha
  cases e
 ·rename_i id ep len i fl e1
  split at e
  ·rename_i o hg
   split at e
   ·rename_i hc
    obtain⟨hm,hz,hle,YQ,hi,hn,he,gk,ee⟩:=hc;obtain⟨rfl,rfl⟩:=ab7 (abV e);obtain⟨k,rfl⟩:=adr YQ;have hk:k<=len:=by omega
    rw[show Int.toNat (k:Int)=k from rfl];obtain⟨g1,g2,g3⟩:=getM_some hg;have cM:=ag g1;obtain⟨bc,oC⟩:=dB H.len g1;have jR:(o.es.take len).length=len:=by simp;omega
    by_cases sZ:k=len
    ·subst sZ
     have pF:(o.es.take k).take k++[e1]++(o.es.take k).drop k=o.es.take k++[e1]:=by
      rw[adq,Nat.min_self,acx (by omega),ack]
     rw[pF];exact lz (sO rfl) (u6 he hg hm hz hle hn) H ha
    ·have fZ:k<len:=by omega
     by_cases nY:len+1<=bc.2
     ·-- there is room
      have hXc:(cells (PV.agg [.any,.any,.any,.any])).length=4:=rfl
      obtain⟨Hp,Sp⟩:=H.oZ g1 oC hm (o.es.take len++[.agg [.any,.any,.any,.any]]) (ep+1) (by omega) (by simp;omega) (λi e he=>by
       rcases acE i len with lu |lu
       ·left
        rw[abW (by omega),acj,if_pos lu]at he;exact he
       ·right
        rw[ab6 (by omega)]at he;obtain rfl:=acv.1 (acb he);refine⟨by rw[hXc,hz],λp hp=>?_⟩;simp only[cells]at hp;simpa using hp)
      have yE:(h.set id {o with es:=o.es.take len++[.agg [.any,.any,.any,.any]],ep:=ep+1})[id]?=some {o with es:=o.es.take len++[.agg [.any,.any,.any,.any]],ep:=ep+1}:=abY cM
      have Wv:aV (h.set id {o with es:=o.es.take len++[.agg [.any,.any,.any,.any]],ep:=ep+1})=true:=by
       refine mS (h:=h) (λi hi=>?_) (λo' h1=>?_) ee
       ·unfold aO at hi ⊢
        by_cases R9:i=id
        ·subst R9;rw[yE];simp[hm]
        rw[ab0 (acS R9)];exact hi
       ·rcases adl h1 with h1 |rfl;exact .inr (.inr ⟨o',h1,rfl,λhh=>hh⟩);exact .inr (.inl (q8 (bm _ _ (mi gk)) rfl))
      have oA:L2 (aE w (Av F (h.set id {o with es:=o.es.take len++[.agg [.any,.any,.any,.any]],ep:=ep+1}) X) X (h.set id {o with es:=o.es.take len++[.agg [.any,.any,.any,.any]],ep:=ep+1})) vs [.ak id (ep+1) 0 len,.int .i64 (k:Int),.aa fl [e1]]:=
       jI ha (λv hv=>aE.oZ g1 oC hm hv g2 hle _ _) (λv hv=>hv.mono Sp) (λv hv=>hv.mono Sp)
      have cs:=uZ (o:={o with es:=o.es.take len++[.agg [.any,.any,.any,.any]],ep:=ep+1}) (fo:=.agg [.any,.any,.any,.any]) (pre:=o.es.take len) Hp oA (bp yE rfl (by show o.mu≠.x;rw[hm];simp)) hm hz rfl jR fZ hn gk rfl he Wv;refine cs.mono ?_;rintro en w' ⟨v,X1,rfl,q1,q2,q3,_⟩;rw[ac4]at q1 q2 q3;exact⟨v,X1,rfl,q1,q2,Sp.trans q3,λhh=>by omega⟩
     ·-- all is made anew
      obtain⟨p1,p2,p3,p4,p5,p6⟩:=bR o;have gl:getM (h.map bY) id ep=some (bY o):=bp (by rw[ace,g1];rfl) (by rw[p1];exact g2) (λhh=>g3 (p4.1 hh));have QD:∀b,Av (Av F h X) (h.map bY) X b->Av F h X b:=λb hb=>hb.elim (λhh=>hh) (λhm=>absurd hm (jJ h X b))
      have cs:=yA (o:=bY o) (bc:=bc) H.lock (jI ha (λv hv=>hv.alike (gP h) QD) (λv hv=>hv.alike (gP h) QD) (λv hv=>hv.alike (gP h) QD)) gl (by rw[p2];exact hz) (by rw[p3];exact hle) oC (by omega) fZ hn (by rw[p3];exact gk) he (vS ee);rw[p3,acW]at cs;refine cs.mono ?_;rintro en w' ⟨v,X1,rfl,q1,q2,q3,_⟩;obtain⟨pG,Hk⟩:∃pG,pG=(o.es.take len).take k++[e1]++(o.es.take len).drop k:=⟨_,rfl⟩;rw[<-Hk]at q1 q2 q3 ⊢;have Cj:pG.length=len+1:=by rw[Hk];simp;omega
      have Ww:pG.all (kY 4)=true:=by
       rw[abX]at gk ⊢
       intro x hx
       rw[Hk]at hx;rcases ab2.1 hx with hx |hx
       ·rcases ab2.1 hx with hx |hx;exact gk x (acI hx)
        ·obtain rfl:=acv.1 hx;exact he
       exact gk x (acJ hx)
      have enew:(h.map bY++[(⟨.m,0,4,pG⟩:aw)])[h.length]?=some ⟨.m,0,4,pG⟩:=by
       rw[ab6 (by simp)];simp
      obtain⟨bn,sG⟩:=dB q2.len enew;have mnew:Mb (h.map bY++[⟨.m,0,4,pG⟩]) X1 bn.1:=⟨h.length,_,bn,enew,sG,rfl,rfl⟩;obtain⟨T,uv,k1,k2,k3,k4,k5⟩:=(q2.obj h.length _ bn enew sG (by simp)).c (by simp)
      have DT:w.heap.size<=bn.1:=by
       rcases acE bn.1 w.heap.size with hh |hh;exact absurd (q3.shr bn.1 hh mnew) (jJ h X bn.1);exact hh
      have hA:∀b,Av F (h.set id {o with es:=pG,ep:=ep+1}) (X.set id bn) b->Av (Av F h X) (h.map bY++[⟨.m,0,4,pG⟩]) X1 b:=by
       rintro b (hb |⟨eH,o',dq,Kn,Sa,XR,e4'⟩);exact .inl (.inl hb)
       ·by_cases bZ:eH=id
        ·subst bZ;rw[abY (by rw[H.len];exact cM)]at Sa;obtain rfl:=abV Sa;rw[<-e4'];exact .inr mnew
        ·rw[ab0 (acS bZ)]at Kn Sa;exact .inl (.inr ⟨eH,o',dq,Kn,Sa,XR,e4'⟩)
      obtain⟨HH,SS⟩:=H.OD (w':=w') g1 oC hm T uv pG (ep+1) bn q3.size k1 (λb hb=>q3.aT b hb (jJ h X b)) DT (by omega) q3.os q3.tape q3.output k2 (by rw[hz];exact k3) (λi e Sb=>by
       obtain⟨m1,m2⟩:=k5 i e Sb;refine⟨by rw[hz];exact m1,λj p hp=>?_⟩;obtain⟨u,n1,n2⟩:=m2 j p hp
       have hv:aU e=true:=by
        have:=abX.1 Ww e (acb Sb);unfold kY at this;simp only[ab4]at this;exact this.1.1
       exact⟨u,by rw[hz];exact n1,n2.Jp (J5 hv p (acb hp)) hA⟩) q3.drawn
      obtain⟨_,_,m3⟩:=q1.dW;obtain⟨cap,c1,c2⟩:=m3 _ bn enew sG (by simp) rfl (by show 0+(len+1)<=pG.length;omega);refine⟨v,X.set id bn,rfl,?_,HH,SS,λhh=>by omega⟩;refine .ak v id (ep+1) 0 (len+1) {o with es:=pG,ep:=ep+1} bn ⟨_,_,_,c1⟩ (abY cM) (abY (by rw[H.len];exact cM)) (by show o.mu≠.x;rw[hm];simp) ⟨abZ _,by show 0<o.bQ;omega⟩ (λ_ _=>⟨cap,?_,c2⟩);rw[c1,adQ,adQ]
   cases e
  cases e
 cases e
end rI
end Go.Pm
namespace Go.Pm
open Go.Proofs
attribute [local irreducible] aD az aL aJ Ev ah aj ay bg
variable{w:World}{F:Nat->Prop}{X:List (Nat×Nat)}{h:ab}
namespace Zero
set_option maxRecDepth 100000
set_option maxHeartbeats 4000000
theorem Ns{fl:Bool}{es:List PV}{vs:List Value}(H:bo w F X h)(ha:L2 (aE w (Av F h X) X h) vs [.aa fl es])(jt:dC 4 es)(hn:es.length<1000000000){r:PV}{h':ab}
  (hr:(es=[]/\r=.aa true []/\h'=h)\/(es≠[]/\r=.ak h.length 0 0 es.length/\h'=h++[⟨.m,0,4,es⟩])):na C0.P 2 w F X h 216 vs r h':=by
 refine jD (P:=C0.P) Tryz.func216 rfl H ha (λa RR=>?_);refine wp_seq ?_;refine cR K0 cf S0 (M:=λex s'=>ex=.normal/\∃O',s'=⟨al [(0,.aa fl es)] O',h⟩) rfl ?_ RR ?_
 ·rw[iK];refine wB ?_;exact⟨rfl,_,St.aT ⟨rfl,trivial⟩⟩
 rintro ex s' a1 w1 X1 ⟨rfl,O1,rfl⟩ R1 S1;refine wp_seq ?_;refine wp_seq ?_;apply cg K0 S0 (pre:=[_]) (post:=[]) (R:=R1) (M:=λs'=>∃O',s'=⟨al [(0,.aa fl es),(3,.aa fl es)] O',h⟩) (M2:=λs'=>∃bb O',s'=⟨al [(0,.aa fl es),(4,.bool bb)] O',h⟩/\(bb=true->es=[]))
 rfl
 rfl
 ·refine wB ?_;exact⟨_,St.aT ⟨rfl,rfl,trivial⟩⟩
 ·rintro s1 a2 w2 X2 ⟨O2,rfl⟩ R2 S2;obtain⟨bb,hb,os⟩:=jZ (t:=132) (yt:=132) (el:=33) (x:=.tmp 3) (fl:=fl) (es:=es) R2.hr R2.er (bB (T6.cY 132 _ rfl)) (dJ (L:=[(0,.aa fl es),(3,.aa fl es)]) (t:=3) rfl O2);refine⟨.bool bb,h,os _ rfl,ah.nil ⟨bb,al ((4,.bool bb)::[(0,.aa fl es),(3,.aa fl es)]) O2,?_,hb⟩⟩;show(⟨cm (al [(0,.aa fl es),(3,.aa fl es)] O2) (some 4) (.bool bb),h⟩:St)=_;rw[cw];exact St.aT ⟨rfl,rfl,trivial⟩
 rintro s3 a3 w3 X3 ⟨bb,O3,rfl,hb⟩ R3 S3
 cases bb
 ·refine cR K0 cf S0 (M:=λex s'=>ex=.normal/\∃O',s'=⟨al [(0,.aa fl es)] O',h⟩) rfl ?_ R3 ?_
  ·refine wB ?_;exact⟨rfl,_,St.aT ⟨rfl,trivial⟩⟩
  rintro ex s' a4 w4 X4 ⟨rfl,O4,rfl⟩ R4 S4;refine cR K0 cf S0 (M:=λex s'=>ex=.ret/\∃O',s'=⟨al [(2,r)] O',h'⟩) rfl ?_ R4 ?_
  ·refine wB ?_;rcases hr with⟨rfl,rfl,rfl⟩|⟨bO,rfl,rfl⟩
   ·apply R.lX T6;exact rfl;exact rfl;exact rfl;exact rfl;exact rfl;exact rfl;exact rfl;exact(by decide);exact rfl;exact rfl;refine wB ?_;exact⟨rfl,_,St.aT ⟨rfl,trivial⟩⟩
   ·apply R.jC T6;exact rfl;exact rfl;exact rfl;exact rfl;exact rfl;exact rfl;exact rfl;exact(by decide);exact rfl;exact rfl;exact jt;exact bO;exact hn;refine wB ?_;exact⟨rfl,_,St.aT ⟨rfl,trivial⟩⟩
  rintro ex s5 a5 w5 X5 ⟨rfl,O5,rfl⟩ R5 S5;refine⟨.inr rfl,_,X5,R5,((S1.trans S3).trans S4).trans S5,[r],?_,λu hu=>⟨X5,hu,R5.hr,((S1.trans S3).trans S4).trans S5⟩⟩;exact eL (L:=[(2,r)]) rfl
 ·obtain rfl:=hb rfl;rcases hr with⟨_,rfl,rfl⟩|⟨bO,_⟩
  ·refine cR K0 cf S0 (M:=λex s'=>ex=.ret/\∃O',s'=⟨al [(2,.aa true [])] O',h'⟩) rfl ?_ R3 ?_
   ·refine wB ?_;exact⟨rfl,_,St.aT ⟨rfl,trivial⟩⟩
   rintro ex s5 a5 w5 X5 ⟨rfl,O5,rfl⟩ R5 S5;refine⟨.inr rfl,_,X5,R5,(S1.trans S3).trans S5,[.aa true []],?_,λu hu=>⟨X5,hu,R5.hr,(S1.trans S3).trans S5⟩⟩;exact eL (L:=[(2,.aa true [])]) rfl
  exact absurd rfl bO
 rfl
end Zero
set_option maxRecDepth 100000
set_option maxHeartbeats 4000000
theorem Gn:fT C.P 216 (bE 4):=by
 intro args h r h' e w F X vs H ha
 unfold bE at e
 split at e
 ·rename_i fl es
  split at e
  ·rename_i x3
   obtain⟨rfl,rfl⟩:=ab7 (abV e);obtain rfl:es=[]:=by simpa using x3
   exact Zero.Ns H ha rfl (by simp) (.inl ⟨rfl,rfl,rfl⟩)
  ·rename_i x3
   split at e
   ·rename_i hc
    obtain⟨rfl,rfl⟩:=ab7 (abV e);exact Zero.Ns H ha hc.1 hc.2 (.inr ⟨by simpa using x3,rfl,rfl⟩)
   cases e
 cases e
namespace Zero
theorem Nt{fl:Bool}{es:List PV}{vs:List Value}(H:bo w F X h)(ha:L2 (aE w (Av F h X) X h) vs [.aa fl es])(jt:dC 5 es)(hn:es.length<1000000000){r:PV}{h':ab}
  (hr:(es=[]/\r=.aa true []/\h'=h)\/(es≠[]/\r=.ak h.length 0 0 es.length/\h'=h++[⟨.m,0,5,es⟩])):na C0.P 2 w F X h 370 vs r h':=by
 refine jD (P:=C0.P) Tryz.func370 rfl H ha (λa RR=>?_);refine wp_seq ?_;refine cR K0 cf S0 (M:=λex s'=>ex=.normal/\∃O',s'=⟨al [(0,.aa fl es)] O',h⟩) rfl ?_ RR ?_
 ·rw[iK];refine wB ?_;exact⟨rfl,_,St.aT ⟨rfl,trivial⟩⟩
 rintro ex s' a1 w1 X1 ⟨rfl,O1,rfl⟩ R1 S1;refine wp_seq ?_;refine wp_seq ?_;apply cg K0 S0 (pre:=[_]) (post:=[]) (R:=R1) (M:=λs'=>∃O',s'=⟨al [(0,.aa fl es),(3,.aa fl es)] O',h⟩) (M2:=λs'=>∃bb O',s'=⟨al [(0,.aa fl es),(4,.bool bb)] O',h⟩/\(bb=true->es=[]))
 rfl
 rfl
 ·refine wB ?_;exact⟨_,St.aT ⟨rfl,rfl,trivial⟩⟩
 ·rintro s1 a2 w2 X2 ⟨O2,rfl⟩ R2 S2;obtain⟨bb,hb,os⟩:=jZ (t:=175) (yt:=175) (el:=187) (x:=.tmp 3) (fl:=fl) (es:=es) R2.hr R2.er (bB (T6.cY 175 _ rfl)) (dJ (L:=[(0,.aa fl es),(3,.aa fl es)]) (t:=3) rfl O2);refine⟨.bool bb,h,os _ rfl,ah.nil ⟨bb,al ((4,.bool bb)::[(0,.aa fl es),(3,.aa fl es)]) O2,?_,hb⟩⟩;show(⟨cm (al [(0,.aa fl es),(3,.aa fl es)] O2) (some 4) (.bool bb),h⟩:St)=_;rw[cw];exact St.aT ⟨rfl,rfl,trivial⟩
 rintro s3 a3 w3 X3 ⟨bb,O3,rfl,hb⟩ R3 S3
 cases bb
 ·refine cR K0 cf S0 (M:=λex s'=>ex=.normal/\∃O',s'=⟨al [(0,.aa fl es)] O',h⟩) rfl ?_ R3 ?_
  ·refine wB ?_;exact⟨rfl,_,St.aT ⟨rfl,trivial⟩⟩
  rintro ex s' a4 w4 X4 ⟨rfl,O4,rfl⟩ R4 S4;refine cR K0 cf S0 (M:=λex s'=>ex=.ret/\∃O',s'=⟨al [(2,r)] O',h'⟩) rfl ?_ R4 ?_
  ·refine wB ?_;rcases hr with⟨rfl,rfl,rfl⟩|⟨bO,rfl,rfl⟩
   ·apply R.lX T6;exact rfl;exact rfl;exact rfl;exact rfl;exact rfl;exact rfl;exact rfl;exact(by decide);exact rfl;exact rfl;refine wB ?_;exact⟨rfl,_,St.aT ⟨rfl,trivial⟩⟩
   ·apply R.jC T6;exact rfl;exact rfl;exact rfl;exact rfl;exact rfl;exact rfl;exact rfl;exact(by decide);exact rfl;exact rfl;exact jt;exact bO;exact hn;refine wB ?_;exact⟨rfl,_,St.aT ⟨rfl,trivial⟩⟩
  rintro ex s5 a5 w5 X5 ⟨rfl,O5,rfl⟩ R5 S5;refine⟨.inr rfl,_,X5,R5,((S1.trans S3).trans S4).trans S5,[r],?_,λu hu=>⟨X5,hu,R5.hr,((S1.trans S3).trans S4).trans S5⟩⟩;exact eL (L:=[(2,r)]) rfl
 ·obtain rfl:=hb rfl;rcases hr with⟨_,rfl,rfl⟩|⟨bO,_⟩
  ·refine cR K0 cf S0 (M:=λex s'=>ex=.ret/\∃O',s'=⟨al [(2,.aa true [])] O',h'⟩) rfl ?_ R3 ?_
   ·refine wB ?_;exact⟨rfl,_,St.aT ⟨rfl,trivial⟩⟩
   rintro ex s5 a5 w5 X5 ⟨rfl,O5,rfl⟩ R5 S5;refine⟨.inr rfl,_,X5,R5,(S1.trans S3).trans S5,[.aa true []],?_,λu hu=>⟨X5,hu,R5.hr,(S1.trans S3).trans S5⟩⟩;exact eL (L:=[(2,.aa true [])]) rfl
  exact absurd rfl bO
 rfl
end Zero
theorem Gp:fT C.P 370 (bE 5):=by
 intro args h r h' e w F X vs H ha
 unfold bE at e
 split at e
 ·rename_i fl es
  split at e
  ·rename_i x3
   obtain⟨rfl,rfl⟩:=ab7 (abV e);obtain rfl:es=[]:=by simpa using x3
   exact Zero.Nt H ha rfl (by simp) (.inl ⟨rfl,rfl,rfl⟩)
  ·rename_i x3
   split at e
   ·rename_i hc
    obtain⟨rfl,rfl⟩:=ab7 (abV e);exact Zero.Nt H ha hc.1 hc.2 (.inr ⟨by simpa using x3,rfl,rfl⟩)
   cases e
 cases e
namespace Zero
theorem Nr{fl:Bool}{es:List PV}{vs:List Value}(H:bo w F X h)(ha:L2 (aE w (Av F h X) X h) vs [.aa fl es])(jt:dC 5 es)(hn:es.length<1000000000){r:PV}{h':ab}
  (hr:(es=[]/\r=.aa true []/\h'=h)\/(es≠[]/\r=.ak h.length 0 0 es.length/\h'=h++[⟨.m,0,5,es⟩])):na C0.P 2 w F X h 15 vs r h':=by
 refine jD (P:=C0.P) Tryz.func15 rfl H ha (λa RR=>?_);refine wp_seq ?_;refine cR K0 cf S0 (M:=λex s'=>ex=.normal/\∃O',s'=⟨al [(0,.aa fl es)] O',h⟩) rfl ?_ RR ?_
 ·rw[iK];refine wB ?_;exact⟨rfl,_,St.aT ⟨rfl,trivial⟩⟩
 rintro ex s' a1 w1 X1 ⟨rfl,O1,rfl⟩ R1 S1;refine wp_seq ?_;refine wp_seq ?_;apply cg K0 S0 (pre:=[_]) (post:=[]) (R:=R1) (M:=λs'=>∃O',s'=⟨al [(0,.aa fl es),(3,.aa fl es)] O',h⟩) (M2:=λs'=>∃bb O',s'=⟨al [(0,.aa fl es),(4,.bool bb)] O',h⟩/\(bb=true->es=[]))
 rfl
 rfl
 ·refine wB ?_;exact⟨_,St.aT ⟨rfl,rfl,trivial⟩⟩
 ·rintro s1 a2 w2 X2 ⟨O2,rfl⟩ R2 S2;obtain⟨bb,hb,os⟩:=jZ (t:=22) (yt:=22) (el:=35) (x:=.tmp 3) (fl:=fl) (es:=es) R2.hr R2.er (bB (T6.cY 22 _ rfl)) (dJ (L:=[(0,.aa fl es),(3,.aa fl es)]) (t:=3) rfl O2);refine⟨.bool bb,h,os _ rfl,ah.nil ⟨bb,al ((4,.bool bb)::[(0,.aa fl es),(3,.aa fl es)]) O2,?_,hb⟩⟩;show(⟨cm (al [(0,.aa fl es),(3,.aa fl es)] O2) (some 4) (.bool bb),h⟩:St)=_;rw[cw];exact St.aT ⟨rfl,rfl,trivial⟩
 rintro s3 a3 w3 X3 ⟨bb,O3,rfl,hb⟩ R3 S3
 cases bb
 ·refine cR K0 cf S0 (M:=λex s'=>ex=.normal/\∃O',s'=⟨al [(0,.aa fl es)] O',h⟩) rfl ?_ R3 ?_
  ·refine wB ?_;exact⟨rfl,_,St.aT ⟨rfl,trivial⟩⟩
  rintro ex s' a4 w4 X4 ⟨rfl,O4,rfl⟩ R4 S4;refine cR K0 cf S0 (M:=λex s'=>ex=.ret/\∃O',s'=⟨al [(2,r)] O',h'⟩) rfl ?_ R4 ?_
  ·refine wB ?_;rcases hr with⟨rfl,rfl,rfl⟩|⟨bO,rfl,rfl⟩
   ·apply R.lX T6;exact rfl;exact rfl;exact rfl;exact rfl;exact rfl;exact rfl;exact rfl;exact(by decide);exact rfl;exact rfl;refine wB ?_;exact⟨rfl,_,St.aT ⟨rfl,trivial⟩⟩
   ·apply R.jC T6;exact rfl;exact rfl;exact rfl;exact rfl;exact rfl;exact rfl;exact rfl;exact(by decide);exact rfl;exact rfl;exact jt;exact bO;exact hn;refine wB ?_;exact⟨rfl,_,St.aT ⟨rfl,trivial⟩⟩
  rintro ex s5 a5 w5 X5 ⟨rfl,O5,rfl⟩ R5 S5;refine⟨.inr rfl,_,X5,R5,((S1.trans S3).trans S4).trans S5,[r],?_,λu hu=>⟨X5,hu,R5.hr,((S1.trans S3).trans S4).trans S5⟩⟩;exact eL (L:=[(2,r)]) rfl
 ·obtain rfl:=hb rfl;rcases hr with⟨_,rfl,rfl⟩|⟨bO,_⟩
  ·refine cR K0 cf S0 (M:=λex s'=>ex=.ret/\∃O',s'=⟨al [(2,.aa true [])] O',h'⟩) rfl ?_ R3 ?_
   ·refine wB ?_;exact⟨rfl,_,St.aT ⟨rfl,trivial⟩⟩
   rintro ex s5 a5 w5 X5 ⟨rfl,O5,rfl⟩ R5 S5;refine⟨.inr rfl,_,X5,R5,(S1.trans S3).trans S5,[.aa true []],?_,λu hu=>⟨X5,hu,R5.hr,(S1.trans S3).trans S5⟩⟩;exact eL (L:=[(2,.aa true [])]) rfl
  exact absurd rfl bO
 rfl
end Zero
theorem Gm:fT C.P 15 (bE 5):=by
 intro args h r h' e w F X vs H ha
 unfold bE at e
 split at e
 ·rename_i fl es
  split at e
  ·rename_i x3
   obtain⟨rfl,rfl⟩:=ab7 (abV e);obtain rfl:es=[]:=by simpa using x3
   exact Zero.Nr H ha rfl (by simp) (.inl ⟨rfl,rfl,rfl⟩)
  ·rename_i x3
   split at e
   ·rename_i hc
    obtain⟨rfl,rfl⟩:=ab7 (abV e);exact Zero.Nr H ha hc.1 hc.2 (.inr ⟨by simpa using x3,rfl,rfl⟩)
   cases e
 cases e
namespace Zero
theorem Nq{fl:Bool}{es:List PV}{vs:List Value}(H:bo w F X h)(ha:L2 (aE w (Av F h X) X h) vs [.aa fl es])(jt:dC 8 es)(hn:es.length<1000000000){r:PV}{h':ab}
  (hr:(es=[]/\r=.aa true []/\h'=h)\/(es≠[]/\r=.ak h.length 0 0 es.length/\h'=h++[⟨.m,0,8,es⟩])):na C0.P 2 w F X h 16 vs r h':=by
 refine jD (P:=C0.P) Tryz.func16 rfl H ha (λa RR=>?_);refine wp_seq ?_;refine cR K0 cf S0 (M:=λex s'=>ex=.normal/\∃O',s'=⟨al [(0,.aa fl es)] O',h⟩) rfl ?_ RR ?_
 ·rw[iK];refine wB ?_;exact⟨rfl,_,St.aT ⟨rfl,trivial⟩⟩
 rintro ex s' a1 w1 X1 ⟨rfl,O1,rfl⟩ R1 S1;refine wp_seq ?_;refine wp_seq ?_;apply cg K0 S0 (pre:=[_]) (post:=[]) (R:=R1) (M:=λs'=>∃O',s'=⟨al [(0,.aa fl es),(3,.aa fl es)] O',h⟩) (M2:=λs'=>∃bb O',s'=⟨al [(0,.aa fl es),(4,.bool bb)] O',h⟩/\(bb=true->es=[]))
 rfl
 rfl
 ·refine wB ?_;exact⟨_,St.aT ⟨rfl,rfl,trivial⟩⟩
 ·rintro s1 a2 w2 X2 ⟨O2,rfl⟩ R2 S2;obtain⟨bb,hb,os⟩:=jZ (t:=23) (yt:=23) (el:=38) (x:=.tmp 3) (fl:=fl) (es:=es) R2.hr R2.er (bB (T6.cY 23 _ rfl)) (dJ (L:=[(0,.aa fl es),(3,.aa fl es)]) (t:=3) rfl O2);refine⟨.bool bb,h,os _ rfl,ah.nil ⟨bb,al ((4,.bool bb)::[(0,.aa fl es),(3,.aa fl es)]) O2,?_,hb⟩⟩;show(⟨cm (al [(0,.aa fl es),(3,.aa fl es)] O2) (some 4) (.bool bb),h⟩:St)=_;rw[cw];exact St.aT ⟨rfl,rfl,trivial⟩
 rintro s3 a3 w3 X3 ⟨bb,O3,rfl,hb⟩ R3 S3
 cases bb
 ·refine cR K0 cf S0 (M:=λex s'=>ex=.normal/\∃O',s'=⟨al [(0,.aa fl es)] O',h⟩) rfl ?_ R3 ?_
  ·refine wB ?_;exact⟨rfl,_,St.aT ⟨rfl,trivial⟩⟩
  rintro ex s' a4 w4 X4 ⟨rfl,O4,rfl⟩ R4 S4;refine cR K0 cf S0 (M:=λex s'=>ex=.ret/\∃O',s'=⟨al [(2,r)] O',h'⟩) rfl ?_ R4 ?_
  ·refine wB ?_;rcases hr with⟨rfl,rfl,rfl⟩|⟨bO,rfl,rfl⟩
   ·apply R.lX T6;exact rfl;exact rfl;exact rfl;exact rfl;exact rfl;exact rfl;exact rfl;exact(by decide);exact rfl;exact rfl;refine wB ?_;exact⟨rfl,_,St.aT ⟨rfl,trivial⟩⟩
   ·apply R.jC T6;exact rfl;exact rfl;exact rfl;exact rfl;exact rfl;exact rfl;exact rfl;exact(by decide);exact rfl;exact rfl;exact jt;exact bO;exact hn;refine wB ?_;exact⟨rfl,_,St.aT ⟨rfl,trivial⟩⟩
  rintro ex s5 a5 w5 X5 ⟨rfl,O5,rfl⟩ R5 S5;refine⟨.inr rfl,_,X5,R5,((S1.trans S3).trans S4).trans S5,[r],?_,λu hu=>⟨X5,hu,R5.hr,((S1.trans S3).trans S4).trans S5⟩⟩;exact eL (L:=[(2,r)]) rfl
 ·obtain rfl:=hb rfl;rcases hr with⟨_,rfl,rfl⟩|⟨bO,_⟩
  ·refine cR K0 cf S0 (M:=λex s'=>ex=.ret/\∃O',s'=⟨al [(2,.aa true [])] O',h'⟩) rfl ?_ R3 ?_
   ·refine wB ?_;exact⟨rfl,_,St.aT ⟨rfl,trivial⟩⟩
   rintro ex s5 a5 w5 X5 ⟨rfl,O5,rfl⟩ R5 S5;refine⟨.inr rfl,_,X5,R5,(S1.trans S3).trans S5,[.aa true []],?_,λu hu=>⟨X5,hu,R5.hr,(S1.trans S3).trans S5⟩⟩;exact eL (L:=[(2,.aa true [])]) rfl
  exact absurd rfl bO
 rfl
end Zero
theorem Gl:fT C.P 16 (bE 8):=by
 intro args h r h' e w F X vs H ha
 unfold bE at e
 split at e
 ·rename_i fl es
  split at e
  ·rename_i x3
   obtain⟨rfl,rfl⟩:=ab7 (abV e);obtain rfl:es=[]:=by simpa using x3
   exact Zero.Nq H ha rfl (by simp) (.inl ⟨rfl,rfl,rfl⟩)
  ·rename_i x3
   split at e
   ·rename_i hc
    obtain⟨rfl,rfl⟩:=ab7 (abV e);exact Zero.Nq H ha hc.1 hc.2 (.inr ⟨by simpa using x3,rfl,rfl⟩)
   cases e
 cases e
theorem DQ{a:Act}{O:Nat->PV}(H:bo w F X h)(R:iI w (Av F h X) X h a O){t yt el:TypeId}{x:Operand}{id ep:Nat}{mu:Mu}{sz:Nat}{es:List PV}(hu:C0.P.underlying t=some (.slice el))(hx:ev O x=.ak id ep 0 es.length)(he:h[id]?=some ⟨mu,ep,sz,es⟩):
  ∀o:Oper,o.op=.binOp .eql t x (.const (.slice none 0 0)) yt->wO C0.P 2 w F X h (execOp a.eval o) (.bool false) h:=by
 have hv:=R.ev x;rw[hx]at hv
 obtain⟨ad,cap,e1⟩:∃ad cap,a.eval x=.slice (some ad) es.length cap:=by
  generalize a.eval x=v at hv
  cases hv with
  |ak v id ep off len o bc h1 h2 h3 h4 h5 h6=>
   rw[he]at h2;obtain rfl:=abV h2;obtain⟨cap,e,_⟩:=h6 rfl (by simp);exact⟨_,cap,e⟩
  |val hs=>cases hs
 intro o ho
 refine⟨.bool false,w,X,.inl ?_,.val (.bool _),H,eD.refl w h X,λ_=>dN.refl w⟩;obtain⟨d,op,ty,pos,af,g⟩:=o;simp only at ho;subst ho;have h2:a.eval (.const (.slice none 0 0))=.slice none 0 0:=rfl;have g1:(eqGuard .eql t x (.const (.slice none 0 0)) (.slice (some ad) es.length cap) (.slice none 0 0)).run C0.P w=.ok () w:=by simp[eqGuard]
 have g2:(binOp .eql t (.slice (some ad) es.length cap) (.slice none 0 0)).run C0.P w=.ok (.bool false) w:=by
  simp only[binOp];simp[run_equal_slice_nil w t el (some ad) es.length cap hu]
 simp only[execOp,e1,h2,Sem.run_bind,g1,g2,Result.andThen_ok,Sem.run_pure]
theorem R.Nu{C:cW}(T:mD C.P){ops:Array Oper}{d:Nat}{ty:TypeId}{pos:String}{af:Array Edge}{r:List Oper}{O:Nat->PV}{L:List (Nat×PV)}{Q:St->Prop}{st xt el ru:TypeId}{sz gu id ep:Nat}{mu:Mu}{z:PV}{ys:List PV}{x y:Operand}(hx:cS L x=some (.aa true []))(hy:cS L y=some (.ak id ep 0 ys.length))(he:h[id]?=some ⟨mu,ep,sz+1,ys⟩)(wP:mu≠.x)(hk:T.kd st=some (.sl el))(fZ:T.kd xt=some (.sl ru))(hs:T.ts el=some (sz+1))(hb:T.tb el=some gu)(hz:T.tz el=some z)
  (ju:gu<=1000) (hl:(cells z).length=sz+1) (ho:(cells z).all bM=true) (AU:dC (sz+1) ys) (bO:ys≠[]) (hn:ys.length<1000000000) (kk:ah C ops r ⟨al ((d,.ak h.length 0 0 ys.length)::L) O,h++[⟨.m,0,sz+1,ys⟩]⟩ Q):
  ah C ops (⟨some d,.call ⟨.builtin .append,#[x,y],#[st,xt]⟩,ty,pos,af,none⟩::r) ⟨al L O,h⟩ Q:=by
 refine ah.fo (λrun=>?_) kk;have cz:cB h (.ak id ep 0 ys.length)=some ys:=by simp[cB,getM,he,wP]
 have Ci:ys.isEmpty=false:=by cases ys with |nil=>exact absurd rfl bO |cons=>rfl
 have oA:bT C.P 2 h st xt (.aa true []) (.ak id ep 0 ys.length)=some (.ak h.length 0 0 ys.length,h++[⟨.m,0,sz+1,ys⟩]):=by
  unfold bT;rw[bB (T.cY _ _ hk)];simp only[T.ez _ _ hs,T.rE _ _ hb,T.nH _ _ hz,cH,bB (T.cY _ _ fZ),cz];unfold dC at AU;rw[if_pos ⟨by omega,by omega,⟨hl,ho⟩,AU⟩];simp[Ci,jB hn ju,newObj]
 simp only[au,bt,acg,acr,an hx,an hy,oA]
namespace Zero
theorem Rb{id ep:Nat}{mu:Mu}{es:List PV}{vs:List Value}(H:bo w F X h)(ha:L2 (aE w (Av F h X) X h) vs [.ak id ep 0 es.length])(he:h[id]?=some ⟨mu,ep,8,es⟩)(wP:mu≠.x)(jt:dC 8 es)(hn:es.length<1000000000)(bO:es≠[]):
  na C0.P 2 w F X h 16 vs (.ak h.length 0 0 es.length) (h++[⟨.m,0,8,es⟩]):=by
 refine jD (P:=C0.P) Tryz.func16 rfl H ha (λa RR=>?_);refine wp_seq ?_;refine cR K0 cf S0 (M:=λex s'=>ex=.normal/\∃O',s'=⟨al [(0,.ak id ep 0 es.length)] O',h⟩) rfl ?_ RR ?_
 ·rw[iK];refine wB ?_;exact⟨rfl,_,St.aT ⟨rfl,trivial⟩⟩
 rintro ex s' a1 w1 X1 ⟨rfl,O1,rfl⟩ R1 S1;refine wp_seq ?_;refine wp_seq ?_;apply cg K0 S0 (pre:=[_]) (post:=[]) (R:=R1) (M:=λs'=>∃O',s'=⟨al [(0,.ak id ep 0 es.length),(3,.ak id ep 0 es.length)] O',h⟩) (M2:=λs'=>∃O',s'=⟨al [(0,.ak id ep 0 es.length),(4,.bool false)] O',h⟩)
 rfl
 rfl
 ·refine wB ?_;exact⟨_,St.aT ⟨rfl,rfl,trivial⟩⟩
 ·rintro s1 a2 w2 X2 ⟨O2,rfl⟩ R2 S2;have os:=DQ (t:=23) (yt:=23) (el:=38) (x:=.tmp 3) R2.hr R2.er (bB (T6.cY 23 _ rfl)) (dJ (L:=[(0,.ak id ep 0 es.length),(3,.ak id ep 0 es.length)]) (t:=3) rfl O2) he;refine⟨.bool false,h,os _ rfl,ah.nil ⟨al ((4,.bool false)::[(0,.ak id ep 0 es.length),(3,.ak id ep 0 es.length)]) O2,?_⟩⟩;show(⟨cm (al [(0,.ak id ep 0 es.length),(3,.ak id ep 0 es.length)] O2) (some 4) (.bool false),h⟩:St)=_;rw[cw];exact St.aT ⟨rfl,rfl,trivial⟩
 rintro s3 a3 w3 X3 ⟨O3,rfl⟩ R3 S3;refine cR K0 cf S0 (M:=λex s'=>ex=.normal/\∃O',s'=⟨al [(0,.ak id ep 0 es.length)] O',h⟩) rfl ?_ R3 ?_
 ·refine wB ?_;exact⟨rfl,_,St.aT ⟨rfl,trivial⟩⟩
 rintro ex s' a4 w4 X4 ⟨rfl,O4,rfl⟩ R4 S4;refine cR K0 cf S0 (M:=λex s'=>ex=.ret/\∃O',s'=⟨al [(2,.ak h.length 0 0 es.length)] O',h++[⟨.m,0,8,es⟩]⟩) rfl ?_ R4 ?_
 ·refine wB ?_;apply R.Nu T6;exact rfl;exact rfl;exact he;exact wP;exact rfl;exact rfl;exact rfl;exact rfl;exact rfl;exact(by decide);exact rfl;exact rfl;exact jt;exact bO;exact hn;refine wB ?_;exact⟨rfl,_,St.aT ⟨rfl,trivial⟩⟩
 rintro ex s5 a5 w5 X5 ⟨rfl,O5,rfl⟩ R5 S5;refine⟨.inr rfl,_,X5,R5,((S1.trans S3).trans S4).trans S5,[.ak h.length 0 0 es.length],?_,λu hu=>⟨X5,hu,R5.hr,((S1.trans S3).trans S4).trans S5⟩⟩;exact eL (L:=[(2,.ak h.length 0 0 es.length)]) rfl
 rfl
end Zero
def r8(bQ:Nat)(args:List PV)(h:ab):Option (PV×ab):=
 match args with
 |[.ak id ep off len]=>match h[id]? with
  |some o=>if o.mu≠.x/\o.ep=ep/\o.bQ=bQ/\off=0/\len=o.es.length/\o.es≠[]/\o.es.all (λv=>decide ((cells v).length=bQ)&& (cells v).all bM)=true/\o.es.length<1000000000 then some (.ak h.length 0 0 o.es.length,newObj h bQ o.es)else none
  |none=>none
 |args=>bE bQ args h
theorem Gq:fT C.P 16 (r8 8):=by
 intro args h r h' e w F X vs H ha
 unfold r8 at e
 split at e
 ·rename_i id ep off len
  split at e
  ·rename_i o ho
   split at e
   ·rename_i hc
    obtain⟨rfl,rfl⟩:=ab7 (abV e);obtain⟨h1,rfl,h3,rfl,rfl,h6,h7,h8⟩:=hc;obtain⟨mu,ep,bQ,es⟩:=o;simp only at *;subst h3;exact Zero.Rb H ha ho h1 h7 h8 h6
   cases e
  cases e
 exact Gl _ _ _ _ e _ _ _ _ H ha
end Go.Pm
namespace Go.Pm
namespace bC
open Go.Proofs
set_option maxRecDepth 100000
abbrev PrL:=List PV->ab->Option (PV×ab)
def tU:List (FuncId×PrL):=[(161,qu),(215,jf),(216,bE 4),(370,bE 5),(15,bE 5),(16,r8 8)]
def Fb(f:FuncId):Mode:=match tU.lookup f with |some g=>.cV g |none=>jV f
noncomputable def C:cW:=⟨Go.Pm.C.P,Fb⟩
noncomputable def T6:mD C.P:=Go.Pm.T6
theorem HO{α:Type}{l:List (Nat×α)}{f:Nat}{g:α}(h:l.lookup f=some g):(f,g)∈l:=by
 induction l with
 |nil=>cases h
 |cons x l ih=>
  obtain⟨a,b⟩:=x;simp only[List.lookup]at h
  split at h
  ·rename_i he
   obtain rfl:=abV h;rw[eq_of_beq he];simp
  exact acX _ (ih h)
theorem jm(f:FuncId):(∃g,(f,g)∈tU/\Fb f=.cV g)\/Fb f=jV f:=by
 unfold Fb
 cases h:tU.lookup f with
 |none=>exact .inr rfl
 |some g=>exact .inl ⟨g,HO h,rfl⟩
theorem Pk(x:FuncId×PrL)(h:x∈tU):jV x.1=.no:=by
 simp only[tU,ab5,List.mem_nil_iff,or_false]at h
 repeat' (first |(rcases h with rfl |h)|subst h |fail)
 all_goals rfl
theorem Lx(x:FuncId×PrL)(h:x∈tU):fT C.P x.1 x.2:=by
 simp only[tU,ab5,List.mem_nil_iff,or_false]at h
 repeat' (first |(rcases h with rfl |h)|subst h |fail)
 all_goals first |exact Pl |exact rI.Es |exact Gn |exact Gp |exact Gm |exact Gq
theorem Pn (x : FuncId × PrL) (h : x ∈ tU) : ∃ fn, C.P.funcs[x.1]? = some fn ∧ fn.body.isSome = true ∧ (fn.name == "runtime.NumGoroutine") = false := by
 simp only[tU,ab5,List.mem_nil_iff,or_false]at h
 repeat' (first |(rcases h with rfl |h)|subst h |fail)
 all_goals first
  |exact⟨_,Tryz.func161,by kernel_rfl,by kernel_rfl⟩
  |exact⟨_,Tryz.func215,by kernel_rfl,by kernel_rfl⟩
  |exact⟨_,Tryz.func216,by kernel_rfl,by kernel_rfl⟩
  |exact⟨_,Tryz.func370,by kernel_rfl,by kernel_rfl⟩
  |exact⟨_,Tryz.func15,by kernel_rfl,by kernel_rfl⟩
  |exact⟨_,Tryz.func16,by kernel_rfl,by kernel_rfl⟩
theorem Uz:BH jV Fb:=λf=>by
 rcases jm f with⟨g,h,_⟩|h;exact .inl (Pk _ h);exact .inr h.symm
theorem _root_.Go.Pm.aI.nine{f:FuncId}{args:List PV}{r:PV}(a:aI Go.Pm.C f args r):aI C f args r:=aI.up Uz a
theorem _root_.Go.Pm.ay.nine{f:FuncId}{args:List PV}{h:ab}{Q:PV->ab->Prop}(a:ay Go.Pm.C f args h Q):ay C f args h Q:=ay.up Uz a
theorem WX:gB C where
 enters f hf bO:=by
  rcases jm f with⟨g,h,_⟩|h;exact Pn _ h;exact yF.enters f (λh2=>hf (h.trans h2)) (λg h2=>bO g (h.trans h2))
 sI f g hh:=by
  rcases jm f with⟨g',_,h⟩|h
  cases h.symm.trans hh
  exact yF.sI f g (h.symm.trans hh)
 cV f g hh:=by
  rcases jm f with⟨g',h1,h⟩|h
  ·obtain rfl:=Mode.cV.inj (h.symm.trans hh);exact Lx _ h1
  exact yF.cV f g (h.symm.trans hh)
 ext f g hh:=by
  rcases jm f with⟨g',_,h⟩|h
  cases h.symm.trans hh
  exact yF.ext f g (h.symm.trans hh)
theorem Pc:qL C where
 mixed:=pV.mixed
 Dy f fn c hm hf hb:=by
  rcases jm f with⟨g',_,h⟩|h;rcases hm with hm |hm <;>cases h.symm.trans hm
  exact pV.Dy f fn c (hm.imp (λh2=>h.symm.trans h2) (λh2=>h.symm.trans h2)) hf hb
end bC
open Go.Proofs
set_option maxRecDepth 4000
def uk(p:Tm):List Tm->List Tm
 |[]=>[]
 |a::r=>if aW a p=0 then uk a r else a::uk a r
def dd:List Tm->List Tm
 |[]=>[]
 |x::r=>x::uk x r
theorem I1(p:Tm):∀l:List Tm,(uk p l).length<=l.length
 |[]=>by simp[uk]
 |a::r=>by
  have:=I1 a r;unfold uk
  split <;>simp <;>omega
theorem GD:∀l:List Tm,(dd l).length<=l.length
 |[]=>by simp[dd]
 |a::r=>by have:=I1 a r;simp[dd];omega
theorem gX{l:List Tm}{i:Nat}{t:Tm}(h:l[i]?=some t):(ae l)[i]?=some (.agg [.int .i64 t.k,.str t.s,.int .i64 t.o,.aa false (ae t.l)]):=by rw[dm,ace,h,<-ar];rfl
theorem ya{l:List Tm}{i:Nat}{t:Tm}:(ae l).set i (enc t)=ae (l.set i t):=by rw[dm,dm,List.map_set]
theorem uA{α:Type}{L A B:List α}{x:α}{i:Nat}(e:L=A++x::B)(hi:i=A.length):L[i]?=some x:=by subst e hi;simp
theorem dj{α:Type}{l:List α}{i:Nat}{x:α}(h:l[i]?=some x):l.set i x=l:=by
 obtain⟨h1,rfl⟩:=ac6.1 h;exact aem h1
section
variable{C:cW}(T:mD C.P){h:ab}
theorem sY{t el:TypeId}{sz id ep len n:Nat}{k:IntKind}{es:List PV}(hk:T.kd t=some (.sl el))(hs:T.ts el=some sz)(e:h[id]?=some ⟨.m,ep,sz,es⟩)(hl:len<=es.length)(h0:0<n)(hn:n<len):
  cr C.P h t (.ak id ep 0 len) (some (.int k n)) none none=some (.ak id ep (0+n) (len - n)):=by
 have hg:getM h id ep=some ⟨.m,ep,sz,es⟩:=bp e rfl (by simp);simp only[cr,bB (T.cY _ _ hk),T.ez _ _ hs,hg];rw[if_pos ⟨trivial,by show 0+len<=es.length;omega⟩];have hb:beyond none none len (es.length - 0)=none:=rfl;simp only[beyond,cQ];rw[if_pos (by omega)];simp only[ads];rw[if_pos (by rfl),if_neg (by simp),if_neg (by omega),if_neg (by omega)]
theorem D0{t el:TypeId}{sz id ep len n:Nat}{k:IntKind}{es:List PV}(hk:T.kd t=some (.sl el))(hs:T.ts el=some sz)(e:h[id]?=some ⟨.m,ep,sz,es⟩)(hl:len<=es.length)(hn:n<=len):
  cr C.P h t (.ak id ep 0 len) none (some (.int k n)) none=some (.ak id ep 0 n):=by
 have hg:getM h id ep=some ⟨.m,ep,sz,es⟩:=bp e rfl (by simp);simp only[cr,bB (T.cY _ _ hk),T.ez _ _ hs,hg];rw[if_pos ⟨trivial,by show 0+len<=es.length;omega⟩];simp only[beyond,cQ];rw[if_neg (by omega),if_pos (by omega)];simp
theorem D3{t el:TypeId}{sz id ep off len:Nat}{z:PV}{es:List PV}(hk:T.kd t=some (.sl el))(hs:T.ts el=some sz)(hz:T.tz el=some z)(e:h[id]?=some ⟨.m,ep,sz,es⟩)(hl:off+len<=es.length)(hc:(cells z).length=sz)(ho:(cells z).all bM=true):
  mZ C.P 2 h t (.ak id ep off len)=some (.cA [],h.set id ⟨.m,ep,sz,es.take off++List.replicate len z++es.drop (off+len)⟩):=by
 have hg:getM h id ep=some ⟨.m,ep,sz,es⟩:=bp e rfl (by simp);simp only[mZ,bB (T.cY _ _ hk),T.ez _ _ hs,T.nH _ _ hz,hg];rw[if_pos ⟨by omega,trivial,trivial,hl,hc,ho⟩]
theorem p8.sl{L:Al}{t:TypeId}{x lo:Operand}{v u w:PV}{K:PV->Prop}(hx:cS L x=some v)(hl:cS L lo=some u)(hs:cr C.P h t v (some u) none none=some w)(kk:Rn (K w)):p8 C (.slice t x (some lo) none none) L h K:=
 .mk (λrun lv O=>by simp only[au,aC,an hx,an hl,ab8,aea,hs]) kk
theorem p8.sh{L:Al}{t:TypeId}{x hi:Operand}{v u w:PV}{K:PV->Prop}(hx:cS L x=some v)(hl:cS L hi=some u)(hs:cr C.P h t v none (some u) none=some w)(kk:Rn (K w)):p8 C (.slice t x none (some hi) none) L h K:=
 .mk (λrun lv O=>by simp only[au,aC,an hx,an hl,ab8,aea,hs]) kk
theorem wR.clr{L:Al}{t:TypeId}{x:Operand}{v:PV}{h':ab}{K:PV->ab->Prop}(hx:cS L x=some v)(hs:mZ C.P 2 h t v=some (.cA [],h'))(kk:Rn (K (.cA []) h')):wR C (.call ⟨.builtin .clear,#[x],#[t]⟩) L h K:=
 .mk (λrun O=>by simp only[au,bt,acg,acr,an hx,hs]) kk
end
attribute [local irreducible] aD az aL aJ Ev ah aj ay bg
theorem D4(a b:Tm)(ha:ax a<1000000000)(hb:ax b<1000000000):aI C 407 [enc a,enc b] (.bool (decide (aW a b=0))):=by
 have h1:=eY a b ha hb;rw[ar,ar]at h1 ⊢;refine aI.x T6 Tryz.func407 rfl ?_;refine wA ?_;refine .p h1 ?_;refine wC (λhc=>?_) λhc=>?_
 all_goals exact⟨_,rfl,by simp[aR, *]⟩
theorem DY(H:ab):ay C 162 [.aa true [],.fn 407 []] H (λr h'=>r=.aa true []/\h'=H):=by
 refine ay.x T6 Tryz.func162 rfl ?_;refine wA ?_;exact⟨rfl,rfl⟩
theorem Gz(x:Tm)(l:List Tm)(H:ab)(hH:HV H)(id ep:Nat)(e1:H[id]?=some ⟨.m,ep,4,ae (x::l)⟩)(hn:l.length<100000000)(hb:∀t∈x::l,ax t<1000000000):
  ay C 162 [.ak id ep 0 (ae (x::l)).length,.fn 407 []] H
   (λr h'=>r=.ak id ep 0 (dd (x::l)).length/\∃tl,ao tl=true/\h'=H.set id ⟨.m,ep,4,ae (dd (x::l))++tl⟩):=by
 have cz:(ae (x::l)).length=l.length+1:=by rw[ai];rfl
 refine ay.x T6 Tryz.func162 rfl ?_;refine wC (λhc=>?_) λhc=>?_
 ·obtain rfl:l=[]:=acd (by omega);exact⟨rfl,[],rfl,by rw[ack];exact(dj e1).symm⟩
 refine cU.zip T6 l (λp q L h=>h=H/\∃P' prev,x::p=P'++[prev]/\P'++prev::uk prev q=dd (x::l)/\L=[(0,.ak id ep 0 (ae (x::l)).length),(1,.fn 407 []),(5,.int .i64 ((p.length+1:Nat):Int))]) (.nx ⟨rfl,[],x,rfl,rfl,rfl⟩) ?_ ?_
 ·rintro p a q _ h O e ⟨rfl,P',prev,hp,hd,rfl⟩;have dp:=lenE e;have jR:=congrArg List.length hp;simp only[ab3,ab9,acz]at jR;have DV:(ae (x::l))[0+(p.length+1)]?=some (.agg [.int .i64 a.k,.str a.s,.int .i64 a.o,.aa false (ae a.l)]):=gX (by rw[e,acf];simp)
  have nh:(ae (x::l))[0+(((p.length+1:Nat):Int) - 1).toNat]?=some (.agg [.int .i64 prev.k,.str prev.s,.int .i64 prev.o,.aa false (ae prev.l)]):=gX (by
   rw[show(((p.length+1:Nat):Int) - 1).toNat=p.length by omega,e,<-aco,hp,acf,abW (by simp;omega),ab6 (by omega)];simp[show p.length - P'.length=0 by omega])
  have hq:=D4 a prev (hb a (by rw[e];simp)) (hb prev (by rw[e,<-aco,hp];simp));rw[ar,ar]at hq;refine wA ?_;refine .p hq ?_
  cases hc:decide (aW a prev=0)
  ·refine wA ?_;refine .nx ⟨rfl,P'++[prev],a,by rw[<-aco,hp],?_,rfl⟩;rw[<-hd,uk,if_neg (by simpa using hc)];simp
  ·refine wA ?_;rw[cz]at *;refine .sl rfl rfl (sY T6 rfl rfl e1 (by rw[ai];simp) (by omega) (by omega)) ?_;refine wA ?_
   refine cU.zip T6 q (λp2 q2 L h'=>∃R M0 pr,ax pr<1000000000/\R.length+M0.length=p.length+1+p2.length/\R++uk pr q2=dd (x::l)/\h'=h.set id ⟨.m,ep,4,ae (R++(M0++[pr]++q2))⟩/\
    L=[(0,.ak id ep 0 (l.length+1)),(1,.fn 407 []),(5,.int .i64 (R.length:Int)),(6,.ak id ep (0+(p.length+1)) (l.length+1 - (p.length+1))),(7,.int .i64 ((p2.length+1:Nat):Int))]) (.nx ⟨P'++[prev],[],a,hb a (by rw[e];simp),by simp only[ab3,ab9,acz];omega,?_,?_,rfl⟩) ?_ ?_
   rw[<-hd,uk,if_pos (by simpa using hc)];simp;rw[dj];rw[e1,e,<-aco,hp];simp
   ·rintro p2 b q2 _ _ O2 e2 ⟨R,M0,pr,T5,Cj,Kl,rfl,rfl⟩;have Q9:=lenE e2;have Kn:(h.set id ⟨.m,ep,4,ae (R++(M0++[pr]++b::q2))⟩)[id]?=some ⟨.m,ep,4,ae (R++(M0++[pr]++b::q2))⟩:=abY (ag e1);have Yz:HV (h.set id ⟨.m,ep,4,ae (R++(M0++[pr]++b::q2))⟩):=hH.set id (by simp) (by simp);have T7:(ae (R++(M0++[pr]++b::q2))).length=l.length+1:=by rw[ai];simp;omega
    have aaz:(ae (R++(M0++[pr]++b::q2)))[0+(p.length+1)+(p2.length+1)]?=some (.agg [.int .i64 b.k,.str b.s,.int .i64 b.o,.aa false (ae b.l)]):=gX (uA (A:=R++M0++[pr]) (B:=q2) (by simp) (by simp;omega));have NG:(ae (R++(M0++[pr]++b::q2)))[0+(p.length+1)+(((p2.length+1:Nat):Int) - 1).toNat]?=some (.agg [.int .i64 pr.k,.str pr.s,.int .i64 pr.o,.aa false (ae pr.l)]):=gX (uA (A:=R++M0) (B:=b::q2) (by simp) (by simp;omega));have YN:=D4 b pr (hb b (by rw[e,e2];simp)) T5;rw[ar,ar]at YN;obtain⟨m,M1,hM⟩:∃m M1,M0++[pr]=m::M1:=by cases M0 with |nil=>exact⟨_,_,rfl⟩|cons m M=>exact⟨m,M++[pr],rfl⟩
    have hM1:=congrArg List.length hM;simp only[ab3,ab9,acz]at hM1;have aaA:(ae (R++(M0++[pr]++b::q2)))[0+R.length]?=some (.agg [.int .i64 m.k,.str m.s,.int .i64 m.o,.aa false (ae m.l)]):=gX (uA (A:=R) (B:=M1++b::q2) (by rw[hM];simp) (by omega))
    have eT:(ae (R++(M0++[pr]++b::q2))).set (0+R.length) (.agg [.int .i64 b.k,.str b.s,.int .i64 b.o,.aa false (ae b.l)])=ae ((R++[b])++(M1++[b]++q2)):=by
     rw[<-ar,ya,hM,acf];simp
    clear hq DV nh;refine wA ?_;refine .p YN ?_
    cases MC:decide (aW b pr=0)
    ·refine wA ?_;rw[eT,ac4];refine .nx ⟨R++[b],M1,b,hb b (by rw[e,e2];simp),by simp;omega,?_,rfl,rfl⟩;rw[<-Kl,uk,if_neg (by simpa using MC)];simp
    ·refine wA ?_;refine .nx ⟨R,M0++[pr],b,hb b (by rw[e,e2];simp),by simp;omega,?_,by simp,rfl⟩;rw[<-Kl,uk,if_pos (by simpa using MC)]
   ·rintro _ _ O2 ⟨R,M0,pr,T5,Cj,Kl,rfl,rfl⟩;have Kn:(h.set id ⟨.m,ep,4,ae (R++(M0++[pr]++[]))⟩)[id]?=some ⟨.m,ep,4,ae (R++(M0++[pr]++[]))⟩:=abY (ag e1);have Yz:HV (h.set id ⟨.m,ep,4,ae (R++(M0++[pr]++[]))⟩):=hH.set id (by simp) (by simp);have T7:(ae (R++(M0++[pr]++[]))).length=l.length+1:=by rw[ai];simp;omega
    rw[uk,ack]at Kl;subst Kl;refine wA ?_;refine .sl rfl rfl (sY T6 rfl rfl Kn (by omega) ?_ (by omega)) ?_;simp[dd];refine wA ?_;refine .clr rfl (D3 T6 rfl rfl rfl Kn (by omega) rfl rfl) ?_;have pF:List.take (0+(dd (x::l)).length) (ae (dd (x::l)++(M0++[pr]++[])))=ae (dd (x::l)):=by rw[dm,dm,acf,acK,List.take_left' (by simp)]
    have AW:List.drop (0+(dd (x::l)).length+(l.length+1 - (dd (x::l)).length)) (ae (dd (x::l)++(M0++[pr]++[])))=[]:=acx (by omega);rw[pF,AW,ac4]
    obtain⟨tl,sF,cM,Ko⟩:∃tl:List PV,tl=List.replicate (l.length+1 - (dd (x::l)).length) (.agg [.int .i64 0,.str ByteArray.empty,.int .i64 0,.aa true []])/\tl.length=l.length+1 - (dd (x::l)).length/\ao tl=true:=
     ⟨_,rfl,by simp,by rw[bw,abX];intro y hy;rw[acY hy];rfl⟩
    have e3:(h.set id ⟨.m,ep,4,ae (dd (x::l))++tl⟩)[id]?=some ⟨.m,ep,4,ae (dd (x::l))++tl⟩:=abY (ag e1);rw[<-sF,ack];refine wA ?_;refine .sh rfl rfl (D0 T6 rfl rfl e3 (by rw[ab3,ai,cM];have:=GD (x::l);simp at this;omega) (by omega)) ?_;refine wA ?_;exact⟨rfl,tl,Ko,rfl⟩
 ·rintro _ h O ⟨rfl,P',prev,hp,hd,rfl⟩;have Vc:ae (dd (x::l))=ae (x::l):=by rw[<-hd,hp,uk]
  refine wA ?_;exact⟨congrArg (PV.ak id ep 0) (by rw[<-Vc,ai]),[],rfl,by rw[Vc,ack];exact(dj e1).symm⟩
end Go.Pm
namespace Go.Pm
open Go.Proofs
set_option maxRecDepth 4000
theorem Ny:∀(l:List Tm) (p y:Tm),y∈p::uk p l↔y∈p::l
 |[],p,y=>by simp[uk]
 |a::r,p,y=>by
  have ih:=Ny r a y;unfold uk
  split
  ·rename_i h
   obtain rfl:=cy h;rw[ih];simp
  rw[ab5,ih,ab5 (b:=p)]
theorem IZ:∀(l:List Tm) (p:Tm),((p::l).Pairwise λx y=>aW x y<=0)->fu (p::uk p l)
 |[],p,_=>by simp[uk,fu]
 |a::r,p,h=>by
  have h2:=acm.1 h;have ih:=IZ r a h2.2;unfold uk
  split
  ·rename_i hc
   obtain rfl:=cy hc;exact ih
  ·rename_i hc
   have hp:=h2.1 a (by simp);have ng:=eI p a;refine acm.2 ⟨λy hy=>?_,ih⟩;rcases ab5.1 hy with rfl |hy;omega;exact eC (show aW p a<0 by omega) ((acm.1 ih).1 y hy)
theorem NA(l:List Tm)(y:Tm):y∈dd l↔y∈l:=by
 cases l with
 |nil=>simp[dd]
 |cons x r=>exact Ny r x y
theorem NB{l:List Tm}(h:l.Pairwise λx y=>aW x y<=0):fu (dd l):=by
 cases l with
 |nil=>simp[dd,fu]
 |cons x r=>exact IZ r x h
theorem Rh(l:List (List Pw)):dd (eJ (jY l))=Ke l:=
 mM (NB (qO _)) (Nn l) (λy=>by rw[NA,Q8];exact(fI _).mem_iff)
theorem aj.ln{C:cW}{f:FuncId}{args:List PV}{H:ab}{P Q:PV->ab->Prop}(a:ay C f args H P)(hl:∀r h',P r h'->h'.length=H.length)(q:∀r h',P r h'->Q r h')(hm:C.mode f=.opened:=by rfl):aj C 2 f args H Q:=by
 refine aj.opened hm (a.mono λr k hr=>?_)
 split
 ·rw[acu (by rw[hl r k hr];exact abZ _)];exact q r k hr
 exact q r k hr
theorem NC(a b:List (List Pw)):jY (a++b)=jY a++jY b:=by simp[jY]
attribute [local irreducible] aD az aL aJ Ev ah aj ay bg
theorem Gx(H:ab)(id ep:Nat)(e1:H[id]?=some ⟨.m,ep,4,ae []⟩):ay C 162 [.ak id ep 0 0,.fn 407 []] H (λr h'=>r=.ak id ep 0 0/\h'=H):=by
 refine ay.x T6 Tryz.func162 rfl ?_;refine wA ?_;exact⟨rfl,rfl⟩
theorem iL{h:ab}{id ep sz n:Nat}{es eV tl:List PV}(e:h[id]?=some ⟨.m,ep,sz,es++tl⟩)(hl:es.length=n)(hv:ao es=true)(hn:aQ es=eV):∃r1,rb h (aR [.ak id ep 0 n])=some r1/\cj r1=.aa false eV:=by
 subst hl hn;refine⟨.aa false es,?_,rfl⟩;have hg:getM h id ep=some ⟨.m,ep,sz,es++tl⟩:=bp e rfl (by simp);show rb h (.ak id ep 0 es.length)=_;simp[rb,jP,pD,hg,hv]
namespace bC
theorem ND(l:List (List Pw))(hs:SmT l):aI C 396 [.aa false (iU l)] (.aa false (ae (Ke l))):=by
 have cz:(iU l).length=l.length:=by simp
 have xe:=hs.2;have DV:=Cg (l:=l) λx hx=>(hs.1 x hx).2
 have Qq:∀t∈jY l,ax t<1000000000:=λt ht=>by
  obtain⟨x,hx,ht⟩:=acL.1 ht;obtain⟨p,hp,rfl⟩:=aci.1 ht;exact Nat.lt_trans ((hs.1 x hx).1 p hp) (by decide)
 refine aI.x T6 Tryz.func396 rfl ?_;refine wA ?_;refine cU.zip T6 l (λp q L H=>∃v,L=[(3,v),(8,.aa false (iU l)),(9,.int .i64 l.length),(10,.int .i64 p.length)]/\HV H/\Out 4 H v (ae (jY p))) (.nx ⟨.aa true [],rfl,HV.nil,.inl ⟨rfl,rfl⟩⟩) ?_ ?_
 ·rintro p x q _ H O e ⟨v,rfl,hH,ho⟩;have cC:=Kc e;have dp:=lenE e;have hx:=hs.1 x (by rw[e];simp);have aay:=fw x;have oA:=Cg (l:=p) λy hy=>(hs.1 y (by rw[e];simp[hy])).2
  refine wA ?_;refine cU.zip T6 x (λp2 q2 L H=>∃v,L=[(3,v),(8,.aa false (iU l)),(9,.int .i64 l.length),(10,.int .i64 p.length),(14,.aa false (bq x)),(15,.int .i64 x.length),(16,.int .i64 p2.length)]/\HV H/\Out 4 H v (ae (jY p++p2.map (·.1)))) (.nx ⟨v,rfl,hH,by simpa using ho⟩) ?_ ?_
  ·rintro p2 ⟨u,n⟩ q2 _ H2 O e2 ⟨v2,rfl,pE,x7⟩;have nh:=DW e2;have Cj:=lenE e2;have xi:(ae (jY p++p2.map (·.1))).length+1<1000000000:=by rw[ai];simp;omega
   have Ck:=x7.db [⟨.m,0,5,[.agg [.int .i64 u.k,.str u.s,.int .i64 u.o,.aa false (ae u.l),.int .i64 n]]⟩];have U0:HV (H2++[⟨.m,0,5,[.agg [.int .i64 u.k,.str u.s,.int .i64 u.o,.aa false (ae u.l),.int .i64 n]]⟩]):=pE.db (HV.one (by simp));refine wG λv H lp=>?_;refine .nx ⟨_,rfl,lp.hv,?_⟩;have:=lp.out;rw[DX,dm]at this;rw[dm,acK,acK,acK];simpa using this
  ·rintro _ H2 O ⟨v2,rfl,pE,x7⟩;refine wA ?_;exact .nx ⟨v2,rfl,pE,by rw[NC];simpa[jY]using x7⟩
 ·rintro _ H O ⟨v,rfl,hH,ho⟩;rw[<-Rh];rcases ho with⟨rfl,e0⟩|⟨id,ep,rfl,e1⟩
  ·have e2:jY l=[]:=acd (by rw[<-ai,e0];rfl);rw[e2];refine wA ?_;refine aj.cV rfl rfl ?_;refine wA ?_;refine .ln (DY H).nine (λr h' hr=>by rw[hr.2]) (λr h' hr=>?_);obtain⟨rfl,rfl⟩:=hr;refine wA ?_;exact⟨_,rfl,rfl⟩
  ·have oX:=ai (jY l);refine wA ?_;refine aj.cV rfl (by rw[oX];exact mN e1 (by omega) Qq) ?_;have e2:(H.set id ⟨.m,ep,4,ae (eJ (jY l))⟩)[id]?=some ⟨.m,ep,4,ae (eJ (jY l))⟩:=abY (ag e1);have pE:HV (H.set id ⟨.m,ep,4,ae (eJ (jY l))⟩):=hH.set id (by simp) (by simp);have xi:=(fI (jY l)).length_eq;have ek:∀t∈eJ (jY l),ax t<1000000000:=λt ht=>Qq t ((fI _).mem_iff.1 ht)
   rw[oX,<-xi];rw[<-xi]at oX DV;generalize eJ (jY l)=S at *
   cases S with
   |nil=>
    refine wA ?_;refine .ln (Gx _ id ep e2).nine (λr h' hr=>by rw[hr.2]) (λr h' hr=>?_);obtain⟨rfl,rfl⟩:=hr;refine wA ?_;exact Ls.Gy (.inl (.inr ⟨id,ep,rfl,e2⟩)) rfl (by simp[dd,ae])
   |cons x r=>
    have hc:=(Gz x r _ pE id ep e2 (by simp at DV;omega) ek).nine;rw[ai]at hc;refine wA ?_;refine .ln hc (λr h' hr=>by obtain⟨_,_,_,rfl⟩:=hr;simp) (λr h' hr=>?_);obtain⟨rfl,tl,hv,rfl⟩:=hr;rw[ac4];have e3:(H.set id ⟨.m,ep,4,ae (dd (x::r))++tl⟩)[id]?=some ⟨.m,ep,4,ae (dd (x::r))++tl⟩:=abY (ag e1);refine wA ?_;exact iL e3 (by rw[ai]) (by simp) (by simp)
end bC
end Go.Pm
namespace Go.Pm
theorem Kq{s:ByteArray}(h:dZ s=true):s.size<=24:=by
 rw[<-bsize];unfold dZ xk at h
 cases e:s.toList with
 |nil=>simp
 |cons c l=>
  rw[e]at h;simp only[ab4,decide_eq_true_eq]at h;simp;omega
theorem uD{k n o l}(h:node (.mk k n o l)=0):dZ n=true/\l.length<=8:=by
 simp only[node]at h
 split at h
 cases h
 ·split at h
  cases h
  ·rename_i hn
   split at h
   cases h
   exact⟨by simpa using hn,by omega⟩
theorem lY{k n o l}(h:nodes (.mk k n o l)=0):node (.mk k n o l)=0/\gy l=0:=by
 rw[nodes]at h
 split at h
 ·rename_i hn;exact absurd h hn
 exact⟨by omega,h⟩
theorem A5{f:Nat}:∀{l:List Tm},(∀t∈l,(ax t:Int)<=f * size t)->(br l:Int)<=f * dA l
 |[],_=>by simp[br,dA]
 |t::l,h=>by
  have h1:=h t (by simp);have h2:=A5 (l:=l) λu hu=>h u (by simp[hu])
  simp only[br,dA,Int.mul_add];omega
theorem GH(t:Tm):nodes t=0->(ax t:Int)<=25 * size t:=by
 induction t using Tm.ind with
 |h k n o l ih=>
  intro h
  obtain⟨h1,h2⟩:=lY h;have h3:=Kq (uD h1).1;have h4:=A5 (f:=25) λt ht=>by simpa using ih t ht (lT h2 t ht)
  simp only[ax,size,Int.mul_add];omega
theorem fe{t:Tm}(h:valid t=0):ax t<=10000:=by
 obtain⟨h1,h2,_⟩:=eB.1 h;have:=GH t h1;omega
theorem Kr{k n o l}(h:valid (.mk k n o l)=0){t:Tm}(ht:t∈l):valid t=0:=by
 rw[eB]at h ⊢;exact VQ.kids h t ht
theorem Cm{B:Nat}{x:Tm}:∀{s:List eE},(∀b∈s,ax b.t<=B)->ax (j0 s x)<=max B (ax x)
 |[],_=>by simp[j0];omega
 |b::s,h=>by
  unfold j0
  split
  have:=h b (by simp);omega;exact Cm λc hc=>h c (by simp[hc])
theorem cq(l:List Tm)(y:Tm):y∈fJ l↔y∈l:=by rw[fJ,Ch];simp
theorem gp(l:List Tm):fu (fJ l):=x0 (by simp[fu])
theorem GI(l:List Tm):dd (eJ l)=fJ l:=mM (NB (qO _)) (gp l) (λy=>by rw[NA,cq];exact(fI _).mem_iff)
theorem D6(n:Int)(t y:Tm):y∈mQ n t↔y∈pre t/\y.k=n:=by rw[mQ,cq];simp
theorem iM(t y:Tm):y∈bL t↔y∈pre t/\y.k=1:=D6 1 t y
theorem bF{l:List Tm}{y:Tm}:y∈cd l↔∃t∈l,y∈pre t:=by
 induction l with
 |nil=>simp[cd]
 |cons t l ih=>simp[cd,ih]
theorem nN(t:Tm):∀y∈pre t,ax y<=ax t:=by
 induction t using Tm.ind with
 |h k n o l ih=>
  intro y hy
  rw[pre,ab5]at hy;rcases hy with rfl |hy;exact abZ _
  ·obtain⟨t,ht,hy⟩:=bF.1 hy;have h1:=ih t ht y hy;have h2:=bD ht;simp only[ax];omega
theorem uE:∀{l:List Tm},(∀t∈l,(pre t).length<=ax t)->(cd l).length<=br l
 |[],_=>by simp[cd,br]
 |t::l,h=>by
  have h1:=h t (by simp);have h2:=uE (l:=l) λu hu=>h u (by simp[hu])
  simp only[cd,br,ab3];omega
theorem qR(t:Tm):(pre t).length<=ax t:=by
 induction t using Tm.ind with
 |h k n o l ih=>
  have:=uE ih;simp only[pre,ax,ab9];omega
theorem lZ(l:List Tm):(cd l).length<=br l:=uE λt _=>qR t
theorem qb(l:List Tm):(fJ l).length<=l.length:=by have:=xY l [];simpa[fJ]using this
theorem A6(n:Int)(t:Tm):(mQ n t).length<=ax t:=by
 have h1:=qb ((pre t).filter λu=>decide (u.k=n));have h2:=acV (λu=>decide (u.k=n)) (pre t);have h3:=qR t;unfold mQ;omega
theorem fy(t:Tm):(bL t).length<=ax t:=A6 1 t
theorem j4{t y:Tm}(h:y∈bL t):ax y<=ax t:=nN t y ((iM t y).1 h).1
theorem yd{p:ByteArray->Bool}:∀{l:List Tm},(∀t∈l,every p t=(pre t).all λu=>decide (u.k≠3)||p u.s)->gM p l=(cd l).all λu=>decide (u.k≠3)||p u.s
 |[],_=>rfl
 |t::l,h=>by
  rw[gM,cd,ac1,h t (by simp),yd λu hu=>h u (by simp[hu])]
theorem uF{p:ByteArray->Bool}(t:Tm):every p t=(pre t).all λu=>decide (u.k≠3)||p u.s:=by
 induction t using Tm.ind with
 |h k n o l ih=>
  rw[every,pre,acT,yd ih]
  rfl
theorem r9{t:Tm}(h:cE t=0):valid t=0/\kM t=0/\lq t=true/\(bL t).any Dl=false/\size t<=60:=by
 unfold cE at h
 split at h
 ·rename_i hn;exact absurd h hn
 ·rename_i h1
  split at h
  cases h
  ·rename_i h2
   split at h
   cases h
   ·have h3:gY t=0:=by omega
    unfold gY at h3
    split at h3
    ·rename_i hn;exact absurd h3 hn
    ·refine⟨by omega,h3,?_,?_,by omega⟩
     ·cases hf:lq t with
      |true=>rfl
      |false=>exact absurd (.inl hf) h2
     ·cases hf:(bL t).any Dl with
      |false=>rfl
      |true=>exact absurd (.inr hf) h2
theorem qc:∀{l:List Tm},gh l=0->∀t∈l,cE t=0
 |[],_,t,h=>by cases h
 |u::l,e,t,h=>by
  rw[gh]at e
  split at e
  ·rename_i hn;exact absurd e hn
  ·rcases ab5.1 h with rfl |h;omega;exact qc e t h
theorem sa:∀{l:List fq} {p:Option (List Tm)} {b:List Tm},mP p b l=0->∀d∈l,d.kn.length<=40/\gh (d.kn++[d.tm])=0
 |[],_,_,_,d,h=>by cases h
 |u::l,p,b,e,d,h=>by
  rw[mP]at e
  split at e
  cases e
  ·split at e
   ·rename_i hn;exact absurd e hn
   ·split at e
    cases e
    ·split at e
     cases e
     ·rcases ab5.1 h with rfl |h;exact⟨by omega,by omega⟩;exact sa e d h
theorem uG{l:List fq}(h:kL l=0):l.length<=40/\∀d∈l,d.kn.length<=40/\∀t∈d.kn++[d.tm],cE t=0:=by
 unfold kL at h
 split at h
 cases h
 exact⟨by omega,λd hd=>⟨(sa h d hd).1,qc (sa h d hd).2⟩⟩
theorem nO{b:eE}(h:Dn b=0):valid b.v=0/\b.v.k=1/\valid b.t=0/\aW b.v b.t≠0/\A4 b.v b.t=true:=by
 unfold Dn at h
 split at h
 ·rename_i hn;exact absurd h hn
 ·split at h
  cases h
  ·rename_i h2
   split at h
   ·rename_i hn;exact absurd h hn
   ·split at h
    cases h
    ·rename_i h4
     exact⟨by omega,by omega,by omega,by omega,by simpa using h4⟩
theorem ye:∀{s:List eE} {p:Option Tm},pA p s=0->(∀b∈s,Dn b=0)/\(s.Pairwise λa b=>aW a.v b.v<0)/\(∀q,p=some q->∀b∈s,aW q b.v<0)
 |[],_,_=>⟨λ_ h=>(by cases h),.nil,λ_ _ _ h=>(by cases h)⟩
 |u::s,p,e=>by
  rw[pA]at e
  split at e
  ·rename_i hn;exact absurd e hn
  ·rename_i h1
   split at e
   cases e
   ·rename_i h2
    obtain⟨g1,g2,g3⟩:=ye e;refine⟨λb hb=>?_,acm.2 ⟨λb hb=>g3 _ rfl b hb,g2⟩,?_⟩
    ·rcases ab5.1 hb with rfl |hb;omega;exact g1 b hb
    ·rintro q rfl b hb;have h3:aW q u.v<0:=by simpa[behind]using h2
     rcases ab5.1 hb with rfl |hb;exact h3;exact eC h3 (g3 _ rfl b hb)
theorem uH{s:List eE}(h:qa s=0):s.length<=200/\(∀b∈s,Dn b=0)/\s.Pairwise λa b=>aW a.v b.v<0:=by
 unfold qa at h
 split at h
 cases h
 ·obtain⟨g1,g2,_⟩:=ye h;exact⟨by omega,g1,g2⟩
def dg(t:Tm)(n:ByteArray):Bool:=decide (t.k=3)&&eP t.s n
def eN(t:Tm)(i:Nat):Tm:=t.l.getD i fW
def iE(t:Tm):Bool:=every um t
def nG:ByteArray:=⟨#[103]⟩
def OR(s:List UInt8):Bool:=!s.isEmpty&&s.all λc=>qk c.toNat
def wV(s:List UInt8):Bool:=(s.take 2==[101,35])&&OR (s.drop 2)
def nV(t:Tm):Bool:=
 if t.k=3 then(eP t.s il ||eP t.s ql)&&t.l.isEmpty
 else if t.k≠2 then false
 else if t.o=1\/t.o=5 then true
 else if t.o=4 then eP t.s nG ||wV t.s.toList
 else if t.o=0\/t.o=2\/t.o=3 then wV t.s.toList
 else false
def tK(s:ByteArray):Bool:=eP s gq ||eP s iW ||eP s fK ||eP s F4 ||eP s iN ||eP s yh
def rH(t:Tm):Bool:=decide (t.k=3)&&tK t.s
def jH(t:Tm):Int:=if gY t≠0 then gY t else if dg t iW=true then 0 else if dg t fK=false then 10 else if dg (eN t 1) F4=false then 4 else 0
def ck(t:Tm):Tm:=if jH t≠0 then fW else if dg t iW=true then eN t 1 else eN (eN t 1) 0
def iX(t:Tm):List Tm:=if dg t gq=true then t.l else if dg t iN=true then t.l.take 1 else[]
inductive oD(u s:List Tm):Tm->Prop
 |base {t:Tm}:t∈s->oD u s t
 |RE {t:Tm}:t∈u->nV t=true->oD u s t
 |comp {t:Tm}:t∈u->rH t=true->(∀x∈t.l,oD u s x)->oD u s t
 |part {t x:Tm}:oD u s t->x∈iX t->oD u s x
 |open {t:Tm}:oD u s t->jH t=0->oD u s (ck t)->oD u s (eN t 0)
def mn(s:List Tm)(u:Tm):Bool:=rH u&&u.l.all (bJ s)
def v8(s:List Tm)(u t:Tm):Bool:=
 if dg t gq=true then decide (aW (eN t 0) u=0)||decide (aW (eN t 1) u=0)
 else if dg t iN=true then decide (aW (eN t 0) u=0)
 else if dg t iW ||dg t fK then decide (jH t=0)&&decide (aW (eN t 0) u=0)&&bJ s (ck t)
 else false
def vY(s:List Tm)(u:Tm):Bool:=s.any (v8 s u)
def oe(s:List Tm)(u:Tm):Bool:=bJ s u ||nV u ||mn s u ||vY s u
open Classical in
noncomputable def qn(u s:List Tm):List Tm:=u.filter λt=>decide (oD u s t)
structure xo(u:List Tm):Prop where
 oB:fu u
 kids:∀t∈u,∀x∈t.l,x∈u
 ok:∀t∈u,gY t=0
 fr:∀t∈u,iE t=true
theorem WJ{s n:ByteArray}(h:eP s n=true):s=n:=xu (by simpa[eP]using h)
theorem tq{t:Tm}{n:ByteArray}(h:dg t n=true):t.k=3/\t.s=n:=by
 simp only[dg,ab4,decide_eq_true_eq]at h;exact⟨h.1,WJ h.2⟩
theorem fA:∀{l:List Tm},rA l=0->∀t∈l,kM t=0
 |[],_,t,h=>by cases h
 |u::l,e,t,h=>by
  rw[rA]at e
  split at e
  ·rename_i hn;exact absurd e hn
  ·rcases ab5.1 h with rfl |h;omega;exact fA e t h
theorem fh{t:Tm}:gY t=0↔valid t=0/\kM t=0:=by
 unfold gY
 split
 ·constructor
  intro h;exact absurd h (by assumption)
  intro h;exact absurd h.1 (by assumption)
 ·constructor
  intro h;exact⟨by omega,h⟩
  exact λh=>h.2
theorem CB{s:ByteArray}{o:Int}{l:List Tm}(h:kM (.mk 3 s o l)=0):(ch s).k≠0/\(ch s).a<=l.length/\l.length<=(ch s).b/\fg s l=true/\rA l=0:=by
 rw[kM,if_neg (by simp)]at h
 split at h
 omega
 ·split at h
  omega
  ·split at h
   omega
   ·rename_i h1 h2 h3
    exact⟨h1,by omega,by omega,by simpa using h3,h⟩
theorem pf{t x:Tm}(h:gY t=0)(hx:x∈t.l):gY x=0:=by
 obtain⟨h1,h2⟩:=fh.1 h;obtain⟨k,s,o,l⟩:=t;simp only[Tm.l]at hx;refine fh.2 ⟨Kr h1 hx,?_⟩
 by_cases hk:k=3
 ·subst hk;exact fA (CB h2).2.2.2.2 x hx
 ·exfalso;have h3:=(lY (eB.1 h1).1).1;unfold node at h3;have hl:l≠[]:=by intro hh;rw[hh]at hx;cases hx
  have hp:0<l.length:=adR.2 hl
  (repeat' split at h3) <;>simp_all
  all_goals omega
theorem lJ(t:Tm):∀x∈pre t,∀y∈pre x,y∈pre t:=by
 induction t using Tm.ind with
 |h k s o l ih=>
  intro x hx y hy
  rw[pre]at hx ⊢;rcases ab5.1 hx with rfl |hx;rw[pre]at hy;exact hy
  ·obtain⟨u,hu,hx⟩:=bF.1 hx;exact acX _ (bF.2 ⟨u,hu,ih u hu x hx y hy⟩)
theorem tn{t x:Tm}(hx:x∈t.l):x∈pre t:=by
 obtain⟨k,s,o,l⟩:=t;rw[pre];exact acX _ (bF.2 ⟨x,hx,eZ x⟩)
theorem Su(t:Tm):gY t=0->∀x∈pre t,gY x=0:=by
 induction t using Tm.ind with
 |h k s o l ih=>
  intro h x hx
  rw[pre]at hx;rcases ab5.1 hx with rfl |hx;exact h
  ·obtain⟨u,hu,hx⟩:=bF.1 hx;exact ih u hu (pf h hu) x hx
theorem tg{t x:Tm}(h:iE t=true)(hx:x∈pre t):iE x=true:=by
 unfold iE at h ⊢;rw[uF,abX]at h ⊢;exact λy hy=>h y (lJ t x hx y hy)
theorem Js{t:Tm}(h:iE t=true)(hk:t.k=3):um t.s=true:=by
 unfold iE at h;rw[uF,abX]at h;have:=h t (eZ t);simpa[hk]using this
def de(l:List Tm):List Tm:=fJ (cd l)
theorem G6{l:List Tm}(h:∀t∈l,gY t=0/\iE t=true):xo (de l):=by
 have hm:∀y∈de l,∃t∈l,y∈pre t:=λy hy=>bF.1 ((cq _ _).1 hy)
 refine⟨gp _,λt ht x hx=>?_,λt ht=>?_,λt ht=>?_⟩
 ·obtain⟨a,ha,hb⟩:=hm t ht;exact(cq _ _).2 (bF.2 ⟨a,ha,lJ a t hb x (tn hx)⟩)
 ·obtain⟨a,ha,hb⟩:=hm t ht;exact Su a (h a ha).1 t hb
 ·obtain⟨a,ha,hb⟩:=hm t ht;exact tg (h a ha).2 hb
theorem ES{t:Tm}{n:ByteArray}(h:gY t=0)(hn:dg t n=true):(ch n).a<=t.l.length/\t.l.length<=(ch n).b:=by
 obtain⟨h1,h2⟩:=tq hn;obtain⟨k,s,o,l⟩:=t;simp only[Tm.k,Tm.s]at h1 h2;subst h1 h2;obtain⟨_,h3,h4,_⟩:=CB (fh.1 h).2;exact⟨h3,h4⟩
theorem ly{t:Tm}{n:ByteArray}(h:gY t=0)(hn:dg t n=true)(h2:(ch n).a=2/\(ch n).b=2):∃a b,t.l=[a,b]:=by
 have h1:=ES h hn;rw[h2.1,h2.2]at h1
 match hl:t.l with
 |[a,b]=>exact⟨a,b,rfl⟩
 |[]=>rw[hl]at h1;simp at h1
 |[_]=>rw[hl]at h1;simp at h1
 |_::_::_::_=>rw[hl]at h1;simp at h1;omega
theorem tu{t:Tm}{n:ByteArray}(h:gY t=0)(hn:dg t n=true)(h2:(ch n).a=1/\(ch n).b=1):∃a,t.l=[a]:=by
 have h1:=ES h hn;rw[h2.1,h2.2]at h1
 match hl:t.l with
 |[a]=>exact⟨a,rfl⟩
 |[]=>rw[hl]at h1;simp at h1
 |_::_::_=>rw[hl]at h1;simp at h1;omega
theorem yr:((ch gq).a=2/\(ch gq).b=2)/\((ch iW).a=2/\(ch iW).b=2)/\((ch fK).a=2/\(ch fK).b=2)/\((ch iN).a=2/\(ch iN).b=2)/\((ch F4).a=1/\(ch F4).b=1):=by
 refine⟨⟨?_,?_⟩,⟨?_,?_⟩,⟨?_,?_⟩,⟨?_,?_⟩,⟨?_,?_⟩⟩ <;>kernel_rfl
theorem l9:eP iN gq=false/\eP iW gq=false/\eP iW iN=false/\eP fK gq=false/\eP fK iN=false/\eP fK iW=false:=by
 refine⟨?_,?_,?_,?_,?_,?_⟩ <;>kernel_rfl
theorem sf{t:Tm}{n m:ByteArray}(h:dg t n=true)(hn:eP n m=false):dg t m=false:=by
 obtain⟨h1,h2⟩:=tq h;simp[dg,h1,h2,hn]
theorem lL{t:Tm}(h:jH t=0):gY t=0/\((dg t iW=true/\ck t=eN t 1)\/(dg t fK=true/\dg (eN t 1) F4=true/\ck t=eN (eN t 1) 0)):=by
 have hv:ck t=if dg t iW=true then eN t 1 else eN (eN t 1) 0:=by rw[ck,if_neg (by omega)]
 unfold jH at h
 split at h
 ·rename_i h1;exact absurd h h1
 ·rename_i h1
  refine⟨by omega,?_⟩
  split at h
  ·rename_i h2;rw[if_pos h2]at hv;exact .inl ⟨h2,hv⟩
  ·rename_i h2
   rw[if_neg h2]at hv
   split at h
   omega
   ·split at h
    omega
    ·rename_i h3 h4;exact .inr ⟨by simpa using h3,by simpa using h4,hv⟩
theorem xo.key{u:List Tm}(U:xo u){t:Tm}(ht:t∈u)(h:jH t=0):ck t∈u/\eN t 0∈u/\eN t 0∈t.l:=by
 obtain⟨h1,h2⟩:=lL h;rcases h2 with⟨h2,h3⟩|⟨h2,h4,h3⟩
 ·obtain⟨a,b,e⟩:=ly h1 h2 yr.2.1;rw[h3];simp only[eN,e];exact⟨U.kids t ht _ (by rw[e];simp),U.kids t ht _ (by rw[e];simp),by simp⟩
 ·obtain⟨a,b,e⟩:=ly h1 h2 yr.2.2.1;rw[h3];have hb:b∈u:=U.kids t ht _ (by rw[e];simp);have hk:eN t 1=b:=by simp[eN,e]
  rw[hk]at h4 ⊢;obtain⟨c,e2⟩:=tu (U.ok b hb) h4 yr.2.2.2.2;refine⟨?_,?_,?_⟩;simp only[eN,e2];exact U.kids b hb _ (by rw[e2];simp);simp only[eN,e];exact U.kids t ht _ (by rw[e];simp);simp[eN,e]
theorem uR{t x:Tm}(h:x∈iX t):x∈t.l:=by
 unfold iX at h
 split at h
 exact h
 ·split at h
  exact acI h
  cases h
theorem oD.mem{u s:List Tm}(U:xo u)(hs:∀x∈s,x∈u){t:Tm}(h:oD u s t):t∈u:=by
 induction h with
 |base h=>exact hs _ h
 |RE h=>exact h
 |comp h=>exact h
 |part _ hx ih=>exact U.kids _ ih _ (uR hx)
 |«open»_ hk _ ih _=>exact(U.key ih hk).2.1
theorem oD.step{u s r:List Tm}(U:xo u)(hr:∀x∈r,x∈u/\oD u s x){t:Tm}(ht:t∈u)(h:oe r t=true):oD u s t:=by
 simp only[oe,acs]at h;rcases h with((h |h)|h)|h;exact(hr t (bX.1 h)).2;exact .RE ht h
 ·simp only[mn,ab4,abX]at h;exact .comp ht h.1 λx hx=>(hr x (bX.1 (h.2 x hx))).2
 ·simp only[vY,adn]at h;obtain⟨y,hy,h⟩:=h;obtain⟨hyu,hyd⟩:=hr y hy;have gk:=U.ok y hyu;unfold v8 at h
  split at h
  ·rename_i h1
   obtain⟨a,b,e⟩:=ly gk h1 yr.1;have hp:iX y=[a,b]:=by rw[iX,if_pos h1,e]
   simp only[eN,e,acs,decide_eq_true_eq]at h;rcases h with h |h;have:=cy h;simp at this;subst this;exact .part hyd (by rw[hp];simp);have:=cy h;simp at this;subst this;exact .part hyd (by rw[hp];simp)
  ·split at h
   ·rename_i h0 h1
    obtain⟨a,b,e⟩:=ly gk h1 yr.2.2.2.1;have hp:iX y=[a]:=by rw[iX,if_neg h0,if_pos h1,e];rfl
    simp only[eN,e,decide_eq_true_eq]at h;have:=cy h;simp at this;subst this;exact .part hyd (by rw[hp];simp)
   ·split at h
    ·simp only[ab4,decide_eq_true_eq]at h;obtain⟨⟨h1,h2⟩,h3⟩:=h;rw[<-cy h2];exact .open hyd h1 (hr _ (bX.1 h3)).2
    cases h
theorem oD.fix{u s r:List Tm}(U:xo u)(hs:∀x∈s,x∈r)(hr:∀x∈r,x∈u)(hf:∀t∈u,oe r t=true->t∈r){t:Tm}(h:oD u s t):t∈r:=by
 induction h with
 |base h=>exact hs _ h
 |RE h1 h2=>exact hf _ h1 (by simp[oe,h2])
 |comp h1 h2 _ ih=>exact hf _ h1 (by simp only[oe,mn,h2,ada,acs,abX];exact .inl (.inr λx hx=>bX.2 (ih x hx)))
 | @part t x _ hx ih=>
  have mU:=hr _ ih;have gk:=U.ok _ mU;refine hf x (U.kids _ mU _ (uR hx)) ?_;simp only[oe,acs];refine .inr ?_;simp only[vY,adn];refine⟨t,ih,?_⟩;unfold iX at hx;unfold v8
  split at hx
  ·rename_i h1
   obtain⟨a,b,e⟩:=ly gk h1 yr.1;rw[if_pos h1];rw[e]at hx;simp only[eN,e,acs,decide_eq_true_eq];simp at hx;rcases hx with rfl |rfl;exact .inl (by simp[cc]);exact .inr (by simp[cc])
  ·split at hx
   ·rename_i h0 h1
    obtain⟨a,b,e⟩:=ly gk h1 yr.2.2.2.1;rw[if_neg h0,if_pos h1];rw[e]at hx;simp at hx;subst hx;simp[eN,e,cc]
   cases hx
 | @«open»t _ hk _ ih1 ih2=>
  have mU:=hr _ ih1;obtain⟨q1,q2,q3⟩:=U.key mU hk;refine hf _ q2 ?_;simp only[oe,acs];refine .inr ?_;simp only[vY,adn];refine⟨t,ih1,?_⟩;unfold v8;have hh:=bX.2 ih2;rcases(lL hk).2 with⟨h2,_⟩|⟨h2,_,_⟩
  ·rw[if_neg (by simp[sf h2 l9.2.1]),if_neg (by simp[sf h2 l9.2.2.1]),h2];simp[hk,hh,cc]
  ·rw[if_neg (by simp[sf h2 l9.2.2.2.1]),if_neg (by simp[sf h2 l9.2.2.2.2.1]),h2];simp[hk,hh,cc]
theorem gN{l:List Tm}{p:Tm->Bool}(h:fu l):fu (l.filter p):=List.Pairwise.filter p h
theorem Jv{u s r:List Tm}(U:xo u)(hr:fu r)(h1:∀t∈r,t∈u/\oD u s t)(h2:∀t∈u,oD u s t->t∈r):r=qn u s:=by
 refine mM hr (gN U.oB) λy=>?_;simp only[qn,acO,decide_eq_true_eq];exact⟨h1 y,λh=>h2 y h.1 h.2⟩
theorem xp{u s:List Tm}{t:Tm}:t∈qn u s↔t∈u/\oD u s t:=by simp[qn]
def pH(t:Tm):Int:=if gY t≠0 then gY t else if bL t≠[]then 13 else 0
def gO:List Tm->Int
 |[]=>0
 |t::l=>if pH t≠0 then pH t else gO l
def fN(k:List Tm)(t:Tm):Int:=if 60<k.length then 3 else if gO (k++[t])≠0 then gO (k++[t])else if 200<(de (k++[t])).length then 3 else 0
open Classical in
noncomputable def mf(k:List Tm)(t:Tm):Bool:=decide (fN k t=0)&&bJ (qn (de (k++[t])) (fJ k)) t
theorem pg:∀{l:List Tm},gO l=0->∀t∈l,pH t=0
 |[],_,t,h=>by cases h
 |u::l,e,t,h=>by
  rw[gO]at e
  split at e
  ·rename_i hn;exact absurd e hn
  ·rcases ab5.1 h with rfl |h;omega;exact pg e t h
theorem uS{t:Tm}(h:pH t=0):gY t=0/\bL t=[]:=by
 unfold pH at h
 split at h
 ·rename_i h1;exact absurd h h1
 ·split at h
  omega
  ·rename_i h1 h2;exact⟨by omega,by simpa using h2⟩
end Go.Pm
