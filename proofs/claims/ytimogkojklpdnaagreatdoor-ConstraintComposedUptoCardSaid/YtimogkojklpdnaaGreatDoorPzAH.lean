/-
  A part of the library Pm (joined by program). Conditions: none.
-/
import Derived.Test.YtimogkojklpdnaaGreatDoorPzAA
import Derived.Test.YtimogkojklpdnaaGreatDoorPzAG
import Derived.Shelf.SlLaysF0
import Derived.Test.YtimogkojklpdnaaGreatDoorProg
import Derived.KernelRfl
import Derived.Test.YtimogkojklpdnaaGreatDoorPzAD
import Derived.Shelf.SlSortCmp.NoneTotal
set_option linter.unusedVariables false
set_option linter.unusedSimpArgs false
set_option linter.unnecessarySimpa false
namespace Go.Pm
open Go.Proofs
set_option maxRecDepth 100000
set_option maxHeartbeats 4000000
theorem sC{f:Nat->Bool}:∀{a b:List PV},bw f a=true->bw f b=true->bw f (a++b)=true
 |[],_,_,hb=>hb
 |x::a,b,ha,hb=>by
  simp only[bw,ZD,Z3]at ha ⊢;exact⟨ha.1,sC ha.2 hb⟩
theorem GH{e:PV}(h:aW e=true):∀q∈cells e,aW q=true:=by
 intro q hq
 cases e with
 |agg cs=>
  simp only[aW]at h;rw[bt]at h;exact Zw.1 h q hq
 |_=>simp only[cells,ZY]at hq;subst hq;exact h
theorem aD.FZ{w:World}{A A':Nat->Prop}{β β':List (Nat×Nat)}{h h':ab}{v:Value}{p:PV}(hv:aD w A β h v p)(hp:aW p=true)(hA:∀b,A' b->A b):aD w A' β' h' v p:=
 .val ((hv.GI hp).ub hA)
attribute [local irreducible] aE aC aI aJ Ev ah ai ay aV
namespace Zero
variable{w:World}{F:Nat->Prop}{β:List (Nat×Nat)}
theorem j'{h:ab}{f:FuncId}{args:List PV}{r:PV}{h':ab}(hm:C0.mode f=.opened)(e:ay C0 f args h (λr' h2=>r'=r/\h2=h')){vs:List Value}(H:aZ w F β h)(ha:L2 (aD w (Av F h β) β h) vs args):lW C0.P 2 w F β h f vs r h':=by
 unfold ay at e;obtain⟨r3,h3,⟨rfl,rfl⟩,n0,Tw⟩:=e;exact S0 n0 _ (.inr hm) _ h _ _ (Tw n0 (Zz _)) w F β vs H ha
theorem iX{R R':Value->PV->Prop}{vs:List Value}{a b c a' b' c':PV}(h:L2 R vs [a,b,c])(ha:∀v,R v a->R' v a')(hb:∀v,R v b->R' v b')(hc:∀v,R v c->R' v c'):L2 R' vs [a',b',c']:=by
 refine⟨h.1,λj hj=>?_⟩;have h0:=h.2 0 (by simp);have h1:=h.2 1 (by simp);have h2:=h.2 2 (by simp)
 match j,hj with
 |0,_=>exact ha _ h0
 |1,_=>exact hb _ h1
 |2,_=>exact hc _ h2
 |j+3,hj=>simp at hj;omega
theorem Ei:fm C0.P 351 jn:=by
 intro args h r h' e w F β vs H ha
 unfold jn at e
 split at e
 ·rename_i i fl e1
  split at e
  ·rename_i hc
   obtain⟨rfl,he⟩:=hc;obtain⟨rfl,rfl⟩:=ZG (Zu e);exact j' (qZ rfl) (sD he) H ha
  ·cases e
 ·rename_i id ep len i fl e1
  split at e
  ·rename_i o hg
   split at e
   ·rename_i hc
    obtain⟨hm,hz,hle,UG,hi,hn,he,fQ,di⟩:=hc;obtain⟨rfl,rfl⟩:=ZG (Zu e);obtain⟨k,rfl⟩:=aaG UG;have hk:k<=len:=by omega
    rw[show Int.toNat (k:Int)=k from rfl];obtain⟨g1,g2,g3⟩:=getM_some hg;have cz:=ag g1;obtain⟨bc,mQ⟩:=dg H.len g1;have nS:(o.es.take len).length=len:=by simp;omega
    by_cases FG:k=len
    ·subst FG
     have pW:(o.es.take k).take k++[e1]++(o.es.take k).drop k=o.es.take k++[e1]:=by
      rw[aaF,Nat.min_self,Z5 (by omega),ZV]
     rw[pW];exact j' (qZ rfl) (sF he hg hm hz hle hn) H ha
    ·have fR:k<len:=by omega
     by_cases mD:len+1<=bc.2
     ·-- there is room
      have Yt:(cells (PV.agg [.any,.any,.any,.any,.any])).length=5:=rfl
      obtain⟨Hp,Sp⟩:=H.nq g1 mQ hm (o.es.take len++[.agg [.any,.any,.any,.any,.any]]) (ep+1) (by omega) (by simp;omega) (λi e he=>by
       rcases Z8 i len with mX |mX
       ·left
        rw[Zv (by omega),ZO,if_pos mX]at he;exact he
       ·right
        rw[ZI (by omega)]at he;obtain rfl:=ZY.1 (ZK he);refine⟨by rw[Yt,hz],λp hp=>?_⟩;simp only[cells]at hp;simpa using hp)
      have wg:(h.set id {o with es:=o.es.take len++[.agg [.any,.any,.any,.any,.any]],ep:=ep+1})[id]?=some {o with es:=o.es.take len++[.agg [.any,.any,.any,.any,.any]],ep:=ep+1}:=ZB cz
      have Sg:aR (h.set id {o with es:=o.es.take len++[.agg [.any,.any,.any,.any,.any]],ep:=ep+1})=true:=by
       refine lO (h:=h) (λi hi=>?_) (λo' h1=>?_) di
       ·unfold aL at hi ⊢
        by_cases NX:i=id
        ·subst NX;rw[wg];simp[hm]
        ·rw[ZC (aak NX)];exact hi
       ·rcases aaQ h1 with h1 |rfl
        ·exact .inr (.inr ⟨o',h1,rfl,λhh=>hh⟩)
        ·exact .inr (.inl (sC (bq _ _ (kW fQ)) rfl))
      have lY:L2 (aD w (Av F (h.set id {o with es:=o.es.take len++[.agg [.any,.any,.any,.any,.any]],ep:=ep+1}) β) β (h.set id {o with es:=o.es.take len++[.agg [.any,.any,.any,.any,.any]],ep:=ep+1})) vs [.aj id (ep+1) 0 len,.int .i64 (k:Int),.aa fl [e1]]:=
       iX ha (λv hv=>aD.nq g1 mQ hm hv g2 hle _ _) (λv hv=>hv.mono Sp) (λv hv=>hv.mono Sp)
      have cs:=sB (o:={o with es:=o.es.take len++[.agg [.any,.any,.any,.any,.any]],ep:=ep+1}) (X:=.agg [.any,.any,.any,.any,.any]) (pre:=o.es.take len) Hp lY (bg wg rfl (by show o.mu≠.x;rw[hm];simp)) hm hz rfl nS fR hn fQ rfl he Sg;refine cs.mono ?_;rintro en w' ⟨v,β1,rfl,q1,q2,q3,_⟩;rw[aar]at q1 q2 q3;exact⟨v,β1,rfl,q1,q2,Sp.trans q3,λhh=>by omega⟩
     ·-- all is made anew
      obtain⟨p1,p2,p3,p4,p5,p6⟩:=bC o;have gl:getM (h.map bM) id ep=some (bM o):=bg (by rw[ZP,g1];rfl) (by rw[p1];exact g2) (λhh=>g3 (p4.1 hh));have ML:∀b,Av (Av F h β) (h.map bM) β b->Av F h β b:=λb hb=>hb.elim (λhh=>hh) (λhm=>absurd hm (iY h β b))
      have cs:=wa (o:=bM o) (bc:=bc) H.lock (iX ha (λv hv=>hv.alike (gb h) ML) (λv hv=>hv.alike (gb h) ML) (λv hv=>hv.alike (gb h) ML)) gl (by rw[p2];exact hz) (by rw[p3];exact hle) mQ (by omega) fR hn (by rw[p3];exact fQ) he (tC di);rw[p3,aaB]at cs;refine cs.mono ?_;rintro en w' ⟨v,β1,rfl,q1,q2,q3,_⟩;obtain⟨nO,Ej⟩:∃nO,nO=(o.es.take len).take k++[e1]++(o.es.take len).drop k:=⟨_,rfl⟩;rw[<-Ej]at q1 q2 q3 ⊢;have IZ:nO.length=len+1:=by rw[Ej];simp;omega
      have Sh:nO.all (jT 5)=true:=by
       rw[Zw]at fQ ⊢
       intro x hx
       rw[Ej]at hx;rcases ZE.1 hx with hx |hx
       ·rcases ZE.1 hx with hx |hx
        ·exact fQ x (aae hx)
        ·obtain rfl:=ZY.1 hx;exact he
       ·exact fQ x (aac hx)
      have enew:(h.map bM++[(⟨.m,0,5,nO⟩:au)])[h.length]?=some ⟨.m,0,5,nO⟩:=by
       rw[ZI (by simp)];simp
      obtain⟨bn,xM⟩:=dg q2.len enew;have mnew:Mb (h.map bM++[⟨.m,0,5,nO⟩]) β1 bn.1:=⟨h.length,_,bn,enew,xM,rfl,rfl⟩;obtain⟨T,rY,k1,k2,k3,k4,k5⟩:=(q2.obj h.length _ bn enew xM (by simp)).c (by simp)
      have Bo:w.heap.size<=bn.1:=by
       rcases Z8 bn.1 w.heap.size with hh |hh
       ·exact absurd (q3.shr bn.1 hh mnew) (iY h β bn.1)
       ·exact hh
      have hA:∀b,Av F (h.set id {o with es:=nO,ep:=ep+1}) (β.set id bn) b->Av (Av F h β) (h.map bM++[⟨.m,0,5,nO⟩]) β1 b:=by
       rintro b (hb |⟨dS,o',c8,G4,NY,TQ,Vi⟩)
       ·exact .inl (.inl hb)
       ·by_cases bT:dS=id
        ·subst bT;rw[ZB (by rw[H.len];exact cz)]at NY;obtain rfl:=Zu NY;rw[<-Vi];exact .inr mnew
        ·rw[ZC (aak bT)]at G4 NY;exact .inl (.inr ⟨dS,o',c8,G4,NY,TQ,Vi⟩)
      obtain⟨HH,SS⟩:=H.Ky (w':=w') g1 mQ hm T rY nO (ep+1) bn q3.size k1 (λb hb=>q3.aQ b hb (iY h β b)) Bo (by omega) q3.os q3.tape q3.output k2 (by rw[hz];exact k3) (λi e NZ=>by
       obtain⟨m1,m2⟩:=k5 i e NZ;refine⟨by rw[hz];exact m1,λj p hp=>?_⟩;obtain⟨u,n1,n2⟩:=m2 j p hp
       have hv:aW e=true:=by
        have:=Zw.1 Sh e (ZK NZ);unfold jT at this;simp only[ZD]at this;exact this.1.1
       exact⟨u,by rw[hz];exact n1,n2.FZ (GH hv p (ZK hp)) hA⟩) q3.drawn
      obtain⟨_,_,m3⟩:=q1.dG;obtain⟨cap,c1,c2⟩:=m3 _ bn enew xM (by simp) rfl (by show 0+(len+1)<=nO.length;omega);refine⟨v,β.set id bn,rfl,?_,HH,SS,λhh=>by omega⟩;refine .aj v id (ep+1) 0 (len+1) {o with es:=nO,ep:=ep+1} bn ⟨_,_,_,c1⟩ (ZB cz) (ZB (by rw[H.len];exact cz)) (by show o.mu≠.x;rw[hm];simp) ⟨Zz _,by show 0<o.bB;omega⟩ (λ_ _=>⟨cap,?_,c2⟩);rw[c1,aa7,aa7]
   ·cases e
  ·cases e
 ·cases e
end Zero
theorem Ek:fm C.P 45 (bu 4):=by
 intro args h r h' e w F β vs H ha
 unfold bu at e
 split at e
 ·rename_i fl es
  split at e
  ·rename_i vy
   obtain⟨rfl,rfl⟩:=ZG (Zu e);obtain rfl:es=[]:=by simpa using vy
   exact Zero.FB H ha rfl (by simp) (.inl ⟨rfl,rfl,rfl⟩)
  ·rename_i vy
   split at e
   ·rename_i hc
    obtain⟨rfl,rfl⟩:=ZG (Zu e);exact Zero.FB H ha hc.1 hc.2 (.inr ⟨by simpa using vy,rfl,rfl⟩)
   ·cases e
 ·cases e
theorem Em:fm C.P 397 (bu 1):=by
 intro args h r h' e w F β vs H ha
 unfold bu at e
 split at e
 ·rename_i fl es
  split at e
  ·rename_i vy
   obtain⟨rfl,rfl⟩:=ZG (Zu e);obtain rfl:es=[]:=by simpa using vy
   exact Zero.FC H ha rfl (by simp) (.inl ⟨rfl,rfl,rfl⟩)
  ·rename_i vy
   split at e
   ·rename_i hc
    obtain⟨rfl,rfl⟩:=ZG (Zu e);exact Zero.FC H ha hc.1 hc.2 (.inr ⟨by simpa using vy,rfl,rfl⟩)
   ·cases e
 ·cases e
theorem wh:fP C where
 enters f hf bI:=Hv f (λh=>hf h) bI
 qU f g hh:=by
  have hm:jo f=.qU g:=hh;unfold jo at hm
  repeat' split at hm
  all_goals cases hm
 cu f g hh:=by
  have hm:jo f=.cu g:=hh;unfold jo at hm
  split at hm
  ·cases hm
  split at hm
  ·cases hm
  split at hm
  ·rename_i hf
   subst hf;obtain rfl:=Mode.cu.inj hm;exact Zero.Ei
  split at hm
  ·rename_i hf
   subst hf;obtain rfl:=Mode.cu.inj hm;exact Zero.DU
  split at hm
  ·rename_i hf
   subst hf;obtain rfl:=Mode.cu.inj hm;exact Ek
  split at hm
  ·rename_i hf
   subst hf;obtain rfl:=Mode.cu.inj hm;exact Em
  repeat' split at hm
  all_goals cases hm
 ext:=Si
end Go.Pm
namespace Go.Pm
open Go.Proofs Go.Shelf
def wI:Go.Shelf.Ren:=⟨λ|6=>161 |15=>208 |14=>207 |28=>266 |29=>267 |20=>258 |21=>259 |22=>260 |23=>261 |24=>262 |25=>263 |26=>264 |27=>265 |46=>313 |47=>314 |48=>315 |49=>316 |50=>317 |57=>355 |n=>n,λ|22=>31 |24=>33 |25=>75 |3=>3 |39=>190 |0=>0 |53=>223 |55=>202 |4=>4 |46=>217 |45=>216 |50=>164 |5=>5 |9=>9 |66=>246 |70=>154 |76=>285 |77=>286 |n=>n,λ|n=>n⟩
theorem VG:Go.Proofs.SlLaysF0.n6 Tryz.prog wI:={
 mixed:=by kernel_rfl
 f6:=⟨Tryz.f161.name,by decide,Tryz.func161.trans (congrArg some (by kernel_rfl))⟩
 f14:=⟨Tryz.f207.name,by decide,Tryz.func207.trans (congrArg some (by kernel_rfl))⟩
 f15:=Tryz.func208.trans (congrArg some (by kernel_rfl))
 f20:=⟨Tryz.f258.name,by decide,Tryz.func258.trans (congrArg some (by kernel_rfl))⟩
 f21:=⟨Tryz.f259.name,by decide,Tryz.func259.trans (congrArg some (by kernel_rfl))⟩
 f22:=⟨Tryz.f260.name,by decide,Tryz.func260.trans (congrArg some (by kernel_rfl))⟩
 f23:=⟨Tryz.f261.name,by decide,Tryz.func261.trans (congrArg some (by kernel_rfl))⟩
 f24:=⟨Tryz.f262.name,by decide,Tryz.func262.trans (congrArg some (by kernel_rfl))⟩
 f25:=⟨Tryz.f263.name,by decide,Tryz.func263.trans (congrArg some (by kernel_rfl))⟩
 f26:=⟨Tryz.f264.name,by decide,Tryz.func264.trans (congrArg some (by kernel_rfl))⟩
 f27:=⟨Tryz.f265.name,by decide,Tryz.func265.trans (congrArg some (by kernel_rfl))⟩
 f28:=Tryz.func266.trans (congrArg some (by kernel_rfl))
 f29:=Tryz.func267.trans (congrArg some (by kernel_rfl))
 f46:=⟨Tryz.f313.name,by decide,Tryz.func313.trans (congrArg some (by kernel_rfl))⟩
 f47:=Tryz.func314.trans (congrArg some (by kernel_rfl))
 f48:=Tryz.func315.trans (congrArg some (by kernel_rfl))
 f49:=⟨Tryz.f316.name,by decide,Tryz.func316.trans (congrArg some (by kernel_rfl))⟩
 f50:=⟨Tryz.f317.name,by decide,Tryz.func317.trans (congrArg some (by kernel_rfl))⟩
 f57:=⟨Tryz.f355.name,by decide,Tryz.func355.trans (congrArg some (by kernel_rfl))⟩
 t0:=Tryz.underlying0
 a0:=Tryz.isAgg0
 z0:=Tryz.sizeOf0
 v0:=Tryz.zeroValue0
 t3:=Tryz.underlying3
 a3:=Tryz.isAgg3
 z3:=Tryz.sizeOf3
 v3:=Tryz.zeroValue3
 t4:=Tryz.underlying4
 a4:=Tryz.isAgg4
 z4:=Tryz.sizeOf4
 v4:=Tryz.zeroValue4
 t5:=Tryz.underlying5
 a5:=Tryz.isAgg5
 z5:=Tryz.sizeOf5
 v5:=Tryz.zeroValue5
 t9:=Tryz.underlying9
 a9:=Tryz.isAgg9
 z9:=Tryz.sizeOf9
 v9:=Tryz.zeroValue9
 t22:=Tryz.underlying31
 a22:=Tryz.isAgg31
 z22:=Tryz.sizeOf31
 v22:=Tryz.zeroValue31
 t25:=Tryz.underlying75
 a25:=Tryz.isAgg75
 z25:=Tryz.sizeOf75
 v25:=Tryz.zeroValue75
 t39:=Tryz.underlying190
 a39:=Tryz.isAgg190
 z39:=Tryz.sizeOf190
 v39:=Tryz.zeroValue190
 t45:=Tryz.underlying216
 a45:=Tryz.isAgg216
 z45:=Tryz.sizeOf216
 v45:=Tryz.zeroValue216
 t46:=Tryz.underlying217
 a46:=Tryz.isAgg217
 z46:=Tryz.sizeOf217
 v46:=Tryz.zeroValue217
 t50:=Tryz.underlying164
 a50:=Tryz.isAgg164
 z50:=Tryz.sizeOf164
 v50:=Tryz.zeroValue164
 t53:=Tryz.underlying223
 a53:=Tryz.isAgg223
 z53:=Tryz.sizeOf223
 v53:=Tryz.zeroValue223
 t55:=Tryz.underlying202
 a55:=Tryz.isAgg202
 z55:=Tryz.sizeOf202
 v55:=Tryz.zeroValue202
 t66:=Tryz.underlying246
 a66:=Tryz.isAgg246
 z66:=Tryz.sizeOf246
 v66:=Tryz.zeroValue246
 t70:=Tryz.underlying154
 a70:=Tryz.isAgg154
 z70:=Tryz.sizeOf154
 v70:=Tryz.zeroValue154
 t76:=Tryz.underlying285
 a76:=Tryz.isAgg285
 z76:=Tryz.sizeOf285
 v76:=Tryz.zeroValue285
 t77:=Tryz.underlying286
 a77:=Tryz.isAgg286
 z77:=Tryz.sizeOf286
 v77:=Tryz.zeroValue286}
theorem VH:∀w,(isAgg (wI.t 24)).run Tryz.prog w=.ok true w:=Tryz.isAgg33
theorem VI:∀w,(Go.sizeOf (wI.t 24)).run Tryz.prog w=.ok 4 w:=Tryz.sizeOf33
end Go.Pm
namespace Go.Pm
open Go.Proofs Go.Sort
set_option maxRecDepth 20000
theorem LO(l:List Tm):ae l=l.map enc:=by
 induction l with
 |nil=>rfl
 |cons t l ih=>simp only[ae,ZN,ih]
theorem CW{l:List Tm}{i:Nat}{t:Tm}(h:l[i]?=some t):(ae l)[i]?=some (enc t):=by rw[LO,ZP,h];rfl
mutual
def Ip:PV->Option Tm
 | .agg [.int .i64 k,.str s,.int .i64 o,.aa false l]=>match tU l with
  |some l'=>some (.mk k s o l')
  |none=>none
 |_=>none
def tU:List PV->Option (List Tm)
 |[]=>some []
 |x::l=>match Ip x with
  |some t=>match tU l with
   |some ts=>some (t::ts)
   |none=>none
  |none=>none
end
mutual
theorem LQ:∀t:Tm,Ip (enc t)=some t
 | .mk k s o l=>by simp only[enc,Ip,qO l]
theorem qO:∀l:List Tm,tU (ae l)=some l
 |[]=>rfl
 |t::l=>by simp only[ae,tU,LQ t,qO l]
end
mutual
theorem LS:∀(p:PV) {t:Tm},Ip p=some t->enc t=p
 | .agg [.int .i64 k,.str s,.int .i64 o,.aa false l],t,h=>by
  simp only[Ip]at h
  split at h
  ·rename_i l' hl
   obtain rfl:=Zu h;simp only[enc,nF l hl]
  ·cases h
 |p,t,h=>by
  unfold Ip at h
  split at h
  ·rename_i k s o l
   split at h
   ·rename_i l' hl
    obtain rfl:=Zu h;simp only[enc,nF l hl]
   ·cases h
  ·cases h
theorem nF:∀(es:List PV) {ts:List Tm},tU es=some ts->ae ts=es
 |[],ts,h=>by simp only[tU,Z4]at h;subst h;rfl
 |x::l,ts,h=>by
  simp only[tU]at h
  split at h
  ·rename_i t ht
   split at h
   ·rename_i ts' dO
    obtain rfl:=Zu h;simp only[ae,LS x ht,nF l dO]
   ·cases h
  ·cases h
end
theorem qh{a b c:Tm}(h1:aT a b<=0)(h2:aT b c<=0):aT a c<=0:=by
 rcases Int.lt_or_eq_of_le h1 with h1 |h1
 ·rcases Int.lt_or_eq_of_le h2 with h2 |h2
  ·exact Int.le_of_lt (dM h1 h2)
  ·rw[<-dn h2];exact Int.le_of_lt h1
 ·rw[dn h1];exact h2
def EY(t:Tm):List Tm->List Tm
 |[]=>[t]
 |x::r=>if aT t x<=0 then t::x::r else x::EY t r
def dV:List Tm->List Tm
 |[]=>[]
 |t::r=>EY t (dV r)
theorem sU(t:Tm):∀l:List Tm,(EY t l).Perm (t::l)
 |[]=>.refl _
 |x::r=>by
  unfold EY
  split
  ·exact .refl _
  ·exact((sU t r).cons x).trans (.swap t x r)
theorem eY:∀ts:List Tm,(dV ts).Perm ts
 |[]=>.refl _
 |t::r=>(sU t (dV r)).trans ((eY r).cons t)
theorem CX(t:Tm):∀{l:List Tm},(l.Pairwise λx y=>aT x y<=0)->(EY t l).Pairwise λx y=>aT x y<=0
 |[],_=>by simp[EY]
 |x::r,h=>by
  unfold EY;have h2:=ZQ.1 h
  split
  ·rename_i hc
   refine ZQ.2 ⟨λy hy=>?_,h⟩;rcases ZF.1 hy with rfl |hy
   ·exact hc
   ·exact qh hc (h2.1 y hy)
  ·rename_i hc
   have ng:=dU t x;refine ZQ.2 ⟨λy hy=>?_,CX t h2.2⟩;rcases ZF.1 ((sU t r).mem_iff.1 hy)with rfl |hy
   ·omega
   ·exact h2.1 y hy
theorem pD:∀ts:List Tm,(dV ts).Pairwise λx y=>aT x y<=0
 |[]=>.nil
 |t::r=>CX t (pD r)
theorem CY{a b:List Tm}(hp:a.Perm b)(ha:a.Pairwise λx y=>aT x y<=0)(hb:b.Pairwise λx y=>aT x y<=0):a=b:=
 hp.eq_of_pairwise (λx y _ _ h1 h2=>dn (by have:=dU x y;omega)) ha hb
def o8(args:List PV)(h:ab):Option (PV×ab):=
 match args with
 |[.aa true [],.fn _ []]=>some (.cm [],h)
 |[.aj id ep 0 len,.fn g []]=>match getM h id ep with
  |some o=>match tU o.es with
   |some ts=>if g=52/\o.mu=.m/\o.bB=4/\len=o.es.length/\len<1000000000/\(ts.all λt=>decide (ax t<1000000000))=true then
     some (.cm [],h.set id {o with es:=ae (dV ts)})else none
   |none=>none
  |none=>none
 |_=>none
theorem lJ{h:ab}{id ep:Nat}{ts:List Tm}(e:h[id]?=some ⟨.m,ep,4,ae ts⟩)(hn:ts.length<1000000000)(hb:∀t∈ts,ax t<1000000000):
  o8 [.aj id ep 0 ts.length,.fn 52 []] h=some (.cm [],h.set id ⟨.m,ep,4,ae (dV ts)⟩):=by
 have hg:getM h id ep=some ⟨.m,ep,4,ae ts⟩:=bg e rfl (by simp);have hl:=an ts;simp only[o8,hg,qO];rw[if_pos ⟨trivial,trivial,trivial,hl.symm,hn,by simpa using hb⟩]
def TV(w:World)(A:Nat->Prop):Type:={x:Tm×List Value // x.2.length=4/\(∀v∈x.2,v.oneCell'=true)/\ax x.1<1000000000/\bY w A (.agg x.2.toArray) (enc x.1)}
instance(w:World)(A:Nat->Prop):Inhabited (TV w A):=
 ⟨⟨(.mk 0 ByteArray.empty 0 [],[.int .i64 0,.string ByteArray.empty,.int .i64 0,.slice none 0 0]),rfl,by simp[Value.oneCell'],by simp[ax,bz],.agg _ _ rfl (λj hj=>by
  match j,hj with
  |0,_=>exact .int _ _
  |1,_=>exact .str _
  |2,_=>exact .int _ _
  |3,_=>exact .gA _ _ _ (λh=>by cases h)
  |j+4,hj=>simp at hj;omega)⟩⟩
theorem xk{α:Type}[Inhabited α]{R:Nat->α->Prop}:∀n:Nat,(∀i,i<n->∃x,R i x)->∃d:Array α,d.size=n/\∀i,i<n->R i d[i]!
 |0,_=>⟨#[],rfl,λi hi=>by omega⟩
 |n+1,h=>by
  obtain⟨d,d1,d2⟩:=xk n (λi hi=>h i (by omega));obtain⟨x,hx⟩:=h n (by omega);refine⟨d.push x,by simp[d1],λi hi=>?_⟩
  by_cases kG:i=n
  ·subst kG;have:(d.push x)[i]! =x:=by simp[<-d1]
   rw[this];exact hx
  ·have:(d.push x)[i]! =d[i]!:=by
    have cz:i<d.size:=by omega
    simp[Array.getElem!_eq_getD,Array.getD,Array.getElem_push,cz,Nat.lt_succ_of_lt cz]
   rw[this];exact d2 i (by omega)
theorem V6(w:World)(A:Nat->Prop):SWO (ltOf λx y:TV w A=>aT x.1.1 y.1.1) where
 irrefl x:=by simp[ltOf,cX]
 trans x y z h1 h2:=by
  simp only[ltOf,decide_eq_true_eq]at *;exact dM h1 h2
 ntrans x y z h1 h2:=by
  simp only[ltOf,decide_eq_false_iff_not,Int.not_lt]at *;have a:=dU x.1.1 y.1.1;have b:=dU y.1.1 z.1.1;have c:=dU x.1.1 z.1.1;have:=qh (a:=z.1.1) (b:=y.1.1) (c:=x.1.1) (by omega) (by omega);omega
theorem pj{α:Type}[Inhabited α](enc:α->List Value)(k:Nat)(w:World)(blk off m:Nat)(dk:Array α)(os:Array Obj)(b:Nat)(hb:b<w.heap.size)(bI:b≠blk):(sortWorldK enc k w blk off m dk os).heap[b]?=w.heap[b]?:=by
 unfold sortWorldK putRowK putRow mapBlock;rw[heap_grow_old _ _ (by simpa[ahead]using hb)];show(Array.modify w.heap blk _)[b]?=_;rw[abi,if_neg (aak bI)]
theorem yg{α:Type}[Inhabited α](enc:α->List Value)(k:Nat)(w:World)(blk off m:Nat)(dk:Array α)(os:Array Obj){cs:Array Value}{T:TypeId}{fr:Nat×Nat}(hb:w.heap[blk]?=some (.cells cs T fr)):
  (sortWorldK enc k w blk off m dk os).heap[blk]?=some (.cells (putCells id off (flatK enc k dk) cs) T fr):=by
 have cz:blk<w.heap.size:=by
  rcases Z8 blk w.heap.size with h |h
  ·exact h
  ·rw[abe h]at hb;cases hb
 unfold sortWorldK putRowK putRow mapBlock;rw[heap_grow_old _ _ (by simpa[ahead]using cz)];show(Array.modify w.heap blk _)[blk]?=_;rw[abi,if_pos rfl,hb]
 rfl
theorem um{α:Type}[Inhabited α](enc:α->List Value)(k:Nat)(w:World)(blk off m:Nat)(dk:Array α)(os:Array Obj):w.heap.size<=(sortWorldK enc k w blk off m dk os).heap.size:=by
 unfold sortWorldK putRowK putRow mapBlock;rw[size_grow];simp[ahead]
theorem AM{α:Type}[Inhabited α]{enc:α->List Value}{k:Nat}{dk:Array α}{cs:Array Value}{i j:Nat}(hi:i<dk.size)(hj:j<k)(hs:dk.size * k<=cs.size)(hk:∀x,(enc x).length=k):
  (putCells id 0 (flatK enc k dk) cs)[i * k+j]?=(enc dk[i]!)[j]?:=by
 have lt:i * k+j<dk.size * k:=by
  have:=Z9 k (show i+1<=dk.size from hi);rw[aag,Nat.one_mul]at this;omega
 have e1:(i * k+j) / k=i:=(blk_iff k i _ (by omega)).1 ⟨by omega,by omega⟩;have e2:(i * k+j) % k=j:=by rw[Nat.mod_eq_sub_div_mul,e1];omega
 unfold putCells;rw[Array.getElem?_mapIdx,aaC (show i * k+j<cs.size by omega)];simp only[ZH,aaL,true_and,ZS,size_flatK,if_pos lt,id,Nat.sub_zero];rw[get_flatK _ _ _ _ lt,e1,e2,Zy (by rw[hk];exact hj)];rw[getElem!_pos _ j (by rw[hk];exact hj)]
variable{w:World}{F:Nat->Prop}{β:List (Nat×Nat)}{h:ab}
theorem V7{cs:Array Value}{t:Tm}{i:Nat}(hb:ax t<1000000000)(q2:∀(j:Nat) (p:PV),(cells (enc t))[j]?=some p->∃v:Value,cs[i * 4+j]?=some v/\aD w (Av F h β) β h v p):
  ∃x:TV w (Av F h β),x.1.1=t/\∀j,j<4->cs[i * 4+j]?=x.1.2[j]?:=by
 obtain⟨k,s,o,l⟩:=t;obtain⟨a,a1,a2⟩:=q2 0 (.int .i64 k) rfl;obtain⟨b,b1,b2⟩:=q2 1 (.str s) rfl;obtain⟨c,c1,c2⟩:=q2 2 (.int .i64 o) rfl;obtain⟨d,d1,d2⟩:=q2 3 (.aa false (ae l)) rfl;have a3:=a2.GI rfl;have b3:=b2.GI rfl;have c3:=c2.GI rfl;have d3:=d2.fp;have o4:d.oneCell'=true:=by obtain⟨ad,cap,rfl,_⟩:=d3.jN;rfl
 refine⟨⟨(.mk k s o l,[a,b,c,d]),rfl,?_,hb,.agg [a,b,c,d] _ rfl (λj hj=>?_)⟩,rfl,λj hj=>?_⟩
 ·intro v hv
  simp only[ZF,aaD,or_false]at hv;rcases hv with rfl |rfl |rfl |rfl
  ·cases a3;rfl
  ·cases b3;rfl
  ·cases c3;rfl
  ·exact o4
 ·match j,hj with
  |0,_=>exact a3
  |1,_=>exact b3
  |2,_=>exact c3
  |3,_=>exact d3
  |j+4,hj=>simp at hj;omega
 ·match j,hj with
  |0,_=>exact a1
  |1,_=>exact b1
  |2,_=>exact c1
  |3,_=>exact d1
  |j+4,hj=>omega
theorem L2.two{R:Value->PV->Prop}{vs:List Value}{a b:PV}(h:L2 R vs [a,b]):∃x y,vs=[x,y]/\R x a/\R y b:=by
 obtain⟨h1,h2⟩:=h
 match vs,h1 with
 |[x,y],_=>exact⟨x,y,rfl,h2 0 (by simp),h2 1 (by simp)⟩
theorem EZ(args:Array Value)(w:World):(callFunc 52 args).run C.P w=.ok (.enter 52 args) w:=enters_of Tryz.func52 (by kernel_rfl) rfl args w
theorem Iq{vs:List Value}{id ep:Nat}{o:au}{ts:List Tm}(H:aZ w F β h)(ha:L2 (aD w (Av F h β) β h) vs [.aj id ep 0 o.es.length,.fn 52 []])(hg:getM h id ep=some o)(hm:o.mu=.m)(hz:o.bB=4)
  (hn:o.es.length<1000000000) (iP:ae ts=o.es) (MN:∀t∈ts,ax t<1000000000):lW C.P 2 w F β h 161 vs (.cm []) (h.set id {o with es:=ae (dV ts)}):=by
 obtain⟨g1,g2,g3⟩:=getM_some hg;obtain⟨bc,mQ⟩:=dg H.len g1;obtain⟨v0,v1,rfl,h0,h1⟩:=ha.two;obtain⟨_,_,m3⟩:=h0.dG;obtain⟨cap,c1,c2⟩:=m3 o bc g1 mQ g3 g2 (by omega);rw[aa7]at c1;obtain⟨us,d1,d2,_⟩:=h1.DI;obtain rfl:us=[]:=ZL d2;subst c1 d1;obtain⟨T,cs,k1,k2,k3,k4,k5⟩:=(H.obj id o bc g1 mQ g3).c (by omega);have hblk:bc.1<w.heap.size:=Mb.lt H ⟨id,o,bc,g1,mQ,hm,rfl⟩;have hav:Av F h β bc.1:=.inr ⟨id,o,bc,g1,mQ,hm,rfl⟩;have hlen:ts.length=o.es.length:=by rw[<-iP,an]
 have hcs:ts.length * 4<=cs.size:=by rw[hz]at k3;omega
 obtain⟨d,dl,dh⟩:=xk (α:=TV w (Av F h β)) (R:=λi x=>ts[i]?=some x.1.1/\∀j,j<4->cs[i * 4+j]?=x.1.2[j]?) ts.length (λi hi=>by
  have ht:ts[i]?=some ts[i]:=Zy hi;obtain⟨_,q2⟩:=k5 i (enc ts[i]) (by rw[<-iP];exact CW ht);rw[hz]at q2;obtain⟨x,x1,x2⟩:=V7 (MN _ (Z2 hi)) q2;exact⟨x,by rw[ht,x1],x2⟩)
 have hk:∀x:TV w (Av F h β),x.1.2.length=4:=λx=>x.2.1
 have hH:HoldsK (λx:TV w (Av F h β)=>x.1.2) 4 w bc.1 0 d:=by
  intro j hj
  rw[size_flatK]at hj;have hj4:j / 4<d.size:=by omega
  obtain⟨_,r2⟩:=dh (j / 4) (by omega);have:=r2 (j % 4) (by omega);rw[show j / 4 * 4+j % 4=j by omega]at this;refine⟨?_,by simp[World.frozen?,k1]⟩;rw[get_flatK _ _ _ _ hj];have hl:j % 4<(d[j / 4]!).1.2.length:=by rw[hk];omega
  rw[Zy hl]at this;simp only[World.cell?,k1,ZS,this];rw[getElem!_pos (d[j / 4]!).1.2 (j % 4) hl]
  rfl
 have Y0:CmpLays C.P 52 #[] (λx:TV w (Av F h β)=>x.1.2) 4 (λx y=>aT x.1.1 y.1.1) bc.1 0 d.size w:=by
  intro m os dk hs x y
  obtain⟨n,hn⟩:=(dT x.1.1 y.1.1 x.2.2.2.1 y.2.2.2.1).nZ
  have up:∀(x:TV w (Av F h β)),bY (sortWorldK (λx:TV w (Av F h β)=>x.1.2) 4 w bc.1 0 m dk os) (λ_=>False) (.agg x.1.2.toArray) (enc x.1.1):=λx=>
   x.2.2.2.2.mono (λb hb Qt=>pj _ _ _ _ _ _ _ _ b hb (λe=>Qt (e▸hav))) (λ_ _ _ hh=>hh)
  have p8:L2 (bY (sortWorldK (λx:TV w (Av F h β)=>x.1.2) 4 w bc.1 0 m dk os) (λ_=>False)) [.agg x.1.2.toArray,.agg y.1.2.toArray] [enc x.1.1,enc y.1.1]:=⟨rfl,λj hj=>by
   match j,hj with
   |0,_=>exact up x
   |1,_=>exact up y
   |j+2,hj=>simp at hj;omega⟩
  rw[Array.append_empty];refine(zh wh og (.inl rfl) hn (λb hb=>hb.elim) p8).mono ?_;rintro e w' ⟨v,rfl,hv,NS⟩
  cases hv
  exact⟨rfl,NS.grow⟩
 have OP:=AnyQ.slices_SortFunc VG 4 VH VI (λx:TV w (Av F h β)=>x.1.2) hk (λx=>x.2.2.1) (λx y=>aT x.1.1 y.1.1) (V6 w _) 52 #[] bc.1 0 cap d w EZ Y0 hH hblk (by omega);rw[dl,hlen]at OP;refine OP.mono ?_;rintro e w' ⟨rfl,d',n,os,hp,hs,rfl⟩;rw[<-hlen,<-dl]at hp hs;have Y1:d'.size=d.size:=hp.1
 have hdt:d.toList.map (λx=>x.1.1)=ts:=by
  apply aaw
  intro i
  by_cases hi:i<ts.length
  ·rw[ZP,(dh i hi).1,Z1,aaC (by omega),getElem!_pos d i (by omega)];rfl
  ·rw[ZM (by simp;omega),ZM (by omega)]
 have dO:d'.toList.map (λx=>x.1.1)=dV ts:=by
  refine CY ?_ ?_ (pD ts)
  ·have h3:=hp.2.2;rw[show d.extract 0 d.size=d by simp,show d'.extract 0 d.size=d' by rw[<-Y1];simp]at h3;refine(h3.map _).trans ?_;rw[hdt];exact(eY ts).symm
  ·rw[List.pairwise_map,List.pairwise_iff_getElem]
   intro i j hi hj Ny
   simp only[aaK]at hi hj;have:=hs i j (aaL _) Ny (by omega);rw[getElem!_pos d' i (by omega),getElem!_pos d' j (by omega)]at this;simp only[ltOf,decide_eq_false_iff_not,Int.not_lt]at this;have ng:=dU d'[i].1.1 d'[j].1.1;simp only[Array.getElem_toList];omega
 have cH:(ae (dV ts)).length=o.es.length:=by rw[an,<-dO];simp;omega
 obtain⟨H',S'⟩:=H.set (w':=sortWorldK (λx:TV w (Av F h β)=>x.1.2) 4 w bc.1 0 n d' os) g1 mQ hm T (putCells _root_.id 0 (flatK (λx:TV w (Av F h β)=>x.1.2) 4 d') cs) (ae (dV ts)) o.ep bc (um _ _ _ _ _ _ _ _) (yg _ _ _ _ _ _ _ _ k1)
  (λb hb bI=>pj _ _ _ _ _ _ _ _ b hb bI) (.inl ⟨rfl,λ_=>cH⟩) (Zz _) rfl rfl rfl (by rw[cH];exact k2) (by simpa[putCells]using k3) (λi e he=>by
   have hi:i<d'.size:=by have:=ag he;omega
   have Aj:(dV ts)[i]?=some d'[i].1.1:=by rw[<-dO,ZP,Z1,aaC hi];rfl
   rw[CW Aj]at he;obtain rfl:=Zu he;have sr:=d'[i].2.2.2.2;obtain⟨z1,z2⟩:=sr.cells;rw[hz]
   have di:(cells (enc d'[i].1.1)).length=4:=by
    rw[<-z1];show d'[i].1.2.toArray.size=4;simpa using hk d'[i]
   refine⟨di,λj p hp=>?_⟩;obtain⟨u,u1,u2⟩:=z2 j p hp;refine⟨u,?_,.val u2⟩;have hj:=ag hp;rw[AM (enc:=λx:TV w (Av F h β)=>x.1.2) hi (by omega) (by omega) hk,getElem!_pos d' i hi];have u3:d'[i].1.2.toArray[j]?=some u:=u1;simpa using u3) (by show w.drawn<=w.drawn+n;omega)
 rw[wV mQ]at H' S';exact⟨_,β,rfl,.val (.cm [] [] rfl (λj hj=>by simp at hj)),H',S',λhh=>by omega⟩
theorem Lu:fm C.P 161 o8:=by
 intro args h r h' e w F β vs H ha
 unfold o8 at e
 split at e
 ·rename_i g
  obtain⟨rfl,rfl⟩:=ZG (Zu e);obtain⟨v0,v1,rfl,h0,h1⟩:=ha.two;obtain⟨ad,cap,rfl,_,_⟩:=h0.fp.jN;have OP:=AnyF.slices_SortFunc_none VG ad cap v1 w;refine OP.mono ?_;rintro e w' ⟨rfl,rfl⟩;exact⟨_,β,rfl,.val (.cm [] [] rfl (λj hj=>by simp at hj)),H,dN.refl w' h β,λhh=>by omega⟩
 ·rename_i id ep len g
  split at e
  ·rename_i o hg
   split at e
   ·rename_i ts hd
    split at e
    ·rename_i hc
     obtain⟨rfl,rfl⟩:=ZG (Zu e);obtain⟨rfl,c1,c2,rfl,c4,c5⟩:=hc;exact Iq H ha hg c1 c2 c4 (nF _ hd) (by simpa using c5)
    ·cases e
   ·cases e
  ·cases e
 ·cases e
end Go.Pm
namespace Go.Pm
def zn(md md':FuncId->Mode):Prop:=∀f,md f=.no\/md f=md' f
variable{P:Program}{md md':FuncId->Mode}{run run':gU}
def ls(P:Program)(md md':FuncId->Mode)(run run':gU):Prop:=∀(lv:Nat) (f:FuncId) (args:List PV) (h:ab) (x:PV×ab),c9 ⟨P,md⟩ run lv f args h=some x->c9 ⟨P,md'⟩ run' lv f args h=some x
theorem Ma(M:zn md md')(L:gS run run'){lv:Nat}{f:FuncId}{args:List PV}{h:ab}{x:PV×ab}(e:c9 ⟨P,md⟩ run lv f args h=some x):c9 ⟨P,md'⟩ run' lv f args h=some x:=by
 unfold c9 at e ⊢;rcases M f with hz |hz
 ·simp only[hz]at e
  cases e
 simp only[<-hz]
 cases hm:md f <;>simp only[hm]at e ⊢
 ·cases e
 ·exact l9 L e
 ·exact ma L e
 ·exact e
 ·exact jF (λ_ _ _ x=>x) e
 ·exact e
theorem Iy(M:zn md md')(L:gS run run'):ls P md md' run run':=λlv f args h x e=>Ma M L e
theorem mM(M:ls P md md' run run'){lv:Nat}{op:Op}{ρ:Nat->PV}{h:ab}{x:PV×ab}(e:ao ⟨P,md⟩ run lv op ρ h=some x):ao ⟨P,md'⟩ run' lv op ρ h=some x:=by
 unfold ao at e ⊢
 split at e
 ·split at e
  ·unfold fO at e ⊢
   split at e
   ·exact M _ _ _ _ _ e
   ·exact M _ _ _ _ _ e
   ·cases e
  ·exact e
  ·cases e
 ·exact e
theorem Iz(M:ls P md md' run run'){ops:Array Oper}{o:Oper}{s s':St}(e:fA ⟨P,md⟩ run ops o s=some s'):fA ⟨P,md'⟩ run' ops o s=some s':=by
 unfold fA at e ⊢
 split at e
 ·cases hr:ao ⟨P,md⟩ run 2 o.op s.ρ s.h with
  |none=>rw[hr]at e;cases e
  |some y=>rw[hr]at e;rw[mM M hr];exact e
 ·exact e
 ·cases e
theorem xn(M:ls P md md' run run'){ops:Array Oper}:∀{l:List Oper} {s s':St},dw ⟨P,md⟩ run ops l s=some s'->dw ⟨P,md'⟩ run' ops l s=some s'
 |[],s,s',e=>e
 |o::l,s,s',e=>by
  simp only[dw]at e ⊢
  cases hr:fA ⟨P,md⟩ run ops o s with
  |none=>rw[hr]at e;cases e
  |some y=>
   rw[hr]at e;rw[Iz M hr];exact xn M e
theorem E5(M:ls P md md' run run'){ops:Array Oper}{b:List Nat}{i:Nat}{o:Oper}{s s':uu}(e:cf ⟨P,md⟩ run ops b i o s=some s'):cf ⟨P,md'⟩ run' ops b i o s=some s':=by
 unfold cf at e ⊢
 split at e
 ·split at e
  ·rename_i hh
   rw[if_pos hh]
   cases hr:ao ⟨P,md⟩ run 1 o.op s.s.ρ s.s.h with
   |none=>rw[hr]at e;cases e
   |some y=>rw[hr]at e;rw[mM M hr];exact e
  ·rename_i hh
   rw[if_neg hh]
   split at e
   ·rename_i hl
    rw[if_pos hl]
    cases hr:ao ⟨P,md⟩ run 2 o.op s.s.ρ s.s.h with
    |none=>rw[hr]at e;cases e
    |some y=>rw[hr]at e;rw[mM M hr];exact e
   ·rename_i hl
    rw[if_neg hl];simp only at e ⊢
    split at e
    ·rename_i hc
     rw[if_pos hc]
     cases hr:ao ⟨P,md⟩ run 1 o.op s.s.ρ (cc (b.getD i 0).testBit s.L0 s.own s.s.h)with
     |none=>rw[hr]at e;cases e
     |some y=>rw[hr]at e;rw[mM M hr];exact e
    ·cases e
 ·exact e
 ·cases e
theorem tW(M:ls P md md' run run'){ops:Array Oper}{b:List Nat}:∀{l:List Oper} {i:Nat} {s s':uu},dy ⟨P,md⟩ run ops b i l s=some s'->dy ⟨P,md'⟩ run' ops b i l s=some s'
 |[],i,s,s',e=>e
 |o::l,i,s,s',e=>by
  simp only[dy]at e ⊢
  cases hr:cf ⟨P,md⟩ run ops b i o s with
  |none=>rw[hr]at e;cases e
  |some y=>
   rw[hr]at e;rw[E5 M hr];exact tW M e
theorem E6(M:ls P md md' run run'){ops:Array Oper}{b:List Nat}{h0:ab}{i:Nat}{o:Oper}{s s':St}(e:cO ⟨P,md⟩ run ops b h0 i o s=some s'):cO ⟨P,md'⟩ run' ops b h0 i o s=some s':=by
 unfold cO at e ⊢
 split at e
 ·split at e
  ·rename_i hh
   rw[if_pos hh]
   cases hr:ao ⟨P,md⟩ run 1 o.op s.ρ s.h with
   |none=>rw[hr]at e;cases e
   |some y=>rw[hr]at e;rw[mM M hr];exact e
  ·rename_i hh
   rw[if_neg hh]
   split at e
   ·rename_i hl
    rw[if_pos hl];exact e
   ·rename_i hl
    rw[if_neg hl]
    cases hs:(if jm o.op then az P 1 o.op s.ρ s.h else none)with
    |some y=>rw[hs]at e;exact e
    |none=>
     rw[hs]at e;simp only at e ⊢
     split at e
     ·rename_i hk
      rw[if_pos hk]
      cases hr:ao ⟨P,md⟩ run 2 o.op s.ρ s.h with
      |none=>rw[hr]at e;cases e
      |some y=>rw[hr]at e;rw[mM M hr];exact e
     ·cases e
 ·exact e
 ·cases e
theorem tX(M:ls P md md' run run'){ops:Array Oper}{b:List Nat}{h0:ab}:∀{l:List Oper} {i:Nat} {s s':St},b8 ⟨P,md⟩ run ops b h0 i l s=some s'->b8 ⟨P,md'⟩ run' ops b h0 i l s=some s'
 |[],i,s,s',e=>e
 |o::l,i,s,s',e=>by
  simp only[b8]at e ⊢
  cases hr:cO ⟨P,md⟩ run ops b h0 i o s with
  |none=>rw[hr]at e;cases e
  |some y=>
   rw[hr]at e;rw[E6 M hr];exact tX M e
theorem Mc(M:ls P md md' run run'){ops:Array Oper}{s s':St}(e:iN ⟨P,md⟩ run ops s=some s'):iN ⟨P,md'⟩ run' ops s=some s':=by
 unfold iN at e ⊢
 cases hr:b8 ⟨P,md⟩ run ops (before ops) (cr (gi ops (before ops) s.ρ) s.h) 0 ops.toList ⟨s.ρ,cr (gi ops (before ops) s.ρ) s.h⟩with
 |none=>rw[hr]at e;cases e
 |some y=>rw[hr]at e;rw[tX M hr];exact e
theorem Md(M:ls P md md' run run'){n m:Nat}(Ns:n<=m):∀(c:Code) {s:St} {x:Ex×St},bJ ⟨P,md⟩ run n c s=some x->bJ ⟨P,md'⟩ run' m c s=some x:=by
 intro c
 induction c with
 |region id ops draw=>
  intro s x e
  simp only[bJ]at e ⊢
  cases draw with
  |false=>
   simp only[ZJ,if_false]at e ⊢
   cases hr:dw ⟨P,md⟩ run ops ops.toList s with
   |none=>rw[hr]at e;cases e
   |some y=>rw[hr]at e;rw[xn M hr];exact e
  |true=>
   simp only[if_true]at e ⊢
   by_cases hk:qW ops=true
   ·simp only[hk,if_true]at e ⊢
    cases hr:iN ⟨P,md⟩ run ops s with
    |none=>rw[hr]at e;cases e
    |some y=>rw[hr]at e;rw[Mc M hr];exact e
   ·simp only[hk]at e ⊢
    cases hr:dy ⟨P,md⟩ run ops (before ops) 0 ops.toList ⟨s,s.h.length,[]⟩with
    |none=>rw[hr]at e;simp at e
    |some y=>rw[hr]at e;rw[tW M hr];exact e
 |seq a b iha ihb=>
  intro s x e
  simp only[bJ]at e ⊢
  cases hr:bJ ⟨P,md⟩ run n a s with
  |none=>rw[hr]at e;cases e
  |some y=>
   rw[hr]at e;rw[iha hr];obtain⟨ex,s'⟩:=y
   cases ex with
   |normal=>exact ihb e
   |exit id=>exact e
   |ret=>exact e
 |cond c a b iha ihb=>
  intro s x e
  simp only[bJ]at e ⊢
  split at e
  ·exact iha e
  ·exact ihb e
  ·cases e
 |block id c ih=>
  intro s x e
  simp only[bJ]at e ⊢
  cases hr:bJ ⟨P,md⟩ run n c s with
  |none=>rw[hr]at e;cases e
  |some y=>rw[hr]at e;rw[ih hr];exact e
 |loop c ih=>
  intro s x e
  simp only[bJ]at e ⊢;exact pB (λs x=>ih) Ns e
 |scope c ih=>
  intro s x e
  simp only[bJ]at e ⊢;exact ih e
 |_=>
  intro s x e
  first
   |exact e
   |(simp[bJ]at e;done)
   |(simp only[bJ]at e ⊢;exact e)
theorem Cz(M:ls P md md' run run'){n m:Nat}(Ns:n<=m):gS (nY ⟨P,md⟩ run n) (nY ⟨P,md'⟩ run' m):=by
 intro f args h x e
 unfold nY at e ⊢
 cases hf:P.funcs[f]? with
 |none=>rw[hf]at e;cases e
 |some fn=>
  rw[hf]at e;simp only at e ⊢
  cases hb:fn.body with
  |none=>rw[hb]at e;cases e
  |some c=>
   rw[hb]at e;simp only at e ⊢
   cases hr:bJ ⟨P,md⟩ run n c ⟨mi args,h⟩with
   |none=>rw[hr]at e;cases e
   |some y=>rw[hr]at e;rw[Md M Ns c hr];exact e
theorem AP(M:zn md md'):∀n,gS (eV ⟨P,md⟩ n) (eV ⟨P,md'⟩ n)
 |0=>λf args h x e=>by cases e
 |n+1=>Cz (Iy M (AP M n)) (Zz n)
theorem ay.up(M:zn md md'){f:FuncId}{args:List PV}{h:ab}{Q:PV->ab->Prop}(a:ay ⟨P,md⟩ f args h Q):ay ⟨P,md'⟩ f args h Q:=by
 obtain⟨r,h',q,n0,hn⟩:=a;exact⟨r,h',q,n0,λn h1=>AP M n _ _ _ _ (hn n h1)⟩
theorem aO.up(M:zn md md'){f:FuncId}{args:List PV}{r:PV}(a:aO ⟨P,md⟩ f args r):aO ⟨P,md'⟩ f args r:=by
 obtain⟨n0,hn⟩:=a;refine⟨n0,λn h1=>?_⟩;obtain⟨r0,hc,r1,e1,e2⟩:=hn n h1;exact⟨r0,hc,r1,AP M n _ _ _ _ e1,e2⟩
end Go.Pm
namespace Go.Pm
open Go.Proofs
open Go.Pm.Zero (j' iX)
attribute [local irreducible] aE aC aI aJ Ev ah ai ay aV
variable{w:World}{F:Nat->Prop}{β:List (Nat×Nat)}{h:ab}
namespace qc
set_option maxRecDepth 100000
set_option maxHeartbeats 4000000
noncomputable abbrev T6:lz C0.P:=Zero.T6
theorem sD{h:ab}{fl:Bool}{e:PV}(he:jT 4 e=true):ay C0 215 [.aa true [],.int .i64 0,.aa fl [e]] h (λr h'=>r=.aj h.length 0 0 1/\h'=h++[⟨.m,0,4,[e]⟩]):=by
 refine ay.dC Tryz.func215 rfl ?_;have hu:C0.P.underlying 132=some (.slice 33):=bp (T6.cP 132 _ rfl);have xD:([e]:List PV).length=1:=rfl;refine wXD ?_;apply R.slice
 ·exact rfl
 ·exact rfl
 ·exact rfl
 ·exact rfl
 ·exact yV hu (T6.dO 33 4 rfl)
 refine wXN (λhc hc=>?_) λhc hc=>?_
 all_goals try(exfalso;revert hc;decide)
 all_goals(
  apply R.iU T6;exact rfl;exact rfl;exact rfl;exact rfl;exact rfl;exact rfl;exact rfl;exact(by decide);exact rfl;exact rfl;exact ru he;exact(by simp);exact(by show 1<_;decide);refine wXD ?_;exact⟨rfl,rfl⟩)
theorem sF{h:ab}{fl:Bool}{e:PV}{id ep len:Nat}{o:au}(he:jT 4 e=true)(hg:getM h id ep=some o)(hm:o.mu=.m)(hz:o.bB=4)(hle:len<=o.es.length)(hn:len<100000000):
  ay C0 215 [.aj id ep 0 len,.int .i64 (len:Int),.aa fl [e]] h (λr h'=>r=.aj id (ep+1) 0 (len+1)/\h'=h.set id {o with ep:=ep+1,es:=o.es.take len++[e]}):=by
 refine ay.dC Tryz.func215 rfl ?_;have hu:C0.P.underlying 132=some (.slice 33):=bp (T6.cP 132 _ rfl);have xD:([e]:List PV).length=1:=rfl;have gm:cg C0.P 33=some o.bB:=by rw[hz];exact T6.dO 33 4 rfl
 refine wXD ?_;apply R.slice
 ·exact rfl
 ·exact rfl
 ·exact rfl
 ·exact rfl
 ·exact pE hu gm hg (Zz _) hle
 refine wXF λhc=>?_
 all_goals try(exfalso;revert hc;decide)
 all_goals(
  apply R.xU T6 (o:=o);exact rfl;exact rfl;exact hg;exact(by omega);refine wXF λhc=>?_;apply R.BS T6 (o:=o);exact rfl;exact rfl;exact rfl;exact rfl;exact rfl;exact rfl;exact rfl;exact(by decide);exact rfl;exact rfl;exact ru he;exact rfl;exact(by show len+1<_;omega);exact hg;exact hm;exact hz;exact hle;refine wXD ?_;exact⟨rfl,rfl⟩)
noncomputable def Kv:Code:=match Tryz.f215.body with |some c=>c |none=>.skip
theorem wb:Tryz.f215.body=some Kv:=rfl
variable{w:World}{F:Nat->Prop}{β:List (Nat×Nat)}
theorem rp{h:ab}{id ep len i N:Nat}{o:au}{fl:Bool}{e:PV}{a:Act}{Q:Exit->Act->World->Prop}(hg:getM h id ep=some o)(hz:o.bB=4)(hle:len<=o.es.length)(hi:i<len)(hn:len<100000000)(hN:N=Tryz.f215.ntmps)
  (RR:SR N w F β ⟨mi [.aj id ep 0 len,.int .i64 (i:Int),.aa fl [e]],h⟩ a)
  (k:∀a' w' β' ρ',SR N w' F β' ⟨al [(0,.aj id ep 0 len),(1,.int .i64 (i:Int)),(2,.aa fl [e]),(7,.int .i64 1),(8,.int .i64 (len:Int))] ρ',h⟩ a'->dN w h β w' h β'->(Ys 6 Kv).wp C0.P Q a' w'):Kv.wp C0.P Q a w:=by
 subst hN;have hu:C0.P.underlying 132=some (.slice 33):=bp (T6.cP 132 _ rfl);have gm:cg C0.P 33=some o.bB:=by rw[hz];exact T6.dO 33 4 rfl
 have xD:([e]:List PV).length=1:=rfl;refine wp_seq ?_;refine cA K0 bP S0 (M:=λex s'=>ex=.normal/\∃ρ',s'=⟨al [(0,.aj id ep 0 len),(1,.int .i64 (i:Int)),(2,.aa fl [e])] ρ',h⟩) rfl ?_ RR ?_
 ·rw[gP];refine wXD ?_;exact⟨rfl,_,St.aQ ⟨rfl,rfl,rfl,trivial⟩⟩
 rintro ex s' a1 w1 β1 ⟨rfl,ρ1,rfl⟩ R1 S1;refine wp_seq ?_;refine cA K0 bP S0 (M:=λex s'=>ex=.normal/\∃ρ',s'=⟨al [(0,.aj id ep 0 len),(1,.int .i64 (i:Int)),(2,.aa fl [e])] ρ',h⟩) rfl ?_ R1 ?_
 ·refine wXD ?_;apply R.slice
  ·exact rfl
  ·exact rfl
  ·exact rfl
  ·exact rfl
  ·exact cN hu gm hg hi hle
  refine wXD ?_;exact⟨rfl,_,St.aQ ⟨rfl,rfl,rfl,trivial⟩⟩
 rintro ex s' a2 w2 β2 ⟨rfl,ρ2,rfl⟩ R2 S2;refine wp_seq ?_;refine cA K0 bP S0 (M:=λex s'=>ex=.normal/\∃ρ',s'=⟨al [(0,.aj id ep 0 len),(1,.int .i64 (i:Int)),(2,.aa fl [e]),(7,.int .i64 1)] ρ',h⟩) rfl ?_ R2 ?_
 ·refine wXD ?_;exact⟨rfl,_,St.aQ ⟨rfl,rfl,rfl,rfl,trivial⟩⟩
 rintro ex s' a3 w3 β3 ⟨rfl,ρ3,rfl⟩ R3 S3;refine wp_seq ?_;refine cA K0 bP S0 (M:=λex s'=>ex=.normal/\∃ρ',s'=⟨al [(0,.aj id ep 0 len),(1,.int .i64 (i:Int)),(2,.aa fl [e]),(7,.int .i64 1)] ρ',h⟩) rfl ?_ R3 ?_
 ·refine wXF λhc=>?_;exact⟨rfl,_,St.aQ ⟨rfl,rfl,rfl,rfl,trivial⟩⟩
 rintro ex s' a4 w4 β4 ⟨rfl,ρ4,rfl⟩ R4 S4;refine wp_seq ?_;refine cA K0 bP S0 (M:=λex s'=>ex=.normal/\∃ρ',s'=⟨al [(0,.aj id ep 0 len),(1,.int .i64 (i:Int)),(2,.aa fl [e]),(7,.int .i64 1),(8,.int .i64 (len:Int))] ρ',h⟩) rfl ?_ R4 ?_
 ·refine wXD ?_;apply R.xU T6 (o:=o);exact rfl;exact rfl;exact hg;exact(by omega);refine wXD ?_;exact⟨rfl,_,St.aQ ⟨rfl,rfl,rfl,rfl,rfl,trivial⟩⟩
 rintro ex s' a5 w5 β5 ⟨rfl,ρ5,rfl⟩ R5 S5;refine wp_seq ?_;refine cA K0 bP S0 (M:=λex s'=>ex=.normal/\∃ρ',s'=⟨al [(0,.aj id ep 0 len),(1,.int .i64 (i:Int)),(2,.aa fl [e]),(7,.int .i64 1),(8,.int .i64 (len:Int))] ρ',h⟩) rfl ?_ R5 ?_
 ·refine wXF λhc=>?_;exact⟨rfl,_,St.aQ ⟨rfl,rfl,rfl,rfl,rfl,trivial⟩⟩
 rintro ex s' a6 w6 β6 ⟨rfl,ρ6,rfl⟩ R6 S6;exact k _ _ _ _ R6 (((((S1.trans S2).trans S3).trans S4).trans S5).trans S6)
theorem sB{h:ab}{id ep len i:Nat}{o:au}{fl:Bool}{e X:PV}{pre:List PV}{vs:List Value}(H:aZ w F β h)(ha:L2 (aD w (Av F h β) β h) vs [.aj id ep 0 len,.int .i64 (i:Int),.aa fl [e]])
  (hg:getM h id ep=some o) (hm:o.mu=.m) (hz:o.bB=4) (iP:o.es=pre++[X]) (nS:pre.length=len) (hi:i<len) (hn:len<100000000) (fQ:pre.all (jT 4)=true) (hX:(cells X).length=4) (he:jT 4 e=true) (di:aR h=true):
  lW C0.P 2 w F β h 215 vs (.aj id ep 0 (len+1)) (h.set id {o with es:=pre.take i++[e]++pre.drop i}):=by
 have cT:o.es.length=len+1:=by rw[iP];simp[nS]
 have hu:C0.P.underlying 132=some (.slice 33):=bp (T6.cP 132 _ rfl);have qF:cg C0.P 33=some 4:=T6.dO 33 4 rfl;have gm:cg C0.P 33=some o.bB:=by rw[hz];exact qF
 obtain⟨g1,g2,g3⟩:=getM_some hg;have cz:=ag g1;obtain⟨bc,mQ⟩:=dg H.len g1;obtain⟨T,cs,k1,k2,k3,k4,k5⟩:=(H.obj id o bc g1 mQ g3).c (by omega);have Ai:len+1<=bc.2:=by omega
 have ia:aL h id=true:=by unfold aL;rw[g1];simp[hm]
 have hj:((len:Int)+1)=((len+1:Nat):Int):=by omega
 have tf:((i:Int)+1)=((i+1:Nat):Int):=by omega
 have dK:∀{w':World} {β':List (Nat×Nat)},dN w h β w' h β'->β'[id]?=some bc:=by
  intro w' β' S
  obtain⟨o',c8,f1,f2,f3,f4,f5⟩:=S.refs id o bc g1 mQ g3;obtain rfl:=Zu (g1.symm.trans f1);rw[f2,(f5 rfl).2.2]
 refine iV (P:=C0.P) (c:=Kv) Tryz.func215 wb H ha (λa RR=>rp hg hz (by omega) hi hn rfl RR (λa1 w1 β1 ρ1 R1 S1=>?_));refine wp_seq ?_;refine wp_seq ?_;apply bQ K0 S0 (pre:=[_,_,_,_]) (post:=[_]) (R:=R1) (M:=λs'=>∃ρ',s'=⟨al ((28,.int .i64 ((len:Int)+1))::(29,.aj id ep 0 len)::[(0,.aj id ep 0 len),(1,.int .i64 (i:Int)),(2,.aa fl [e]),(7,.int .i64 1),(8,.int .i64 (len:Int))]) ρ',h⟩) (M2:=λs'=>∃ρ',s'=⟨al ((31,.bool false)::[(0,.aj id ep 0 len),(1,.int .i64 (i:Int)),(2,.aa fl [e]),(7,.int .i64 1),(8,.int .i64 (len:Int))]) ρ',h⟩)
 ·rfl
 ·rfl
 ·refine wXD ?_;exact⟨_,St.aQ ⟨rfl,rfl,rfl,rfl,rfl,rfl,rfl,trivial⟩⟩
 ·rintro s1 a2 w2 β2 ⟨ρ2,rfl⟩ R2 S2;refine⟨.int .i64 (bc.2:Int),h,rq (t:=132) (x:=.tmp 29) R2.hr R2.er hu (dq (t:=29) rfl ρ2) hg (dK (S1.trans S2)) (by omega) _ rfl,?_⟩;show ah C0 _ _ ⟨bV (al _ ρ2) (some 30) (.int .i64 (bc.2:Int)),h⟩ _;rw[bZ];refine wXF λhc=>?_;exact⟨_,St.aQ ⟨rfl,rfl,rfl,rfl,rfl,rfl,trivial⟩⟩
 rintro s3 a3 w3 β3 ⟨ρ3,rfl⟩ R3 S3;refine cA K0 bP S0 (M:=λex s'=>ex=.normal/\∃ρ',s'=⟨al [(0,.aj id ep 0 len),(1,.int .i64 (i:Int)),(2,.aa fl [e]),(7,.int .i64 1),(8,.int .i64 (len:Int))] ρ',h⟩) rfl ?_ R3 ?_
 ·refine wXD ?_;exact⟨rfl,_,St.aQ ⟨rfl,rfl,rfl,rfl,rfl,trivial⟩⟩
 rintro ex s' a4 w4 β4 ⟨rfl,ρ4,rfl⟩ R4 S4;refine wp_seq ?_;refine cA K0 bP S0 (M:=λex s'=>ex=.normal/\∃ρ',s'=⟨al [(0,.aj id ep 0 (len+1)),(1,.int .i64 (i:Int)),(2,.aa fl [e]),(7,.int .i64 1)] ρ',h⟩) rfl ?_ R4 ?_
 ·refine wXD ?_;apply R.slice
  ·exact rfl
  ·exact rfl
  ·exact rfl
  ·exact rfl
  ·show bX C0.P h 132 (.aj id ep 0 len) none (some (.int .i64 ((len:Int)+1))) none=_;rw[hj];exact oB hu gm hg (by omega) (by omega)
  refine wXD ?_;exact⟨rfl,_,St.aQ ⟨rfl,rfl,rfl,rfl,trivial⟩⟩
 rintro ex s' a5 w5 β5 ⟨rfl,ρ5,rfl⟩ R5 S5;refine wp_seq ?_;refine wp_seq ?_;apply bQ K0 S0 (pre:=[_,_,_,_,_,_]) (post:=[_]) (R:=R5) (M:=λs'=>∃ρ',s'=⟨al ((61,.aa fl [e])::(66,.aj id ep (i+1) (len+1 - (i+1)))::[(0,.aj id ep 0 (len+1)),(1,.int .i64 (i:Int)),(2,.aa fl [e]),(7,.int .i64 1)]) ρ',h⟩) (M2:=λs'=>∃ρ',s'=⟨al ((68,.bool true)::[(0,.aj id ep 0 (len+1)),(1,.int .i64 (i:Int)),(2,.aa fl [e]),(7,.int .i64 1)]) ρ',h⟩)
 ·rfl
 ·rfl
 ·refine wXD ?_;apply R.slice
  ·exact rfl
  ·exact rfl
  ·exact rfl
  ·exact rfl
  ·show bX C0.P h 132 (.aj id ep 0 (len+1)) (some (.int .i64 ((i:Int)+1))) none none=_;rw[tf];exact cN hu gm hg (by omega) (by omega)
  refine wXD ?_;exact⟨_,St.aQ ⟨rfl,rfl,rfl,rfl,rfl,rfl,trivial⟩⟩
 ·rintro s1 a6 w6 β6 ⟨ρ6,rfl⟩ R6 S6;refine⟨.bool false,h,qd (t:=31) (tR:=4) (x:=.tmp 61) (y:=.tmp 66) (f:=281) R6.hr R6.er (bp (T6.cP 31 _ rfl)) qF (dq (t:=61) rfl ρ6) (dq (t:=66) rfl ρ6) hg hm (by omega) Tryz.func281 (by kernel_rfl) (by kernel_rfl) (by kernel_rfl) (by kernel_rfl) _ rfl,?_⟩;show ah C0 _ _ ⟨bV (al _ ρ6) (some 67) (.bool false),h⟩ _;rw[bZ];refine wXD ?_;exact⟨_,St.aQ ⟨rfl,rfl,rfl,rfl,rfl,trivial⟩⟩
 rintro s7 a7 w7 β7 ⟨ρ7,rfl⟩ R7 S7;obtain⟨ys,nR⟩:∃ys,ys=((pre++[X]).drop i).take (pre.length+1 - i):=⟨_,rfl⟩;obtain⟨dD,np⟩:∃dD,dD=(pre++[X]).take (i+1)++ys.take (pre.length - i)++(pre++[X]).drop (i+1+(pre.length - i)):=⟨_,rfl⟩;obtain⟨l1,l2,l3⟩:=we (e:=e) (by omega) nR np;rw[nS]at l1 l2;have UE:ys.length=len+1 - i:=by rw[nR];simp;omega
 have Kz:∀v∈ys,(cells v).length=4:=by
  intro v hv
  rw[nR]at hv;have:=aac (aae hv);rcases ZE.1 this with hv |hv
  ·have:=Zw.1 fQ v hv;unfold jT at this;simp only[ZD,decide_eq_true_eq]at this;exact this.1.2
  ·obtain rfl:=ZY.1 hv;exact hX
 have Aj:(cells e).length=4/\(cells e).all bG=true:=by
  unfold jT at he;simp only[ZD,decide_eq_true_eq]at he;exact⟨he.1.2,he.2⟩
 have Kw:min ys.length (len+1 - (i+1))=len - i:=by omega
 have yw:h.set id {o with es:=o.es.take (i+1)++ys.take (min ys.length (len+1 - (i+1)))++o.es.drop (i+1+min ys.length (len+1 - (i+1)))}=h.set id {o with es:=dD}:=by
  rw[Kw,iP,np,nS]
 have uA:getM (h.set id {o with es:=dD}) id ep=some {o with es:=dD}:=bg (ZB cz) g2 (by show o.mu≠.x;rw[hm];simp);have wc:min ([e]:List PV).length (len+1 - i)=1:=by show min 1 _=1;omega
 have pW:(h.set id {o with es:=dD}).set id {({o with es:=dD}:au)with es:=dD.take i++[e].take (min ([e]:List PV).length (len+1 - i))++dD.drop (i+min ([e]:List PV).length (len+1 - i))}=h.set id {o with es:=pre.take i++[e]++pre.drop i}:=by
  rw[aar,wc,<-l3];rfl
 refine cA K0 bP S0 (M:=λex s'=>ex=.ret/\∃ρ',s'=⟨al [(6,.aj id ep 0 (len+1))] ρ',h.set id {o with es:=pre.take i++[e]++pre.drop i}⟩) rfl ?_ R7 ?_
 ·refine wXD ?_;apply D.slice
  ·exact di
  ·exact rfl
  ·exact ia
  ·exact rfl
  ·exact rfl
  ·exact rfl
  ·exact rfl
  ·exact rfl
  ·exact rfl
  ·show bX C0.P h 132 (.aj id ep 0 (len+1)) (some (.int .i64 ((i:Int)+1))) none none=_;rw[tf];exact cN hu gm hg (by omega) (by omega)
  refine wXD ?_;apply D.slice
  ·exact di
  ·exact rfl
  ·exact ia
  ·exact rfl
  ·exact rfl
  ·exact rfl
  ·exact rfl
  ·exact rfl
  ·exact rfl
  ·exact cN hu gm hg (by omega) (by omega)
  apply D.copy T6 (ys:=ys) (o:=o) (sz:=4)
  ·exact rfl
  ·exact rfl
  ·exact rfl
  ·exact rfl
  ·exact rfl
  ·simp only[ch,hg];rw[if_pos (by omega),iP,nR,nS]
  ·exact hg
  ·exact hm
  ·exact hz
  ·omega
  ·rw[Zw]
   intro v hv
   simp[Kz v hv]
  ·rw[Kw,l1,Zw]
   intro v hv
   have:=Zw.1 fQ v (aac hv);unfold jT at this;simp only[ZD]at this ⊢;exact⟨this.1.2,this.2⟩
  refine aV.heap yw ?_;refine wXD ?_;apply R.slice
  ·exact rfl
  ·exact rfl
  ·exact rfl
  ·exact rfl
  ·exact cN (o:={o with es:=dD}) hu gm uA (by omega) (by show len+1<=dD.length;omega)
  refine wXD ?_;apply R.copy T6 (ys:=[e]) (o:={o with es:=dD}) (sz:=4)
  ·exact rfl
  ·exact rfl
  ·exact rfl
  ·exact rfl
  ·exact rfl
  ·exact uA
  ·exact hm
  ·exact hz
  ·show i+(len+1 - i)<=dD.length;omega
  ·simp[Aj.1]
  ·simp only[wc,abo,abT,aaq,aaW,Aj.1,Aj.2];rfl
  refine wXD ?_;exact⟨rfl,_,(congrArg (λhh=>(⟨_,hh⟩:St)) pW).trans (St.aQ ⟨rfl,trivial⟩)⟩
 rintro ex s8 a8 w8 β8 ⟨rfl,ρ8,rfl⟩ R8 S8;refine⟨.inr rfl,_,β8,R8,(((((S1.trans S3).trans S4).trans S5).trans S7).trans S8),[.aj id ep 0 (len+1)],?_,λu Sb=>⟨β8,Sb,R8.hr,(((((S1.trans S3).trans S4).trans S5).trans S7).trans S8)⟩⟩
 ·exact ee (L:=[(6,.aj id ep 0 (len+1))]) rfl
 all_goals rfl
theorem wa{h:ab}{id ep len i:Nat}{o:au}{bc:Nat×Nat}{fl:Bool}{e:PV}{vs:List Value}(H:aZ w F β h)(ha:L2 (aD w (Av F h β) β h) vs [.aj id ep 0 len,.int .i64 (i:Int),.aa fl [e]])
  (hg:getM h id ep=some o) (hz:o.bB=4) (hle:len<=o.es.length) (mQ:β[id]?=some bc) (Ai:bc.2<len+1) (hi:i<len) (hn:len<100000000) (fQ:(o.es.take len).all (jT 4)=true) (he:jT 4 e=true) (di:aR h=true):
  lW C0.P 2 w F β h 215 vs (.aj h.length 0 0 (len+1)) (h++[⟨.m,0,4,(o.es.take len).take i++[e]++(o.es.take len).drop i⟩]):=by
 have hu:C0.P.underlying 132=some (.slice 33):=bp (T6.cP 132 _ rfl);have qF:cg C0.P 33=some 4:=T6.dO 33 4 rfl;have gm:cg C0.P 33=some o.bB:=by rw[hz];exact qF
 obtain⟨g1,g2,g3⟩:=getM_some hg;have cz:=ag g1;have hj:((i:Int)+1)=((i+1:Nat):Int):=by omega
 have Ux:((len:Int)+1 - (i:Int))=((len+1 - i:Nat):Int):=by omega
 have kG:i+(len+1 - i)=len+1:=by omega
 have dK:∀{w':World} {β':List (Nat×Nat)},dN w h β w' h β'->β'[id]?=some bc:=by
  intro w' β' S
  obtain⟨o',c8,f1,f2,f3,f4,f5⟩:=S.refs id o bc g1 mQ g3;obtain rfl:=Zu (g1.symm.trans f1);rw[f2,(f5 rfl).2.2]
 obtain⟨lC,Eg⟩:∃lC,lC=o.es.take i++List.replicate (len+1 - i) (.agg [.int .i64 0,.str ByteArray.empty,.int .i64 0,.aa true []]:PV):=⟨_,rfl⟩;obtain⟨dD,np⟩:∃dD,dD=lC.take i++[e]++lC.drop (i+1):=⟨_,rfl⟩;obtain⟨ys,nR⟩:∃ys,ys=(o.es.drop i).take (len - i):=⟨_,rfl⟩;obtain⟨l1,l2,l3,l4,l5⟩:=yT hi hle Eg np nR
 have Aj:(cells e).length=4/\(cells e).all bG=true/\aW e=true:=by
  unfold jT at he;simp only[ZD,decide_eq_true_eq]at he;exact⟨he.1.2,he.2,he.1.1⟩
 have DT:ys.all (jT 4)=true:=by
  rw[l4,Zw]
  intro v hv
  exact Zw.1 fQ v (aac hv)
 have xL:ar lC=true:=by
  rw[Eg,bt,aaI,<-bt]
  have:ar (o.es.take i)=true:=by
   refine kW (sz:=4) ?_;rw[Zw]
   intro v hv
   refine Zw.1 fQ v ?_;have:o.es.take i=(o.es.take len).take i:=by rw[aaF];congr 1;omega
   rw[this]at hv;exact aae hv
  rw[this,aaE,Zw]
  intro v hv
  obtain rfl:=aam hv
  rfl
 have A6:ar dD=true:=by
  rw[bt,Zw]at xL ⊢
  intro v hv
  rw[np]at hv;rcases ZE.1 hv with hv |hv
  ·rcases ZE.1 hv with hv |hv
   ·exact xL v (aae hv)
   ·obtain rfl:=ZY.1 hv;exact Aj.2.2
  ·exact xL v (aac hv)
 have Eh:aR (h++[⟨.m,0,4,dD⟩])=true:=tD A6 di;have NU:∀es,getM (h++[⟨.m,0,4,es⟩]) h.length 0=some ⟨.m,0,4,es⟩:=λes=>FX (o:=⟨.m,0,4,es⟩) (by simp)
 have Vf:∀es,getM (h++[⟨.m,0,4,es⟩]) id ep=some o:=λes=>nw hg
 have ia:∀es,aL (h++[⟨.m,0,4,es⟩]) id=true:=λes=>by unfold aL;rw[Zv cz,g1];simpa using g3
 have Ku:∀es,aL (h++[⟨.m,0,4,es⟩]) h.length=true:=λes=>by unfold aL;simp
 refine iV (P:=C0.P) (c:=Kv) Tryz.func215 wb H ha (λa RR=>rp hg hz (by omega) hi hn rfl RR (λa1 w1 β1 ρ1 R1 S1=>?_));refine wp_seq ?_;refine wp_seq ?_;apply bQ K0 S0 (pre:=[_,_,_,_]) (post:=[_]) (R:=R1) (M:=λs'=>∃ρ',s'=⟨al ((28,.int .i64 ((len:Int)+1))::(29,.aj id ep 0 len)::[(0,.aj id ep 0 len),(1,.int .i64 (i:Int)),(2,.aa fl [e]),(7,.int .i64 1),(8,.int .i64 (len:Int))]) ρ',h⟩) (M2:=λs'=>∃ρ',s'=⟨al ((31,.bool true)::[(0,.aj id ep 0 len),(1,.int .i64 (i:Int)),(2,.aa fl [e]),(7,.int .i64 1),(8,.int .i64 (len:Int))]) ρ',h⟩)
 ·rfl
 ·rfl
 ·refine wXD ?_;exact⟨_,St.aQ ⟨rfl,rfl,rfl,rfl,rfl,rfl,rfl,trivial⟩⟩
 ·rintro s1 a2 w2 β2 ⟨ρ2,rfl⟩ R2 S2;refine⟨.int .i64 (bc.2:Int),h,rq (t:=132) (x:=.tmp 29) R2.hr R2.er hu (dq (t:=29) rfl ρ2) hg (dK (S1.trans S2)) (by omega) _ rfl,?_⟩;show ah C0 _ _ ⟨bV (al _ ρ2) (some 30) (.int .i64 (bc.2:Int)),h⟩ _;rw[bZ];refine wXF λhc=>?_;exact⟨_,St.aQ ⟨rfl,rfl,rfl,rfl,rfl,rfl,trivial⟩⟩
 rintro s3 a3 w3 β3 ⟨ρ3,rfl⟩ R3 S3
 have Sa:a3.eval (.tmp 31)=.bool true:=by
  have:=R3.er.ev (.tmp 31);rw[show ev (al ((31,PV.bool true)::[(0,.aj id ep 0 len),(1,.int .i64 (i:Int)),(2,.aa fl [e]),(7,.int .i64 1),(8,.int .i64 (len:Int))]) ρ3) (.tmp 31)=.bool true from dq (t:=31) rfl ρ3]at this;exact this.ga
 refine wp_cond_true Sa ?_;refine wp_seq ?_;apply bQ K0 S0 (pre:=[_,_,_,_,_,_,_,_]) (post:=[_]) (R:=R3) (M:=λs'=>∃ρ',s'=⟨al ((34,.aj id ep 0 i)::(39,.int .i64 ((len:Int)+1 - (i:Int)))::[(0,.aj id ep 0 len),(1,.int .i64 (i:Int)),(2,.aa fl [e]),(7,.int .i64 1),(8,.int .i64 (len:Int))]) ρ',h⟩) (M2:=λs'=>∃ρ',s'=⟨al ((9,.aj h.length 0 0 (len+1))::[(0,.aj id ep 0 len),(1,.int .i64 (i:Int)),(2,.aa fl [e]),(7,.int .i64 1),(8,.int .i64 (len:Int))]) ρ',h++[⟨.m,0,4,lC⟩]⟩)
 case ho=>rfl
 case hg=>rfl
 ·refine wXD ?_;apply R.slice
  ·exact rfl
  ·exact rfl
  ·exact rfl
  ·exact rfl
  ·exact sc hu gm hg (by omega) hle
  refine wXD ?_;exact⟨_,St.aQ ⟨rfl,rfl,rfl,rfl,rfl,rfl,rfl,trivial⟩⟩
 ·rintro s1 a4 w4 β4 ⟨ρ4,rfl⟩ R4 S4;have os:=tE (P:=C0.P) (st:=132) (xt:=3) (el:=33) (x:=.tmp 34) (y:=.tmp 39) (k:=.i64) (n:=len+1 - i) (len:=i) R4.hr R4.er hu (m' (T6.cP 3 _ rfl)) qF (by decide) (T6.rV 33 _ rfl) (by decide) (T6.mO 33 (.agg [.int .i64 0,.str ByteArray.empty,.int .i64 0,.aa true []]) rfl) rfl rfl (dq (t:=34) rfl ρ4) (by rw[<-Ux];exact dq (t:=39) rfl ρ4) hg (dK ((S1.trans S3).trans S4)) (by omega) hz (by omega) (by omega);rw[kG,<-Eg]at os;refine⟨.aj h.length 0 0 (len+1),h++[⟨.m,0,4,lC⟩],os _ rfl,?_⟩;show ah C0 _ _ ⟨bV (al _ ρ4) (some 40) (.aj h.length 0 0 (len+1)),_⟩ _;rw[bZ];refine wXD ?_;exact⟨_,St.aQ ⟨rfl,rfl,rfl,rfl,rfl,rfl,trivial⟩⟩
 rintro s5 a5 w5 β5 ⟨ρ5,rfl⟩ R5 S5;have Kw:min ([e]:List PV).length (len+1 - i)=1:=by show min 1 _=1;omega
 have wc:min ys.length (len+1 - (i+1))=len - i:=by omega
 have Vg:ys.take (len - i)=ys:=ZW (by omega)
 have yw:(h++[⟨.m,0,4,lC⟩]:ab).set h.length {(⟨.m,0,4,lC⟩:au)with es:=lC.take i++[e].take (min ([e]:List PV).length (len+1 - i))++lC.drop (i+min ([e]:List PV).length (len+1 - i))}=h++[⟨.m,0,4,dD⟩]:=by
  rw[Kw,set_push,np];rfl
 have Yk:(h++[⟨.m,0,4,dD⟩]:ab).set h.length {(⟨.m,0,4,dD⟩:au)with es:=dD.take (i+1)++ys.take (min ys.length (len+1 - (i+1)))++dD.drop (i+1+min ys.length (len+1 - (i+1)))}=h++[⟨.m,0,4,(o.es.take len).take i++[e]++(o.es.take len).drop i⟩]:=by
  rw[wc,set_push,Vg,l5]
 refine cA K0 bP S0 (M:=λex s'=>ex=.ret/\∃ρ',s'=⟨al [(6,.aj h.length 0 0 (len+1))] ρ',h++[⟨.m,0,4,(o.es.take len).take i++[e]++(o.es.take len).drop i⟩]⟩) rfl ?_ R5 ?_
 ·refine wXD ?_;apply R.slice
  ·exact rfl
  ·exact rfl
  ·exact rfl
  ·exact rfl
  ·exact cN hu qF (NU lC) (by omega) (by show len+1<=lC.length;omega)
  refine wXD ?_;apply R.copy T6 (ys:=[e]) (o:=⟨.m,0,4,lC⟩) (sz:=4)
  ·exact rfl
  ·exact rfl
  ·exact rfl
  ·exact rfl
  ·exact rfl
  ·exact NU lC
  ·exact rfl
  ·exact rfl
  ·show i+(len+1 - i)<=lC.length;omega
  ·simp[Aj.1]
  ·simp only[Kw,abo,abT,aaq,aaW,Aj.1,Aj.2.1];rfl
  rw[yw];refine wXD ?_;apply D.slice
  ·exact Eh
  ·exact rfl
  ·exact Ku dD
  ·exact rfl
  ·exact rfl
  ·exact rfl
  ·exact rfl
  ·exact rfl
  ·exact rfl
  ·show bX C0.P _ 132 (.aj h.length 0 0 (len+1)) (some (.int .i64 ((i:Int)+1))) none none=_;rw[hj];exact cN hu qF (NU dD) (by omega) (by show len+1<=dD.length;omega)
  refine wXD ?_;apply D.slice
  ·exact Eh
  ·exact rfl
  ·exact ia dD
  ·exact rfl
  ·exact rfl
  ·exact rfl
  ·exact rfl
  ·exact rfl
  ·exact rfl
  ·exact cN hu gm (Vf dD) hi hle
  apply D.copy T6 (ys:=ys) (o:=⟨.m,0,4,dD⟩) (sz:=4)
  ·exact rfl
  ·exact rfl
  ·exact rfl
  ·exact rfl
  ·exact rfl
  ·simp only[ch,Vf];rw[if_pos (by omega),nR]
  ·exact NU dD
  ·exact rfl
  ·exact rfl
  ·show i+1+(len+1 - (i+1))<=dD.length;omega
  ·rw[Zw]
   intro v hv
   have:=Zw.1 DT v hv;unfold jT at this;simp only[ZD]at this;exact this.1.2
  ·rw[wc,Vg,Zw]
   intro v hv
   have:=Zw.1 DT v hv;unfold jT at this;simp only[ZD]at this ⊢;exact⟨this.1.2,this.2⟩
  refine aV.heap Yk ?_;refine wXD ?_;exact⟨rfl,_,St.aQ ⟨rfl,trivial⟩⟩
 rintro ex s8 a8 w8 β8 ⟨rfl,ρ8,rfl⟩ R8 S8;have SS:=(((S1.trans S3).trans S5).trans S8);refine⟨.inr rfl,_,β8,R8,SS,[.aj h.length 0 0 (len+1)],?_,λu Sb=>⟨β8,Sb,R8.hr,SS⟩⟩
 ·exact ee (L:=[(6,.aj h.length 0 0 (len+1))]) rfl
 all_goals rfl
theorem BQ:fm C0.P 215 iv:=by
 intro args h r h' e w F β vs H ha
 unfold iv at e
 split at e
 ·rename_i i fl e1
  split at e
  ·rename_i hc
   obtain⟨rfl,he⟩:=hc;obtain⟨rfl,rfl⟩:=ZG (Zu e);exact j' (qZ rfl) (sD he) H ha
  ·cases e
 ·rename_i id ep len i fl e1
  split at e
  ·rename_i o hg
   split at e
   ·rename_i hc
    obtain⟨hm,hz,hle,UG,hi,hn,he,fQ,di⟩:=hc;obtain⟨rfl,rfl⟩:=ZG (Zu e);obtain⟨k,rfl⟩:=aaG UG;have hk:k<=len:=by omega
    rw[show Int.toNat (k:Int)=k from rfl];obtain⟨g1,g2,g3⟩:=getM_some hg;have cz:=ag g1;obtain⟨bc,mQ⟩:=dg H.len g1;have nS:(o.es.take len).length=len:=by simp;omega
    by_cases FG:k=len
    ·subst FG
     have pW:(o.es.take k).take k++[e1]++(o.es.take k).drop k=o.es.take k++[e1]:=by
      rw[aaF,Nat.min_self,Z5 (by omega),ZV]
     rw[pW];exact j' (qZ rfl) (sF he hg hm hz hle hn) H ha
    ·have fR:k<len:=by omega
     by_cases mD:len+1<=bc.2
     ·-- there is room
      have Yt:(cells (PV.agg [.any,.any,.any,.any])).length=4:=rfl
      obtain⟨Hp,Sp⟩:=H.nq g1 mQ hm (o.es.take len++[.agg [.any,.any,.any,.any]]) (ep+1) (by omega) (by simp;omega) (λi e he=>by
       rcases Z8 i len with mX |mX
       ·left
        rw[Zv (by omega),ZO,if_pos mX]at he;exact he
       ·right
        rw[ZI (by omega)]at he;obtain rfl:=ZY.1 (ZK he);refine⟨by rw[Yt,hz],λp hp=>?_⟩;simp only[cells]at hp;simpa using hp)
      have wg:(h.set id {o with es:=o.es.take len++[.agg [.any,.any,.any,.any]],ep:=ep+1})[id]?=some {o with es:=o.es.take len++[.agg [.any,.any,.any,.any]],ep:=ep+1}:=ZB cz
      have Sg:aR (h.set id {o with es:=o.es.take len++[.agg [.any,.any,.any,.any]],ep:=ep+1})=true:=by
       refine lO (h:=h) (λi hi=>?_) (λo' h1=>?_) di
       ·unfold aL at hi ⊢
        by_cases NX:i=id
        ·subst NX;rw[wg];simp[hm]
        ·rw[ZC (aak NX)];exact hi
       ·rcases aaQ h1 with h1 |rfl
        ·exact .inr (.inr ⟨o',h1,rfl,λhh=>hh⟩)
        ·exact .inr (.inl (sC (bq _ _ (kW fQ)) rfl))
      have lY:L2 (aD w (Av F (h.set id {o with es:=o.es.take len++[.agg [.any,.any,.any,.any]],ep:=ep+1}) β) β (h.set id {o with es:=o.es.take len++[.agg [.any,.any,.any,.any]],ep:=ep+1})) vs [.aj id (ep+1) 0 len,.int .i64 (k:Int),.aa fl [e1]]:=
       iX ha (λv hv=>aD.nq g1 mQ hm hv g2 hle _ _) (λv hv=>hv.mono Sp) (λv hv=>hv.mono Sp)
      have cs:=sB (o:={o with es:=o.es.take len++[.agg [.any,.any,.any,.any]],ep:=ep+1}) (X:=.agg [.any,.any,.any,.any]) (pre:=o.es.take len) Hp lY (bg wg rfl (by show o.mu≠.x;rw[hm];simp)) hm hz rfl nS fR hn fQ rfl he Sg;refine cs.mono ?_;rintro en w' ⟨v,β1,rfl,q1,q2,q3,_⟩;rw[aar]at q1 q2 q3;exact⟨v,β1,rfl,q1,q2,Sp.trans q3,λhh=>by omega⟩
     ·-- all is made anew
      obtain⟨p1,p2,p3,p4,p5,p6⟩:=bC o;have gl:getM (h.map bM) id ep=some (bM o):=bg (by rw[ZP,g1];rfl) (by rw[p1];exact g2) (λhh=>g3 (p4.1 hh));have ML:∀b,Av (Av F h β) (h.map bM) β b->Av F h β b:=λb hb=>hb.elim (λhh=>hh) (λhm=>absurd hm (iY h β b))
      have cs:=wa (o:=bM o) (bc:=bc) H.lock (iX ha (λv hv=>hv.alike (gb h) ML) (λv hv=>hv.alike (gb h) ML) (λv hv=>hv.alike (gb h) ML)) gl (by rw[p2];exact hz) (by rw[p3];exact hle) mQ (by omega) fR hn (by rw[p3];exact fQ) he (tC di);rw[p3,aaB]at cs;refine cs.mono ?_;rintro en w' ⟨v,β1,rfl,q1,q2,q3,_⟩;obtain⟨nO,Ej⟩:∃nO,nO=(o.es.take len).take k++[e1]++(o.es.take len).drop k:=⟨_,rfl⟩;rw[<-Ej]at q1 q2 q3 ⊢;have IZ:nO.length=len+1:=by rw[Ej];simp;omega
      have Sh:nO.all (jT 4)=true:=by
       rw[Zw]at fQ ⊢
       intro x hx
       rw[Ej]at hx;rcases ZE.1 hx with hx |hx
       ·rcases ZE.1 hx with hx |hx
        ·exact fQ x (aae hx)
        ·obtain rfl:=ZY.1 hx;exact he
       ·exact fQ x (aac hx)
      have enew:(h.map bM++[(⟨.m,0,4,nO⟩:au)])[h.length]?=some ⟨.m,0,4,nO⟩:=by
       rw[ZI (by simp)];simp
      obtain⟨bn,xM⟩:=dg q2.len enew;have mnew:Mb (h.map bM++[⟨.m,0,4,nO⟩]) β1 bn.1:=⟨h.length,_,bn,enew,xM,rfl,rfl⟩;obtain⟨T,rY,k1,k2,k3,k4,k5⟩:=(q2.obj h.length _ bn enew xM (by simp)).c (by simp)
      have Bo:w.heap.size<=bn.1:=by
       rcases Z8 bn.1 w.heap.size with hh |hh
       ·exact absurd (q3.shr bn.1 hh mnew) (iY h β bn.1)
       ·exact hh
      have hA:∀b,Av F (h.set id {o with es:=nO,ep:=ep+1}) (β.set id bn) b->Av (Av F h β) (h.map bM++[⟨.m,0,4,nO⟩]) β1 b:=by
       rintro b (hb |⟨dS,o',c8,G4,NY,TQ,Vi⟩)
       ·exact .inl (.inl hb)
       ·by_cases bT:dS=id
        ·subst bT;rw[ZB (by rw[H.len];exact cz)]at NY;obtain rfl:=Zu NY;rw[<-Vi];exact .inr mnew
        ·rw[ZC (aak bT)]at G4 NY;exact .inl (.inr ⟨dS,o',c8,G4,NY,TQ,Vi⟩)
      obtain⟨HH,SS⟩:=H.Ky (w':=w') g1 mQ hm T rY nO (ep+1) bn q3.size k1 (λb hb=>q3.aQ b hb (iY h β b)) Bo (by omega) q3.os q3.tape q3.output k2 (by rw[hz];exact k3) (λi e NZ=>by
       obtain⟨m1,m2⟩:=k5 i e NZ;refine⟨by rw[hz];exact m1,λj p hp=>?_⟩;obtain⟨u,n1,n2⟩:=m2 j p hp
       have hv:aW e=true:=by
        have:=Zw.1 Sh e (ZK NZ);unfold jT at this;simp only[ZD]at this;exact this.1.1
       exact⟨u,by rw[hz];exact n1,n2.FZ (GH hv p (ZK hp)) hA⟩) q3.drawn
      obtain⟨_,_,m3⟩:=q1.dG;obtain⟨cap,c1,c2⟩:=m3 _ bn enew xM (by simp) rfl (by show 0+(len+1)<=nO.length;omega);refine⟨v,β.set id bn,rfl,?_,HH,SS,λhh=>by omega⟩;refine .aj v id (ep+1) 0 (len+1) {o with es:=nO,ep:=ep+1} bn ⟨_,_,_,c1⟩ (ZB cz) (ZB (by rw[H.len];exact cz)) (by show o.mu≠.x;rw[hm];simp) ⟨Zz _,by show 0<o.bB;omega⟩ (λ_ _=>⟨cap,?_,c2⟩);rw[c1,aa7,aa7]
   ·cases e
  ·cases e
 ·cases e
end qc
end Go.Pm
namespace Go.Pm
open Go.Proofs
attribute [local irreducible] aE aC aI aJ Ev ah ai ay aV
variable{w:World}{F:Nat->Prop}{β:List (Nat×Nat)}{h:ab}
namespace Zero
set_option maxRecDepth 100000
set_option maxHeartbeats 4000000
theorem Jz{fl:Bool}{es:List PV}{vs:List Value}(H:aZ w F β h)(ha:L2 (aD w (Av F h β) β h) vs [.aa fl es])(iP:du 4 es)(hn:es.length<1000000000){r:PV}{h':ab}
  (hr:(es=[]/\r=.aa true []/\h'=h)\/(es≠[]/\r=.aj h.length 0 0 es.length/\h'=h++[⟨.m,0,4,es⟩])):lW C0.P 2 w F β h 216 vs r h':=by
 refine iV (P:=C0.P) Tryz.func216 rfl H ha (λa RR=>?_);refine wp_seq ?_;refine cA K0 bP S0 (M:=λex s'=>ex=.normal/\∃ρ',s'=⟨al [(0,.aa fl es)] ρ',h⟩) rfl ?_ RR ?_
 ·rw[gP];refine wXB ?_;exact⟨rfl,_,St.aQ ⟨rfl,trivial⟩⟩
 rintro ex s' a1 w1 β1 ⟨rfl,ρ1,rfl⟩ R1 S1;refine wp_seq ?_;refine wp_seq ?_;apply bQ K0 S0 (pre:=[_]) (post:=[]) (R:=R1) (M:=λs'=>∃ρ',s'=⟨al [(0,.aa fl es),(3,.aa fl es)] ρ',h⟩) (M2:=λs'=>∃bb ρ',s'=⟨al [(0,.aa fl es),(4,.bool bb)] ρ',h⟩/\(bb=true->es=[]))
 ·rfl
 ·rfl
 ·refine wXB ?_;exact⟨_,St.aQ ⟨rfl,rfl,trivial⟩⟩
 ·rintro s1 a2 w2 β2 ⟨ρ2,rfl⟩ R2 S2;obtain⟨bb,hb,os⟩:=jr (t:=132) (yt:=132) (el:=33) (x:=.tmp 3) (fl:=fl) (es:=es) R2.hr R2.er (bp (T6.cP 132 _ rfl)) (dq (L:=[(0,.aa fl es),(3,.aa fl es)]) (t:=3) rfl ρ2);refine⟨.bool bb,h,os _ rfl,ah.nil ⟨bb,al ((4,.bool bb)::[(0,.aa fl es),(3,.aa fl es)]) ρ2,?_,hb⟩⟩;show(⟨bV (al [(0,.aa fl es),(3,.aa fl es)] ρ2) (some 4) (.bool bb),h⟩:St)=_;rw[bZ];exact St.aQ ⟨rfl,rfl,trivial⟩
 rintro s3 a3 w3 β3 ⟨bb,ρ3,rfl,hb⟩ R3 S3
 cases bb
 ·refine cA K0 bP S0 (M:=λex s'=>ex=.normal/\∃ρ',s'=⟨al [(0,.aa fl es)] ρ',h⟩) rfl ?_ R3 ?_
  ·refine wXB ?_;exact⟨rfl,_,St.aQ ⟨rfl,trivial⟩⟩
  rintro ex s' a4 w4 β4 ⟨rfl,ρ4,rfl⟩ R4 S4;refine cA K0 bP S0 (M:=λex s'=>ex=.ret/\∃ρ',s'=⟨al [(2,r)] ρ',h'⟩) rfl ?_ R4 ?_
  ·refine wXB ?_;rcases hr with⟨rfl,rfl,rfl⟩|⟨bI,rfl,rfl⟩
   ·apply R.kL T6;exact rfl;exact rfl;exact rfl;exact rfl;exact rfl;exact rfl;exact rfl;exact(by decide);exact rfl;exact rfl;refine wXB ?_;exact⟨rfl,_,St.aQ ⟨rfl,trivial⟩⟩
   ·apply R.iU T6;exact rfl;exact rfl;exact rfl;exact rfl;exact rfl;exact rfl;exact rfl;exact(by decide);exact rfl;exact rfl;exact iP;exact bI;exact hn;refine wXB ?_;exact⟨rfl,_,St.aQ ⟨rfl,trivial⟩⟩
  rintro ex s5 a5 w5 β5 ⟨rfl,ρ5,rfl⟩ R5 S5;refine⟨.inr rfl,_,β5,R5,((S1.trans S3).trans S4).trans S5,[r],?_,λu hu=>⟨β5,hu,R5.hr,((S1.trans S3).trans S4).trans S5⟩⟩;exact ee (L:=[(2,r)]) rfl
 ·obtain rfl:=hb rfl;rcases hr with⟨_,rfl,rfl⟩|⟨bI,_⟩
  ·refine cA K0 bP S0 (M:=λex s'=>ex=.ret/\∃ρ',s'=⟨al [(2,.aa true [])] ρ',h'⟩) rfl ?_ R3 ?_
   ·refine wXB ?_;exact⟨rfl,_,St.aQ ⟨rfl,trivial⟩⟩
   rintro ex s5 a5 w5 β5 ⟨rfl,ρ5,rfl⟩ R5 S5;refine⟨.inr rfl,_,β5,R5,(S1.trans S3).trans S5,[.aa true []],?_,λu hu=>⟨β5,hu,R5.hr,(S1.trans S3).trans S5⟩⟩;exact ee (L:=[(2,.aa true [])]) rfl
  ·exact absurd rfl bI
 ·rfl
end Zero
set_option maxRecDepth 100000
set_option maxHeartbeats 4000000
theorem DD:fm C.P 216 (bu 4):=by
 intro args h r h' e w F β vs H ha
 unfold bu at e
 split at e
 ·rename_i fl es
  split at e
  ·rename_i vy
   obtain⟨rfl,rfl⟩:=ZG (Zu e);obtain rfl:es=[]:=by simpa using vy
   exact Zero.Jz H ha rfl (by simp) (.inl ⟨rfl,rfl,rfl⟩)
  ·rename_i vy
   split at e
   ·rename_i hc
    obtain⟨rfl,rfl⟩:=ZG (Zu e);exact Zero.Jz H ha hc.1 hc.2 (.inr ⟨by simpa using vy,rfl,rfl⟩)
   ·cases e
 ·cases e
namespace Zero
theorem JA{fl:Bool}{es:List PV}{vs:List Value}(H:aZ w F β h)(ha:L2 (aD w (Av F h β) β h) vs [.aa fl es])(iP:du 5 es)(hn:es.length<1000000000){r:PV}{h':ab}
  (hr:(es=[]/\r=.aa true []/\h'=h)\/(es≠[]/\r=.aj h.length 0 0 es.length/\h'=h++[⟨.m,0,5,es⟩])):lW C0.P 2 w F β h 370 vs r h':=by
 refine iV (P:=C0.P) Tryz.func370 rfl H ha (λa RR=>?_);refine wp_seq ?_;refine cA K0 bP S0 (M:=λex s'=>ex=.normal/\∃ρ',s'=⟨al [(0,.aa fl es)] ρ',h⟩) rfl ?_ RR ?_
 ·rw[gP];refine wXB ?_;exact⟨rfl,_,St.aQ ⟨rfl,trivial⟩⟩
 rintro ex s' a1 w1 β1 ⟨rfl,ρ1,rfl⟩ R1 S1;refine wp_seq ?_;refine wp_seq ?_;apply bQ K0 S0 (pre:=[_]) (post:=[]) (R:=R1) (M:=λs'=>∃ρ',s'=⟨al [(0,.aa fl es),(3,.aa fl es)] ρ',h⟩) (M2:=λs'=>∃bb ρ',s'=⟨al [(0,.aa fl es),(4,.bool bb)] ρ',h⟩/\(bb=true->es=[]))
 ·rfl
 ·rfl
 ·refine wXB ?_;exact⟨_,St.aQ ⟨rfl,rfl,trivial⟩⟩
 ·rintro s1 a2 w2 β2 ⟨ρ2,rfl⟩ R2 S2;obtain⟨bb,hb,os⟩:=jr (t:=175) (yt:=175) (el:=187) (x:=.tmp 3) (fl:=fl) (es:=es) R2.hr R2.er (bp (T6.cP 175 _ rfl)) (dq (L:=[(0,.aa fl es),(3,.aa fl es)]) (t:=3) rfl ρ2);refine⟨.bool bb,h,os _ rfl,ah.nil ⟨bb,al ((4,.bool bb)::[(0,.aa fl es),(3,.aa fl es)]) ρ2,?_,hb⟩⟩;show(⟨bV (al [(0,.aa fl es),(3,.aa fl es)] ρ2) (some 4) (.bool bb),h⟩:St)=_;rw[bZ];exact St.aQ ⟨rfl,rfl,trivial⟩
 rintro s3 a3 w3 β3 ⟨bb,ρ3,rfl,hb⟩ R3 S3
 cases bb
 ·refine cA K0 bP S0 (M:=λex s'=>ex=.normal/\∃ρ',s'=⟨al [(0,.aa fl es)] ρ',h⟩) rfl ?_ R3 ?_
  ·refine wXB ?_;exact⟨rfl,_,St.aQ ⟨rfl,trivial⟩⟩
  rintro ex s' a4 w4 β4 ⟨rfl,ρ4,rfl⟩ R4 S4;refine cA K0 bP S0 (M:=λex s'=>ex=.ret/\∃ρ',s'=⟨al [(2,r)] ρ',h'⟩) rfl ?_ R4 ?_
  ·refine wXB ?_;rcases hr with⟨rfl,rfl,rfl⟩|⟨bI,rfl,rfl⟩
   ·apply R.kL T6;exact rfl;exact rfl;exact rfl;exact rfl;exact rfl;exact rfl;exact rfl;exact(by decide);exact rfl;exact rfl;refine wXB ?_;exact⟨rfl,_,St.aQ ⟨rfl,trivial⟩⟩
   ·apply R.iU T6;exact rfl;exact rfl;exact rfl;exact rfl;exact rfl;exact rfl;exact rfl;exact(by decide);exact rfl;exact rfl;exact iP;exact bI;exact hn;refine wXB ?_;exact⟨rfl,_,St.aQ ⟨rfl,trivial⟩⟩
  rintro ex s5 a5 w5 β5 ⟨rfl,ρ5,rfl⟩ R5 S5;refine⟨.inr rfl,_,β5,R5,((S1.trans S3).trans S4).trans S5,[r],?_,λu hu=>⟨β5,hu,R5.hr,((S1.trans S3).trans S4).trans S5⟩⟩;exact ee (L:=[(2,r)]) rfl
 ·obtain rfl:=hb rfl;rcases hr with⟨_,rfl,rfl⟩|⟨bI,_⟩
  ·refine cA K0 bP S0 (M:=λex s'=>ex=.ret/\∃ρ',s'=⟨al [(2,.aa true [])] ρ',h'⟩) rfl ?_ R3 ?_
   ·refine wXB ?_;exact⟨rfl,_,St.aQ ⟨rfl,trivial⟩⟩
   rintro ex s5 a5 w5 β5 ⟨rfl,ρ5,rfl⟩ R5 S5;refine⟨.inr rfl,_,β5,R5,(S1.trans S3).trans S5,[.aa true []],?_,λu hu=>⟨β5,hu,R5.hr,(S1.trans S3).trans S5⟩⟩;exact ee (L:=[(2,.aa true [])]) rfl
  ·exact absurd rfl bI
 ·rfl
end Zero
theorem DE:fm C.P 370 (bu 5):=by
 intro args h r h' e w F β vs H ha
 unfold bu at e
 split at e
 ·rename_i fl es
  split at e
  ·rename_i vy
   obtain⟨rfl,rfl⟩:=ZG (Zu e);obtain rfl:es=[]:=by simpa using vy
   exact Zero.JA H ha rfl (by simp) (.inl ⟨rfl,rfl,rfl⟩)
  ·rename_i vy
   split at e
   ·rename_i hc
    obtain⟨rfl,rfl⟩:=ZG (Zu e);exact Zero.JA H ha hc.1 hc.2 (.inr ⟨by simpa using vy,rfl,rfl⟩)
   ·cases e
 ·cases e
namespace Zero
theorem Jy{fl:Bool}{es:List PV}{vs:List Value}(H:aZ w F β h)(ha:L2 (aD w (Av F h β) β h) vs [.aa fl es])(iP:du 5 es)(hn:es.length<1000000000){r:PV}{h':ab}
  (hr:(es=[]/\r=.aa true []/\h'=h)\/(es≠[]/\r=.aj h.length 0 0 es.length/\h'=h++[⟨.m,0,5,es⟩])):lW C0.P 2 w F β h 15 vs r h':=by
 refine iV (P:=C0.P) Tryz.func15 rfl H ha (λa RR=>?_);refine wp_seq ?_;refine cA K0 bP S0 (M:=λex s'=>ex=.normal/\∃ρ',s'=⟨al [(0,.aa fl es)] ρ',h⟩) rfl ?_ RR ?_
 ·rw[gP];refine wXB ?_;exact⟨rfl,_,St.aQ ⟨rfl,trivial⟩⟩
 rintro ex s' a1 w1 β1 ⟨rfl,ρ1,rfl⟩ R1 S1;refine wp_seq ?_;refine wp_seq ?_;apply bQ K0 S0 (pre:=[_]) (post:=[]) (R:=R1) (M:=λs'=>∃ρ',s'=⟨al [(0,.aa fl es),(3,.aa fl es)] ρ',h⟩) (M2:=λs'=>∃bb ρ',s'=⟨al [(0,.aa fl es),(4,.bool bb)] ρ',h⟩/\(bb=true->es=[]))
 ·rfl
 ·rfl
 ·refine wXB ?_;exact⟨_,St.aQ ⟨rfl,rfl,trivial⟩⟩
 ·rintro s1 a2 w2 β2 ⟨ρ2,rfl⟩ R2 S2;obtain⟨bb,hb,os⟩:=jr (t:=22) (yt:=22) (el:=35) (x:=.tmp 3) (fl:=fl) (es:=es) R2.hr R2.er (bp (T6.cP 22 _ rfl)) (dq (L:=[(0,.aa fl es),(3,.aa fl es)]) (t:=3) rfl ρ2);refine⟨.bool bb,h,os _ rfl,ah.nil ⟨bb,al ((4,.bool bb)::[(0,.aa fl es),(3,.aa fl es)]) ρ2,?_,hb⟩⟩;show(⟨bV (al [(0,.aa fl es),(3,.aa fl es)] ρ2) (some 4) (.bool bb),h⟩:St)=_;rw[bZ];exact St.aQ ⟨rfl,rfl,trivial⟩
 rintro s3 a3 w3 β3 ⟨bb,ρ3,rfl,hb⟩ R3 S3
 cases bb
 ·refine cA K0 bP S0 (M:=λex s'=>ex=.normal/\∃ρ',s'=⟨al [(0,.aa fl es)] ρ',h⟩) rfl ?_ R3 ?_
  ·refine wXB ?_;exact⟨rfl,_,St.aQ ⟨rfl,trivial⟩⟩
  rintro ex s' a4 w4 β4 ⟨rfl,ρ4,rfl⟩ R4 S4;refine cA K0 bP S0 (M:=λex s'=>ex=.ret/\∃ρ',s'=⟨al [(2,r)] ρ',h'⟩) rfl ?_ R4 ?_
  ·refine wXB ?_;rcases hr with⟨rfl,rfl,rfl⟩|⟨bI,rfl,rfl⟩
   ·apply R.kL T6;exact rfl;exact rfl;exact rfl;exact rfl;exact rfl;exact rfl;exact rfl;exact(by decide);exact rfl;exact rfl;refine wXB ?_;exact⟨rfl,_,St.aQ ⟨rfl,trivial⟩⟩
   ·apply R.iU T6;exact rfl;exact rfl;exact rfl;exact rfl;exact rfl;exact rfl;exact rfl;exact(by decide);exact rfl;exact rfl;exact iP;exact bI;exact hn;refine wXB ?_;exact⟨rfl,_,St.aQ ⟨rfl,trivial⟩⟩
  rintro ex s5 a5 w5 β5 ⟨rfl,ρ5,rfl⟩ R5 S5;refine⟨.inr rfl,_,β5,R5,((S1.trans S3).trans S4).trans S5,[r],?_,λu hu=>⟨β5,hu,R5.hr,((S1.trans S3).trans S4).trans S5⟩⟩;exact ee (L:=[(2,r)]) rfl
 ·obtain rfl:=hb rfl;rcases hr with⟨_,rfl,rfl⟩|⟨bI,_⟩
  ·refine cA K0 bP S0 (M:=λex s'=>ex=.ret/\∃ρ',s'=⟨al [(2,.aa true [])] ρ',h'⟩) rfl ?_ R3 ?_
   ·refine wXB ?_;exact⟨rfl,_,St.aQ ⟨rfl,trivial⟩⟩
   rintro ex s5 a5 w5 β5 ⟨rfl,ρ5,rfl⟩ R5 S5;refine⟨.inr rfl,_,β5,R5,(S1.trans S3).trans S5,[.aa true []],?_,λu hu=>⟨β5,hu,R5.hr,(S1.trans S3).trans S5⟩⟩;exact ee (L:=[(2,.aa true [])]) rfl
  ·exact absurd rfl bI
 ·rfl
end Zero
theorem DC:fm C.P 15 (bu 5):=by
 intro args h r h' e w F β vs H ha
 unfold bu at e
 split at e
 ·rename_i fl es
  split at e
  ·rename_i vy
   obtain⟨rfl,rfl⟩:=ZG (Zu e);obtain rfl:es=[]:=by simpa using vy
   exact Zero.Jy H ha rfl (by simp) (.inl ⟨rfl,rfl,rfl⟩)
  ·rename_i vy
   split at e
   ·rename_i hc
    obtain⟨rfl,rfl⟩:=ZG (Zu e);exact Zero.Jy H ha hc.1 hc.2 (.inr ⟨by simpa using vy,rfl,rfl⟩)
   ·cases e
 ·cases e
namespace Zero
theorem Jx{fl:Bool}{es:List PV}{vs:List Value}(H:aZ w F β h)(ha:L2 (aD w (Av F h β) β h) vs [.aa fl es])(iP:du 8 es)(hn:es.length<1000000000){r:PV}{h':ab}
  (hr:(es=[]/\r=.aa true []/\h'=h)\/(es≠[]/\r=.aj h.length 0 0 es.length/\h'=h++[⟨.m,0,8,es⟩])):lW C0.P 2 w F β h 16 vs r h':=by
 refine iV (P:=C0.P) Tryz.func16 rfl H ha (λa RR=>?_);refine wp_seq ?_;refine cA K0 bP S0 (M:=λex s'=>ex=.normal/\∃ρ',s'=⟨al [(0,.aa fl es)] ρ',h⟩) rfl ?_ RR ?_
 ·rw[gP];refine wXB ?_;exact⟨rfl,_,St.aQ ⟨rfl,trivial⟩⟩
 rintro ex s' a1 w1 β1 ⟨rfl,ρ1,rfl⟩ R1 S1;refine wp_seq ?_;refine wp_seq ?_;apply bQ K0 S0 (pre:=[_]) (post:=[]) (R:=R1) (M:=λs'=>∃ρ',s'=⟨al [(0,.aa fl es),(3,.aa fl es)] ρ',h⟩) (M2:=λs'=>∃bb ρ',s'=⟨al [(0,.aa fl es),(4,.bool bb)] ρ',h⟩/\(bb=true->es=[]))
 ·rfl
 ·rfl
 ·refine wXB ?_;exact⟨_,St.aQ ⟨rfl,rfl,trivial⟩⟩
 ·rintro s1 a2 w2 β2 ⟨ρ2,rfl⟩ R2 S2;obtain⟨bb,hb,os⟩:=jr (t:=23) (yt:=23) (el:=38) (x:=.tmp 3) (fl:=fl) (es:=es) R2.hr R2.er (bp (T6.cP 23 _ rfl)) (dq (L:=[(0,.aa fl es),(3,.aa fl es)]) (t:=3) rfl ρ2);refine⟨.bool bb,h,os _ rfl,ah.nil ⟨bb,al ((4,.bool bb)::[(0,.aa fl es),(3,.aa fl es)]) ρ2,?_,hb⟩⟩;show(⟨bV (al [(0,.aa fl es),(3,.aa fl es)] ρ2) (some 4) (.bool bb),h⟩:St)=_;rw[bZ];exact St.aQ ⟨rfl,rfl,trivial⟩
 rintro s3 a3 w3 β3 ⟨bb,ρ3,rfl,hb⟩ R3 S3
 cases bb
 ·refine cA K0 bP S0 (M:=λex s'=>ex=.normal/\∃ρ',s'=⟨al [(0,.aa fl es)] ρ',h⟩) rfl ?_ R3 ?_
  ·refine wXB ?_;exact⟨rfl,_,St.aQ ⟨rfl,trivial⟩⟩
  rintro ex s' a4 w4 β4 ⟨rfl,ρ4,rfl⟩ R4 S4;refine cA K0 bP S0 (M:=λex s'=>ex=.ret/\∃ρ',s'=⟨al [(2,r)] ρ',h'⟩) rfl ?_ R4 ?_
  ·refine wXB ?_;rcases hr with⟨rfl,rfl,rfl⟩|⟨bI,rfl,rfl⟩
   ·apply R.kL T6;exact rfl;exact rfl;exact rfl;exact rfl;exact rfl;exact rfl;exact rfl;exact(by decide);exact rfl;exact rfl;refine wXB ?_;exact⟨rfl,_,St.aQ ⟨rfl,trivial⟩⟩
   ·apply R.iU T6;exact rfl;exact rfl;exact rfl;exact rfl;exact rfl;exact rfl;exact rfl;exact(by decide);exact rfl;exact rfl;exact iP;exact bI;exact hn;refine wXB ?_;exact⟨rfl,_,St.aQ ⟨rfl,trivial⟩⟩
  rintro ex s5 a5 w5 β5 ⟨rfl,ρ5,rfl⟩ R5 S5;refine⟨.inr rfl,_,β5,R5,((S1.trans S3).trans S4).trans S5,[r],?_,λu hu=>⟨β5,hu,R5.hr,((S1.trans S3).trans S4).trans S5⟩⟩;exact ee (L:=[(2,r)]) rfl
 ·obtain rfl:=hb rfl;rcases hr with⟨_,rfl,rfl⟩|⟨bI,_⟩
  ·refine cA K0 bP S0 (M:=λex s'=>ex=.ret/\∃ρ',s'=⟨al [(2,.aa true [])] ρ',h'⟩) rfl ?_ R3 ?_
   ·refine wXB ?_;exact⟨rfl,_,St.aQ ⟨rfl,trivial⟩⟩
   rintro ex s5 a5 w5 β5 ⟨rfl,ρ5,rfl⟩ R5 S5;refine⟨.inr rfl,_,β5,R5,(S1.trans S3).trans S5,[.aa true []],?_,λu hu=>⟨β5,hu,R5.hr,(S1.trans S3).trans S5⟩⟩;exact ee (L:=[(2,.aa true [])]) rfl
  ·exact absurd rfl bI
 ·rfl
end Zero
theorem DB:fm C.P 16 (bu 8):=by
 intro args h r h' e w F β vs H ha
 unfold bu at e
 split at e
 ·rename_i fl es
  split at e
  ·rename_i vy
   obtain⟨rfl,rfl⟩:=ZG (Zu e);obtain rfl:es=[]:=by simpa using vy
   exact Zero.Jx H ha rfl (by simp) (.inl ⟨rfl,rfl,rfl⟩)
  ·rename_i vy
   split at e
   ·rename_i hc
    obtain⟨rfl,rfl⟩:=ZG (Zu e);exact Zero.Jx H ha hc.1 hc.2 (.inr ⟨by simpa using vy,rfl,rfl⟩)
   ·cases e
 ·cases e
theorem Bm{a:Act}{ρ:Nat->PV}(H:aZ w F β h)(R:gM w (Av F h β) β h a ρ){t yt el:TypeId}{x:Operand}{id ep:Nat}{mu:Mu}{sz:Nat}{es:List PV}(hu:C0.P.underlying t=some (.slice el))(hx:ev ρ x=.aj id ep 0 es.length)(he:h[id]?=some ⟨mu,ep,sz,es⟩):
  ∀o:Oper,o.op=.binOp .eql t x (.const (.slice none 0 0)) yt->ud C0.P 2 w F β h (execOp a.eval o) (.bool false) h:=by
 have hv:=R.ev x;rw[hx]at hv
 obtain⟨ad,cap,e1⟩:∃ad cap,a.eval x=.slice (some ad) es.length cap:=by
  generalize a.eval x=v at hv
  cases hv with
  |aj v id ep off len o bc h1 h2 h3 h4 h5 h6=>
   rw[he]at h2;obtain rfl:=Zu h2;obtain⟨cap,e,_⟩:=h6 rfl (by simp);exact⟨_,cap,e⟩
  |val hs=>cases hs
 intro o ho
 refine⟨.bool false,w,β,.inl ?_,.val (.bool _),H,dN.refl w h β,λ_=>dz.refl w⟩;obtain⟨d,op,ty,pos,af,g⟩:=o;simp only at ho;subst ho;have h2:a.eval (.const (.slice none 0 0))=.slice none 0 0:=rfl;have g1:(eqGuard .eql t x (.const (.slice none 0 0)) (.slice (some ad) es.length cap) (.slice none 0 0)).run C0.P w=.ok () w:=by simp[eqGuard]
 have g2:(binOp .eql t (.slice (some ad) es.length cap) (.slice none 0 0)).run C0.P w=.ok (.bool false) w:=by
  simp only[binOp];simp[run_equal_slice_nil w t el (some ad) es.length cap hu]
 simp only[execOp,e1,h2,Sem.run_bind,g1,g2,Result.andThen_ok,Sem.run_pure]
theorem R.JB{C:cK}(T:lz C.P){ops:Array Oper}{d:Nat}{ty:TypeId}{pos:String}{af:Array Edge}{r:List Oper}{ρ:Nat->PV}{L:List (Nat×PV)}{Q:St->Prop}{st xt el pU:TypeId}{sz fX id ep:Nat}{mu:Mu}{z:PV}{ys:List PV}{x y:Operand}(hx:cG L x=some (.aa true []))(hy:cG L y=some (.aj id ep 0 ys.length))(he:h[id]?=some ⟨mu,ep,sz+1,ys⟩)(xX:mu≠.x)(hk:T.kd st=some (.sl el))(fR:T.kd xt=some (.sl pU))(hs:T.ts el=some (sz+1))(hb:T.tb el=some fX)(hz:T.tz el=some z)
  (jc:fX<=1000) (hl:(cells z).length=sz+1) (ho:(cells z).all bG=true) (yy:du (sz+1) ys) (bI:ys≠[]) (hn:ys.length<1000000000) (kk:ah C ops r ⟨al ((d,.aj h.length 0 0 ys.length)::L) ρ,h++[⟨.m,0,sz+1,ys⟩]⟩ Q):
  ah C ops (⟨some d,.call ⟨.builtin .append,#[x,y],#[st,xt]⟩,ty,pos,af,none⟩::r) ⟨al L ρ,h⟩ Q:=by
 refine ah.eK (λrun=>?_) kk;have cT:ch h (.aj id ep 0 ys.length)=some ys:=by simp[ch,getM,he,xX]
 have zS:ys.isEmpty=false:=by cases ys with |nil=>exact absurd rfl bI |cons=>rfl
 have lY:bL C.P 2 h st xt (.aa true []) (.aj id ep 0 ys.length)=some (.aj h.length 0 0 ys.length,h++[⟨.m,0,sz+1,ys⟩]):=by
  unfold bL;rw[bp (T.cP _ _ hk)];simp only[T.dO _ _ hs,T.rV _ _ hb,T.mO _ _ hz,cy,bp (T.cP _ _ fR),cT];unfold du at yy;rw[if_pos ⟨by omega,by omega,⟨hl,ho⟩,yy⟩];simp[zS,iS hn jc,newObj]
 simp only[ao,bo,ZN,ZX,ak hx,ak hy,lY]
namespace Zero
theorem Nn{id ep:Nat}{mu:Mu}{es:List PV}{vs:List Value}(H:aZ w F β h)(ha:L2 (aD w (Av F h β) β h) vs [.aj id ep 0 es.length])(he:h[id]?=some ⟨mu,ep,8,es⟩)(xX:mu≠.x)(iP:du 8 es)(hn:es.length<1000000000)(bI:es≠[]):
  lW C0.P 2 w F β h 16 vs (.aj h.length 0 0 es.length) (h++[⟨.m,0,8,es⟩]):=by
 refine iV (P:=C0.P) Tryz.func16 rfl H ha (λa RR=>?_);refine wp_seq ?_;refine cA K0 bP S0 (M:=λex s'=>ex=.normal/\∃ρ',s'=⟨al [(0,.aj id ep 0 es.length)] ρ',h⟩) rfl ?_ RR ?_
 ·rw[gP];refine wXB ?_;exact⟨rfl,_,St.aQ ⟨rfl,trivial⟩⟩
 rintro ex s' a1 w1 β1 ⟨rfl,ρ1,rfl⟩ R1 S1;refine wp_seq ?_;refine wp_seq ?_;apply bQ K0 S0 (pre:=[_]) (post:=[]) (R:=R1) (M:=λs'=>∃ρ',s'=⟨al [(0,.aj id ep 0 es.length),(3,.aj id ep 0 es.length)] ρ',h⟩) (M2:=λs'=>∃ρ',s'=⟨al [(0,.aj id ep 0 es.length),(4,.bool false)] ρ',h⟩)
 ·rfl
 ·rfl
 ·refine wXB ?_;exact⟨_,St.aQ ⟨rfl,rfl,trivial⟩⟩
 ·rintro s1 a2 w2 β2 ⟨ρ2,rfl⟩ R2 S2;have os:=Bm (t:=23) (yt:=23) (el:=38) (x:=.tmp 3) R2.hr R2.er (bp (T6.cP 23 _ rfl)) (dq (L:=[(0,.aj id ep 0 es.length),(3,.aj id ep 0 es.length)]) (t:=3) rfl ρ2) he;refine⟨.bool false,h,os _ rfl,ah.nil ⟨al ((4,.bool false)::[(0,.aj id ep 0 es.length),(3,.aj id ep 0 es.length)]) ρ2,?_⟩⟩;show(⟨bV (al [(0,.aj id ep 0 es.length),(3,.aj id ep 0 es.length)] ρ2) (some 4) (.bool false),h⟩:St)=_;rw[bZ];exact St.aQ ⟨rfl,rfl,trivial⟩
 rintro s3 a3 w3 β3 ⟨ρ3,rfl⟩ R3 S3;refine cA K0 bP S0 (M:=λex s'=>ex=.normal/\∃ρ',s'=⟨al [(0,.aj id ep 0 es.length)] ρ',h⟩) rfl ?_ R3 ?_
 ·refine wXB ?_;exact⟨rfl,_,St.aQ ⟨rfl,trivial⟩⟩
 rintro ex s' a4 w4 β4 ⟨rfl,ρ4,rfl⟩ R4 S4;refine cA K0 bP S0 (M:=λex s'=>ex=.ret/\∃ρ',s'=⟨al [(2,.aj h.length 0 0 es.length)] ρ',h++[⟨.m,0,8,es⟩]⟩) rfl ?_ R4 ?_
 ·refine wXB ?_;apply R.JB T6;exact rfl;exact rfl;exact he;exact xX;exact rfl;exact rfl;exact rfl;exact rfl;exact rfl;exact(by decide);exact rfl;exact rfl;exact iP;exact bI;exact hn;refine wXB ?_;exact⟨rfl,_,St.aQ ⟨rfl,trivial⟩⟩
 rintro ex s5 a5 w5 β5 ⟨rfl,ρ5,rfl⟩ R5 S5;refine⟨.inr rfl,_,β5,R5,((S1.trans S3).trans S4).trans S5,[.aj h.length 0 0 es.length],?_,λu hu=>⟨β5,hu,R5.hr,((S1.trans S3).trans S4).trans S5⟩⟩;exact ee (L:=[(2,.aj h.length 0 0 es.length)]) rfl
 rfl
end Zero
def kM(bB:Nat)(args:List PV)(h:ab):Option (PV×ab):=
 match args with
 |[.aj id ep off len]=>match h[id]? with
  |some o=>if o.mu≠.x/\o.ep=ep/\o.bB=bB/\off=0/\len=o.es.length/\o.es≠[]/\o.es.all (λv=>decide ((cells v).length=bB)&& (cells v).all bG)=true/\o.es.length<1000000000 then some (.aj h.length 0 0 o.es.length,newObj h bB o.es)else none
  |none=>none
 |args=>bu bB args h
theorem DF:fm C.P 16 (kM 8):=by
 intro args h r h' e w F β vs H ha
 unfold kM at e
 split at e
 ·rename_i id ep off len
  split at e
  ·rename_i o ho
   split at e
   ·rename_i hc
    obtain⟨rfl,rfl⟩:=ZG (Zu e);obtain⟨h1,rfl,h3,rfl,rfl,h6,h7,h8⟩:=hc;obtain⟨mu,ep,bB,es⟩:=o;simp only at *;subst h3;exact Zero.Nn H ha ho h1 h7 h8 h6
   ·cases e
  ·cases e
 ·exact DB _ _ _ _ e _ _ _ _ H ha
end Go.Pm
namespace Go.Pm
namespace bO
open Go.Proofs
set_option maxRecDepth 100000
abbrev W0:=List PV->ab->Option (PV×ab)
def rL:List (FuncId×W0):=[(161,o8),(215,iv),(216,bu 4),(370,bu 5),(15,bu 5),(16,kM 8)]
def CF(f:FuncId):Mode:=match rL.lookup f with |some g=>.cu g |none=>jo f
noncomputable def C:cK:=⟨Go.Pm.C.P,CF⟩
noncomputable def T6:lz C.P:=Go.Pm.T6
theorem EN{α:Type}{l:List (Nat×α)}{f:Nat}{g:α}(h:l.lookup f=some g):(f,g)∈l:=by
 induction l with
 |nil=>cases h
 |cons x l ih=>
  obtain⟨a,b⟩:=x;simp only[List.lookup]at h
  split at h
  ·rename_i he
   obtain rfl:=Zu h;rw[eq_of_beq he];simp
  ·exact aa4 _ (ih h)
theorem iF(f:FuncId):(∃g,(f,g)∈rL/\CF f=.cu g)\/CF f=jo f:=by
 unfold CF
 cases h:rL.lookup f with
 |none=>exact .inr rfl
 |some g=>exact .inl ⟨g,EN h,rfl⟩
theorem Lt(x:FuncId×W0)(h:x∈rL):jo x.1=.no:=by
 simp only[rL,ZF,List.mem_nil_iff,or_false]at h
 repeat' (first |(rcases h with rfl |h)|subst h |fail)
 all_goals rfl
theorem H8(x:FuncId×W0)(h:x∈rL):fm C.P x.1 x.2:=by
 simp only[rL,ZF,List.mem_nil_iff,or_false]at h
 repeat' (first |(rcases h with rfl |h)|subst h |fail)
 all_goals first |exact Lu |exact qc.BQ |exact DD |exact DE |exact DC |exact DF
theorem Lv (x : FuncId × W0) (h : x ∈ rL) : ∃ fn, C.P.funcs[x.1]? = some fn ∧ fn.body.isSome = true ∧ (fn.name == "runtime.NumGoroutine") = false := by
 simp only[rL,ZF,List.mem_nil_iff,or_false]at h
 repeat' (first |(rcases h with rfl |h)|subst h |fail)
 all_goals first
  |exact⟨_,Tryz.func161,by kernel_rfl,by kernel_rfl⟩
  |exact⟨_,Tryz.func215,by kernel_rfl,by kernel_rfl⟩
  |exact⟨_,Tryz.func216,by kernel_rfl,by kernel_rfl⟩
  |exact⟨_,Tryz.func370,by kernel_rfl,by kernel_rfl⟩
  |exact⟨_,Tryz.func15,by kernel_rfl,by kernel_rfl⟩
  |exact⟨_,Tryz.func16,by kernel_rfl,by kernel_rfl⟩
theorem P6:zn jo CF:=λf=>by
 rcases iF f with⟨g,h,_⟩|h
 ·exact .inl (Lt _ h)
 ·exact .inr h.symm
theorem _root_.Go.Pm.aO.nine{f:FuncId}{args:List PV}{r:PV}(a:aO Go.Pm.C f args r):aO C f args r:=aO.up P6 a
theorem _root_.Go.Pm.ay.nine{f:FuncId}{args:List PV}{h:ab}{Q:PV->ab->Prop}(a:ay Go.Pm.C f args h Q):ay C f args h Q:=ay.up P6 a
theorem SQ:fP C where
 enters f hf bI:=by
  rcases iF f with⟨g,h,_⟩|h
  ·exact Lv _ h
  ·exact wh.enters f (λh2=>hf (h.trans h2)) (λg h2=>bI g (h.trans h2))
 qU f g hh:=by
  rcases iF f with⟨g',_,h⟩|h
  ·cases h.symm.trans hh
  ·exact wh.qU f g (h.symm.trans hh)
 cu f g hh:=by
  rcases iF f with⟨g',h1,h⟩|h
  ·obtain rfl:=Mode.cu.inj (h.symm.trans hh);exact H8 _ h1
  ·exact wh.cu f g (h.symm.trans hh)
 ext f g hh:=by
  rcases iF f with⟨g',_,h⟩|h
  ·cases h.symm.trans hh
  ·exact wh.ext f g (h.symm.trans hh)
theorem Ll:pA C where
 mixed:=og.mixed
 A4 f fn c hm hf hb:=by
  rcases iF f with⟨g',_,h⟩|h
  ·rcases hm with hm |hm <;>cases h.symm.trans hm
  ·exact og.A4 f fn c (hm.imp (λh2=>h.symm.trans h2) (λh2=>h.symm.trans h2)) hf hb
end bO
open Go.Proofs
set_option maxRecDepth 4000
def rW(p:Tm):List Tm->List Tm
 |[]=>[]
 |a::r=>if aT a p=0 then rW a r else a::rW a r
def dd:List Tm->List Tm
 |[]=>[]
 |x::r=>x::rW x r
theorem FF(p:Tm):∀l:List Tm,(rW p l).length<=l.length
 |[]=>by simp[rW]
 |a::r=>by
  have:=FF a r;unfold rW
  split <;>simp <;>omega
theorem DR:∀l:List Tm,(dd l).length<=l.length
 |[]=>by simp[dd]
 |a::r=>by have:=FF a r;simp[dd];omega
theorem gp{l:List Tm}{i:Nat}{t:Tm}(h:l[i]?=some t):(ae l)[i]?=some (.agg [.int .i64 t.k,.str t.s,.int .i64 t.o,.aa false (ae t.l)]):=by rw[cU,ZP,h,<-aw];rfl
theorem vG{l:List Tm}{i:Nat}{t:Tm}:(ae l).set i (enc t)=ae (l.set i t):=by rw[cU,cU,List.map_set]
theorem sb{α:Type}{L A B:List α}{x:α}{i:Nat}(e:L=A++x::B)(hi:i=A.length):L[i]?=some x:=by subst e hi;simp
theorem cS{α:Type}{l:List α}{i:Nat}{x:α}(h:l[i]?=some x):l.set i x=l:=by
 obtain⟨h1,rfl⟩:=List.getElem?_eq_some_iff.1 h;exact abI h1
section
variable{C:cK}(T:lz C.P){h:ab}
theorem rf{t el:TypeId}{sz id ep len n:Nat}{k:IntKind}{es:List PV}(hk:T.kd t=some (.sl el))(hs:T.ts el=some sz)(e:h[id]?=some ⟨.m,ep,sz,es⟩)(hl:len<=es.length)(h0:0<n)(hn:n<len):
  bX C.P h t (.aj id ep 0 len) (some (.int k n)) none none=some (.aj id ep (0+n) (len - n)):=by
 have hg:getM h id ep=some ⟨.m,ep,sz,es⟩:=bg e rfl (by simp);simp only[bX,bp (T.cP _ _ hk),T.dO _ _ hs,hg];rw[if_pos ⟨trivial,by show 0+len<=es.length;omega⟩];have hb:beyond none none len (es.length - 0)=none:=rfl;simp only[beyond,cx];rw[if_pos (by omega)];simp only[aaH];rw[if_pos (by rfl),if_neg (by simp),if_neg (by omega),if_neg (by omega)]
theorem Bu{t el:TypeId}{sz id ep len n:Nat}{k:IntKind}{es:List PV}(hk:T.kd t=some (.sl el))(hs:T.ts el=some sz)(e:h[id]?=some ⟨.m,ep,sz,es⟩)(hl:len<=es.length)(hn:n<=len):
  bX C.P h t (.aj id ep 0 len) none (some (.int k n)) none=some (.aj id ep 0 n):=by
 have hg:getM h id ep=some ⟨.m,ep,sz,es⟩:=bg e rfl (by simp);simp only[bX,bp (T.cP _ _ hk),T.dO _ _ hs,hg];rw[if_pos ⟨trivial,by show 0+len<=es.length;omega⟩];simp only[beyond,cx];rw[if_neg (by omega),if_pos (by omega)];simp
theorem Bv{t el:TypeId}{sz id ep off len:Nat}{z:PV}{es:List PV}(hk:T.kd t=some (.sl el))(hs:T.ts el=some sz)(hz:T.tz el=some z)(e:h[id]?=some ⟨.m,ep,sz,es⟩)(hl:off+len<=es.length)(hc:(cells z).length=sz)(ho:(cells z).all bG=true):
  lU C.P 2 h t (.aj id ep off len)=some (.cm [],h.set id ⟨.m,ep,sz,es.take off++List.replicate len z++es.drop (off+len)⟩):=by
 have hg:getM h id ep=some ⟨.m,ep,sz,es⟩:=bg e rfl (by simp);simp only[lU,bp (T.cP _ _ hk),T.dO _ _ hs,T.mO _ _ hz,hg];rw[if_pos ⟨by omega,trivial,trivial,hl,hc,ho⟩]
theorem oA.sl{L:Al}{t:TypeId}{x lo:Operand}{v u w:PV}{K:PV->Prop}(hx:cG L x=some v)(hl:cG L lo=some u)(hs:bX C.P h t v (some u) none none=some w)(kk:Rn (K w)):oA C (.slice t x (some lo) none none) L h K:=
 .mk (λrun lv ρ=>by simp only[ao,az,ak hx,ak hl,ZH,abt,hs]) kk
theorem oA.sh{L:Al}{t:TypeId}{x hi:Operand}{v u w:PV}{K:PV->Prop}(hx:cG L x=some v)(hl:cG L hi=some u)(hs:bX C.P h t v none (some u) none=some w)(kk:Rn (K w)):oA C (.slice t x none (some hi) none) L h K:=
 .mk (λrun lv ρ=>by simp only[ao,az,ak hx,ak hl,ZH,abt,hs]) kk
theorem Bw.clr{L:Al}{t:TypeId}{x:Operand}{v:PV}{h':ab}{K:PV->ab->Prop}(hx:cG L x=some v)(hs:lU C.P 2 h t v=some (.cm [],h'))(kk:Rn (K (.cm []) h')):Bw C (.call ⟨.builtin .clear,#[x],#[t]⟩) L h K:=
 .mk (λrun ρ=>by simp only[ao,bo,ZN,ZX,ak hx,hs]) kk
end
attribute [local irreducible] aE aC aI aJ Ev ah ai ay aV
theorem Bx(a b:Tm)(ha:ax a<1000000000)(hb:ax b<1000000000):aO C 407 [enc a,enc b] (.bool (decide (aT a b=0))):=by
 have h1:=dT a b ha hb;rw[aw,aw]at h1 ⊢;refine aO.x T6 Tryz.func407 rfl ?_;refine wXA ?_;refine .p h1 ?_;refine wXC (λhc=>?_) λhc=>?_
 all_goals exact⟨_,rfl,by simp[aY, *]⟩
theorem Bs(H:ab):ay C 162 [.aa true [],.fn 407 []] H (λr h'=>r=.aa true []/\h'=H):=by
 refine ay.x T6 Tryz.func162 rfl ?_;refine wXA ?_;exact⟨rfl,rfl⟩
theorem DN(x:Tm)(l:List Tm)(H:ab)(hH:HV H)(id ep:Nat)(e1:H[id]?=some ⟨.m,ep,4,ae (x::l)⟩)(hn:l.length<100000000)(hb:∀t∈x::l,ax t<1000000000):
  ay C 162 [.aj id ep 0 (ae (x::l)).length,.fn 407 []] H
   (λr h'=>r=.aj id ep 0 (dd (x::l)).length/\∃tl,ar tl=true/\h'=H.set id ⟨.m,ep,4,ae (dd (x::l))++tl⟩):=by
 have cT:(ae (x::l)).length=l.length+1:=by rw[an];rfl
 refine ay.x T6 Tryz.func162 rfl ?_;refine wXC (λhc=>?_) λhc=>?_
 ·obtain rfl:l=[]:=ZL (by omega);exact⟨rfl,[],rfl,by rw[ZV];exact(cS e1).symm⟩
 refine eJ.zip T6 l (λp q L h=>h=H/\∃P' prev,x::p=P'++[prev]/\P'++prev::rW prev q=dd (x::l)/\L=[(0,.aj id ep 0 (ae (x::l)).length),(1,.fn 407 []),(5,.int .i64 ((p.length+1:Nat):Int))]) (.nx ⟨rfl,[],x,rfl,rfl,rfl⟩) ?_ ?_
 ·rintro p a q _ h ρ e ⟨rfl,P',prev,hp,hd,rfl⟩;have cH:=congrArg List.length e;simp only[Zx,ZA]at cH;have nS:=congrArg List.length hp;simp only[Zx,ZA,Z']at nS;have DM:(ae (x::l))[0+(p.length+1)]?=some (.agg [.int .i64 a.k,.str a.s,.int .i64 a.o,.aa false (ae a.l)]):=gp (by rw[e,ZS];simp)
  have oz:(ae (x::l))[0+(((p.length+1:Nat):Int) - 1).toNat]?=some (.agg [.int .i64 prev.k,.str prev.s,.int .i64 prev.o,.aa false (ae prev.l)]):=gp (by
   rw[show(((p.length+1:Nat):Int) - 1).toNat=p.length by omega,e,<-Z3,hp,ZS,Zv (by simp;omega),ZI (by omega)];simp[show p.length - P'.length=0 by omega])
  have hq:=Bx a prev (hb a (by rw[e];simp)) (hb prev (by rw[e,<-Z3,hp];simp));rw[aw,aw]at hq;refine wXA ?_;refine .p hq ?_
  cases hc:decide (aT a prev=0)
  ·refine wXA ?_;refine .nx ⟨rfl,P'++[prev],a,by rw[<-Z3,hp],?_,rfl⟩;rw[<-hd,rW,if_neg (by simpa using hc)];simp
  ·refine wXA ?_;rw[cT]at *;refine .sl rfl rfl (rf T6 rfl rfl e1 (by rw[an];simp) (by omega) (by omega)) ?_;refine wXA ?_
   refine eJ.zip T6 q (λp2 q2 L h'=>∃R M0 pr,ax pr<1000000000/\R.length+M0.length=p.length+1+p2.length/\R++rW pr q2=dd (x::l)/\h'=h.set id ⟨.m,ep,4,ae (R++(M0++[pr]++q2))⟩/\
    L=[(0,.aj id ep 0 (l.length+1)),(1,.fn 407 []),(5,.int .i64 (R.length:Int)),(6,.aj id ep (0+(p.length+1)) (l.length+1 - (p.length+1))),(7,.int .i64 ((p2.length+1:Nat):Int))]) (.nx ⟨P'++[prev],[],a,hb a (by rw[e];simp),by simp only[Zx,ZA,Z'];omega,?_,?_,rfl⟩) ?_ ?_
   ·rw[<-hd,rW,if_pos (by simpa using hc)];simp
   ·rw[cS];rw[e1,e,<-Z3,hp];simp
   ·rintro p2 b q2 _ _ ρ2 e2 ⟨R,M0,pr,UC,IZ,I0,rfl,rfl⟩;have Jw:=congrArg List.length e2;simp only[Zx,ZA]at Jw;have G4:(h.set id ⟨.m,ep,4,ae (R++(M0++[pr]++b::q2))⟩)[id]?=some ⟨.m,ep,4,ae (R++(M0++[pr]++b::q2))⟩:=ZB (ag e1);have Wv:HV (h.set id ⟨.m,ep,4,ae (R++(M0++[pr]++b::q2))⟩):=hH.set id (by simp) (by simp);have PD:(ae (R++(M0++[pr]++b::q2))).length=l.length+1:=by rw[an];simp;omega
    have XK:(ae (R++(M0++[pr]++b::q2)))[0+(p.length+1)+(p2.length+1)]?=some (.agg [.int .i64 b.k,.str b.s,.int .i64 b.o,.aa false (ae b.l)]):=gp (sb (A:=R++M0++[pr]) (B:=q2) (by simp) (by simp;omega));have QH:(ae (R++(M0++[pr]++b::q2)))[0+(p.length+1)+(((p2.length+1:Nat):Int) - 1).toNat]?=some (.agg [.int .i64 pr.k,.str pr.s,.int .i64 pr.o,.aa false (ae pr.l)]):=gp (sb (A:=R++M0) (B:=b::q2) (by simp) (by simp;omega));have UD:=Bx b pr (hb b (by rw[e,e2];simp)) UC;rw[aw,aw]at UD;obtain⟨m,M1,hM⟩:∃m M1,M0++[pr]=m::M1:=by cases M0 with |nil=>exact⟨_,_,rfl⟩|cons m M=>exact⟨m,M++[pr],rfl⟩
    have WC:=congrArg List.length hM;simp only[Zx,ZA,Z']at WC;have XL:(ae (R++(M0++[pr]++b::q2)))[0+R.length]?=some (.agg [.int .i64 m.k,.str m.s,.int .i64 m.o,.aa false (ae m.l)]):=gp (sb (A:=R) (B:=M1++b::q2) (by rw[hM];simp) (by omega))
    have j8:(ae (R++(M0++[pr]++b::q2))).set (0+R.length) (.agg [.int .i64 b.k,.str b.s,.int .i64 b.o,.aa false (ae b.l)])=ae ((R++[b])++(M1++[b]++q2)):=by
     rw[<-aw,vG,hM,ZS];simp
    clear hq DM oz;refine wXA ?_;refine .p UD ?_
    cases I1:decide (aT b pr=0)
    ·refine wXA ?_;rw[j8,aar];refine .nx ⟨R++[b],M1,b,hb b (by rw[e,e2];simp),by simp;omega,?_,rfl,rfl⟩;rw[<-I0,rW,if_neg (by simpa using I1)];simp
    ·refine wXA ?_;refine .nx ⟨R,M0++[pr],b,hb b (by rw[e,e2];simp),by simp;omega,?_,by simp,rfl⟩;rw[<-I0,rW,if_pos (by simpa using I1)]
   ·rintro _ _ ρ2 ⟨R,M0,pr,UC,IZ,I0,rfl,rfl⟩;have G4:(h.set id ⟨.m,ep,4,ae (R++(M0++[pr]++[]))⟩)[id]?=some ⟨.m,ep,4,ae (R++(M0++[pr]++[]))⟩:=ZB (ag e1);have Wv:HV (h.set id ⟨.m,ep,4,ae (R++(M0++[pr]++[]))⟩):=hH.set id (by simp) (by simp);have PD:(ae (R++(M0++[pr]++[]))).length=l.length+1:=by rw[an];simp;omega
    rw[rW,ZV]at I0;subst I0;refine wXA ?_;refine .sl rfl rfl (rf T6 rfl rfl G4 (by omega) ?_ (by omega)) ?_
    ·simp[dd]
    refine wXA ?_;refine .clr rfl (Bv T6 rfl rfl rfl G4 (by omega) rfl rfl) ?_;have pW:List.take (0+(dd (x::l)).length) (ae (dd (x::l)++(M0++[pr]++[])))=ae (dd (x::l)):=by rw[cU,cU,ZS,aal,List.take_left' (by simp)]
    have Dd:List.drop (0+(dd (x::l)).length+(l.length+1 - (dd (x::l)).length)) (ae (dd (x::l)++(M0++[pr]++[])))=[]:=Z5 (by omega);rw[pW,Dd,aar]
    obtain⟨tl,DS,cz,Nt⟩:∃tl:List PV,tl=List.replicate (l.length+1 - (dd (x::l)).length) (.agg [.int .i64 0,.str ByteArray.empty,.int .i64 0,.aa true []])/\tl.length=l.length+1 - (dd (x::l)).length/\ar tl=true:=
     ⟨_,rfl,by simp,by rw[bt,Zw];intro y hy;rw[aam hy];rfl⟩
    have e3:(h.set id ⟨.m,ep,4,ae (dd (x::l))++tl⟩)[id]?=some ⟨.m,ep,4,ae (dd (x::l))++tl⟩:=ZB (ag e1);rw[<-DS,ZV];refine wXA ?_;refine .sh rfl rfl (Bu T6 rfl rfl e3 (by rw[Zx,an,cz];have:=DR (x::l);simp at this;omega) (by omega)) ?_;refine wXA ?_;exact⟨rfl,tl,Nt,rfl⟩
 ·rintro _ h ρ ⟨rfl,P',prev,hp,hd,rfl⟩;have QI:ae (dd (x::l))=ae (x::l):=by rw[<-hd,hp,rW]
  refine wXA ?_;exact⟨congrArg (PV.aj id ep 0) (by rw[<-QI,an]),[],rfl,by rw[QI,ZV];exact(cS e1).symm⟩
end Go.Pm
namespace Go.Pm
open Go.Proofs
set_option maxRecDepth 4000
theorem JE:∀(l:List Tm) (p y:Tm),y∈p::rW p l↔y∈p::l
 |[],p,y=>by simp[rW]
 |a::r,p,y=>by
  have ih:=JE r a y;unfold rW
  split
  ·rename_i h
   obtain rfl:=dn h;rw[ih];simp
  ·rw[ZF,ih,ZF (b:=p)]
theorem FE:∀(l:List Tm) (p:Tm),((p::l).Pairwise λx y=>aT x y<=0)->fK (p::rW p l)
 |[],p,_=>by simp[rW,fK]
 |a::r,p,h=>by
  have h2:=ZQ.1 h;have ih:=FE r a h2.2;unfold rW
  split
  ·rename_i hc
   obtain rfl:=dn hc;exact ih
  ·rename_i hc
   have hp:=h2.1 a (by simp);have ng:=dU p a;refine ZQ.2 ⟨λy hy=>?_,ih⟩;rcases ZF.1 hy with rfl |hy
   ·omega
   ·exact dM (show aT p a<0 by omega) ((ZQ.1 ih).1 y hy)
theorem JF(l:List Tm)(y:Tm):y∈dd l↔y∈l:=by
 cases l with
 |nil=>simp[dd]
 |cons x r=>exact JE r x y
theorem JG{l:List Tm}(h:l.Pairwise λx y=>aT x y<=0):fK (dd l):=by
 cases l with
 |nil=>simp[dd,fK]
 |cons x r=>exact FE r x h
theorem Nr(l:List (List Pw)):dd (dV (jq l))=GR l:=
 nk (JG (pD _)) (Ju l) (λy=>by rw[JF,Nj];exact(eY _).mem_iff)
theorem ai.ln{C:cK}{f:FuncId}{args:List PV}{H:ab}{P Q:PV->ab->Prop}(a:ay C f args H P)(hl:∀r h',P r h'->h'.length=H.length)(q:∀r h',P r h'->Q r h')(hm:C.mode f=.opened:=by rfl):ai C 2 f args H Q:=by
 refine ai.opened hm (a.mono λr k hr=>?_)
 split
 ·rw[ZW (by rw[hl r k hr];exact Zz _)];exact q r k hr
 ·exact q r k hr
theorem JH(a b:List (List Pw)):jq (a++b)=jq a++jq b:=by simp[jq]
attribute [local irreducible] aE aC aI aJ Ev ah ai ay aV
theorem DL(H:ab)(id ep:Nat)(e1:H[id]?=some ⟨.m,ep,4,ae []⟩):ay C 162 [.aj id ep 0 0,.fn 407 []] H (λr h'=>r=.aj id ep 0 0/\h'=H):=by
 refine ay.x T6 Tryz.func162 rfl ?_;refine wXA ?_;exact⟨rfl,rfl⟩
theorem gQ{h:ab}{id ep sz n:Nat}{es fq tl:List PV}(e:h[id]?=some ⟨.m,ep,sz,es++tl⟩)(hl:es.length=n)(hv:ar es=true)(hn:aU es=fq):∃r1,rb h (aY [.aj id ep 0 n])=some r1/\b9 r1=.aa false fq:=by
 subst hl hn;refine⟨.aa false es,?_,rfl⟩;have hg:getM h id ep=some ⟨.m,ep,sz,es++tl⟩:=bg e rfl (by simp);show rb h (.aj id ep 0 es.length)=_;simp[rb,ly,qi,hg,hv]
namespace bO
theorem JI(l:List (List Pw))(hs:SmT l):aO C 396 [.aa false (h9 l)] (.aa false (ae (GR l))):=by
 have cT:(h9 l).length=l.length:=by simp
 have xD:=hs.2;have DM:=zQ (l:=l) λx hx=>(hs.1 x hx).2
 have Qw:∀t∈jq l,ax t<1000000000:=λt ht=>by
  obtain⟨x,hx,ht⟩:=aaz.1 ht;obtain⟨p,hp,rfl⟩:=Z0.1 ht;exact Nat.lt_trans ((hs.1 x hx).1 p hp) (by decide)
 refine aO.x T6 Tryz.func396 rfl ?_;refine wXA ?_;refine eJ.zip T6 l (λp q L H=>∃v,L=[(3,v),(8,.aa false (h9 l)),(9,.int .i64 l.length),(10,.int .i64 p.length)]/\HV H/\Out 4 H v (ae (jq p))) (.nx ⟨.aa true [],rfl,HV.nil,.inl ⟨rfl,rfl⟩⟩) ?_ ?_
 ·rintro p x q _ H ρ e ⟨v,rfl,hH,ho⟩;have cV:=GQ e;have cH:=congrArg List.length e;simp only[Zx,ZA]at cH;have hx:=hs.1 x (by rw[e];simp);have XH:=eO x;have lY:=zQ (l:=p) λy hy=>(hs.1 y (by rw[e];simp[hy])).2
  refine wXA ?_;refine eJ.zip T6 x (λp2 q2 L H=>∃v,L=[(3,v),(8,.aa false (h9 l)),(9,.int .i64 l.length),(10,.int .i64 p.length),(14,.aa false (bh x)),(15,.int .i64 x.length),(16,.int .i64 p2.length)]/\HV H/\Out 4 H v (ae (jq p++p2.map (·.1)))) (.nx ⟨v,rfl,hH,by simpa using ho⟩) ?_ ?_
  ·rintro p2 ⟨u,n⟩ q2 _ H2 ρ e2 ⟨v2,rfl,nN,Bp⟩;have oz:=Bq e2;have IZ:=congrArg List.length e2;simp only[Zx,ZA]at IZ;have xF:(ae (jq p++p2.map (·.1))).length+1<1000000000:=by rw[an];simp;omega
   have Dh:=Bp.ct [⟨.m,0,5,[.agg [.int .i64 u.k,.str u.s,.int .i64 u.o,.aa false (ae u.l),.int .i64 n]]⟩];have Pr:HV (H2++[⟨.m,0,5,[.agg [.int .i64 u.k,.str u.s,.int .i64 u.o,.aa false (ae u.l),.int .i64 n]]⟩]):=nN.ct (HV.one (by simp));refine wXH λv H lp=>?_;refine .nx ⟨_,rfl,lp.hv,?_⟩;have:=lp.out;rw[Br,cU]at this;rw[cU,aal,aal,aal];simpa using this
  ·rintro _ H2 ρ ⟨v2,rfl,nN,Bp⟩;refine wXA ?_;exact .nx ⟨v2,rfl,nN,by rw[JH];simpa[jq]using Bp⟩
 ·rintro _ H ρ ⟨v,rfl,hH,ho⟩;rw[<-Nr];rcases ho with⟨rfl,e0⟩|⟨id,ep,rfl,e1⟩
  ·have e2:jq l=[]:=ZL (by rw[<-an,e0];rfl);rw[e2];refine wXA ?_;refine ai.cu rfl rfl ?_;refine wXA ?_;refine .ln (Bs H).nine (λr h' hr=>by rw[hr.2]) (λr h' hr=>?_);obtain⟨rfl,rfl⟩:=hr;refine wXA ?_;exact⟨_,rfl,rfl⟩
  ·have qw:=an (jq l);refine wXA ?_;refine ai.cu rfl (by rw[qw];exact lJ e1 (by omega) Qw) ?_;have e2:(H.set id ⟨.m,ep,4,ae (dV (jq l))⟩)[id]?=some ⟨.m,ep,4,ae (dV (jq l))⟩:=ZB (ag e1);have nN:HV (H.set id ⟨.m,ep,4,ae (dV (jq l))⟩):=hH.set id (by simp) (by simp);have xF:=(eY (jq l)).length_eq;have eW:∀t∈dV (jq l),ax t<1000000000:=λt ht=>Qw t ((eY _).mem_iff.1 ht)
   rw[qw,<-xF];rw[<-xF]at qw DM;generalize dV (jq l)=S at *
   cases S with
   |nil=>
    refine wXA ?_;refine .ln (DL _ id ep e2).nine (λr h' hr=>by rw[hr.2]) (λr h' hr=>?_);obtain⟨rfl,rfl⟩:=hr;refine wXA ?_;exact Ls.GW (.inl (.inr ⟨id,ep,rfl,e2⟩)) rfl (by simp[dd,ae])
   |cons x r=>
    have hc:=(DN x r _ nN id ep e2 (by simp at DM;omega) eW).nine;rw[an]at hc;refine wXA ?_;refine .ln hc (λr h' hr=>by obtain⟨_,_,_,rfl⟩:=hr;simp) (λr h' hr=>?_);obtain⟨rfl,tl,hv,rfl⟩:=hr;rw[aar];have e3:(H.set id ⟨.m,ep,4,ae (dd (x::r))++tl⟩)[id]?=some ⟨.m,ep,4,ae (dd (x::r))++tl⟩:=ZB (ag e1);refine wXA ?_;exact gQ e3 (by rw[an]) (by simp) (by simp)
end bO
end Go.Pm
namespace Go.Pm
theorem G6{s:ByteArray}(h:eF s=true):s.size<=24:=by
 rw[<-bsize];unfold eF zT at h
 cases e:s.toList with
 |nil=>simp
 |cons c l=>
  rw[e]at h;simp only[ZD,decide_eq_true_eq]at h;simp;omega
theorem yF{k n o l}(h:node (.mk k n o l)=0):eF n=true/\l.length<=8:=by
 simp only[node]at h
 split at h
 ·cases h
 ·split at h
  ·cases h
  ·rename_i hn
   split at h
   ·cases h
   ·exact⟨by simpa using hn,by omega⟩
theorem oD{k n o l}(h:nodes (.mk k n o l)=0):node (.mk k n o l)=0/\iO l=0:=by
 rw[nodes]at h
 split at h
 ·rename_i hn;exact absurd h hn
 ·exact⟨by omega,h⟩
theorem yG{f:Nat}:∀{l:List Tm},(∀t∈l,(ax t:Int)<=f * size t)->(bz l:Int)<=f * dJ l
 |[],_=>by simp[bz,dJ]
 |t::l,h=>by
  have h1:=h t (by simp);have h2:=yG (l:=l) λu hu=>h u (by simp[hu])
  simp only[bz,dJ,Int.mul_add];omega
theorem DV(t:Tm):nodes t=0->(ax t:Int)<=25 * size t:=by
 induction t using Tm.ind with
 |h k n o l ih=>
  intro h
  obtain⟨h1,h2⟩:=oD h;have h3:=G6 (yF h1).1;have h4:=yG (f:=25) λt ht=>by simpa using ih t ht (mZ h2 t ht)
  simp only[ax,size,Int.mul_add];omega
theorem fB{t:Tm}(h:valid t=0):ax t<=10000:=by
 obtain⟨h1,h2,_⟩:=fV.1 h;have:=DV t h1;omega
theorem G7{k n o l}(h:valid (.mk k n o l)=0){t:Tm}(ht:t∈l):valid t=0:=by
 rw[fV]at h ⊢;exact VQ.kids h t ht
theorem uB{B:Nat}{x:Tm}:∀{s:List cY},(∀b∈s,ax b.t<=B)->ax (kQ s x)<=max B (ax x)
 |[],_=>by simp[kQ];omega
 |b::s,h=>by
  unfold kQ
  split
  ·have:=h b (by simp);omega
  ·exact uB λc hc=>h c (by simp[hc])
theorem zU{s:List cY}{B:Nat}:∀{l:List Tm},(∀t∈l,ax (cF s t)<=ax t * B)->bz (cj s l)<=bz l * B
 |[],_=>by simp[cj,bz]
 |t::l,h=>by
  have h1:=h t (by simp);have h2:=zU (l:=l) λu hu=>h u (by simp[hu])
  simp only[cj,bz,aag];omega
theorem By{s:List cY}{B:Nat}(hB:1<=B)(hs:∀b∈s,ax b.t<=B)(t:Tm):ax (cF s t)<=ax t * B:=by
 induction t using Tm.ind with
 |h k n o l ih=>
  have hp:=vJ (.mk k n o l);have h1:ax (.mk k n o l)<=ax (.mk k n o l) * B:=Nat.le_mul_of_pos_right _ hB;have h2:B<=ax (.mk k n o l) * B:=Nat.le_mul_of_pos_left _ hp;unfold cF
  split
  ·have:=uB (x:=.mk k n o l) hs;omega
  ·have h3:=zU ih;simp only[ax,aag]at h1 ⊢;have h4:n.size<=n.size * B:=Nat.le_mul_of_pos_right _ hB;omega
theorem gX(l:List Tm)(y:Tm):y∈kS l↔y∈l:=by rw[kS,zR];simp
theorem jO(l:List Tm):fK (kS l):=vv (by simp[fK])
theorem DW(l:List Tm):dd (dV l)=kS l:=nk (JG (pD _)) (jO l) (λy=>by rw[JF,gX];exact(eY _).mem_iff)
theorem JO(n:Int)(t y:Tm):y∈qb n t↔y∈pre t/\y.k=n:=by rw[qb,gX];simp
theorem fG(t y:Tm):y∈bF t↔y∈pre t/\y.k=1:=JO 1 t y
theorem eT{l:List Tm}{y:Tm}:y∈cZ l↔∃t∈l,y∈pre t:=by
 induction l with
 |nil=>simp[cZ]
 |cons t l ih=>simp[cZ,ih]
theorem oE(t:Tm):∀y∈pre t,ax y<=ax t:=by
 induction t using Tm.ind with
 |h k n o l ih=>
  intro y hy
  rw[pre,ZF]at hy;rcases hy with rfl |hy
  ·exact Zz _
  ·obtain⟨t,ht,hy⟩:=eT.1 hy;have h1:=ih t ht y hy;have h2:=bN ht;simp only[ax];omega
theorem se:∀{l:List Tm},(∀t∈l,(pre t).length<=ax t)->(cZ l).length<=bz l
 |[],_=>by simp[cZ,bz]
 |t::l,h=>by
  have h1:=h t (by simp);have h2:=se (l:=l) λu hu=>h u (by simp[hu])
  simp only[cZ,bz,Zx];omega
theorem uC(t:Tm):(pre t).length<=ax t:=by
 induction t using Tm.ind with
 |h k n o l ih=>
  have:=se ih;simp only[pre,ax,ZA];omega
theorem oF(l:List Tm):(cZ l).length<=bz l:=se λt _=>uC t
theorem vK(l:List Tm):(kS l).length<=l.length:=by have:=vt l [];simpa[kS]using this
theorem G8(n:Int)(t:Tm):(qb n t).length<=ax t:=by
 have h1:=vK ((pre t).filter λu=>decide (u.k=n));have h2:=aaP (λu=>decide (u.k=n)) (pre t);have h3:=uC t;unfold qb;omega
theorem gu(t:Tm):(bF t).length<=ax t:=G8 1 t
theorem kT{t y:Tm}(h:y∈bF t):ax y<=ax t:=oE t y ((fG t y).1 h).1
theorem vL{p:ByteArray->Bool}:∀{l:List Tm},(∀t∈l,every p t=(pre t).all λu=>decide (u.k≠3)||p u.s)->ic p l=(cZ l).all λu=>decide (u.k≠3)||p u.s
 |[],_=>rfl
 |t::l,h=>by
  rw[ic,cZ,aaI,h t (by simp),vL λu hu=>h u (by simp[hu])]
theorem sf{p:ByteArray->Bool}(t:Tm):every p t=(pre t).all λu=>decide (u.k≠3)||p u.s:=by
 induction t using Tm.ind with
 |h k n o l ih=>
  rw[every,pre,aaq,vL ih]
  rfl
theorem nt{t:Tm}(h:eg t=0):valid t=0/\nP t=0/\ri t=true/\(bF t).any Nw=false/\size t<=60:=by
 unfold eg at h
 split at h
 ·rename_i hn;exact absurd h hn
 ·rename_i h1
  split at h
  ·cases h
  ·rename_i h2
   split at h
   ·cases h
   ·have h3:km t=0:=by omega
    unfold km at h3
    split at h3
    ·rename_i hn;exact absurd h3 hn
    ·refine⟨by omega,h3,?_,?_,by omega⟩
     ·cases hf:ri t with
      |true=>rfl
      |false=>exact absurd (.inl hf) h2
     ·cases hf:(bF t).any Nw with
      |false=>rfl
      |true=>exact absurd (.inr hf) h2
theorem tj:∀{l:List Tm},gW l=0->∀t∈l,eg t=0
 |[],_,t,h=>by cases h
 |u::l,e,t,h=>by
  rw[gW]at e
  split at e
  ·rename_i hn;exact absurd e hn
  ·rcases ZF.1 h with rfl |h
   ·omega
   ·exact tj e t h
theorem qz:∀{l:List fg} {p:Option (List Tm)} {b:List Tm},ti p b l=0->∀d∈l,d.kn.length<=40/\gW (d.kn++[d.tm])=0
 |[],_,_,_,d,h=>by cases h
 |u::l,p,b,e,d,h=>by
  rw[ti]at e
  split at e
  ·cases e
  ·split at e
   ·rename_i hn;exact absurd e hn
   ·split at e
    ·cases e
    ·split at e
     ·cases e
     ·rcases ZF.1 h with rfl |h
      ·exact⟨by omega,by omega⟩
      ·exact qz e d h
theorem pF{l:List fg}(h:nr l=0):l.length<=40/\∀d∈l,d.kn.length<=40/\∀t∈d.kn++[d.tm],eg t=0:=by
 unfold nr at h
 split at h
 ·cases h
 ·exact⟨by omega,λd hd=>⟨(qz h d hd).1,tj (qz h d hd).2⟩⟩
theorem oG{b:cY}(h:Di b=0):valid b.v=0/\b.v.k=1/\valid b.t=0/\aT b.v b.t≠0/\kO b.v b.t=true:=by
 unfold Di at h
 split at h
 ·rename_i hn;exact absurd h hn
 ·split at h
  ·cases h
  ·rename_i h2
   split at h
   ·rename_i hn;exact absurd h hn
   ·split at h
    ·cases h
    ·rename_i h4
     exact⟨by omega,by omega,by omega,by omega,by simpa using h4⟩
theorem vM:∀{s:List cY} {p:Option Tm},qa p s=0->(∀b∈s,Di b=0)/\(s.Pairwise λa b=>aT a.v b.v<0)/\(∀q,p=some q->∀b∈s,aT q b.v<0)
 |[],_,_=>⟨λ_ h=>(by cases h),.nil,λ_ _ _ h=>(by cases h)⟩
 |u::s,p,e=>by
  rw[qa]at e
  split at e
  ·rename_i hn;exact absurd e hn
  ·rename_i h1
   split at e
   ·cases e
   ·rename_i h2
    obtain⟨g1,g2,g3⟩:=vM e;refine⟨λb hb=>?_,ZQ.2 ⟨λb hb=>g3 _ rfl b hb,g2⟩,?_⟩
    ·rcases ZF.1 hb with rfl |hb
     ·omega
     ·exact g1 b hb
    ·rintro q rfl b hb;have h3:aT q u.v<0:=by simpa[behind]using h2
     rcases ZF.1 hb with rfl |hb
     ·exact h3
     ·exact dM h3 (g3 _ rfl b hb)
theorem sg{s:List cY}(h:j9 s=0):s.length<=200/\(∀b∈s,Di b=0)/\s.Pairwise λa b=>aT a.v b.v<0:=by
 unfold j9 at h
 split at h
 ·cases h
 ·obtain⟨g1,g2,_⟩:=vM h;exact⟨by omega,g1,g2⟩
end Go.Pm
