/-
  A part of the library Pm (joined by program). Conditions: none.
-/
import Derived.Test.YtimogkojklpdnaaGreatDoorPyAA
import Derived.Test.YtimogkojklpdnaaGreatDoorPyAG
import Derived.Shelf.SlLaysF0
import Derived.Test.YtimogkojklpdnaaGreatDoorProg
import Derived.KernelRfl
import Derived.Test.YtimogkojklpdnaaGreatDoorPyAD
import Derived.Shelf.SlSortCmp.NoneTotal
set_option linter.unusedVariables false
set_option linter.unusedSimpArgs false
set_option linter.unnecessarySimpa false
namespace Go.Pm
open Go.Proofs
set_option maxRecDepth 100000
set_option maxHeartbeats 4000000
theorem tx{f:Nat->Bool}:∀{a b:List PV},bz f a=true->bz f b=true->bz f (a++b)=true
 |[],_,_,hb=>hb
 |x::a,b,ha,hb=>by
  simp only[bz,Z9,aau]at ha ⊢;exact⟨ha.1,tx ha.2 hb⟩
theorem Ht{e:PV}(h:aV e=true):∀q∈cells e,aV q=true:=by
 intro q hq
 cases e with
 |agg cs=>
  simp only[aV]at h;rw[bu]at h;exact Z1.1 h q hq
 |_=>simp only[cells,aav]at hq;subst hq;exact h
theorem aD.GJ{w:World}{A A':Nat->Prop}{β β':List (Nat×Nat)}{h h':ab}{v:Value}{p:PV}(hv:aD w A β h v p)(hp:aV p=true)(hA:∀b,A' b->A b):aD w A' β' h' v p:=
 .val ((hv.Hu hp).uK hA)
attribute [local irreducible] aE az aI aJ Ev ah ai ax aW
namespace Zero
variable{w:World}{F:Nat->Prop}{β:List (Nat×Nat)}
theorem kE{h:ab}{f:FuncId}{args:List PV}{r:PV}{h':ab}(hm:C0.mode f=.opened)(e:ax C0 f args h (λr' h2=>r'=r/\h2=h')){vs:List Value}(H:aZ w F β h)(ha:L2 (aD w (Av F h β) β h) vs args):mh C0.P 2 w F β h f vs r h':=by
 unfold ax at e;obtain⟨r3,h3,⟨rfl,rfl⟩,n0,Uo⟩:=e;exact S0 n0 _ (.inr hm) _ h _ _ (Uo n0 (Z5 _)) w F β vs H ha
theorem jh{R R':Value->PV->Prop}{vs:List Value}{a b c a' b' c':PV}(h:L2 R vs [a,b,c])(ha:∀v,R v a->R' v a')(hb:∀v,R v b->R' v b')(hc:∀v,R v c->R' v c'):L2 R' vs [a',b',c']:=by
 refine⟨h.1,λj hj=>?_⟩;have h0:=h.2 0 (by simp);have h1:=h.2 1 (by simp);have h2:=h.2 2 (by simp)
 match j,hj with
 |0,_=>exact ha _ h0
 |1,_=>exact hb _ h1
 |2,_=>exact hc _ h2
 |j+3,hj=>simp at hj;omega
theorem E1:fq C0.P 351 jA:=by
 intro args h r h' e w F β vs H ha
 unfold jA at e
 split at e
 ·rename_i i fl e1
  split at e
  ·rename_i hc
   obtain⟨rfl,he⟩:=hc;obtain⟨rfl,rfl⟩:=aaa (ZZ e);exact kE (rF rfl) (tC he) H ha
  ·cases e
 ·rename_i id ep len i fl e1
  split at e
  ·rename_i o hg
   split at e
   ·rename_i hc
    obtain⟨hm,hz,hle,VA,hi,hn,he,fN,dp⟩:=hc;obtain⟨rfl,rfl⟩:=aaa (ZZ e);obtain⟨k,rfl⟩:=abg VA;have hk:k<=len:=by omega
    rw[show Int.toNat (k:Int)=k from rfl];obtain⟨g1,g2,g3⟩:=getM_some hg;have cI:=ag g1;obtain⟨bc,nh⟩:=dn H.len g1;have nI:(o.es.take len).length=len:=by simp;omega
    by_cases AE:k=len
    ·subst AE
     have qn:(o.es.take k).take k++[e1]++(o.es.take k).drop k=o.es.take k++[e1]:=by
      rw[abe,Nat.min_self,aaz (by omega),aao]
     rw[qn];exact kE (rF rfl) (tD he hg hm hz hle hn) H ha
    ·have fB:k<len:=by omega
     by_cases mP:len+1<=bc.2
     ·-- there is room
      have hXc:(cells (PV.agg [.any,.any,.any,.any,.any])).length=5:=rfl
      obtain⟨Hp,Sp⟩:=H.nK g1 nh hm (o.es.take len++[.agg [.any,.any,.any,.any,.any]]) (ep+1) (by omega) (by simp;omega) (λi e he=>by
       rcases aaD i len with nt |nt
       ·left
        rw[Z0 (by omega),aai,if_pos nt]at he;exact he
       ·right
        rw[aac (by omega)]at he;obtain rfl:=aav.1 (aae he);refine⟨by rw[hXc,hz],λp hp=>?_⟩;simp only[cells]at hp;simpa using hp)
      have xc:(h.set id {o with es:=o.es.take len++[.agg [.any,.any,.any,.any,.any]],ep:=ep+1})[id]?=some {o with es:=o.es.take len++[.agg [.any,.any,.any,.any,.any]],ep:=ep+1}:=Z6 cI
      have Tv:aT (h.set id {o with es:=o.es.take len++[.agg [.any,.any,.any,.any,.any]],ep:=ep+1})=true:=by
       refine lZ (h:=h) (λi hi=>?_) (λo' h1=>?_) dp
       ·unfold aL at hi ⊢
        by_cases OW:i=id
        ·subst OW;rw[xc];simp[hm]
        ·rw[Z7 (aaR OW)];exact hi
       ·rcases abc h1 with h1 |rfl
        ·exact .inr (.inr ⟨o',h1,rfl,λhh=>hh⟩)
        ·exact .inr (.inl (tx (br _ _ (lu fN)) rfl))
      have mq:L2 (aD w (Av F (h.set id {o with es:=o.es.take len++[.agg [.any,.any,.any,.any,.any]],ep:=ep+1}) β) β (h.set id {o with es:=o.es.take len++[.agg [.any,.any,.any,.any,.any]],ep:=ep+1})) vs [.ak id (ep+1) 0 len,.int .i64 (k:Int),.aa fl [e1]]:=
       jh ha (λv hv=>aD.nK g1 nh hm hv g2 hle _ _) (λv hv=>hv.mono Sp) (λv hv=>hv.mono Sp)
      have cs:=tw (o:={o with es:=o.es.take len++[.agg [.any,.any,.any,.any,.any]],ep:=ep+1}) (X:=.agg [.any,.any,.any,.any,.any]) (pre:=o.es.take len) Hp mq (bg xc rfl (by show o.mu≠.x;rw[hm];simp)) hm hz rfl nI fB hn fN rfl he Tv;refine cs.mono ?_;rintro en w' ⟨v,β1,rfl,q1,q2,q3,_⟩;rw[aaY]at q1 q2 q3;exact⟨v,β1,rfl,q1,q2,Sp.trans q3,λhh=>by omega⟩
     ·-- all is made anew
      obtain⟨p1,p2,p3,p4,p5,p6⟩:=bD o;have gl:getM (h.map bR) id ep=some (bR o):=bg (by rw[aaj,g1];rfl) (by rw[p1];exact g2) (λhh=>g3 (p4.1 hh));have NK:∀b,Av (Av F h β) (h.map bR) β b->Av F h β b:=λb hb=>hb.elim (λhh=>hh) (λhm=>absurd hm (ji h β b))
      have cs:=wZ (o:=bR o) (bc:=bc) H.lock (jh ha (λv hv=>hv.alike (gi h) NK) (λv hv=>hv.alike (gi h) NK) (λv hv=>hv.alike (gi h) NK)) gl (by rw[p2];exact hz) (by rw[p3];exact hle) nh (by omega) fB hn (by rw[p3];exact fN) he (uh dp);rw[p3,aa6]at cs;refine cs.mono ?_;rintro en w' ⟨v,β1,rfl,q1,q2,q3,_⟩;obtain⟨oc,E2⟩:∃oc,oc=(o.es.take len).take k++[e1]++(o.es.take len).drop k:=⟨_,rfl⟩;rw[<-E2]at q1 q2 q3 ⊢;have JF:oc.length=len+1:=by rw[E2];simp;omega
      have Tw:oc.all (kc 5)=true:=by
       rw[Z1]at fN ⊢
       intro x hx
       rw[E2]at hx;rcases Z8.1 hx with hx |hx
       ·rcases Z8.1 hx with hx |hx
        ·exact fN x (aaJ hx)
        ·obtain rfl:=aav.1 hx;exact he
       ·exact fN x (aaI hx)
      have enew:(h.map bR++[(⟨.m,0,5,oc⟩:au)])[h.length]?=some ⟨.m,0,5,oc⟩:=by
       rw[aac (by simp)];simp
      obtain⟨bn,yr⟩:=dn q2.len enew;have mnew:Mb (h.map bR++[⟨.m,0,5,oc⟩]) β1 bn.1:=⟨h.length,_,bn,enew,yr,rfl,rfl⟩;obtain⟨T,sJ,k1,k2,k3,k4,k5⟩:=(q2.obj h.length _ bn enew yr (by simp)).c (by simp)
      have BZ:w.heap.size<=bn.1:=by
       rcases aaD bn.1 w.heap.size with hh |hh
       ·exact absurd (q3.shr bn.1 hh mnew) (ji h β bn.1)
       ·exact hh
      have hA:∀b,Av F (h.set id {o with es:=oc,ep:=ep+1}) (β.set id bn) b->Av (Av F h β) (h.map bR++[⟨.m,0,5,oc⟩]) β1 b:=by
       rintro b (hb |⟨dY,o',de,HQ,OX,UM,Wj⟩)
       ·exact .inl (.inl hb)
       ·by_cases bU:dY=id
        ·subst bU;rw[Z6 (by rw[H.len];exact cI)]at OX;obtain rfl:=ZZ OX;rw[<-Wj];exact .inr mnew
        ·rw[Z7 (aaR bU)]at HQ OX;exact .inl (.inr ⟨dY,o',de,HQ,OX,UM,Wj⟩)
      obtain⟨HH,SS⟩:=H.Lz (w':=w') g1 nh hm T sJ oc (ep+1) bn q3.size k1 (λb hb=>q3.aR b hb (ji h β b)) BZ (by omega) q3.os q3.tape q3.output k2 (by rw[hz];exact k3) (λi e OY=>by
       obtain⟨m1,m2⟩:=k5 i e OY;refine⟨by rw[hz];exact m1,λj p hp=>?_⟩;obtain⟨u,n1,n2⟩:=m2 j p hp
       have hv:aV e=true:=by
        have:=Z1.1 Tw e (aae OY);unfold kc at this;simp only[Z9]at this;exact this.1.1
       exact⟨u,by rw[hz];exact n1,n2.GJ (Ht hv p (aae hp)) hA⟩) q3.drawn
      obtain⟨_,_,m3⟩:=q1.dL;obtain⟨cap,c1,c2⟩:=m3 _ bn enew yr (by simp) rfl (by show 0+(len+1)<=oc.length;omega);refine⟨v,β.set id bn,rfl,?_,HH,SS,λhh=>by omega⟩;refine .ak v id (ep+1) 0 (len+1) {o with es:=oc,ep:=ep+1} bn ⟨_,_,_,c1⟩ (Z6 cI) (Z6 (by rw[H.len];exact cI)) (by show o.mu≠.x;rw[hm];simp) ⟨Z5 _,by show 0<o.bC;omega⟩ (λ_ _=>⟨cap,?_,c2⟩);rw[c1,abD,abD]
   ·cases e
  ·cases e
 ·cases e
end Zero
theorem E3:fq C.P 45 (bq 4):=by
 intro args h r h' e w F β vs H ha
 unfold bq at e
 split at e
 ·rename_i fl es
  split at e
  ·rename_i wa
   obtain⟨rfl,rfl⟩:=aaa (ZZ e);obtain rfl:es=[]:=by simpa using wa
   exact Zero.Gf H ha rfl (by simp) (.inl ⟨rfl,rfl,rfl⟩)
  ·rename_i wa
   split at e
   ·rename_i hc
    obtain⟨rfl,rfl⟩:=aaa (ZZ e);exact Zero.Gf H ha hc.1 hc.2 (.inr ⟨by simpa using wa,rfl,rfl⟩)
   ·cases e
 ·cases e
theorem E4:fq C.P 397 (bq 1):=by
 intro args h r h' e w F β vs H ha
 unfold bq at e
 split at e
 ·rename_i fl es
  split at e
  ·rename_i wa
   obtain⟨rfl,rfl⟩:=aaa (ZZ e);obtain rfl:es=[]:=by simpa using wa
   exact Zero.Gg H ha rfl (by simp) (.inl ⟨rfl,rfl,rfl⟩)
  ·rename_i wa
   split at e
   ·rename_i hc
    obtain⟨rfl,rfl⟩:=aaa (ZZ e);exact Zero.Gg H ha hc.1 hc.2 (.inr ⟨by simpa using wa,rfl,rfl⟩)
   ·cases e
 ·cases e
theorem xe:fT C where
 enters f hf bJ:=Iu f (λh=>hf h) bJ
 rA f g hh:=by
  have hm:jB f=.rA g:=hh;unfold jB at hm
  repeat' split at hm
  all_goals cases hm
 cz f g hh:=by
  have hm:jB f=.cz g:=hh;unfold jB at hm
  split at hm
  ·cases hm
  split at hm
  ·cases hm
  split at hm
  ·rename_i hf
   subst hf;obtain rfl:=Mode.cz.inj hm;exact Zero.E1
  split at hm
  ·rename_i hf
   subst hf;obtain rfl:=Mode.cz.inj hm;exact Zero.EA
  split at hm
  ·rename_i hf
   subst hf;obtain rfl:=Mode.cz.inj hm;exact E3
  split at hm
  ·rename_i hf
   subst hf;obtain rfl:=Mode.cz.inj hm;exact E4
  repeat' split at hm
  all_goals cases hm
 ext:=Tx
end Go.Pm
namespace Go.Pm
open Go.Proofs Go.Shelf
def xy:Go.Shelf.Ren:=⟨λ|6=>161 |15=>208 |14=>207 |28=>266 |29=>267 |20=>258 |21=>259 |22=>260 |23=>261 |24=>262 |25=>263 |26=>264 |27=>265 |46=>313 |47=>314 |48=>315 |49=>316 |50=>317 |57=>355 |n=>n,λ|22=>31 |24=>33 |25=>75 |3=>3 |39=>190 |0=>0 |53=>223 |55=>202 |4=>4 |46=>217 |45=>216 |50=>164 |5=>5 |9=>9 |66=>246 |70=>154 |76=>285 |77=>286 |n=>n,λ|n=>n⟩
theorem WL:Go.Proofs.SlLaysF0.n6 Tryz.prog xy:={
 mixed:=by kernel_rfl
 f6:=⟨Tryz.f161.name,by decide,Tryz.func161.trans (congrArg some (by kernel_rfl))⟩
 f14:=⟨Tryz.f207.name,by decide,Tryz.func207.trans (congrArg some (by kernel_rfl))⟩
 f15:=Tryz.func208.trans (congrArg some (by kernel_rfl))
 f20:=⟨Tryz.f258.name,by decide,Tryz.func258.trans (congrArg some (by kernel_rfl))⟩
 f21:=⟨Tryz.f259.name,by decide,Tryz.func259.trans (congrArg some (by kernel_rfl))⟩
 f22:=⟨Tryz.f260.name,by decide,Tryz.func260.trans (congrArg some (by kernel_rfl))⟩
 f23:=⟨Tryz.f261.name,by decide,Tryz.func261.trans (congrArg some (by kernel_rfl))⟩
 f24:=⟨Tryz.f262.name,by decide,Tryz.func262.trans (congrArg some (by kernel_rfl))⟩
 f25:=⟨Tryz.f263.name,by decide,Tryz.func263.trans (congrArg some (by kernel_rfl))⟩
 f26:=⟨Tryz.f264.name,by decide,Tryz.func264.trans (congrArg some (by kernel_rfl))⟩
 f27:=⟨Tryz.f265.name,by decide,Tryz.func265.trans (congrArg some (by kernel_rfl))⟩
 f28:=Tryz.func266.trans (congrArg some (by kernel_rfl))
 f29:=Tryz.func267.trans (congrArg some (by kernel_rfl))
 f46:=⟨Tryz.f313.name,by decide,Tryz.func313.trans (congrArg some (by kernel_rfl))⟩
 f47:=Tryz.func314.trans (congrArg some (by kernel_rfl))
 f48:=Tryz.func315.trans (congrArg some (by kernel_rfl))
 f49:=⟨Tryz.f316.name,by decide,Tryz.func316.trans (congrArg some (by kernel_rfl))⟩
 f50:=⟨Tryz.f317.name,by decide,Tryz.func317.trans (congrArg some (by kernel_rfl))⟩
 f57:=⟨Tryz.f355.name,by decide,Tryz.func355.trans (congrArg some (by kernel_rfl))⟩
 t0:=Tryz.underlying0
 a0:=Tryz.isAgg0
 z0:=Tryz.sizeOf0
 v0:=Tryz.zeroValue0
 t3:=Tryz.underlying3
 a3:=Tryz.isAgg3
 z3:=Tryz.sizeOf3
 v3:=Tryz.zeroValue3
 t4:=Tryz.underlying4
 a4:=Tryz.isAgg4
 z4:=Tryz.sizeOf4
 v4:=Tryz.zeroValue4
 t5:=Tryz.underlying5
 a5:=Tryz.isAgg5
 z5:=Tryz.sizeOf5
 v5:=Tryz.zeroValue5
 t9:=Tryz.underlying9
 a9:=Tryz.isAgg9
 z9:=Tryz.sizeOf9
 v9:=Tryz.zeroValue9
 t22:=Tryz.underlying31
 a22:=Tryz.isAgg31
 z22:=Tryz.sizeOf31
 v22:=Tryz.zeroValue31
 t25:=Tryz.underlying75
 a25:=Tryz.isAgg75
 z25:=Tryz.sizeOf75
 v25:=Tryz.zeroValue75
 t39:=Tryz.underlying190
 a39:=Tryz.isAgg190
 z39:=Tryz.sizeOf190
 v39:=Tryz.zeroValue190
 t45:=Tryz.underlying216
 a45:=Tryz.isAgg216
 z45:=Tryz.sizeOf216
 v45:=Tryz.zeroValue216
 t46:=Tryz.underlying217
 a46:=Tryz.isAgg217
 z46:=Tryz.sizeOf217
 v46:=Tryz.zeroValue217
 t50:=Tryz.underlying164
 a50:=Tryz.isAgg164
 z50:=Tryz.sizeOf164
 v50:=Tryz.zeroValue164
 t53:=Tryz.underlying223
 a53:=Tryz.isAgg223
 z53:=Tryz.sizeOf223
 v53:=Tryz.zeroValue223
 t55:=Tryz.underlying202
 a55:=Tryz.isAgg202
 z55:=Tryz.sizeOf202
 v55:=Tryz.zeroValue202
 t66:=Tryz.underlying246
 a66:=Tryz.isAgg246
 z66:=Tryz.sizeOf246
 v66:=Tryz.zeroValue246
 t70:=Tryz.underlying154
 a70:=Tryz.isAgg154
 z70:=Tryz.sizeOf154
 v70:=Tryz.zeroValue154
 t76:=Tryz.underlying285
 a76:=Tryz.isAgg285
 z76:=Tryz.sizeOf285
 v76:=Tryz.zeroValue285
 t77:=Tryz.underlying286
 a77:=Tryz.isAgg286
 z77:=Tryz.sizeOf286
 v77:=Tryz.zeroValue286}
theorem WM:∀w,(isAgg (xy.t 24)).run Tryz.prog w=.ok true w:=Tryz.isAgg33
theorem WN:∀w,(Go.sizeOf (xy.t 24)).run Tryz.prog w=.ok 4 w:=Tryz.sizeOf33
end Go.Pm
namespace Go.Pm
open Go.Proofs Go.Sort
set_option maxRecDepth 20000
theorem MN(l:List Tm):ae l=l.map enc:=by
 induction l with
 |nil=>rfl
 |cons t l ih=>simp only[ae,aah,ih]
theorem DA{l:List Tm}{i:Nat}{t:Tm}(h:l[i]?=some t):(ae l)[i]?=some (enc t):=by rw[MN,aaj,h];rfl
mutual
def I':PV->Option Tm
 | .agg [.int .i64 k,.str s,.int .i64 o,.aa false l]=>match uB l with
  |some l'=>some (.mk k s o l')
  |none=>none
 |_=>none
def uB:List PV->Option (List Tm)
 |[]=>some []
 |x::l=>match I' x with
  |some t=>match uB l with
   |some ts=>some (t::ts)
   |none=>none
  |none=>none
end
mutual
theorem MO:∀t:Tm,I' (enc t)=some t
 | .mk k s o l=>by simp only[enc,I',rn l]
theorem rn:∀l:List Tm,uB (ae l)=some l
 |[]=>rfl
 |t::l=>by simp only[ae,uB,MO t,rn l]
end
mutual
theorem MP:∀(p:PV) {t:Tm},I' p=some t->enc t=p
 | .agg [.int .i64 k,.str s,.int .i64 o,.aa false l],t,h=>by
  simp only[I']at h
  split at h
  ·rename_i l' hl
   obtain rfl:=ZZ h;simp only[enc,nU l hl]
  ·cases h
 |p,t,h=>by
  unfold I' at h
  split at h
  ·rename_i k s o l
   split at h
   ·rename_i l' hl
    obtain rfl:=ZZ h;simp only[enc,nU l hl]
   ·cases h
  ·cases h
theorem nU:∀(es:List PV) {ts:List Tm},uB es=some ts->ae ts=es
 |[],ts,h=>by simp only[uB,aax]at h;subst h;rfl
 |x::l,ts,h=>by
  simp only[uB]at h
  split at h
  ·rename_i t ht
   split at h
   ·rename_i ts' dT
    obtain rfl:=ZZ h;simp only[ae,MP x ht,nU l dT]
   ·cases h
  ·cases h
end
theorem qF{a b c:Tm}(h1:aU a b<=0)(h2:aU b c<=0):aU a c<=0:=by
 rcases Int.lt_or_eq_of_le h1 with h1 |h1
 ·rcases Int.lt_or_eq_of_le h2 with h2 |h2
  ·exact Int.le_of_lt (dR h1 h2)
  ·rw[<-dx h2];exact Int.le_of_lt h1
 ·rw[dx h1];exact h2
def FG(t:Tm):List Tm->List Tm
 |[]=>[t]
 |x::r=>if aU t x<=0 then t::x::r else x::FG t r
def eg:List Tm->List Tm
 |[]=>[]
 |t::r=>FG t (eg r)
theorem tO(t:Tm):∀l:List Tm,(FG t l).Perm (t::l)
 |[]=>.refl _
 |x::r=>by
  unfold FG
  split
  ·exact .refl _
  ·exact((tO t r).cons x).trans (.swap t x r)
theorem fh:∀ts:List Tm,(eg ts).Perm ts
 |[]=>.refl _
 |t::r=>(tO t (eg r)).trans ((fh r).cons t)
theorem DB(t:Tm):∀{l:List Tm},(l.Pairwise λx y=>aU x y<=0)->(FG t l).Pairwise λx y=>aU x y<=0
 |[],_=>by simp[FG]
 |x::r,h=>by
  unfold FG;have h2:=aal.1 h
  split
  ·rename_i hc
   refine aal.2 ⟨λy hy=>?_,h⟩;rcases Z'.1 hy with rfl |hy
   ·exact hc
   ·exact qF hc (h2.1 y hy)
  ·rename_i hc
   have ng:=ee t x;refine aal.2 ⟨λy hy=>?_,DB t h2.2⟩;rcases Z'.1 ((tO t r).mem_iff.1 hy)with rfl |hy
   ·omega
   ·exact h2.1 y hy
theorem pV:∀ts:List Tm,(eg ts).Pairwise λx y=>aU x y<=0
 |[]=>.nil
 |t::r=>DB t (pV r)
theorem DC{a b:List Tm}(hp:a.Perm b)(ha:a.Pairwise λx y=>aU x y<=0)(hb:b.Pairwise λx y=>aU x y<=0):a=b:=
 hp.eq_of_pairwise (λx y _ _ h1 h2=>dx (by have:=ee x y;omega)) ha hb
def pD(args:List PV)(h:ab):Option (PV×ab):=
 match args with
 |[.aa true [],.fn _ []]=>some (.cx [],h)
 |[.ak id ep 0 len,.fn g []]=>match getM h id ep with
  |some o=>match uB o.es with
   |some ts=>if g=52/\o.mu=.m/\o.bC=4/\len=o.es.length/\len<1000000000/\(ts.all λt=>decide (ay t<1000000000))=true then
     some (.cx [],h.set id {o with es:=ae (eg ts)})else none
   |none=>none
  |none=>none
 |_=>none
theorem lV{h:ab}{id ep:Nat}{ts:List Tm}(e:h[id]?=some ⟨.m,ep,4,ae ts⟩)(hn:ts.length<1000000000)(hb:∀t∈ts,ay t<1000000000):
  pD [.ak id ep 0 ts.length,.fn 52 []] h=some (.cx [],h.set id ⟨.m,ep,4,ae (eg ts)⟩):=by
 have hg:getM h id ep=some ⟨.m,ep,4,ae ts⟩:=bg e rfl (by simp);have hl:=aj ts;simp only[pD,hg,rn];rw[if_pos ⟨trivial,trivial,trivial,hl.symm,hn,by simpa using hb⟩]
def TV(w:World)(A:Nat->Prop):Type:={x:Tm×List Value // x.2.length=4/\(∀v∈x.2,v.oneCell'=true)/\ay x.1<1000000000/\cj w A (.agg x.2.toArray) (enc x.1)}
instance(w:World)(A:Nat->Prop):Inhabited (TV w A):=
 ⟨⟨(.mk 0 ByteArray.empty 0 [],[.int .i64 0,.string ByteArray.empty,.int .i64 0,.slice none 0 0]),rfl,by simp[Value.oneCell'],by simp[ay,bF],.agg _ _ rfl (λj hj=>by
  match j,hj with
  |0,_=>exact .int _ _
  |1,_=>exact .str _
  |2,_=>exact .int _ _
  |3,_=>exact .gF _ _ _ (λh=>by cases h)
  |j+4,hj=>simp at hj;omega)⟩⟩
theorem xZ{α:Type}[Inhabited α]{R:Nat->α->Prop}:∀n:Nat,(∀i,i<n->∃x,R i x)->∃d:Array α,d.size=n/\∀i,i<n->R i d[i]!
 |0,_=>⟨#[],rfl,λi hi=>by omega⟩
 |n+1,h=>by
  obtain⟨d,d1,d2⟩:=xZ n (λi hi=>h i (by omega));obtain⟨x,hx⟩:=h n (by omega);refine⟨d.push x,by simp[d1],λi hi=>?_⟩
  by_cases jr:i=n
  ·subst jr;have:(d.push x)[i]! =x:=by simp[<-d1]
   rw[this];exact hx
  ·have:(d.push x)[i]! =d[i]!:=by
    have cI:i<d.size:=by omega
    simp[Array.getElem!_eq_getD,Array.getD,Array.getElem_push,cI,Nat.lt_succ_of_lt cI]
   rw[this];exact d2 i (by omega)
theorem Xa(w:World)(A:Nat->Prop):SWO (ltOf λx y:TV w A=>aU x.1.1 y.1.1) where
 irrefl x:=by simp[ltOf,dI]
 trans x y z h1 h2:=by
  simp only[ltOf,decide_eq_true_eq]at *;exact dR h1 h2
 ntrans x y z h1 h2:=by
  simp only[ltOf,decide_eq_false_iff_not,Int.not_lt]at *;have a:=ee x.1.1 y.1.1;have b:=ee y.1.1 z.1.1;have c:=ee x.1.1 z.1.1;have:=qF (a:=z.1.1) (b:=y.1.1) (c:=x.1.1) (by omega) (by omega);omega
theorem pJ{α:Type}[Inhabited α](enc:α->List Value)(k:Nat)(w:World)(blk off m:Nat)(dk:Array α)(os:Array Obj)(b:Nat)(hb:b<w.heap.size)(bJ:b≠blk):(sortWorldK enc k w blk off m dk os).heap[b]?=w.heap[b]?:=by
 unfold sortWorldK putRowK putRow mapBlock;rw[heap_grow_old _ _ (by simpa[ahead]using hb)];show(Array.modify w.heap blk _)[b]?=_;rw[abP,if_neg (aaR bJ)]
theorem yQ{α:Type}[Inhabited α](enc:α->List Value)(k:Nat)(w:World)(blk off m:Nat)(dk:Array α)(os:Array Obj){cs:Array Value}{T:TypeId}{fr:Nat×Nat}(hb:w.heap[blk]?=some (.cells cs T fr)):
  (sortWorldK enc k w blk off m dk os).heap[blk]?=some (.cells (putCells id off (flatK enc k dk) cs) T fr):=by
 have cI:blk<w.heap.size:=by
  rcases aaD blk w.heap.size with h |h
  ·exact h
  ·rw[abJ h]at hb;cases hb
 unfold sortWorldK putRowK putRow mapBlock;rw[heap_grow_old _ _ (by simpa[ahead]using cI)];show(Array.modify w.heap blk _)[blk]?=_;rw[abP,if_pos rfl,hb]
 rfl
theorem uV{α:Type}[Inhabited α](enc:α->List Value)(k:Nat)(w:World)(blk off m:Nat)(dk:Array α)(os:Array Obj):w.heap.size<=(sortWorldK enc k w blk off m dk os).heap.size:=by
 unfold sortWorldK putRowK putRow mapBlock;rw[size_grow];simp[ahead]
theorem Bo{α:Type}[Inhabited α]{enc:α->List Value}{k:Nat}{dk:Array α}{cs:Array Value}{i j:Nat}(hi:i<dk.size)(hj:j<k)(hs:dk.size * k<=cs.size)(hk:∀x,(enc x).length=k):
  (putCells id 0 (flatK enc k dk) cs)[i * k+j]?=(enc dk[i]!)[j]?:=by
 have lt:i * k+j<dk.size * k:=by
  have:=aaC k (show i+1<=dk.size from hi);rw[aaO,Nat.one_mul]at this;omega
 have e1:(i * k+j) / k=i:=(blk_iff k i _ (by omega)).1 ⟨by omega,by omega⟩;have e2:(i * k+j) % k=j:=by rw[Nat.mod_eq_sub_div_mul,e1];omega
 unfold putCells;rw[Array.getElem?_mapIdx,abb (show i * k+j<cs.size by omega)];simp only[aab,abm,true_and,aan,size_flatK,if_pos lt,id,Nat.sub_zero];rw[get_flatK _ _ _ _ lt,e1,e2,Z3 (by rw[hk];exact hj)];rw[getElem!_pos _ j (by rw[hk];exact hj)]
variable{w:World}{F:Nat->Prop}{β:List (Nat×Nat)}{h:ab}
theorem Xb{cs:Array Value}{t:Tm}{i:Nat}(hb:ay t<1000000000)(q2:∀(j:Nat) (p:PV),(cells (enc t))[j]?=some p->∃v:Value,cs[i * 4+j]?=some v/\aD w (Av F h β) β h v p):
  ∃x:TV w (Av F h β),x.1.1=t/\∀j,j<4->cs[i * 4+j]?=x.1.2[j]?:=by
 obtain⟨k,s,o,l⟩:=t;obtain⟨a,a1,a2⟩:=q2 0 (.int .i64 k) rfl;obtain⟨b,b1,b2⟩:=q2 1 (.str s) rfl;obtain⟨c,c1,c2⟩:=q2 2 (.int .i64 o) rfl;obtain⟨d,d1,d2⟩:=q2 3 (.aa false (ae l)) rfl;have a3:=a2.Hu rfl;have b3:=b2.Hu rfl;have c3:=c2.Hu rfl;have d3:=d2.fv;have o4:d.oneCell'=true:=by obtain⟨ad,cap,rfl,_⟩:=d3.jY;rfl
 refine⟨⟨(.mk k s o l,[a,b,c,d]),rfl,?_,hb,.agg [a,b,c,d] _ rfl (λj hj=>?_)⟩,rfl,λj hj=>?_⟩
 ·intro v hv
  simp only[Z',aa7,or_false]at hv;rcases hv with rfl |rfl |rfl |rfl
  ·cases a3;rfl
  ·cases b3;rfl
  ·cases c3;rfl
  ·exact o4
 ·match j,hj with
  |0,_=>exact a3
  |1,_=>exact b3
  |2,_=>exact c3
  |3,_=>exact d3
  |j+4,hj=>simp at hj;omega
 ·match j,hj with
  |0,_=>exact a1
  |1,_=>exact b1
  |2,_=>exact c1
  |3,_=>exact d1
  |j+4,hj=>omega
theorem L2.two{R:Value->PV->Prop}{vs:List Value}{a b:PV}(h:L2 R vs [a,b]):∃x y,vs=[x,y]/\R x a/\R y b:=by
 obtain⟨h1,h2⟩:=h
 match vs,h1 with
 |[x,y],_=>exact⟨x,y,rfl,h2 0 (by simp),h2 1 (by simp)⟩
theorem FH(args:Array Value)(w:World):(callFunc 52 args).run C.P w=.ok (.enter 52 args) w:=enters_of Tryz.func52 (by kernel_rfl) rfl args w
theorem Ja{vs:List Value}{id ep:Nat}{o:au}{ts:List Tm}(H:aZ w F β h)(ha:L2 (aD w (Av F h β) β h) vs [.ak id ep 0 o.es.length,.fn 52 []])(hg:getM h id ep=some o)(hm:o.mu=.m)(hz:o.bC=4)
  (hn:o.es.length<1000000000) (iU:ae ts=o.es) (NN:∀t∈ts,ay t<1000000000):mh C.P 2 w F β h 161 vs (.cx []) (h.set id {o with es:=ae (eg ts)}):=by
 obtain⟨g1,g2,g3⟩:=getM_some hg;obtain⟨bc,nh⟩:=dn H.len g1;obtain⟨v0,v1,rfl,h0,h1⟩:=ha.two;obtain⟨_,_,m3⟩:=h0.dL;obtain⟨cap,c1,c2⟩:=m3 o bc g1 nh g3 g2 (by omega);rw[abD]at c1;obtain⟨us,d1,d2,_⟩:=h1.Ei;obtain rfl:us=[]:=aaf d2;subst c1 d1;obtain⟨T,cs,k1,k2,k3,k4,k5⟩:=(H.obj id o bc g1 nh g3).c (by omega);have hblk:bc.1<w.heap.size:=Mb.lt H ⟨id,o,bc,g1,nh,hm,rfl⟩;have hav:Av F h β bc.1:=.inr ⟨id,o,bc,g1,nh,hm,rfl⟩;have hlen:ts.length=o.es.length:=by rw[<-iU,aj]
 have hcs:ts.length * 4<=cs.size:=by rw[hz]at k3;omega
 obtain⟨d,dl,dh⟩:=xZ (α:=TV w (Av F h β)) (R:=λi x=>ts[i]?=some x.1.1/\∀j,j<4->cs[i * 4+j]?=x.1.2[j]?) ts.length (λi hi=>by
  have ht:ts[i]?=some ts[i]:=Z3 hi;obtain⟨_,q2⟩:=k5 i (enc ts[i]) (by rw[<-iU];exact DA ht);rw[hz]at q2;obtain⟨x,x1,x2⟩:=Xb (NN _ (aay hi)) q2;exact⟨x,by rw[ht,x1],x2⟩)
 have hk:∀x:TV w (Av F h β),x.1.2.length=4:=λx=>x.2.1
 have hH:HoldsK (λx:TV w (Av F h β)=>x.1.2) 4 w bc.1 0 d:=by
  intro j hj
  rw[size_flatK]at hj;have hj4:j / 4<d.size:=by omega
  obtain⟨_,r2⟩:=dh (j / 4) (by omega);have:=r2 (j % 4) (by omega);rw[show j / 4 * 4+j % 4=j by omega]at this;refine⟨?_,by simp[World.frozen?,k1]⟩;rw[get_flatK _ _ _ _ hj];have hl:j % 4<(d[j / 4]!).1.2.length:=by rw[hk];omega
  rw[Z3 hl]at this;simp only[World.cell?,k1,aan,this];rw[getElem!_pos (d[j / 4]!).1.2 (j % 4) hl]
  rfl
 have Zw:CmpLays C.P 52 #[] (λx:TV w (Av F h β)=>x.1.2) 4 (λx y=>aU x.1.1 y.1.1) bc.1 0 d.size w:=by
  intro m os dk hs x y
  obtain⟨n,hn⟩:=(dZ x.1.1 y.1.1 x.2.2.2.1 y.2.2.2.1).oC
  have up:∀(x:TV w (Av F h β)),cj (sortWorldK (λx:TV w (Av F h β)=>x.1.2) 4 w bc.1 0 m dk os) (λ_=>False) (.agg x.1.2.toArray) (enc x.1.1):=λx=>
   x.2.2.2.2.mono (λb hb Rq=>pJ _ _ _ _ _ _ _ _ b hb (λe=>Rq (e▸hav))) (λ_ _ _ hh=>hh)
  have qu:L2 (cj (sortWorldK (λx:TV w (Av F h β)=>x.1.2) 4 w bc.1 0 m dk os) (λ_=>False)) [.agg x.1.2.toArray,.agg y.1.2.toArray] [enc x.1.1,enc y.1.1]:=⟨rfl,λj hj=>by
   match j,hj with
   |0,_=>exact up x
   |1,_=>exact up y
   |j+2,hj=>simp at hj;omega⟩
  rw[Array.append_empty];refine(zV xe oH (.inl rfl) hn (λb hb=>hb.elim) qu).mono ?_;rintro e w' ⟨v,rfl,hv,OJ⟩
  cases hv
  exact⟨rfl,OJ.grow⟩
 have PE:=AnyQ.slices_SortFunc WL 4 WM WN (λx:TV w (Av F h β)=>x.1.2) hk (λx=>x.2.2.1) (λx y=>aU x.1.1 y.1.1) (Xa w _) 52 #[] bc.1 0 cap d w FH Zw hH hblk (by omega);rw[dl,hlen]at PE;refine PE.mono ?_;rintro e w' ⟨rfl,d',n,os,hp,hs,rfl⟩;rw[<-hlen,<-dl]at hp hs;have Zx:d'.size=d.size:=hp.1
 have hdt:d.toList.map (λx=>x.1.1)=ts:=by
  apply aa2
  intro i
  by_cases hi:i<ts.length
  ·rw[aaj,(dh i hi).1,aaw,abb (by omega),getElem!_pos d i (by omega)];rfl
  ·rw[aag (by simp;omega),aag (by omega)]
 have dT:d'.toList.map (λx=>x.1.1)=eg ts:=by
  refine DC ?_ ?_ (pV ts)
  ·have h3:=hp.2.2;rw[show d.extract 0 d.size=d by simp,show d'.extract 0 d.size=d' by rw[<-Zx];simp]at h3;refine(h3.map _).trans ?_;rw[hdt];exact(fh ts).symm
  ·rw[List.pairwise_map,List.pairwise_iff_getElem]
   intro i j hi hj Kz
   simp only[abl]at hi hj;have:=hs i j (abm _) Kz (by omega);rw[getElem!_pos d' i (by omega),getElem!_pos d' j (by omega)]at this;simp only[ltOf,decide_eq_false_iff_not,Int.not_lt]at this;have ng:=ee d'[i].1.1 d'[j].1.1;simp only[Array.getElem_toList];omega
 have cE:(ae (eg ts)).length=o.es.length:=by rw[aj,<-dT];simp;omega
 obtain⟨H',S'⟩:=H.set (w':=sortWorldK (λx:TV w (Av F h β)=>x.1.2) 4 w bc.1 0 n d' os) g1 nh hm T (putCells _root_.id 0 (flatK (λx:TV w (Av F h β)=>x.1.2) 4 d') cs) (ae (eg ts)) o.ep bc (uV _ _ _ _ _ _ _ _) (yQ _ _ _ _ _ _ _ _ k1)
  (λb hb bJ=>pJ _ _ _ _ _ _ _ _ b hb bJ) (.inl ⟨rfl,λ_=>cE⟩) (Z5 _) rfl rfl rfl (by rw[cE];exact k2) (by simpa[putCells]using k3) (λi e he=>by
   have hi:i<d'.size:=by have:=ag he;omega
   have AX:(eg ts)[i]?=some d'[i].1.1:=by rw[<-dT,aaj,aaw,abb hi];rfl
   rw[DA AX]at he;obtain rfl:=ZZ he;have sr:=d'[i].2.2.2.2;obtain⟨z1,z2⟩:=sr.cells;rw[hz]
   have dp:(cells (enc d'[i].1.1)).length=4:=by
    rw[<-z1];show d'[i].1.2.toArray.size=4;simpa using hk d'[i]
   refine⟨dp,λj p hp=>?_⟩;obtain⟨u,u1,u2⟩:=z2 j p hp;refine⟨u,?_,.val u2⟩;have hj:=ag hp;rw[Bo (enc:=λx:TV w (Av F h β)=>x.1.2) hi (by omega) (by omega) hk,getElem!_pos d' i hi];have u3:d'[i].1.2.toArray[j]?=some u:=u1;simpa using u3) (by show w.drawn<=w.drawn+n;omega)
 rw[xL nh]at H' S';exact⟨_,β,rfl,.val (.cx [] [] rfl (λj hj=>by simp at hj)),H',S',λhh=>by omega⟩
theorem Mt:fq C.P 161 pD:=by
 intro args h r h' e w F β vs H ha
 unfold pD at e
 split at e
 ·rename_i g
  obtain⟨rfl,rfl⟩:=aaa (ZZ e);obtain⟨v0,v1,rfl,h0,h1⟩:=ha.two;obtain⟨ad,cap,rfl,_,_⟩:=h0.fv.jY;have PE:=AnyF.slices_SortFunc_none WL ad cap v1 w;refine PE.mono ?_;rintro e w' ⟨rfl,rfl⟩;exact⟨_,β,rfl,.val (.cx [] [] rfl (λj hj=>by simp at hj)),H,dS.refl w' h β,λhh=>by omega⟩
 ·rename_i id ep len g
  split at e
  ·rename_i o hg
   split at e
   ·rename_i ts hd
    split at e
    ·rename_i hc
     obtain⟨rfl,rfl⟩:=aaa (ZZ e);obtain⟨rfl,c1,c2,rfl,c4,c5⟩:=hc;exact Ja H ha hg c1 c2 c4 (nU _ hd) (by simpa using c5)
    ·cases e
   ·cases e
  ·cases e
 ·cases e
end Go.Pm
namespace Go.Pm
def z7(md md':FuncId->Mode):Prop:=∀f,md f=.no\/md f=md' f
variable{P:Program}{md md':FuncId->Mode}{run run':hZ}
def lJ(P:Program)(md md':FuncId->Mode)(run run':hZ):Prop:=∀(lv:Nat) (f:FuncId) (args:List PV) (h:ab) (x:PV×ab),dg ⟨P,md⟩ run lv f args h=some x->dg ⟨P,md'⟩ run' lv f args h=some x
theorem M9(M:z7 md md')(L:gZ run run'){lv:Nat}{f:FuncId}{args:List PV}{h:ab}{x:PV×ab}(e:dg ⟨P,md⟩ run lv f args h=some x):dg ⟨P,md'⟩ run' lv f args h=some x:=by
 unfold dg at e ⊢;rcases M f with hz |hz
 ·simp only[hz]at e
  cases e
 simp only[<-hz]
 cases hm:md f <;>simp only[hm]at e ⊢
 ·cases e
 ·exact ml L e
 ·exact mn L e
 ·exact e
 ·exact jR (λ_ _ _ x=>x) e
 ·exact e
theorem Ji(M:z7 md md')(L:gZ run run'):lJ P md md' run run':=λlv f args h x e=>M9 M L e
theorem mZ(M:lJ P md md' run run'){lv:Nat}{op:Op}{ρ:Nat->PV}{h:ab}{x:PV×ab}(e:ar ⟨P,md⟩ run lv op ρ h=some x):ar ⟨P,md'⟩ run' lv op ρ h=some x:=by
 unfold ar at e ⊢
 split at e
 ·split at e
  ·unfold fS at e ⊢
   split at e
   ·exact M _ _ _ _ _ e
   ·exact M _ _ _ _ _ e
   ·cases e
  ·exact e
  ·cases e
 ·exact e
theorem Jj(M:lJ P md md' run run'){ops:Array Oper}{o:Oper}{s s':St}(e:fF ⟨P,md⟩ run ops o s=some s'):fF ⟨P,md'⟩ run' ops o s=some s':=by
 unfold fF at e ⊢
 split at e
 ·cases hr:ar ⟨P,md⟩ run 2 o.op s.ρ s.h with
  |none=>rw[hr]at e;cases e
  |some y=>rw[hr]at e;rw[mZ M hr];exact e
 ·exact e
 ·cases e
theorem x4(M:lJ P md md' run run'){ops:Array Oper}:∀{l:List Oper} {s s':St},dC ⟨P,md⟩ run ops l s=some s'->dC ⟨P,md'⟩ run' ops l s=some s'
 |[],s,s',e=>e
 |o::l,s,s',e=>by
  simp only[dC]at e ⊢
  cases hr:fF ⟨P,md⟩ run ops o s with
  |none=>rw[hr]at e;cases e
  |some y=>
   rw[hr]at e;rw[Jj M hr];exact x4 M e
theorem FO(M:lJ P md md' run run'){ops:Array Oper}{b:List Nat}{i:Nat}{o:Oper}{s s':uZ}(e:ct ⟨P,md⟩ run ops b i o s=some s'):ct ⟨P,md'⟩ run' ops b i o s=some s':=by
 unfold ct at e ⊢
 split at e
 ·split at e
  ·rename_i hh
   rw[if_pos hh]
   cases hr:ar ⟨P,md⟩ run 1 o.op s.s.ρ s.s.h with
   |none=>rw[hr]at e;cases e
   |some y=>rw[hr]at e;rw[mZ M hr];exact e
  ·rename_i hh
   rw[if_neg hh]
   split at e
   ·rename_i hl
    rw[if_pos hl]
    cases hr:ar ⟨P,md⟩ run 2 o.op s.s.ρ s.s.h with
    |none=>rw[hr]at e;cases e
    |some y=>rw[hr]at e;rw[mZ M hr];exact e
   ·rename_i hl
    rw[if_neg hl];simp only at e ⊢
    split at e
    ·rename_i hc
     rw[if_pos hc]
     cases hr:ar ⟨P,md⟩ run 1 o.op s.s.ρ (cr (b.getD i 0).testBit s.L0 s.own s.s.h)with
     |none=>rw[hr]at e;cases e
     |some y=>rw[hr]at e;rw[mZ M hr];exact e
    ·cases e
 ·exact e
 ·cases e
theorem uD(M:lJ P md md' run run'){ops:Array Oper}{b:List Nat}:∀{l:List Oper} {i:Nat} {s s':uZ},dE ⟨P,md⟩ run ops b i l s=some s'->dE ⟨P,md'⟩ run' ops b i l s=some s'
 |[],i,s,s',e=>e
 |o::l,i,s,s',e=>by
  simp only[dE]at e ⊢
  cases hr:ct ⟨P,md⟩ run ops b i o s with
  |none=>rw[hr]at e;cases e
  |some y=>
   rw[hr]at e;rw[FO M hr];exact uD M e
theorem FP(M:lJ P md md' run run'){ops:Array Oper}{b:List Nat}{h0:ab}{i:Nat}{o:Oper}{s s':St}(e:cT ⟨P,md⟩ run ops b h0 i o s=some s'):cT ⟨P,md'⟩ run' ops b h0 i o s=some s':=by
 unfold cT at e ⊢
 split at e
 ·split at e
  ·rename_i hh
   rw[if_pos hh]
   cases hr:ar ⟨P,md⟩ run 1 o.op s.ρ s.h with
   |none=>rw[hr]at e;cases e
   |some y=>rw[hr]at e;rw[mZ M hr];exact e
  ·rename_i hh
   rw[if_neg hh]
   split at e
   ·rename_i hl
    rw[if_pos hl];exact e
   ·rename_i hl
    rw[if_neg hl]
    cases hs:(if jz o.op then aC P 1 o.op s.ρ s.h else none)with
    |some y=>rw[hs]at e;exact e
    |none=>
     rw[hs]at e;simp only at e ⊢
     split at e
     ·rename_i hk
      rw[if_pos hk]
      cases hr:ar ⟨P,md⟩ run 2 o.op s.ρ s.h with
      |none=>rw[hr]at e;cases e
      |some y=>rw[hr]at e;rw[mZ M hr];exact e
     ·cases e
 ·exact e
 ·cases e
theorem uE(M:lJ P md md' run run'){ops:Array Oper}{b:List Nat}{h0:ab}:∀{l:List Oper} {i:Nat} {s s':St},cm ⟨P,md⟩ run ops b h0 i l s=some s'->cm ⟨P,md'⟩ run' ops b h0 i l s=some s'
 |[],i,s,s',e=>e
 |o::l,i,s,s',e=>by
  simp only[cm]at e ⊢
  cases hr:cT ⟨P,md⟩ run ops b h0 i o s with
  |none=>rw[hr]at e;cases e
  |some y=>
   rw[hr]at e;rw[FP M hr];exact uE M e
theorem M'(M:lJ P md md' run run'){ops:Array Oper}{s s':St}(e:iS ⟨P,md⟩ run ops s=some s'):iS ⟨P,md'⟩ run' ops s=some s':=by
 unfold iS at e ⊢
 cases hr:cm ⟨P,md⟩ run ops (before ops) (cA (gq ops (before ops) s.ρ) s.h) 0 ops.toList ⟨s.ρ,cA (gq ops (before ops) s.ρ) s.h⟩with
 |none=>rw[hr]at e;cases e
 |some y=>rw[hr]at e;rw[uE M hr];exact e
theorem Na(M:lJ P md md' run run'){n m:Nat}(Ks:n<=m):∀(c:Code) {s:St} {x:Ex×St},bO ⟨P,md⟩ run n c s=some x->bO ⟨P,md'⟩ run' m c s=some x:=by
 intro c
 induction c with
 |region id ops draw=>
  intro s x e
  simp only[bO]at e ⊢
  cases draw with
  |false=>
   simp only[aad,if_false]at e ⊢
   cases hr:dC ⟨P,md⟩ run ops ops.toList s with
   |none=>rw[hr]at e;cases e
   |some y=>rw[hr]at e;rw[x4 M hr];exact e
  |true=>
   simp only[if_true]at e ⊢
   by_cases hk:rC ops=true
   ·simp only[hk,if_true]at e ⊢
    cases hr:iS ⟨P,md⟩ run ops s with
    |none=>rw[hr]at e;cases e
    |some y=>rw[hr]at e;rw[M' M hr];exact e
   ·simp only[hk]at e ⊢
    cases hr:dE ⟨P,md⟩ run ops (before ops) 0 ops.toList ⟨s,s.h.length,[]⟩with
    |none=>rw[hr]at e;simp at e
    |some y=>rw[hr]at e;rw[uD M hr];exact e
 |seq a b iha ihb=>
  intro s x e
  simp only[bO]at e ⊢
  cases hr:bO ⟨P,md⟩ run n a s with
  |none=>rw[hr]at e;cases e
  |some y=>
   rw[hr]at e;rw[iha hr];obtain⟨ex,s'⟩:=y
   cases ex with
   |normal=>exact ihb e
   |exit id=>exact e
   |ret=>exact e
 |cond c a b iha ihb=>
  intro s x e
  simp only[bO]at e ⊢
  split at e
  ·exact iha e
  ·exact ihb e
  ·cases e
 |block id c ih=>
  intro s x e
  simp only[bO]at e ⊢
  cases hr:bO ⟨P,md⟩ run n c s with
  |none=>rw[hr]at e;cases e
  |some y=>rw[hr]at e;rw[ih hr];exact e
 |loop c ih=>
  intro s x e
  simp only[bO]at e ⊢;exact pS (λs x=>ih) Ks e
 |scope c ih=>
  intro s x e
  simp only[bO]at e ⊢;exact ih e
 |_=>
  intro s x e
  first
   |exact e
   |(simp[bO]at e;done)
   |(simp only[bO]at e ⊢;exact e)
theorem Dc(M:lJ P md md' run run'){n m:Nat}(Ks:n<=m):gZ (oB ⟨P,md⟩ run n) (oB ⟨P,md'⟩ run' m):=by
 intro f args h x e
 unfold oB at e ⊢
 cases hf:P.funcs[f]? with
 |none=>rw[hf]at e;cases e
 |some fn=>
  rw[hf]at e;simp only at e ⊢
  cases hb:fn.body with
  |none=>rw[hb]at e;cases e
  |some c=>
   rw[hb]at e;simp only at e ⊢
   cases hr:bO ⟨P,md⟩ run n c ⟨my args,h⟩with
   |none=>rw[hr]at e;cases e
   |some y=>rw[hr]at e;rw[Na M Ks c hr];exact e
theorem Br(M:z7 md md'):∀n,gZ (fe ⟨P,md⟩ n) (fe ⟨P,md'⟩ n)
 |0=>λf args h x e=>by cases e
 |n+1=>Dc (Ji M (Br M n)) (Z5 n)
theorem ax.up(M:z7 md md'){f:FuncId}{args:List PV}{h:ab}{Q:PV->ab->Prop}(a:ax ⟨P,md⟩ f args h Q):ax ⟨P,md'⟩ f args h Q:=by
 obtain⟨r,h',q,n0,hn⟩:=a;exact⟨r,h',q,n0,λn h1=>Br M n _ _ _ _ (hn n h1)⟩
theorem aO.up(M:z7 md md'){f:FuncId}{args:List PV}{r:PV}(a:aO ⟨P,md⟩ f args r):aO ⟨P,md'⟩ f args r:=by
 obtain⟨n0,hn⟩:=a;refine⟨n0,λn h1=>?_⟩;obtain⟨r0,hc,r1,e1,e2⟩:=hn n h1;exact⟨r0,hc,r1,Br M n _ _ _ _ e1,e2⟩
end Go.Pm
namespace Go.Pm
open Go.Proofs
open Go.Pm.Zero (kE jh)
attribute [local irreducible] aE az aI aJ Ev ah ai ax aW
variable{w:World}{F:Nat->Prop}{β:List (Nat×Nat)}{h:ab}
namespace qA
set_option maxRecDepth 100000
set_option maxHeartbeats 4000000
noncomputable abbrev T6:lL C0.P:=Zero.T6
theorem tC{h:ab}{fl:Bool}{e:PV}(he:kc 4 e=true):ax C0 215 [.aa true [],.int .i64 0,.aa fl [e]] h (λr h'=>r=.ak h.length 0 0 1/\h'=h++[⟨.m,0,4,[e]⟩]):=by
 refine ax.dJ Tryz.func215 rfl ?_;have hu:C0.P.underlying 132=some (.slice 33):=bp (T6.cU 132 _ rfl);have yg:([e]:List PV).length=1:=rfl;refine wXD ?_;apply R.slice
 ·exact rfl
 ·exact rfl
 ·exact rfl
 ·exact rfl
 ·exact zN hu (T6.dT 33 4 rfl)
 refine wXN (λhc hc=>?_) λhc hc=>?_
 all_goals try(exfalso;revert hc;decide)
 all_goals(
  apply R.iZ T6;exact rfl;exact rfl;exact rfl;exact rfl;exact rfl;exact rfl;exact rfl;exact(by decide);exact rfl;exact rfl;exact sc he;exact(by simp);exact(by show 1<_;decide);refine wXD ?_;exact⟨rfl,rfl⟩)
theorem tD{h:ab}{fl:Bool}{e:PV}{id ep len:Nat}{o:au}(he:kc 4 e=true)(hg:getM h id ep=some o)(hm:o.mu=.m)(hz:o.bC=4)(hle:len<=o.es.length)(hn:len<100000000):
  ax C0 215 [.ak id ep 0 len,.int .i64 (len:Int),.aa fl [e]] h (λr h'=>r=.ak id (ep+1) 0 (len+1)/\h'=h.set id {o with ep:=ep+1,es:=o.es.take len++[e]}):=by
 refine ax.dJ Tryz.func215 rfl ?_;have hu:C0.P.underlying 132=some (.slice 33):=bp (T6.cU 132 _ rfl);have yg:([e]:List PV).length=1:=rfl;have gv:cu C0.P 33=some o.bC:=by rw[hz];exact T6.dT 33 4 rfl
 refine wXD ?_;apply R.slice
 ·exact rfl
 ·exact rfl
 ·exact rfl
 ·exact rfl
 ·exact pW hu gv hg (Z5 _) hle
 refine wXF λhc=>?_
 all_goals try(exfalso;revert hc;decide)
 all_goals(
  apply R.yB T6 (o:=o);exact rfl;exact rfl;exact hg;exact(by omega);refine wXF λhc=>?_;apply R.CF T6 (o:=o);exact rfl;exact rfl;exact rfl;exact rfl;exact rfl;exact rfl;exact rfl;exact(by decide);exact rfl;exact rfl;exact sc he;exact rfl;exact(by show len+1<_;omega);exact hg;exact hm;exact hz;exact hle;refine wXD ?_;exact⟨rfl,rfl⟩)
noncomputable def Lw:Code:=match Tryz.f215.body with |some c=>c |none=>.skip
theorem w9:Tryz.f215.body=some Lw:=rfl
variable{w:World}{F:Nat->Prop}{β:List (Nat×Nat)}
theorem r9{h:ab}{id ep len i N:Nat}{o:au}{fl:Bool}{e:PV}{a:Act}{Q:Exit->Act->World->Prop}(hg:getM h id ep=some o)(hz:o.bC=4)(hle:len<=o.es.length)(hi:i<len)(hn:len<100000000)(hN:N=Tryz.f215.ntmps)
  (RR:SR N w F β ⟨my [.ak id ep 0 len,.int .i64 (i:Int),.aa fl [e]],h⟩ a)
  (k:∀a' w' β' ρ',SR N w' F β' ⟨al [(0,.ak id ep 0 len),(1,.int .i64 (i:Int)),(2,.aa fl [e]),(7,.int .i64 1),(8,.int .i64 (len:Int))] ρ',h⟩ a'->dS w h β w' h β'->(tlC 6 Lw).wp C0.P Q a' w'):Lw.wp C0.P Q a w:=by
 subst hN;have hu:C0.P.underlying 132=some (.slice 33):=bp (T6.cU 132 _ rfl);have gv:cu C0.P 33=some o.bC:=by rw[hz];exact T6.dT 33 4 rfl
 have yg:([e]:List PV).length=1:=rfl;refine wp_seq ?_;refine cJ K0 bX S0 (M:=λex s'=>ex=.normal/\∃ρ',s'=⟨al [(0,.ak id ep 0 len),(1,.int .i64 (i:Int)),(2,.aa fl [e])] ρ',h⟩) rfl ?_ RR ?_
 ·rw[gU];refine wXD ?_;exact⟨rfl,_,St.aR ⟨rfl,rfl,rfl,trivial⟩⟩
 rintro ex s' a1 w1 β1 ⟨rfl,ρ1,rfl⟩ R1 S1;refine wp_seq ?_;refine cJ K0 bX S0 (M:=λex s'=>ex=.normal/\∃ρ',s'=⟨al [(0,.ak id ep 0 len),(1,.int .i64 (i:Int)),(2,.aa fl [e])] ρ',h⟩) rfl ?_ R1 ?_
 ·refine wXD ?_;apply R.slice
  ·exact rfl
  ·exact rfl
  ·exact rfl
  ·exact rfl
  ·exact cS hu gv hg hi hle
  refine wXD ?_;exact⟨rfl,_,St.aR ⟨rfl,rfl,rfl,trivial⟩⟩
 rintro ex s' a2 w2 β2 ⟨rfl,ρ2,rfl⟩ R2 S2;refine wp_seq ?_;refine cJ K0 bX S0 (M:=λex s'=>ex=.normal/\∃ρ',s'=⟨al [(0,.ak id ep 0 len),(1,.int .i64 (i:Int)),(2,.aa fl [e]),(7,.int .i64 1)] ρ',h⟩) rfl ?_ R2 ?_
 ·refine wXD ?_;exact⟨rfl,_,St.aR ⟨rfl,rfl,rfl,rfl,trivial⟩⟩
 rintro ex s' a3 w3 β3 ⟨rfl,ρ3,rfl⟩ R3 S3;refine wp_seq ?_;refine cJ K0 bX S0 (M:=λex s'=>ex=.normal/\∃ρ',s'=⟨al [(0,.ak id ep 0 len),(1,.int .i64 (i:Int)),(2,.aa fl [e]),(7,.int .i64 1)] ρ',h⟩) rfl ?_ R3 ?_
 ·refine wXF λhc=>?_;exact⟨rfl,_,St.aR ⟨rfl,rfl,rfl,rfl,trivial⟩⟩
 rintro ex s' a4 w4 β4 ⟨rfl,ρ4,rfl⟩ R4 S4;refine wp_seq ?_;refine cJ K0 bX S0 (M:=λex s'=>ex=.normal/\∃ρ',s'=⟨al [(0,.ak id ep 0 len),(1,.int .i64 (i:Int)),(2,.aa fl [e]),(7,.int .i64 1),(8,.int .i64 (len:Int))] ρ',h⟩) rfl ?_ R4 ?_
 ·refine wXD ?_;apply R.yB T6 (o:=o);exact rfl;exact rfl;exact hg;exact(by omega);refine wXD ?_;exact⟨rfl,_,St.aR ⟨rfl,rfl,rfl,rfl,rfl,trivial⟩⟩
 rintro ex s' a5 w5 β5 ⟨rfl,ρ5,rfl⟩ R5 S5;refine wp_seq ?_;refine cJ K0 bX S0 (M:=λex s'=>ex=.normal/\∃ρ',s'=⟨al [(0,.ak id ep 0 len),(1,.int .i64 (i:Int)),(2,.aa fl [e]),(7,.int .i64 1),(8,.int .i64 (len:Int))] ρ',h⟩) rfl ?_ R5 ?_
 ·refine wXF λhc=>?_;exact⟨rfl,_,St.aR ⟨rfl,rfl,rfl,rfl,rfl,trivial⟩⟩
 rintro ex s' a6 w6 β6 ⟨rfl,ρ6,rfl⟩ R6 S6;exact k _ _ _ _ R6 (((((S1.trans S2).trans S3).trans S4).trans S5).trans S6)
theorem tw{h:ab}{id ep len i:Nat}{o:au}{fl:Bool}{e X:PV}{pre:List PV}{vs:List Value}(H:aZ w F β h)(ha:L2 (aD w (Av F h β) β h) vs [.ak id ep 0 len,.int .i64 (i:Int),.aa fl [e]])
  (hg:getM h id ep=some o) (hm:o.mu=.m) (hz:o.bC=4) (iU:o.es=pre++[X]) (nI:pre.length=len) (hi:i<len) (hn:len<100000000) (fN:pre.all (kc 4)=true) (hX:(cells X).length=4) (he:kc 4 e=true) (dp:aT h=true):
  mh C0.P 2 w F β h 215 vs (.ak id ep 0 (len+1)) (h.set id {o with es:=pre.take i++[e]++pre.drop i}):=by
 have cX:o.es.length=len+1:=by rw[iU];simp[nI]
 have hu:C0.P.underlying 132=some (.slice 33):=bp (T6.cU 132 _ rfl);have rc:cu C0.P 33=some 4:=T6.dT 33 4 rfl;have gv:cu C0.P 33=some o.bC:=by rw[hz];exact rc
 obtain⟨g1,g2,g3⟩:=getM_some hg;have cI:=ag g1;obtain⟨bc,nh⟩:=dn H.len g1;obtain⟨T,cs,k1,k2,k3,k4,k5⟩:=(H.obj id o bc g1 nh g3).c (by omega);have AW:len+1<=bc.2:=by omega
 have im:aL h id=true:=by unfold aL;rw[g1];simp[hm]
 have hj:((len:Int)+1)=((len+1:Nat):Int):=by omega
 have tY:((i:Int)+1)=((i+1:Nat):Int):=by omega
 have dO:∀{w':World} {β':List (Nat×Nat)},dS w h β w' h β'->β'[id]?=some bc:=by
  intro w' β' S
  obtain⟨o',de,f1,f2,f3,f4,f5⟩:=S.refs id o bc g1 nh g3;obtain rfl:=ZZ (g1.symm.trans f1);rw[f2,(f5 rfl).2.2]
 refine ja (P:=C0.P) (c:=Lw) Tryz.func215 w9 H ha (λa RR=>r9 hg hz (by omega) hi hn rfl RR (λa1 w1 β1 ρ1 R1 S1=>?_));refine wp_seq ?_;refine wp_seq ?_;apply bY K0 S0 (pre:=[_,_,_,_]) (post:=[_]) (R:=R1) (M:=λs'=>∃ρ',s'=⟨al ((28,.int .i64 ((len:Int)+1))::(29,.ak id ep 0 len)::[(0,.ak id ep 0 len),(1,.int .i64 (i:Int)),(2,.aa fl [e]),(7,.int .i64 1),(8,.int .i64 (len:Int))]) ρ',h⟩) (M2:=λs'=>∃ρ',s'=⟨al ((31,.bool false)::[(0,.ak id ep 0 len),(1,.int .i64 (i:Int)),(2,.aa fl [e]),(7,.int .i64 1),(8,.int .i64 (len:Int))]) ρ',h⟩)
 ·rfl
 ·rfl
 ·refine wXD ?_;exact⟨_,St.aR ⟨rfl,rfl,rfl,rfl,rfl,rfl,rfl,trivial⟩⟩
 ·rintro s1 a2 w2 β2 ⟨ρ2,rfl⟩ R2 S2;refine⟨.int .i64 (bc.2:Int),h,sa (t:=132) (x:=.tmp 29) R2.hr R2.er hu (dz (t:=29) rfl ρ2) hg (dO (S1.trans S2)) (by omega) _ rfl,?_⟩;show ah C0 _ _ ⟨b9 (al _ ρ2) (some 30) (.int .i64 (bc.2:Int)),h⟩ _;rw[ck];refine wXF λhc=>?_;exact⟨_,St.aR ⟨rfl,rfl,rfl,rfl,rfl,rfl,trivial⟩⟩
 rintro s3 a3 w3 β3 ⟨ρ3,rfl⟩ R3 S3;refine cJ K0 bX S0 (M:=λex s'=>ex=.normal/\∃ρ',s'=⟨al [(0,.ak id ep 0 len),(1,.int .i64 (i:Int)),(2,.aa fl [e]),(7,.int .i64 1),(8,.int .i64 (len:Int))] ρ',h⟩) rfl ?_ R3 ?_
 ·refine wXD ?_;exact⟨rfl,_,St.aR ⟨rfl,rfl,rfl,rfl,rfl,trivial⟩⟩
 rintro ex s' a4 w4 β4 ⟨rfl,ρ4,rfl⟩ R4 S4;refine wp_seq ?_;refine cJ K0 bX S0 (M:=λex s'=>ex=.normal/\∃ρ',s'=⟨al [(0,.ak id ep 0 (len+1)),(1,.int .i64 (i:Int)),(2,.aa fl [e]),(7,.int .i64 1)] ρ',h⟩) rfl ?_ R4 ?_
 ·refine wXD ?_;apply R.slice
  ·exact rfl
  ·exact rfl
  ·exact rfl
  ·exact rfl
  ·show cg C0.P h 132 (.ak id ep 0 len) none (some (.int .i64 ((len:Int)+1))) none=_;rw[hj];exact oS hu gv hg (by omega) (by omega)
  refine wXD ?_;exact⟨rfl,_,St.aR ⟨rfl,rfl,rfl,rfl,trivial⟩⟩
 rintro ex s' a5 w5 β5 ⟨rfl,ρ5,rfl⟩ R5 S5;refine wp_seq ?_;refine wp_seq ?_;apply bY K0 S0 (pre:=[_,_,_,_,_,_]) (post:=[_]) (R:=R5) (M:=λs'=>∃ρ',s'=⟨al ((61,.aa fl [e])::(66,.ak id ep (i+1) (len+1 - (i+1)))::[(0,.ak id ep 0 (len+1)),(1,.int .i64 (i:Int)),(2,.aa fl [e]),(7,.int .i64 1)]) ρ',h⟩) (M2:=λs'=>∃ρ',s'=⟨al ((68,.bool true)::[(0,.ak id ep 0 (len+1)),(1,.int .i64 (i:Int)),(2,.aa fl [e]),(7,.int .i64 1)]) ρ',h⟩)
 ·rfl
 ·rfl
 ·refine wXD ?_;apply R.slice
  ·exact rfl
  ·exact rfl
  ·exact rfl
  ·exact rfl
  ·show cg C0.P h 132 (.ak id ep 0 (len+1)) (some (.int .i64 ((i:Int)+1))) none none=_;rw[tY];exact cS hu gv hg (by omega) (by omega)
  refine wXD ?_;exact⟨_,St.aR ⟨rfl,rfl,rfl,rfl,rfl,rfl,trivial⟩⟩
 ·rintro s1 a6 w6 β6 ⟨ρ6,rfl⟩ R6 S6;refine⟨.bool false,h,qB (t:=31) (tR:=4) (x:=.tmp 61) (y:=.tmp 66) (f:=281) R6.hr R6.er (bp (T6.cU 31 _ rfl)) rc (dz (t:=61) rfl ρ6) (dz (t:=66) rfl ρ6) hg hm (by omega) Tryz.func281 (by kernel_rfl) (by kernel_rfl) (by kernel_rfl) (by kernel_rfl) _ rfl,?_⟩;show ah C0 _ _ ⟨b9 (al _ ρ6) (some 67) (.bool false),h⟩ _;rw[ck];refine wXD ?_;exact⟨_,St.aR ⟨rfl,rfl,rfl,rfl,rfl,trivial⟩⟩
 rintro s7 a7 w7 β7 ⟨ρ7,rfl⟩ R7 S7;obtain⟨ys,oh⟩:∃ys,ys=((pre++[X]).drop i).take (pre.length+1 - i):=⟨_,rfl⟩;obtain⟨dA,nJ⟩:∃dA,dA=(pre++[X]).take (i+1)++ys.take (pre.length - i)++(pre++[X]).drop (i+1+(pre.length - i)):=⟨_,rfl⟩;obtain⟨l1,l2,l3⟩:=xb (e:=e) (by omega) oh nJ;rw[nI]at l1 l2;have Vy:ys.length=len+1 - i:=by rw[oh];simp;omega
 have LA:∀v∈ys,(cells v).length=4:=by
  intro v hv
  rw[oh]at hv;have:=aaI (aaJ hv);rcases Z8.1 this with hv |hv
  ·have:=Z1.1 fN v hv;unfold kc at this;simp only[Z9,decide_eq_true_eq]at this;exact this.1.2
  ·obtain rfl:=aav.1 hv;exact hX
 have AX:(cells e).length=4/\(cells e).all bI=true:=by
  unfold kc at he;simp only[Z9,decide_eq_true_eq]at he;exact⟨he.1.2,he.2⟩
 have Lx:min ys.length (len+1 - (i+1))=len - i:=by omega
 have zd:h.set id {o with es:=o.es.take (i+1)++ys.take (min ys.length (len+1 - (i+1)))++o.es.drop (i+1+min ys.length (len+1 - (i+1)))}=h.set id {o with es:=dA}:=by
  rw[Lx,iU,nJ,nI]
 have ve:getM (h.set id {o with es:=dA}) id ep=some {o with es:=dA}:=bg (Z6 cI) g2 (by show o.mu≠.x;rw[hm];simp);have xa:min ([e]:List PV).length (len+1 - i)=1:=by show min 1 _=1;omega
 have qn:(h.set id {o with es:=dA}).set id {({o with es:=dA}:au)with es:=dA.take i++[e].take (min ([e]:List PV).length (len+1 - i))++dA.drop (i+min ([e]:List PV).length (len+1 - i))}=h.set id {o with es:=pre.take i++[e]++pre.drop i}:=by
  rw[aaY,xa,<-l3];rfl
 refine cJ K0 bX S0 (M:=λex s'=>ex=.ret/\∃ρ',s'=⟨al [(6,.ak id ep 0 (len+1))] ρ',h.set id {o with es:=pre.take i++[e]++pre.drop i}⟩) rfl ?_ R7 ?_
 ·refine wXD ?_;apply D.slice
  ·exact dp
  ·exact rfl
  ·exact im
  ·exact rfl
  ·exact rfl
  ·exact rfl
  ·exact rfl
  ·exact rfl
  ·exact rfl
  ·show cg C0.P h 132 (.ak id ep 0 (len+1)) (some (.int .i64 ((i:Int)+1))) none none=_;rw[tY];exact cS hu gv hg (by omega) (by omega)
  refine wXD ?_;apply D.slice
  ·exact dp
  ·exact rfl
  ·exact im
  ·exact rfl
  ·exact rfl
  ·exact rfl
  ·exact rfl
  ·exact rfl
  ·exact rfl
  ·exact cS hu gv hg (by omega) (by omega)
  apply D.copy T6 (ys:=ys) (o:=o) (sz:=4)
  ·exact rfl
  ·exact rfl
  ·exact rfl
  ·exact rfl
  ·exact rfl
  ·simp only[cw,hg];rw[if_pos (by omega),iU,oh,nI]
  ·exact hg
  ·exact hm
  ·exact hz
  ·omega
  ·rw[Z1]
   intro v hv
   simp[LA v hv]
  ·rw[Lx,l1,Z1]
   intro v hv
   have:=Z1.1 fN v (aaI hv);unfold kc at this;simp only[Z9]at this ⊢;exact⟨this.1.2,this.2⟩
  refine aW.heap zd ?_;refine wXD ?_;apply R.slice
  ·exact rfl
  ·exact rfl
  ·exact rfl
  ·exact rfl
  ·exact cS (o:={o with es:=dA}) hu gv ve (by omega) (by show len+1<=dA.length;omega)
  refine wXD ?_;apply R.copy T6 (ys:=[e]) (o:={o with es:=dA}) (sz:=4)
  ·exact rfl
  ·exact rfl
  ·exact rfl
  ·exact rfl
  ·exact rfl
  ·exact ve
  ·exact hm
  ·exact hz
  ·show i+(len+1 - i)<=dA.length;omega
  ·simp[AX.1]
  ·simp only[xa,abV,acr,aaX,abw,AX.1,AX.2];rfl
  refine wXD ?_;exact⟨rfl,_,(congrArg (λhh=>(⟨_,hh⟩:St)) qn).trans (St.aR ⟨rfl,trivial⟩)⟩
 rintro ex s8 a8 w8 β8 ⟨rfl,ρ8,rfl⟩ R8 S8;refine⟨.inr rfl,_,β8,R8,(((((S1.trans S3).trans S4).trans S5).trans S7).trans S8),[.ak id ep 0 (len+1)],?_,λu OL=>⟨β8,OL,R8.hr,(((((S1.trans S3).trans S4).trans S5).trans S7).trans S8)⟩⟩
 ·exact eA (L:=[(6,.ak id ep 0 (len+1))]) rfl
 all_goals rfl
theorem wZ{h:ab}{id ep len i:Nat}{o:au}{bc:Nat×Nat}{fl:Bool}{e:PV}{vs:List Value}(H:aZ w F β h)(ha:L2 (aD w (Av F h β) β h) vs [.ak id ep 0 len,.int .i64 (i:Int),.aa fl [e]])
  (hg:getM h id ep=some o) (hz:o.bC=4) (hle:len<=o.es.length) (nh:β[id]?=some bc) (AW:bc.2<len+1) (hi:i<len) (hn:len<100000000) (fN:(o.es.take len).all (kc 4)=true) (he:kc 4 e=true) (dp:aT h=true):
  mh C0.P 2 w F β h 215 vs (.ak h.length 0 0 (len+1)) (h++[⟨.m,0,4,(o.es.take len).take i++[e]++(o.es.take len).drop i⟩]):=by
 have hu:C0.P.underlying 132=some (.slice 33):=bp (T6.cU 132 _ rfl);have rc:cu C0.P 33=some 4:=T6.dT 33 4 rfl;have gv:cu C0.P 33=some o.bC:=by rw[hz];exact rc
 obtain⟨g1,g2,g3⟩:=getM_some hg;have cI:=ag g1;have hj:((i:Int)+1)=((i+1:Nat):Int):=by omega
 have Vr:((len:Int)+1 - (i:Int))=((len+1 - i:Nat):Int):=by omega
 have jr:i+(len+1 - i)=len+1:=by omega
 have dO:∀{w':World} {β':List (Nat×Nat)},dS w h β w' h β'->β'[id]?=some bc:=by
  intro w' β' S
  obtain⟨o',de,f1,f2,f3,f4,f5⟩:=S.refs id o bc g1 nh g3;obtain rfl:=ZZ (g1.symm.trans f1);rw[f2,(f5 rfl).2.2]
 obtain⟨jt,EZ⟩:∃jt,jt=o.es.take i++List.replicate (len+1 - i) (.agg [.int .i64 0,.str ByteArray.empty,.int .i64 0,.aa true []]:PV):=⟨_,rfl⟩;obtain⟨dA,nJ⟩:∃dA,dA=jt.take i++[e]++jt.drop (i+1):=⟨_,rfl⟩;obtain⟨ys,oh⟩:∃ys,ys=(o.es.drop i).take (len - i):=⟨_,rfl⟩;obtain⟨l1,l2,l3,l4,l5⟩:=zL hi hle EZ nJ oh
 have AX:(cells e).length=4/\(cells e).all bI=true/\aV e=true:=by
  unfold kc at he;simp only[Z9,decide_eq_true_eq]at he;exact⟨he.1.2,he.2,he.1.1⟩
 have Ez:ys.all (kc 4)=true:=by
  rw[l4,Z1]
  intro v hv
  exact Z1.1 fN v (aaI hv)
 have qZ:ao jt=true:=by
  rw[EZ,bu,abj,<-bu]
  have:ao (o.es.take i)=true:=by
   refine lu (sz:=4) ?_;rw[Z1]
   intro v hv
   refine Z1.1 fN v ?_;have:o.es.take i=(o.es.take len).take i:=by rw[abe];congr 1;omega
   rw[this]at hv;exact aaJ hv
  rw[this,abd,Z1]
  intro v hv
  obtain rfl:=aaT hv
  rfl
 have uJ:ao dA=true:=by
  rw[bu,Z1]at qZ ⊢
  intro v hv
  rw[nJ]at hv;rcases Z8.1 hv with hv |hv
  ·rcases Z8.1 hv with hv |hv
   ·exact qZ v (aaJ hv)
   ·obtain rfl:=aav.1 hv;exact AX.2.2
  ·exact qZ v (aaI hv)
 have E0:aT (h++[⟨.m,0,4,dA⟩])=true:=ui uJ dp;have OT:∀es,getM (h++[⟨.m,0,4,es⟩]) h.length 0=some ⟨.m,0,4,es⟩:=λes=>GI (o:=⟨.m,0,4,es⟩) (by simp)
 have Ti:∀es,getM (h++[⟨.m,0,4,es⟩]) id ep=some o:=λes=>nM hg
 have im:∀es,aL (h++[⟨.m,0,4,es⟩]) id=true:=λes=>by unfold aL;rw[Z0 cI,g1];simpa using g3
 have Lv:∀es,aL (h++[⟨.m,0,4,es⟩]) h.length=true:=λes=>by unfold aL;simp
 refine ja (P:=C0.P) (c:=Lw) Tryz.func215 w9 H ha (λa RR=>r9 hg hz (by omega) hi hn rfl RR (λa1 w1 β1 ρ1 R1 S1=>?_));refine wp_seq ?_;refine wp_seq ?_;apply bY K0 S0 (pre:=[_,_,_,_]) (post:=[_]) (R:=R1) (M:=λs'=>∃ρ',s'=⟨al ((28,.int .i64 ((len:Int)+1))::(29,.ak id ep 0 len)::[(0,.ak id ep 0 len),(1,.int .i64 (i:Int)),(2,.aa fl [e]),(7,.int .i64 1),(8,.int .i64 (len:Int))]) ρ',h⟩) (M2:=λs'=>∃ρ',s'=⟨al ((31,.bool true)::[(0,.ak id ep 0 len),(1,.int .i64 (i:Int)),(2,.aa fl [e]),(7,.int .i64 1),(8,.int .i64 (len:Int))]) ρ',h⟩)
 ·rfl
 ·rfl
 ·refine wXD ?_;exact⟨_,St.aR ⟨rfl,rfl,rfl,rfl,rfl,rfl,rfl,trivial⟩⟩
 ·rintro s1 a2 w2 β2 ⟨ρ2,rfl⟩ R2 S2;refine⟨.int .i64 (bc.2:Int),h,sa (t:=132) (x:=.tmp 29) R2.hr R2.er hu (dz (t:=29) rfl ρ2) hg (dO (S1.trans S2)) (by omega) _ rfl,?_⟩;show ah C0 _ _ ⟨b9 (al _ ρ2) (some 30) (.int .i64 (bc.2:Int)),h⟩ _;rw[ck];refine wXF λhc=>?_;exact⟨_,St.aR ⟨rfl,rfl,rfl,rfl,rfl,rfl,trivial⟩⟩
 rintro s3 a3 w3 β3 ⟨ρ3,rfl⟩ R3 S3
 have Tr:a3.eval (.tmp 31)=.bool true:=by
  have:=R3.er.ev (.tmp 31);rw[show ev (al ((31,PV.bool true)::[(0,.ak id ep 0 len),(1,.int .i64 (i:Int)),(2,.aa fl [e]),(7,.int .i64 1),(8,.int .i64 (len:Int))]) ρ3) (.tmp 31)=.bool true from dz (t:=31) rfl ρ3]at this;exact this.gd
 refine wp_cond_true Tr ?_;refine wp_seq ?_;apply bY K0 S0 (pre:=[_,_,_,_,_,_,_,_]) (post:=[_]) (R:=R3) (M:=λs'=>∃ρ',s'=⟨al ((34,.ak id ep 0 i)::(39,.int .i64 ((len:Int)+1 - (i:Int)))::[(0,.ak id ep 0 len),(1,.int .i64 (i:Int)),(2,.aa fl [e]),(7,.int .i64 1),(8,.int .i64 (len:Int))]) ρ',h⟩) (M2:=λs'=>∃ρ',s'=⟨al ((9,.ak h.length 0 0 (len+1))::[(0,.ak id ep 0 len),(1,.int .i64 (i:Int)),(2,.aa fl [e]),(7,.int .i64 1),(8,.int .i64 (len:Int))]) ρ',h++[⟨.m,0,4,jt⟩]⟩)
 case ho=>rfl
 case hg=>rfl
 ·refine wXD ?_;apply R.slice
  ·exact rfl
  ·exact rfl
  ·exact rfl
  ·exact rfl
  ·exact sS hu gv hg (by omega) hle
  refine wXD ?_;exact⟨_,St.aR ⟨rfl,rfl,rfl,rfl,rfl,rfl,rfl,trivial⟩⟩
 ·rintro s1 a4 w4 β4 ⟨ρ4,rfl⟩ R4 S4;have os:=uj (P:=C0.P) (st:=132) (xt:=3) (el:=33) (x:=.tmp 34) (y:=.tmp 39) (k:=.i64) (n:=len+1 - i) (len:=i) R4.hr R4.er hu (oF (T6.cU 3 _ rfl)) rc (by decide) (T6.rI 33 _ rfl) (by decide) (T6.na 33 (.agg [.int .i64 0,.str ByteArray.empty,.int .i64 0,.aa true []]) rfl) rfl rfl (dz (t:=34) rfl ρ4) (by rw[<-Vr];exact dz (t:=39) rfl ρ4) hg (dO ((S1.trans S3).trans S4)) (by omega) hz (by omega) (by omega);rw[jr,<-EZ]at os;refine⟨.ak h.length 0 0 (len+1),h++[⟨.m,0,4,jt⟩],os _ rfl,?_⟩;show ah C0 _ _ ⟨b9 (al _ ρ4) (some 40) (.ak h.length 0 0 (len+1)),_⟩ _;rw[ck];refine wXD ?_;exact⟨_,St.aR ⟨rfl,rfl,rfl,rfl,rfl,rfl,trivial⟩⟩
 rintro s5 a5 w5 β5 ⟨ρ5,rfl⟩ R5 S5;have Lx:min ([e]:List PV).length (len+1 - i)=1:=by show min 1 _=1;omega
 have xa:min ys.length (len+1 - (i+1))=len - i:=by omega
 have Wh:ys.take (len - i)=ys:=aar (by omega)
 have zd:(h++[⟨.m,0,4,jt⟩]:ab).set h.length {(⟨.m,0,4,jt⟩:au)with es:=jt.take i++[e].take (min ([e]:List PV).length (len+1 - i))++jt.drop (i+min ([e]:List PV).length (len+1 - i))}=h++[⟨.m,0,4,dA⟩]:=by
  rw[Lx,set_push,nJ];rfl
 have hh3:(h++[⟨.m,0,4,dA⟩]:ab).set h.length {(⟨.m,0,4,dA⟩:au)with es:=dA.take (i+1)++ys.take (min ys.length (len+1 - (i+1)))++dA.drop (i+1+min ys.length (len+1 - (i+1)))}=h++[⟨.m,0,4,(o.es.take len).take i++[e]++(o.es.take len).drop i⟩]:=by
  rw[xa,set_push,Wh,l5]
 refine cJ K0 bX S0 (M:=λex s'=>ex=.ret/\∃ρ',s'=⟨al [(6,.ak h.length 0 0 (len+1))] ρ',h++[⟨.m,0,4,(o.es.take len).take i++[e]++(o.es.take len).drop i⟩]⟩) rfl ?_ R5 ?_
 ·refine wXD ?_;apply R.slice
  ·exact rfl
  ·exact rfl
  ·exact rfl
  ·exact rfl
  ·exact cS hu rc (OT jt) (by omega) (by show len+1<=jt.length;omega)
  refine wXD ?_;apply R.copy T6 (ys:=[e]) (o:=⟨.m,0,4,jt⟩) (sz:=4)
  ·exact rfl
  ·exact rfl
  ·exact rfl
  ·exact rfl
  ·exact rfl
  ·exact OT jt
  ·exact rfl
  ·exact rfl
  ·show i+(len+1 - i)<=jt.length;omega
  ·simp[AX.1]
  ·simp only[Lx,abV,acr,aaX,abw,AX.1,AX.2.1];rfl
  rw[zd];refine wXD ?_;apply D.slice
  ·exact E0
  ·exact rfl
  ·exact Lv dA
  ·exact rfl
  ·exact rfl
  ·exact rfl
  ·exact rfl
  ·exact rfl
  ·exact rfl
  ·show cg C0.P _ 132 (.ak h.length 0 0 (len+1)) (some (.int .i64 ((i:Int)+1))) none none=_;rw[hj];exact cS hu rc (OT dA) (by omega) (by show len+1<=dA.length;omega)
  refine wXD ?_;apply D.slice
  ·exact E0
  ·exact rfl
  ·exact im dA
  ·exact rfl
  ·exact rfl
  ·exact rfl
  ·exact rfl
  ·exact rfl
  ·exact rfl
  ·exact cS hu gv (Ti dA) hi hle
  apply D.copy T6 (ys:=ys) (o:=⟨.m,0,4,dA⟩) (sz:=4)
  ·exact rfl
  ·exact rfl
  ·exact rfl
  ·exact rfl
  ·exact rfl
  ·simp only[cw,Ti];rw[if_pos (by omega),oh]
  ·exact OT dA
  ·exact rfl
  ·exact rfl
  ·show i+1+(len+1 - (i+1))<=dA.length;omega
  ·rw[Z1]
   intro v hv
   have:=Z1.1 Ez v hv;unfold kc at this;simp only[Z9]at this;exact this.1.2
  ·rw[xa,Wh,Z1]
   intro v hv
   have:=Z1.1 Ez v hv;unfold kc at this;simp only[Z9]at this ⊢;exact⟨this.1.2,this.2⟩
  refine aW.heap hh3 ?_;refine wXD ?_;exact⟨rfl,_,St.aR ⟨rfl,trivial⟩⟩
 rintro ex s8 a8 w8 β8 ⟨rfl,ρ8,rfl⟩ R8 S8;have SS:=(((S1.trans S3).trans S5).trans S8);refine⟨.inr rfl,_,β8,R8,SS,[.ak h.length 0 0 (len+1)],?_,λu OL=>⟨β8,OL,R8.hr,SS⟩⟩
 ·exact eA (L:=[(6,.ak h.length 0 0 (len+1))]) rfl
 all_goals rfl
theorem CD:fq C0.P 215 iE:=by
 intro args h r h' e w F β vs H ha
 unfold iE at e
 split at e
 ·rename_i i fl e1
  split at e
  ·rename_i hc
   obtain⟨rfl,he⟩:=hc;obtain⟨rfl,rfl⟩:=aaa (ZZ e);exact kE (rF rfl) (tC he) H ha
  ·cases e
 ·rename_i id ep len i fl e1
  split at e
  ·rename_i o hg
   split at e
   ·rename_i hc
    obtain⟨hm,hz,hle,VA,hi,hn,he,fN,dp⟩:=hc;obtain⟨rfl,rfl⟩:=aaa (ZZ e);obtain⟨k,rfl⟩:=abg VA;have hk:k<=len:=by omega
    rw[show Int.toNat (k:Int)=k from rfl];obtain⟨g1,g2,g3⟩:=getM_some hg;have cI:=ag g1;obtain⟨bc,nh⟩:=dn H.len g1;have nI:(o.es.take len).length=len:=by simp;omega
    by_cases AE:k=len
    ·subst AE
     have qn:(o.es.take k).take k++[e1]++(o.es.take k).drop k=o.es.take k++[e1]:=by
      rw[abe,Nat.min_self,aaz (by omega),aao]
     rw[qn];exact kE (rF rfl) (tD he hg hm hz hle hn) H ha
    ·have fB:k<len:=by omega
     by_cases mP:len+1<=bc.2
     ·-- there is room
      have hXc:(cells (PV.agg [.any,.any,.any,.any])).length=4:=rfl
      obtain⟨Hp,Sp⟩:=H.nK g1 nh hm (o.es.take len++[.agg [.any,.any,.any,.any]]) (ep+1) (by omega) (by simp;omega) (λi e he=>by
       rcases aaD i len with nt |nt
       ·left
        rw[Z0 (by omega),aai,if_pos nt]at he;exact he
       ·right
        rw[aac (by omega)]at he;obtain rfl:=aav.1 (aae he);refine⟨by rw[hXc,hz],λp hp=>?_⟩;simp only[cells]at hp;simpa using hp)
      have xc:(h.set id {o with es:=o.es.take len++[.agg [.any,.any,.any,.any]],ep:=ep+1})[id]?=some {o with es:=o.es.take len++[.agg [.any,.any,.any,.any]],ep:=ep+1}:=Z6 cI
      have Tv:aT (h.set id {o with es:=o.es.take len++[.agg [.any,.any,.any,.any]],ep:=ep+1})=true:=by
       refine lZ (h:=h) (λi hi=>?_) (λo' h1=>?_) dp
       ·unfold aL at hi ⊢
        by_cases OW:i=id
        ·subst OW;rw[xc];simp[hm]
        ·rw[Z7 (aaR OW)];exact hi
       ·rcases abc h1 with h1 |rfl
        ·exact .inr (.inr ⟨o',h1,rfl,λhh=>hh⟩)
        ·exact .inr (.inl (tx (br _ _ (lu fN)) rfl))
      have mq:L2 (aD w (Av F (h.set id {o with es:=o.es.take len++[.agg [.any,.any,.any,.any]],ep:=ep+1}) β) β (h.set id {o with es:=o.es.take len++[.agg [.any,.any,.any,.any]],ep:=ep+1})) vs [.ak id (ep+1) 0 len,.int .i64 (k:Int),.aa fl [e1]]:=
       jh ha (λv hv=>aD.nK g1 nh hm hv g2 hle _ _) (λv hv=>hv.mono Sp) (λv hv=>hv.mono Sp)
      have cs:=tw (o:={o with es:=o.es.take len++[.agg [.any,.any,.any,.any]],ep:=ep+1}) (X:=.agg [.any,.any,.any,.any]) (pre:=o.es.take len) Hp mq (bg xc rfl (by show o.mu≠.x;rw[hm];simp)) hm hz rfl nI fB hn fN rfl he Tv;refine cs.mono ?_;rintro en w' ⟨v,β1,rfl,q1,q2,q3,_⟩;rw[aaY]at q1 q2 q3;exact⟨v,β1,rfl,q1,q2,Sp.trans q3,λhh=>by omega⟩
     ·-- all is made anew
      obtain⟨p1,p2,p3,p4,p5,p6⟩:=bD o;have gl:getM (h.map bR) id ep=some (bR o):=bg (by rw[aaj,g1];rfl) (by rw[p1];exact g2) (λhh=>g3 (p4.1 hh));have NK:∀b,Av (Av F h β) (h.map bR) β b->Av F h β b:=λb hb=>hb.elim (λhh=>hh) (λhm=>absurd hm (ji h β b))
      have cs:=wZ (o:=bR o) (bc:=bc) H.lock (jh ha (λv hv=>hv.alike (gi h) NK) (λv hv=>hv.alike (gi h) NK) (λv hv=>hv.alike (gi h) NK)) gl (by rw[p2];exact hz) (by rw[p3];exact hle) nh (by omega) fB hn (by rw[p3];exact fN) he (uh dp);rw[p3,aa6]at cs;refine cs.mono ?_;rintro en w' ⟨v,β1,rfl,q1,q2,q3,_⟩;obtain⟨oc,E2⟩:∃oc,oc=(o.es.take len).take k++[e1]++(o.es.take len).drop k:=⟨_,rfl⟩;rw[<-E2]at q1 q2 q3 ⊢;have JF:oc.length=len+1:=by rw[E2];simp;omega
      have Tw:oc.all (kc 4)=true:=by
       rw[Z1]at fN ⊢
       intro x hx
       rw[E2]at hx;rcases Z8.1 hx with hx |hx
       ·rcases Z8.1 hx with hx |hx
        ·exact fN x (aaJ hx)
        ·obtain rfl:=aav.1 hx;exact he
       ·exact fN x (aaI hx)
      have enew:(h.map bR++[(⟨.m,0,4,oc⟩:au)])[h.length]?=some ⟨.m,0,4,oc⟩:=by
       rw[aac (by simp)];simp
      obtain⟨bn,yr⟩:=dn q2.len enew;have mnew:Mb (h.map bR++[⟨.m,0,4,oc⟩]) β1 bn.1:=⟨h.length,_,bn,enew,yr,rfl,rfl⟩;obtain⟨T,sJ,k1,k2,k3,k4,k5⟩:=(q2.obj h.length _ bn enew yr (by simp)).c (by simp)
      have BZ:w.heap.size<=bn.1:=by
       rcases aaD bn.1 w.heap.size with hh |hh
       ·exact absurd (q3.shr bn.1 hh mnew) (ji h β bn.1)
       ·exact hh
      have hA:∀b,Av F (h.set id {o with es:=oc,ep:=ep+1}) (β.set id bn) b->Av (Av F h β) (h.map bR++[⟨.m,0,4,oc⟩]) β1 b:=by
       rintro b (hb |⟨dY,o',de,HQ,OX,UM,Wj⟩)
       ·exact .inl (.inl hb)
       ·by_cases bU:dY=id
        ·subst bU;rw[Z6 (by rw[H.len];exact cI)]at OX;obtain rfl:=ZZ OX;rw[<-Wj];exact .inr mnew
        ·rw[Z7 (aaR bU)]at HQ OX;exact .inl (.inr ⟨dY,o',de,HQ,OX,UM,Wj⟩)
      obtain⟨HH,SS⟩:=H.Lz (w':=w') g1 nh hm T sJ oc (ep+1) bn q3.size k1 (λb hb=>q3.aR b hb (ji h β b)) BZ (by omega) q3.os q3.tape q3.output k2 (by rw[hz];exact k3) (λi e OY=>by
       obtain⟨m1,m2⟩:=k5 i e OY;refine⟨by rw[hz];exact m1,λj p hp=>?_⟩;obtain⟨u,n1,n2⟩:=m2 j p hp
       have hv:aV e=true:=by
        have:=Z1.1 Tw e (aae OY);unfold kc at this;simp only[Z9]at this;exact this.1.1
       exact⟨u,by rw[hz];exact n1,n2.GJ (Ht hv p (aae hp)) hA⟩) q3.drawn
      obtain⟨_,_,m3⟩:=q1.dL;obtain⟨cap,c1,c2⟩:=m3 _ bn enew yr (by simp) rfl (by show 0+(len+1)<=oc.length;omega);refine⟨v,β.set id bn,rfl,?_,HH,SS,λhh=>by omega⟩;refine .ak v id (ep+1) 0 (len+1) {o with es:=oc,ep:=ep+1} bn ⟨_,_,_,c1⟩ (Z6 cI) (Z6 (by rw[H.len];exact cI)) (by show o.mu≠.x;rw[hm];simp) ⟨Z5 _,by show 0<o.bC;omega⟩ (λ_ _=>⟨cap,?_,c2⟩);rw[c1,abD,abD]
   ·cases e
  ·cases e
 ·cases e
end qA
end Go.Pm
namespace Go.Pm
open Go.Proofs
attribute [local irreducible] aE az aI aJ Ev ah ai ax aW
variable{w:World}{F:Nat->Prop}{β:List (Nat×Nat)}{h:ab}
namespace Zero
set_option maxRecDepth 100000
set_option maxHeartbeats 4000000
theorem Kg{fl:Bool}{es:List PV}{vs:List Value}(H:aZ w F β h)(ha:L2 (aD w (Av F h β) β h) vs [.aa fl es])(iU:dB 4 es)(hn:es.length<1000000000){r:PV}{h':ab}
  (hr:(es=[]/\r=.aa true []/\h'=h)\/(es≠[]/\r=.ak h.length 0 0 es.length/\h'=h++[⟨.m,0,4,es⟩])):mh C0.P 2 w F β h 216 vs r h':=by
 refine ja (P:=C0.P) Tryz.func216 rfl H ha (λa RR=>?_);refine wp_seq ?_;refine cJ K0 bX S0 (M:=λex s'=>ex=.normal/\∃ρ',s'=⟨al [(0,.aa fl es)] ρ',h⟩) rfl ?_ RR ?_
 ·rw[gU];refine wXB ?_;exact⟨rfl,_,St.aR ⟨rfl,trivial⟩⟩
 rintro ex s' a1 w1 β1 ⟨rfl,ρ1,rfl⟩ R1 S1;refine wp_seq ?_;refine wp_seq ?_;apply bY K0 S0 (pre:=[_]) (post:=[]) (R:=R1) (M:=λs'=>∃ρ',s'=⟨al [(0,.aa fl es),(3,.aa fl es)] ρ',h⟩) (M2:=λs'=>∃bb ρ',s'=⟨al [(0,.aa fl es),(4,.bool bb)] ρ',h⟩/\(bb=true->es=[]))
 ·rfl
 ·rfl
 ·refine wXB ?_;exact⟨_,St.aR ⟨rfl,rfl,trivial⟩⟩
 ·rintro s1 a2 w2 β2 ⟨ρ2,rfl⟩ R2 S2;obtain⟨bb,hb,os⟩:=jE (t:=132) (yt:=132) (el:=33) (x:=.tmp 3) (fl:=fl) (es:=es) R2.hr R2.er (bp (T6.cU 132 _ rfl)) (dz (L:=[(0,.aa fl es),(3,.aa fl es)]) (t:=3) rfl ρ2);refine⟨.bool bb,h,os _ rfl,ah.nil ⟨bb,al ((4,.bool bb)::[(0,.aa fl es),(3,.aa fl es)]) ρ2,?_,hb⟩⟩;show(⟨b9 (al [(0,.aa fl es),(3,.aa fl es)] ρ2) (some 4) (.bool bb),h⟩:St)=_;rw[ck];exact St.aR ⟨rfl,rfl,trivial⟩
 rintro s3 a3 w3 β3 ⟨bb,ρ3,rfl,hb⟩ R3 S3
 cases bb
 ·refine cJ K0 bX S0 (M:=λex s'=>ex=.normal/\∃ρ',s'=⟨al [(0,.aa fl es)] ρ',h⟩) rfl ?_ R3 ?_
  ·refine wXB ?_;exact⟨rfl,_,St.aR ⟨rfl,trivial⟩⟩
  rintro ex s' a4 w4 β4 ⟨rfl,ρ4,rfl⟩ R4 S4;refine cJ K0 bX S0 (M:=λex s'=>ex=.ret/\∃ρ',s'=⟨al [(2,r)] ρ',h'⟩) rfl ?_ R4 ?_
  ·refine wXB ?_;rcases hr with⟨rfl,rfl,rfl⟩|⟨bJ,rfl,rfl⟩
   ·apply R.kZ T6;exact rfl;exact rfl;exact rfl;exact rfl;exact rfl;exact rfl;exact rfl;exact(by decide);exact rfl;exact rfl;refine wXB ?_;exact⟨rfl,_,St.aR ⟨rfl,trivial⟩⟩
   ·apply R.iZ T6;exact rfl;exact rfl;exact rfl;exact rfl;exact rfl;exact rfl;exact rfl;exact(by decide);exact rfl;exact rfl;exact iU;exact bJ;exact hn;refine wXB ?_;exact⟨rfl,_,St.aR ⟨rfl,trivial⟩⟩
  rintro ex s5 a5 w5 β5 ⟨rfl,ρ5,rfl⟩ R5 S5;refine⟨.inr rfl,_,β5,R5,((S1.trans S3).trans S4).trans S5,[r],?_,λu hu=>⟨β5,hu,R5.hr,((S1.trans S3).trans S4).trans S5⟩⟩;exact eA (L:=[(2,r)]) rfl
 ·obtain rfl:=hb rfl;rcases hr with⟨_,rfl,rfl⟩|⟨bJ,_⟩
  ·refine cJ K0 bX S0 (M:=λex s'=>ex=.ret/\∃ρ',s'=⟨al [(2,.aa true [])] ρ',h'⟩) rfl ?_ R3 ?_
   ·refine wXB ?_;exact⟨rfl,_,St.aR ⟨rfl,trivial⟩⟩
   rintro ex s5 a5 w5 β5 ⟨rfl,ρ5,rfl⟩ R5 S5;refine⟨.inr rfl,_,β5,R5,(S1.trans S3).trans S5,[.aa true []],?_,λu hu=>⟨β5,hu,R5.hr,(S1.trans S3).trans S5⟩⟩;exact eA (L:=[(2,.aa true [])]) rfl
  ·exact absurd rfl bJ
 ·rfl
end Zero
set_option maxRecDepth 100000
set_option maxHeartbeats 4000000
theorem Ed:fq C.P 216 (bq 4):=by
 intro args h r h' e w F β vs H ha
 unfold bq at e
 split at e
 ·rename_i fl es
  split at e
  ·rename_i wa
   obtain⟨rfl,rfl⟩:=aaa (ZZ e);obtain rfl:es=[]:=by simpa using wa
   exact Zero.Kg H ha rfl (by simp) (.inl ⟨rfl,rfl,rfl⟩)
  ·rename_i wa
   split at e
   ·rename_i hc
    obtain⟨rfl,rfl⟩:=aaa (ZZ e);exact Zero.Kg H ha hc.1 hc.2 (.inr ⟨by simpa using wa,rfl,rfl⟩)
   ·cases e
 ·cases e
namespace Zero
theorem Ki{fl:Bool}{es:List PV}{vs:List Value}(H:aZ w F β h)(ha:L2 (aD w (Av F h β) β h) vs [.aa fl es])(iU:dB 5 es)(hn:es.length<1000000000){r:PV}{h':ab}
  (hr:(es=[]/\r=.aa true []/\h'=h)\/(es≠[]/\r=.ak h.length 0 0 es.length/\h'=h++[⟨.m,0,5,es⟩])):mh C0.P 2 w F β h 370 vs r h':=by
 refine ja (P:=C0.P) Tryz.func370 rfl H ha (λa RR=>?_);refine wp_seq ?_;refine cJ K0 bX S0 (M:=λex s'=>ex=.normal/\∃ρ',s'=⟨al [(0,.aa fl es)] ρ',h⟩) rfl ?_ RR ?_
 ·rw[gU];refine wXB ?_;exact⟨rfl,_,St.aR ⟨rfl,trivial⟩⟩
 rintro ex s' a1 w1 β1 ⟨rfl,ρ1,rfl⟩ R1 S1;refine wp_seq ?_;refine wp_seq ?_;apply bY K0 S0 (pre:=[_]) (post:=[]) (R:=R1) (M:=λs'=>∃ρ',s'=⟨al [(0,.aa fl es),(3,.aa fl es)] ρ',h⟩) (M2:=λs'=>∃bb ρ',s'=⟨al [(0,.aa fl es),(4,.bool bb)] ρ',h⟩/\(bb=true->es=[]))
 ·rfl
 ·rfl
 ·refine wXB ?_;exact⟨_,St.aR ⟨rfl,rfl,trivial⟩⟩
 ·rintro s1 a2 w2 β2 ⟨ρ2,rfl⟩ R2 S2;obtain⟨bb,hb,os⟩:=jE (t:=175) (yt:=175) (el:=187) (x:=.tmp 3) (fl:=fl) (es:=es) R2.hr R2.er (bp (T6.cU 175 _ rfl)) (dz (L:=[(0,.aa fl es),(3,.aa fl es)]) (t:=3) rfl ρ2);refine⟨.bool bb,h,os _ rfl,ah.nil ⟨bb,al ((4,.bool bb)::[(0,.aa fl es),(3,.aa fl es)]) ρ2,?_,hb⟩⟩;show(⟨b9 (al [(0,.aa fl es),(3,.aa fl es)] ρ2) (some 4) (.bool bb),h⟩:St)=_;rw[ck];exact St.aR ⟨rfl,rfl,trivial⟩
 rintro s3 a3 w3 β3 ⟨bb,ρ3,rfl,hb⟩ R3 S3
 cases bb
 ·refine cJ K0 bX S0 (M:=λex s'=>ex=.normal/\∃ρ',s'=⟨al [(0,.aa fl es)] ρ',h⟩) rfl ?_ R3 ?_
  ·refine wXB ?_;exact⟨rfl,_,St.aR ⟨rfl,trivial⟩⟩
  rintro ex s' a4 w4 β4 ⟨rfl,ρ4,rfl⟩ R4 S4;refine cJ K0 bX S0 (M:=λex s'=>ex=.ret/\∃ρ',s'=⟨al [(2,r)] ρ',h'⟩) rfl ?_ R4 ?_
  ·refine wXB ?_;rcases hr with⟨rfl,rfl,rfl⟩|⟨bJ,rfl,rfl⟩
   ·apply R.kZ T6;exact rfl;exact rfl;exact rfl;exact rfl;exact rfl;exact rfl;exact rfl;exact(by decide);exact rfl;exact rfl;refine wXB ?_;exact⟨rfl,_,St.aR ⟨rfl,trivial⟩⟩
   ·apply R.iZ T6;exact rfl;exact rfl;exact rfl;exact rfl;exact rfl;exact rfl;exact rfl;exact(by decide);exact rfl;exact rfl;exact iU;exact bJ;exact hn;refine wXB ?_;exact⟨rfl,_,St.aR ⟨rfl,trivial⟩⟩
  rintro ex s5 a5 w5 β5 ⟨rfl,ρ5,rfl⟩ R5 S5;refine⟨.inr rfl,_,β5,R5,((S1.trans S3).trans S4).trans S5,[r],?_,λu hu=>⟨β5,hu,R5.hr,((S1.trans S3).trans S4).trans S5⟩⟩;exact eA (L:=[(2,r)]) rfl
 ·obtain rfl:=hb rfl;rcases hr with⟨_,rfl,rfl⟩|⟨bJ,_⟩
  ·refine cJ K0 bX S0 (M:=λex s'=>ex=.ret/\∃ρ',s'=⟨al [(2,.aa true [])] ρ',h'⟩) rfl ?_ R3 ?_
   ·refine wXB ?_;exact⟨rfl,_,St.aR ⟨rfl,trivial⟩⟩
   rintro ex s5 a5 w5 β5 ⟨rfl,ρ5,rfl⟩ R5 S5;refine⟨.inr rfl,_,β5,R5,(S1.trans S3).trans S5,[.aa true []],?_,λu hu=>⟨β5,hu,R5.hr,(S1.trans S3).trans S5⟩⟩;exact eA (L:=[(2,.aa true [])]) rfl
  ·exact absurd rfl bJ
 ·rfl
end Zero
theorem Ee:fq C.P 370 (bq 5):=by
 intro args h r h' e w F β vs H ha
 unfold bq at e
 split at e
 ·rename_i fl es
  split at e
  ·rename_i wa
   obtain⟨rfl,rfl⟩:=aaa (ZZ e);obtain rfl:es=[]:=by simpa using wa
   exact Zero.Ki H ha rfl (by simp) (.inl ⟨rfl,rfl,rfl⟩)
  ·rename_i wa
   split at e
   ·rename_i hc
    obtain⟨rfl,rfl⟩:=aaa (ZZ e);exact Zero.Ki H ha hc.1 hc.2 (.inr ⟨by simpa using wa,rfl,rfl⟩)
   ·cases e
 ·cases e
namespace Zero
theorem Kf{fl:Bool}{es:List PV}{vs:List Value}(H:aZ w F β h)(ha:L2 (aD w (Av F h β) β h) vs [.aa fl es])(iU:dB 5 es)(hn:es.length<1000000000){r:PV}{h':ab}
  (hr:(es=[]/\r=.aa true []/\h'=h)\/(es≠[]/\r=.ak h.length 0 0 es.length/\h'=h++[⟨.m,0,5,es⟩])):mh C0.P 2 w F β h 15 vs r h':=by
 refine ja (P:=C0.P) Tryz.func15 rfl H ha (λa RR=>?_);refine wp_seq ?_;refine cJ K0 bX S0 (M:=λex s'=>ex=.normal/\∃ρ',s'=⟨al [(0,.aa fl es)] ρ',h⟩) rfl ?_ RR ?_
 ·rw[gU];refine wXB ?_;exact⟨rfl,_,St.aR ⟨rfl,trivial⟩⟩
 rintro ex s' a1 w1 β1 ⟨rfl,ρ1,rfl⟩ R1 S1;refine wp_seq ?_;refine wp_seq ?_;apply bY K0 S0 (pre:=[_]) (post:=[]) (R:=R1) (M:=λs'=>∃ρ',s'=⟨al [(0,.aa fl es),(3,.aa fl es)] ρ',h⟩) (M2:=λs'=>∃bb ρ',s'=⟨al [(0,.aa fl es),(4,.bool bb)] ρ',h⟩/\(bb=true->es=[]))
 ·rfl
 ·rfl
 ·refine wXB ?_;exact⟨_,St.aR ⟨rfl,rfl,trivial⟩⟩
 ·rintro s1 a2 w2 β2 ⟨ρ2,rfl⟩ R2 S2;obtain⟨bb,hb,os⟩:=jE (t:=22) (yt:=22) (el:=35) (x:=.tmp 3) (fl:=fl) (es:=es) R2.hr R2.er (bp (T6.cU 22 _ rfl)) (dz (L:=[(0,.aa fl es),(3,.aa fl es)]) (t:=3) rfl ρ2);refine⟨.bool bb,h,os _ rfl,ah.nil ⟨bb,al ((4,.bool bb)::[(0,.aa fl es),(3,.aa fl es)]) ρ2,?_,hb⟩⟩;show(⟨b9 (al [(0,.aa fl es),(3,.aa fl es)] ρ2) (some 4) (.bool bb),h⟩:St)=_;rw[ck];exact St.aR ⟨rfl,rfl,trivial⟩
 rintro s3 a3 w3 β3 ⟨bb,ρ3,rfl,hb⟩ R3 S3
 cases bb
 ·refine cJ K0 bX S0 (M:=λex s'=>ex=.normal/\∃ρ',s'=⟨al [(0,.aa fl es)] ρ',h⟩) rfl ?_ R3 ?_
  ·refine wXB ?_;exact⟨rfl,_,St.aR ⟨rfl,trivial⟩⟩
  rintro ex s' a4 w4 β4 ⟨rfl,ρ4,rfl⟩ R4 S4;refine cJ K0 bX S0 (M:=λex s'=>ex=.ret/\∃ρ',s'=⟨al [(2,r)] ρ',h'⟩) rfl ?_ R4 ?_
  ·refine wXB ?_;rcases hr with⟨rfl,rfl,rfl⟩|⟨bJ,rfl,rfl⟩
   ·apply R.kZ T6;exact rfl;exact rfl;exact rfl;exact rfl;exact rfl;exact rfl;exact rfl;exact(by decide);exact rfl;exact rfl;refine wXB ?_;exact⟨rfl,_,St.aR ⟨rfl,trivial⟩⟩
   ·apply R.iZ T6;exact rfl;exact rfl;exact rfl;exact rfl;exact rfl;exact rfl;exact rfl;exact(by decide);exact rfl;exact rfl;exact iU;exact bJ;exact hn;refine wXB ?_;exact⟨rfl,_,St.aR ⟨rfl,trivial⟩⟩
  rintro ex s5 a5 w5 β5 ⟨rfl,ρ5,rfl⟩ R5 S5;refine⟨.inr rfl,_,β5,R5,((S1.trans S3).trans S4).trans S5,[r],?_,λu hu=>⟨β5,hu,R5.hr,((S1.trans S3).trans S4).trans S5⟩⟩;exact eA (L:=[(2,r)]) rfl
 ·obtain rfl:=hb rfl;rcases hr with⟨_,rfl,rfl⟩|⟨bJ,_⟩
  ·refine cJ K0 bX S0 (M:=λex s'=>ex=.ret/\∃ρ',s'=⟨al [(2,.aa true [])] ρ',h'⟩) rfl ?_ R3 ?_
   ·refine wXB ?_;exact⟨rfl,_,St.aR ⟨rfl,trivial⟩⟩
   rintro ex s5 a5 w5 β5 ⟨rfl,ρ5,rfl⟩ R5 S5;refine⟨.inr rfl,_,β5,R5,(S1.trans S3).trans S5,[.aa true []],?_,λu hu=>⟨β5,hu,R5.hr,(S1.trans S3).trans S5⟩⟩;exact eA (L:=[(2,.aa true [])]) rfl
  ·exact absurd rfl bJ
 ·rfl
end Zero
theorem Ec:fq C.P 15 (bq 5):=by
 intro args h r h' e w F β vs H ha
 unfold bq at e
 split at e
 ·rename_i fl es
  split at e
  ·rename_i wa
   obtain⟨rfl,rfl⟩:=aaa (ZZ e);obtain rfl:es=[]:=by simpa using wa
   exact Zero.Kf H ha rfl (by simp) (.inl ⟨rfl,rfl,rfl⟩)
  ·rename_i wa
   split at e
   ·rename_i hc
    obtain⟨rfl,rfl⟩:=aaa (ZZ e);exact Zero.Kf H ha hc.1 hc.2 (.inr ⟨by simpa using wa,rfl,rfl⟩)
   ·cases e
 ·cases e
namespace Zero
theorem Ke{fl:Bool}{es:List PV}{vs:List Value}(H:aZ w F β h)(ha:L2 (aD w (Av F h β) β h) vs [.aa fl es])(iU:dB 8 es)(hn:es.length<1000000000){r:PV}{h':ab}
  (hr:(es=[]/\r=.aa true []/\h'=h)\/(es≠[]/\r=.ak h.length 0 0 es.length/\h'=h++[⟨.m,0,8,es⟩])):mh C0.P 2 w F β h 16 vs r h':=by
 refine ja (P:=C0.P) Tryz.func16 rfl H ha (λa RR=>?_);refine wp_seq ?_;refine cJ K0 bX S0 (M:=λex s'=>ex=.normal/\∃ρ',s'=⟨al [(0,.aa fl es)] ρ',h⟩) rfl ?_ RR ?_
 ·rw[gU];refine wXB ?_;exact⟨rfl,_,St.aR ⟨rfl,trivial⟩⟩
 rintro ex s' a1 w1 β1 ⟨rfl,ρ1,rfl⟩ R1 S1;refine wp_seq ?_;refine wp_seq ?_;apply bY K0 S0 (pre:=[_]) (post:=[]) (R:=R1) (M:=λs'=>∃ρ',s'=⟨al [(0,.aa fl es),(3,.aa fl es)] ρ',h⟩) (M2:=λs'=>∃bb ρ',s'=⟨al [(0,.aa fl es),(4,.bool bb)] ρ',h⟩/\(bb=true->es=[]))
 ·rfl
 ·rfl
 ·refine wXB ?_;exact⟨_,St.aR ⟨rfl,rfl,trivial⟩⟩
 ·rintro s1 a2 w2 β2 ⟨ρ2,rfl⟩ R2 S2;obtain⟨bb,hb,os⟩:=jE (t:=23) (yt:=23) (el:=38) (x:=.tmp 3) (fl:=fl) (es:=es) R2.hr R2.er (bp (T6.cU 23 _ rfl)) (dz (L:=[(0,.aa fl es),(3,.aa fl es)]) (t:=3) rfl ρ2);refine⟨.bool bb,h,os _ rfl,ah.nil ⟨bb,al ((4,.bool bb)::[(0,.aa fl es),(3,.aa fl es)]) ρ2,?_,hb⟩⟩;show(⟨b9 (al [(0,.aa fl es),(3,.aa fl es)] ρ2) (some 4) (.bool bb),h⟩:St)=_;rw[ck];exact St.aR ⟨rfl,rfl,trivial⟩
 rintro s3 a3 w3 β3 ⟨bb,ρ3,rfl,hb⟩ R3 S3
 cases bb
 ·refine cJ K0 bX S0 (M:=λex s'=>ex=.normal/\∃ρ',s'=⟨al [(0,.aa fl es)] ρ',h⟩) rfl ?_ R3 ?_
  ·refine wXB ?_;exact⟨rfl,_,St.aR ⟨rfl,trivial⟩⟩
  rintro ex s' a4 w4 β4 ⟨rfl,ρ4,rfl⟩ R4 S4;refine cJ K0 bX S0 (M:=λex s'=>ex=.ret/\∃ρ',s'=⟨al [(2,r)] ρ',h'⟩) rfl ?_ R4 ?_
  ·refine wXB ?_;rcases hr with⟨rfl,rfl,rfl⟩|⟨bJ,rfl,rfl⟩
   ·apply R.kZ T6;exact rfl;exact rfl;exact rfl;exact rfl;exact rfl;exact rfl;exact rfl;exact(by decide);exact rfl;exact rfl;refine wXB ?_;exact⟨rfl,_,St.aR ⟨rfl,trivial⟩⟩
   ·apply R.iZ T6;exact rfl;exact rfl;exact rfl;exact rfl;exact rfl;exact rfl;exact rfl;exact(by decide);exact rfl;exact rfl;exact iU;exact bJ;exact hn;refine wXB ?_;exact⟨rfl,_,St.aR ⟨rfl,trivial⟩⟩
  rintro ex s5 a5 w5 β5 ⟨rfl,ρ5,rfl⟩ R5 S5;refine⟨.inr rfl,_,β5,R5,((S1.trans S3).trans S4).trans S5,[r],?_,λu hu=>⟨β5,hu,R5.hr,((S1.trans S3).trans S4).trans S5⟩⟩;exact eA (L:=[(2,r)]) rfl
 ·obtain rfl:=hb rfl;rcases hr with⟨_,rfl,rfl⟩|⟨bJ,_⟩
  ·refine cJ K0 bX S0 (M:=λex s'=>ex=.ret/\∃ρ',s'=⟨al [(2,.aa true [])] ρ',h'⟩) rfl ?_ R3 ?_
   ·refine wXB ?_;exact⟨rfl,_,St.aR ⟨rfl,trivial⟩⟩
   rintro ex s5 a5 w5 β5 ⟨rfl,ρ5,rfl⟩ R5 S5;refine⟨.inr rfl,_,β5,R5,(S1.trans S3).trans S5,[.aa true []],?_,λu hu=>⟨β5,hu,R5.hr,(S1.trans S3).trans S5⟩⟩;exact eA (L:=[(2,.aa true [])]) rfl
  ·exact absurd rfl bJ
 ·rfl
end Zero
theorem Eb:fq C.P 16 (bq 8):=by
 intro args h r h' e w F β vs H ha
 unfold bq at e
 split at e
 ·rename_i fl es
  split at e
  ·rename_i wa
   obtain⟨rfl,rfl⟩:=aaa (ZZ e);obtain rfl:es=[]:=by simpa using wa
   exact Zero.Ke H ha rfl (by simp) (.inl ⟨rfl,rfl,rfl⟩)
  ·rename_i wa
   split at e
   ·rename_i hc
    obtain⟨rfl,rfl⟩:=aaa (ZZ e);exact Zero.Ke H ha hc.1 hc.2 (.inr ⟨by simpa using wa,rfl,rfl⟩)
   ·cases e
 ·cases e
theorem BX{a:Act}{ρ:Nat->PV}(H:aZ w F β h)(R:gR w (Av F h β) β h a ρ){t yt el:TypeId}{x:Operand}{id ep:Nat}{mu:Mu}{sz:Nat}{es:List PV}(hu:C0.P.underlying t=some (.slice el))(hx:ev ρ x=.ak id ep 0 es.length)(he:h[id]?=some ⟨mu,ep,sz,es⟩):
  ∀o:Oper,o.op=.binOp .eql t x (.const (.slice none 0 0)) yt->uN C0.P 2 w F β h (execOp a.eval o) (.bool false) h:=by
 have hv:=R.ev x;rw[hx]at hv
 obtain⟨ad,cap,e1⟩:∃ad cap,a.eval x=.slice (some ad) es.length cap:=by
  generalize a.eval x=v at hv
  cases hv with
  |ak v id ep off len o bc h1 h2 h3 h4 h5 h6=>
   rw[he]at h2;obtain rfl:=ZZ h2;obtain⟨cap,e,_⟩:=h6 rfl (by simp);exact⟨_,cap,e⟩
  |val hs=>cases hs
 intro o ho
 refine⟨.bool false,w,β,.inl ?_,.val (.bool _),H,dS.refl w h β,λ_=>dF.refl w⟩;obtain⟨d,op,ty,pos,af,g⟩:=o;simp only at ho;subst ho;have h2:a.eval (.const (.slice none 0 0))=.slice none 0 0:=rfl;have g1:(eqGuard .eql t x (.const (.slice none 0 0)) (.slice (some ad) es.length cap) (.slice none 0 0)).run C0.P w=.ok () w:=by simp[eqGuard]
 have g2:(binOp .eql t (.slice (some ad) es.length cap) (.slice none 0 0)).run C0.P w=.ok (.bool false) w:=by
  simp only[binOp];simp[run_equal_slice_nil w t el (some ad) es.length cap hu]
 simp only[execOp,e1,h2,Sem.run_bind,g1,g2,Result.andThen_ok,Sem.run_pure]
theorem R.Kj{C:cP}(T:lL C.P){ops:Array Oper}{d:Nat}{ty:TypeId}{pos:String}{af:Array Edge}{r:List Oper}{ρ:Nat->PV}{L:List (Nat×PV)}{Q:St->Prop}{st xt el ql:TypeId}{sz fZ id ep:Nat}{mu:Mu}{z:PV}{ys:List PV}{x y:Operand}(hx:cM L x=some (.aa true []))(hy:cM L y=some (.ak id ep 0 ys.length))(he:h[id]?=some ⟨mu,ep,sz+1,ys⟩)(uO:mu≠.x)(hk:T.kd st=some (.sl el))(fB:T.kd xt=some (.sl ql))(hs:T.ts el=some (sz+1))(hb:T.tb el=some fZ)(hz:T.tz el=some z)
  (jn:fZ<=1000) (hl:(cells z).length=sz+1) (ho:(cells z).all bI=true) (zf:dB (sz+1) ys) (bJ:ys≠[]) (hn:ys.length<1000000000) (kk:ah C ops r ⟨al ((d,.ak h.length 0 0 ys.length)::L) ρ,h++[⟨.m,0,sz+1,ys⟩]⟩ Q):
  ah C ops (⟨some d,.call ⟨.builtin .append,#[x,y],#[st,xt]⟩,ty,pos,af,none⟩::r) ⟨al L ρ,h⟩ Q:=by
 refine ah.eR (λrun=>?_) kk;have cX:cw h (.ak id ep 0 ys.length)=some ys:=by simp[cw,getM,he,uO]
 have AD:ys.isEmpty=false:=by cases ys with |nil=>exact absurd rfl bJ |cons=>rfl
 have mq:bQ C.P 2 h st xt (.aa true []) (.ak id ep 0 ys.length)=some (.ak h.length 0 0 ys.length,h++[⟨.m,0,sz+1,ys⟩]):=by
  unfold bQ;rw[bp (T.cU _ _ hk)];simp only[T.dT _ _ hs,T.rI _ _ hb,T.na _ _ hz,cG,bp (T.cU _ _ fB),cX];unfold dB at zf;rw[if_pos ⟨by omega,by omega,⟨hl,ho⟩,zf⟩];simp[AD,iX hn jn,newObj]
 simp only[ar,bo,aah,aas,an hx,an hy,mq]
namespace Zero
theorem Od{id ep:Nat}{mu:Mu}{es:List PV}{vs:List Value}(H:aZ w F β h)(ha:L2 (aD w (Av F h β) β h) vs [.ak id ep 0 es.length])(he:h[id]?=some ⟨mu,ep,8,es⟩)(uO:mu≠.x)(iU:dB 8 es)(hn:es.length<1000000000)(bJ:es≠[]):
  mh C0.P 2 w F β h 16 vs (.ak h.length 0 0 es.length) (h++[⟨.m,0,8,es⟩]):=by
 refine ja (P:=C0.P) Tryz.func16 rfl H ha (λa RR=>?_);refine wp_seq ?_;refine cJ K0 bX S0 (M:=λex s'=>ex=.normal/\∃ρ',s'=⟨al [(0,.ak id ep 0 es.length)] ρ',h⟩) rfl ?_ RR ?_
 ·rw[gU];refine wXB ?_;exact⟨rfl,_,St.aR ⟨rfl,trivial⟩⟩
 rintro ex s' a1 w1 β1 ⟨rfl,ρ1,rfl⟩ R1 S1;refine wp_seq ?_;refine wp_seq ?_;apply bY K0 S0 (pre:=[_]) (post:=[]) (R:=R1) (M:=λs'=>∃ρ',s'=⟨al [(0,.ak id ep 0 es.length),(3,.ak id ep 0 es.length)] ρ',h⟩) (M2:=λs'=>∃ρ',s'=⟨al [(0,.ak id ep 0 es.length),(4,.bool false)] ρ',h⟩)
 ·rfl
 ·rfl
 ·refine wXB ?_;exact⟨_,St.aR ⟨rfl,rfl,trivial⟩⟩
 ·rintro s1 a2 w2 β2 ⟨ρ2,rfl⟩ R2 S2;have os:=BX (t:=23) (yt:=23) (el:=38) (x:=.tmp 3) R2.hr R2.er (bp (T6.cU 23 _ rfl)) (dz (L:=[(0,.ak id ep 0 es.length),(3,.ak id ep 0 es.length)]) (t:=3) rfl ρ2) he;refine⟨.bool false,h,os _ rfl,ah.nil ⟨al ((4,.bool false)::[(0,.ak id ep 0 es.length),(3,.ak id ep 0 es.length)]) ρ2,?_⟩⟩;show(⟨b9 (al [(0,.ak id ep 0 es.length),(3,.ak id ep 0 es.length)] ρ2) (some 4) (.bool false),h⟩:St)=_;rw[ck];exact St.aR ⟨rfl,rfl,trivial⟩
 rintro s3 a3 w3 β3 ⟨ρ3,rfl⟩ R3 S3;refine cJ K0 bX S0 (M:=λex s'=>ex=.normal/\∃ρ',s'=⟨al [(0,.ak id ep 0 es.length)] ρ',h⟩) rfl ?_ R3 ?_
 ·refine wXB ?_;exact⟨rfl,_,St.aR ⟨rfl,trivial⟩⟩
 rintro ex s' a4 w4 β4 ⟨rfl,ρ4,rfl⟩ R4 S4;refine cJ K0 bX S0 (M:=λex s'=>ex=.ret/\∃ρ',s'=⟨al [(2,.ak h.length 0 0 es.length)] ρ',h++[⟨.m,0,8,es⟩]⟩) rfl ?_ R4 ?_
 ·refine wXB ?_;apply R.Kj T6;exact rfl;exact rfl;exact he;exact uO;exact rfl;exact rfl;exact rfl;exact rfl;exact rfl;exact(by decide);exact rfl;exact rfl;exact iU;exact bJ;exact hn;refine wXB ?_;exact⟨rfl,_,St.aR ⟨rfl,trivial⟩⟩
 rintro ex s5 a5 w5 β5 ⟨rfl,ρ5,rfl⟩ R5 S5;refine⟨.inr rfl,_,β5,R5,((S1.trans S3).trans S4).trans S5,[.ak h.length 0 0 es.length],?_,λu hu=>⟨β5,hu,R5.hr,((S1.trans S3).trans S4).trans S5⟩⟩;exact eA (L:=[(2,.ak h.length 0 0 es.length)]) rfl
 rfl
end Zero
def qQ(bC:Nat)(args:List PV)(h:ab):Option (PV×ab):=
 match args with
 |[.ak id ep off len]=>match h[id]? with
  |some o=>if o.mu≠.x/\o.ep=ep/\o.bC=bC/\off=0/\len=o.es.length/\o.es≠[]/\o.es.all (λv=>decide ((cells v).length=bC)&& (cells v).all bI)=true/\o.es.length<1000000000 then some (.ak h.length 0 0 o.es.length,newObj h bC o.es)else none
  |none=>none
 |args=>bq bC args h
theorem Ef:fq C.P 16 (qQ 8):=by
 intro args h r h' e w F β vs H ha
 unfold qQ at e
 split at e
 ·rename_i id ep off len
  split at e
  ·rename_i o ho
   split at e
   ·rename_i hc
    obtain⟨rfl,rfl⟩:=aaa (ZZ e);obtain⟨h1,rfl,h3,rfl,rfl,h6,h7,h8⟩:=hc;obtain⟨mu,ep,bC,es⟩:=o;simp only at *;subst h3;exact Zero.Od H ha ho h1 h7 h8 h6
   ·cases e
  ·cases e
 ·exact Eb _ _ _ _ e _ _ _ _ H ha
end Go.Pm
namespace Go.Pm
namespace bP
open Go.Proofs
set_option maxRecDepth 100000
abbrev X':=List PV->ab->Option (PV×ab)
def su:List (FuncId×X'):=[(161,pD),(215,iE),(216,bq 4),(370,bq 5),(15,bq 5),(16,qQ 8)]
def Dj(f:FuncId):Mode:=match su.lookup f with |some g=>.cz g |none=>jB f
noncomputable def C:cP:=⟨Go.Pm.C.P,Dj⟩
noncomputable def T6:lL C.P:=Go.Pm.T6
theorem Fu{α:Type}{l:List (Nat×α)}{f:Nat}{g:α}(h:l.lookup f=some g):(f,g)∈l:=by
 induction l with
 |nil=>cases h
 |cons x l ih=>
  obtain⟨a,b⟩:=x;simp only[List.lookup]at h
  split at h
  ·rename_i he
   obtain rfl:=ZZ h;rw[eq_of_beq he];simp
  ·exact abf _ (ih h)
theorem iK(f:FuncId):(∃g,(f,g)∈su/\Dj f=.cz g)\/Dj f=jB f:=by
 unfold Dj
 cases h:su.lookup f with
 |none=>exact .inr rfl
 |some g=>exact .inl ⟨g,Fu h,rfl⟩
theorem Ms(x:FuncId×X')(h:x∈su):jB x.1=.no:=by
 simp only[su,Z',List.mem_nil_iff,or_false]at h
 repeat' (first |(rcases h with rfl |h)|subst h |fail)
 all_goals rfl
theorem IW(x:FuncId×X')(h:x∈su):fq C.P x.1 x.2:=by
 simp only[su,Z',List.mem_nil_iff,or_false]at h
 repeat' (first |(rcases h with rfl |h)|subst h |fail)
 all_goals first |exact Mt |exact qA.CD |exact Ed |exact Ee |exact Ec |exact Ef
theorem Mv (x : FuncId × X') (h : x ∈ su) : ∃ fn, C.P.funcs[x.1]? = some fn ∧ fn.body.isSome = true ∧ (fn.name == "runtime.NumGoroutine") = false := by
 simp only[su,Z',List.mem_nil_iff,or_false]at h
 repeat' (first |(rcases h with rfl |h)|subst h |fail)
 all_goals first
  |exact⟨_,Tryz.func161,by kernel_rfl,by kernel_rfl⟩
  |exact⟨_,Tryz.func215,by kernel_rfl,by kernel_rfl⟩
  |exact⟨_,Tryz.func216,by kernel_rfl,by kernel_rfl⟩
  |exact⟨_,Tryz.func370,by kernel_rfl,by kernel_rfl⟩
  |exact⟨_,Tryz.func15,by kernel_rfl,by kernel_rfl⟩
  |exact⟨_,Tryz.func16,by kernel_rfl,by kernel_rfl⟩
theorem QU:z7 jB Dj:=λf=>by
 rcases iK f with⟨g,h,_⟩|h
 ·exact .inl (Ms _ h)
 ·exact .inr h.symm
theorem _root_.Go.Pm.aO.nine{f:FuncId}{args:List PV}{r:PV}(a:aO Go.Pm.C f args r):aO C f args r:=aO.up QU a
theorem _root_.Go.Pm.ax.nine{f:FuncId}{args:List PV}{h:ab}{Q:PV->ab->Prop}(a:ax Go.Pm.C f args h Q):ax C f args h Q:=ax.up QU a
theorem TU:fT C where
 enters f hf bJ:=by
  rcases iK f with⟨g,h,_⟩|h
  ·exact Mv _ h
  ·exact xe.enters f (λh2=>hf (h.trans h2)) (λg h2=>bJ g (h.trans h2))
 rA f g hh:=by
  rcases iK f with⟨g',_,h⟩|h
  ·cases h.symm.trans hh
  ·exact xe.rA f g (h.symm.trans hh)
 cz f g hh:=by
  rcases iK f with⟨g',h1,h⟩|h
  ·obtain rfl:=Mode.cz.inj (h.symm.trans hh);exact IW _ h1
  ·exact xe.cz f g (h.symm.trans hh)
 ext f g hh:=by
  rcases iK f with⟨g',_,h⟩|h
  ·cases h.symm.trans hh
  ·exact xe.ext f g (h.symm.trans hh)
theorem Ml:pR C where
 mixed:=oH.mixed
 BH f fn c hm hf hb:=by
  rcases iK f with⟨g',_,h⟩|h
  ·rcases hm with hm |hm <;>cases h.symm.trans hm
  ·exact oH.BH f fn c (hm.imp (λh2=>h.symm.trans h2) (λh2=>h.symm.trans h2)) hf hb
end bP
open Go.Proofs
set_option maxRecDepth 4000
def sH(p:Tm):List Tm->List Tm
 |[]=>[]
 |a::r=>if aU a p=0 then sH a r else a::sH a r
def dd:List Tm->List Tm
 |[]=>[]
 |x::r=>x::sH x r
theorem Gj(p:Tm):∀l:List Tm,(sH p l).length<=l.length
 |[]=>by simp[sH]
 |a::r=>by
  have:=Gj a r;unfold sH
  split <;>simp <;>omega
theorem Ew:∀l:List Tm,(dd l).length<=l.length
 |[]=>by simp[dd]
 |a::r=>by have:=Gj a r;simp[dd];omega
theorem gw{l:List Tm}{i:Nat}{t:Tm}(h:l[i]?=some t):(ae l)[i]?=some (.agg [.int .i64 t.k,.str t.s,.int .i64 t.o,.aa false (ae t.l)]):=by rw[cZ,aaj,h,<-aw];rfl
theorem wo{l:List Tm}{i:Nat}{t:Tm}:(ae l).set i (enc t)=ae (l.set i t):=by rw[cZ,cZ,List.map_set]
theorem sQ{α:Type}{L A B:List α}{x:α}{i:Nat}(e:L=A++x::B)(hi:i=A.length):L[i]?=some x:=by subst e hi;simp
theorem cW{α:Type}{l:List α}{i:Nat}{x:α}(h:l[i]?=some x):l.set i x=l:=by
 obtain⟨h1,rfl⟩:=abZ.1 h;exact acf h1
section
variable{C:cP}(T:lL C.P){h:ab}
theorem rO{t el:TypeId}{sz id ep len n:Nat}{k:IntKind}{es:List PV}(hk:T.kd t=some (.sl el))(hs:T.ts el=some sz)(e:h[id]?=some ⟨.m,ep,sz,es⟩)(hl:len<=es.length)(h0:0<n)(hn:n<len):
  cg C.P h t (.ak id ep 0 len) (some (.int k n)) none none=some (.ak id ep (0+n) (len - n)):=by
 have hg:getM h id ep=some ⟨.m,ep,sz,es⟩:=bg e rfl (by simp);simp only[cg,bp (T.cU _ _ hk),T.dT _ _ hs,hg];rw[if_pos ⟨trivial,by show 0+len<=es.length;omega⟩];have hb:beyond none none len (es.length - 0)=none:=rfl;simp only[beyond,cF];rw[if_pos (by omega)];simp only[abi];rw[if_pos (by rfl),if_neg (by simp),if_neg (by omega),if_neg (by omega)]
theorem Ca{t el:TypeId}{sz id ep len n:Nat}{k:IntKind}{es:List PV}(hk:T.kd t=some (.sl el))(hs:T.ts el=some sz)(e:h[id]?=some ⟨.m,ep,sz,es⟩)(hl:len<=es.length)(hn:n<=len):
  cg C.P h t (.ak id ep 0 len) none (some (.int k n)) none=some (.ak id ep 0 n):=by
 have hg:getM h id ep=some ⟨.m,ep,sz,es⟩:=bg e rfl (by simp);simp only[cg,bp (T.cU _ _ hk),T.dT _ _ hs,hg];rw[if_pos ⟨trivial,by show 0+len<=es.length;omega⟩];simp only[beyond,cF];rw[if_neg (by omega),if_pos (by omega)];simp
theorem Cb{t el:TypeId}{sz id ep off len:Nat}{z:PV}{es:List PV}(hk:T.kd t=some (.sl el))(hs:T.ts el=some sz)(hz:T.tz el=some z)(e:h[id]?=some ⟨.m,ep,sz,es⟩)(hl:off+len<=es.length)(hc:(cells z).length=sz)(ho:(cells z).all bI=true):
  mf C.P 2 h t (.ak id ep off len)=some (.cx [],h.set id ⟨.m,ep,sz,es.take off++List.replicate len z++es.drop (off+len)⟩):=by
 have hg:getM h id ep=some ⟨.m,ep,sz,es⟩:=bg e rfl (by simp);simp only[mf,bp (T.cU _ _ hk),T.dT _ _ hs,T.na _ _ hz,hg];rw[if_pos ⟨by omega,trivial,trivial,hl,hc,ho⟩]
theorem oR.sl{L:Al}{t:TypeId}{x lo:Operand}{v u w:PV}{K:PV->Prop}(hx:cM L x=some v)(hl:cM L lo=some u)(hs:cg C.P h t v (some u) none none=some w)(kk:Rn (K w)):oR C (.slice t x (some lo) none none) L h K:=
 .mk (λrun lv ρ=>by simp only[ar,aC,an hx,an hl,aab,ab0,hs]) kk
theorem oR.sh{L:Al}{t:TypeId}{x hi:Operand}{v u w:PV}{K:PV->Prop}(hx:cM L x=some v)(hl:cM L hi=some u)(hs:cg C.P h t v none (some u) none=some w)(kk:Rn (K w)):oR C (.slice t x none (some hi) none) L h K:=
 .mk (λrun lv ρ=>by simp only[ar,aC,an hx,an hl,aab,ab0,hs]) kk
theorem Cc.clr{L:Al}{t:TypeId}{x:Operand}{v:PV}{h':ab}{K:PV->ab->Prop}(hx:cM L x=some v)(hs:mf C.P 2 h t v=some (.cx [],h'))(kk:Rn (K (.cx []) h')):Cc C (.call ⟨.builtin .clear,#[x],#[t]⟩) L h K:=
 .mk (λrun ρ=>by simp only[ar,bo,aah,aas,an hx,hs]) kk
end
attribute [local irreducible] aE az aI aJ Ev ah ai ax aW
theorem Cd(a b:Tm)(ha:ay a<1000000000)(hb:ay b<1000000000):aO C 407 [enc a,enc b] (.bool (decide (aU a b=0))):=by
 have h1:=dZ a b ha hb;rw[aw,aw]at h1 ⊢;refine aO.x T6 Tryz.func407 rfl ?_;refine wXA ?_;refine .p h1 ?_;refine wXC (λhc=>?_) λhc=>?_
 all_goals exact⟨_,rfl,by simp[aY, *]⟩
theorem B8(H:ab):ax C 162 [.aa true [],.fn 407 []] H (λr h'=>r=.aa true []/\h'=H):=by
 refine ax.x T6 Tryz.func162 rfl ?_;refine wXA ?_;exact⟨rfl,rfl⟩
theorem Er(x:Tm)(l:List Tm)(H:ab)(hH:HV H)(id ep:Nat)(e1:H[id]?=some ⟨.m,ep,4,ae (x::l)⟩)(hn:l.length<100000000)(hb:∀t∈x::l,ay t<1000000000):
  ax C 162 [.ak id ep 0 (ae (x::l)).length,.fn 407 []] H
   (λr h'=>r=.ak id ep 0 (dd (x::l)).length/\∃tl,ao tl=true/\h'=H.set id ⟨.m,ep,4,ae (dd (x::l))++tl⟩):=by
 have cX:(ae (x::l)).length=l.length+1:=by rw[aj];rfl
 refine ax.x T6 Tryz.func162 rfl ?_;refine wXC (λhc=>?_) λhc=>?_
 ·obtain rfl:l=[]:=aaf (by omega);exact⟨rfl,[],rfl,by rw[aao];exact(cW e1).symm⟩
 refine eD.zip T6 l (λp q L h=>h=H/\∃P' prev,x::p=P'++[prev]/\P'++prev::sH prev q=dd (x::l)/\L=[(0,.ak id ep 0 (ae (x::l)).length),(1,.fn 407 []),(5,.int .i64 ((p.length+1:Nat):Int))]) (.nx ⟨rfl,[],x,rfl,rfl,rfl⟩) ?_ ?_
 ·rintro p a q _ h ρ e ⟨rfl,P',prev,hp,hd,rfl⟩;have cE:=congrArg List.length e;simp only[Z2,Z4]at cE;have nI:=congrArg List.length hp;simp only[Z2,Z4,aaE]at nI;have En:(ae (x::l))[0+(p.length+1)]?=some (.agg [.int .i64 a.k,.str a.s,.int .i64 a.o,.aa false (ae a.l)]):=gw (by rw[e,aan];simp)
  have oQ:(ae (x::l))[0+(((p.length+1:Nat):Int) - 1).toNat]?=some (.agg [.int .i64 prev.k,.str prev.s,.int .i64 prev.o,.aa false (ae prev.l)]):=gw (by
   rw[show(((p.length+1:Nat):Int) - 1).toNat=p.length by omega,e,<-aau,hp,aan,Z0 (by simp;omega),aac (by omega)];simp[show p.length - P'.length=0 by omega])
  have hq:=Cd a prev (hb a (by rw[e];simp)) (hb prev (by rw[e,<-aau,hp];simp));rw[aw,aw]at hq;refine wXA ?_;refine .p hq ?_
  cases hc:decide (aU a prev=0)
  ·refine wXA ?_;refine .nx ⟨rfl,P'++[prev],a,by rw[<-aau,hp],?_,rfl⟩;rw[<-hd,sH,if_neg (by simpa using hc)];simp
  ·refine wXA ?_;rw[cX]at *;refine .sl rfl rfl (rO T6 rfl rfl e1 (by rw[aj];simp) (by omega) (by omega)) ?_;refine wXA ?_
   refine eD.zip T6 q (λp2 q2 L h'=>∃R M0 pr,ay pr<1000000000/\R.length+M0.length=p.length+1+p2.length/\R++sH pr q2=dd (x::l)/\h'=h.set id ⟨.m,ep,4,ae (R++(M0++[pr]++q2))⟩/\
    L=[(0,.ak id ep 0 (l.length+1)),(1,.fn 407 []),(5,.int .i64 (R.length:Int)),(6,.ak id ep (0+(p.length+1)) (l.length+1 - (p.length+1))),(7,.int .i64 ((p2.length+1:Nat):Int))]) (.nx ⟨P'++[prev],[],a,hb a (by rw[e];simp),by simp only[Z2,Z4,aaE];omega,?_,?_,rfl⟩) ?_ ?_
   ·rw[<-hd,sH,if_pos (by simpa using hc)];simp
   ·rw[cW];rw[e1,e,<-aau,hp];simp
   ·rintro p2 b q2 _ _ ρ2 e2 ⟨R,M0,pr,Vw,JF,HP,rfl,rfl⟩;have Kc:=congrArg List.length e2;simp only[Z2,Z4]at Kc;have HQ:(h.set id ⟨.m,ep,4,ae (R++(M0++[pr]++b::q2))⟩)[id]?=some ⟨.m,ep,4,ae (R++(M0++[pr]++b::q2))⟩:=Z6 (ag e1);have Xy:HV (h.set id ⟨.m,ep,4,ae (R++(M0++[pr]++b::q2))⟩):=hH.set id (by simp) (by simp);have Ku:(ae (R++(M0++[pr]++b::q2))).length=l.length+1:=by rw[aj];simp;omega
    have YK:(ae (R++(M0++[pr]++b::q2)))[0+(p.length+1)+(p2.length+1)]?=some (.agg [.int .i64 b.k,.str b.s,.int .i64 b.o,.aa false (ae b.l)]):=gw (sQ (A:=R++M0++[pr]) (B:=q2) (by simp) (by simp;omega));have RI:(ae (R++(M0++[pr]++b::q2)))[0+(p.length+1)+(((p2.length+1:Nat):Int) - 1).toNat]?=some (.agg [.int .i64 pr.k,.str pr.s,.int .i64 pr.o,.aa false (ae pr.l)]):=gw (sQ (A:=R++M0) (B:=b::q2) (by simp) (by simp;omega));have Vx:=Cd b pr (hb b (by rw[e,e2];simp)) Vw;rw[aw,aw]at Vx;obtain⟨m,M1,hM⟩:∃m M1,M0++[pr]=m::M1:=by cases M0 with |nil=>exact⟨_,_,rfl⟩|cons m M=>exact⟨m,M++[pr],rfl⟩
    have XF:=congrArg List.length hM;simp only[Z2,Z4,aaE]at XF;have YL:(ae (R++(M0++[pr]++b::q2)))[0+R.length]?=some (.agg [.int .i64 m.k,.str m.s,.int .i64 m.o,.aa false (ae m.l)]):=gw (sQ (A:=R) (B:=M1++b::q2) (by rw[hM];simp) (by omega))
    have kC:(ae (R++(M0++[pr]++b::q2))).set (0+R.length) (.agg [.int .i64 b.k,.str b.s,.int .i64 b.o,.aa false (ae b.l)])=ae ((R++[b])++(M1++[b]++q2)):=by
     rw[<-aw,wo,hM,aan];simp
    clear hq En oQ;refine wXA ?_;refine .p Vx ?_
    cases JG:decide (aU b pr=0)
    ·refine wXA ?_;rw[kC,aaY];refine .nx ⟨R++[b],M1,b,hb b (by rw[e,e2];simp),by simp;omega,?_,rfl,rfl⟩;rw[<-HP,sH,if_neg (by simpa using JG)];simp
    ·refine wXA ?_;refine .nx ⟨R,M0++[pr],b,hb b (by rw[e,e2];simp),by simp;omega,?_,by simp,rfl⟩;rw[<-HP,sH,if_pos (by simpa using JG)]
   ·rintro _ _ ρ2 ⟨R,M0,pr,Vw,JF,HP,rfl,rfl⟩;have HQ:(h.set id ⟨.m,ep,4,ae (R++(M0++[pr]++[]))⟩)[id]?=some ⟨.m,ep,4,ae (R++(M0++[pr]++[]))⟩:=Z6 (ag e1);have Xy:HV (h.set id ⟨.m,ep,4,ae (R++(M0++[pr]++[]))⟩):=hH.set id (by simp) (by simp);have Ku:(ae (R++(M0++[pr]++[]))).length=l.length+1:=by rw[aj];simp;omega
    rw[sH,aao]at HP;subst HP;refine wXA ?_;refine .sl rfl rfl (rO T6 rfl rfl HQ (by omega) ?_ (by omega)) ?_
    ·simp[dd]
    refine wXA ?_;refine .clr rfl (Cb T6 rfl rfl rfl HQ (by omega) rfl rfl) ?_;have qn:List.take (0+(dd (x::l)).length) (ae (dd (x::l)++(M0++[pr]++[])))=ae (dd (x::l)):=by rw[cZ,cZ,aan,aaS,List.take_left' (by simp)]
    have vY:List.drop (0+(dd (x::l)).length+(l.length+1 - (dd (x::l)).length)) (ae (dd (x::l)++(M0++[pr]++[])))=[]:=aaz (by omega);rw[qn,vY,aaY]
    obtain⟨tl,Ey,cI,Oi⟩:∃tl:List PV,tl=List.replicate (l.length+1 - (dd (x::l)).length) (.agg [.int .i64 0,.str ByteArray.empty,.int .i64 0,.aa true []])/\tl.length=l.length+1 - (dd (x::l)).length/\ao tl=true:=
     ⟨_,rfl,by simp,by rw[bu,Z1];intro y hy;rw[aaT hy];rfl⟩
    have e3:(h.set id ⟨.m,ep,4,ae (dd (x::l))++tl⟩)[id]?=some ⟨.m,ep,4,ae (dd (x::l))++tl⟩:=Z6 (ag e1);rw[<-Ey,aao];refine wXA ?_;refine .sh rfl rfl (Ca T6 rfl rfl e3 (by rw[Z2,aj,cI];have:=Ew (x::l);simp at this;omega) (by omega)) ?_;refine wXA ?_;exact⟨rfl,tl,Oi,rfl⟩
 ·rintro _ h ρ ⟨rfl,P',prev,hp,hd,rfl⟩;have RJ:ae (dd (x::l))=ae (x::l):=by rw[<-hd,hp,sH]
  refine wXA ?_;exact⟨congrArg (PV.ak id ep 0) (by rw[<-RJ,aj]),[],rfl,by rw[RJ,aao];exact(cW e1).symm⟩
end Go.Pm
namespace Go.Pm
open Go.Proofs
set_option maxRecDepth 4000
theorem Kn:∀(l:List Tm) (p y:Tm),y∈p::sH p l↔y∈p::l
 |[],p,y=>by simp[sH]
 |a::r,p,y=>by
  have ih:=Kn r a y;unfold sH
  split
  ·rename_i h
   obtain rfl:=dx h;rw[ih];simp
  ·rw[Z',ih,Z' (b:=p)]
theorem Gh:∀(l:List Tm) (p:Tm),((p::l).Pairwise λx y=>aU x y<=0)->fO (p::sH p l)
 |[],p,_=>by simp[sH,fO]
 |a::r,p,h=>by
  have h2:=aal.1 h;have ih:=Gh r a h2.2;unfold sH
  split
  ·rename_i hc
   obtain rfl:=dx hc;exact ih
  ·rename_i hc
   have hp:=h2.1 a (by simp);have ng:=ee p a;refine aal.2 ⟨λy hy=>?_,ih⟩;rcases Z'.1 hy with rfl |hy
   ·omega
   ·exact dR (show aU p a<0 by omega) ((aal.1 ih).1 y hy)
theorem Ko(l:List Tm)(y:Tm):y∈dd l↔y∈l:=by
 cases l with
 |nil=>simp[dd]
 |cons x r=>exact Kn r x y
theorem Kp{l:List Tm}(h:l.Pairwise λx y=>aU x y<=0):fO (dd l):=by
 cases l with
 |nil=>simp[dd,fO]
 |cons x r=>exact Gh r x h
theorem Oh(l:List (List Pw)):dd (eg (jD l))=HE l:=
 nF (Kp (pV _)) (Ka l) (λy=>by rw[Ko,Ob];exact(fh _).mem_iff)
theorem ai.ln{C:cP}{f:FuncId}{args:List PV}{H:ab}{P Q:PV->ab->Prop}(a:ax C f args H P)(hl:∀r h',P r h'->h'.length=H.length)(q:∀r h',P r h'->Q r h')(hm:C.mode f=.opened:=by rfl):ai C 2 f args H Q:=by
 refine ai.opened hm (a.mono λr k hr=>?_)
 split
 ·rw[aar (by rw[hl r k hr];exact Z5 _)];exact q r k hr
 ·exact q r k hr
theorem Kq(a b:List (List Pw)):jD (a++b)=jD a++jD b:=by simp[jD]
attribute [local irreducible] aE az aI aJ Ev ah ai ax aW
theorem Em(H:ab)(id ep:Nat)(e1:H[id]?=some ⟨.m,ep,4,ae []⟩):ax C 162 [.ak id ep 0 0,.fn 407 []] H (λr h'=>r=.ak id ep 0 0/\h'=H):=by
 refine ax.x T6 Tryz.func162 rfl ?_;refine wXA ?_;exact⟨rfl,rfl⟩
theorem gV{h:ab}{id ep sz n:Nat}{es eT tl:List PV}(e:h[id]?=some ⟨.m,ep,sz,es++tl⟩)(hl:es.length=n)(hv:ao es=true)(hn:aQ es=eT):∃r1,rb h (aY [.ak id ep 0 n])=some r1/\cf r1=.aa false eT:=by
 subst hl hn;refine⟨.aa false es,?_,rfl⟩;have hg:getM h id ep=some ⟨.m,ep,sz,es++tl⟩:=bg e rfl (by simp);show rb h (.ak id ep 0 es.length)=_;simp[rb,j',qs,hg,hv]
namespace bP
theorem Kr(l:List (List Pw))(hs:SmT l):aO C 396 [.aa false (il l)] (.aa false (ae (HE l))):=by
 have cX:(il l).length=l.length:=by simp
 have yg:=hs.2;have En:=AA (l:=l) λx hx=>(hs.1 x hx).2
 have Ru:∀t∈jD l,ay t<1000000000:=λt ht=>by
  obtain⟨x,hx,ht⟩:=aaU.1 ht;obtain⟨p,hp,rfl⟩:=aak.1 ht;exact Nat.lt_trans ((hs.1 x hx).1 p hp) (by decide)
 refine aO.x T6 Tryz.func396 rfl ?_;refine wXA ?_;refine eD.zip T6 l (λp q L H=>∃v,L=[(3,v),(8,.aa false (il l)),(9,.int .i64 l.length),(10,.int .i64 p.length)]/\HV H/\Out 4 H v (ae (jD p))) (.nx ⟨.aa true [],rfl,HV.nil,.inl ⟨rfl,rfl⟩⟩) ?_ ?_
 ·rintro p x q _ H ρ e ⟨v,rfl,hH,ho⟩;have cY:=HD e;have cE:=congrArg List.length e;simp only[Z2,Z4]at cE;have hx:=hs.1 x (by rw[e];simp);have YJ:=eX x;have mq:=AA (l:=p) λy hy=>(hs.1 y (by rw[e];simp[hy])).2
  refine wXA ?_;refine eD.zip T6 x (λp2 q2 L H=>∃v,L=[(3,v),(8,.aa false (il l)),(9,.int .i64 l.length),(10,.int .i64 p.length),(14,.aa false (bh x)),(15,.int .i64 x.length),(16,.int .i64 p2.length)]/\HV H/\Out 4 H v (ae (jD p++p2.map (·.1)))) (.nx ⟨v,rfl,hH,by simpa using ho⟩) ?_ ?_
  ·rintro p2 ⟨u,n⟩ q2 _ H2 ρ e2 ⟨v2,rfl,oa,Eo⟩;have oQ:=B0 e2;have JF:=congrArg List.length e2;simp only[Z2,Z4]at JF;have yi:(ae (jD p++p2.map (·.1))).length+1<1000000000:=by rw[aj];simp;omega
   have Ep:=Eo.cC [⟨.m,0,5,[.agg [.int .i64 u.k,.str u.s,.int .i64 u.o,.aa false (ae u.l),.int .i64 n]]⟩];have Rv:HV (H2++[⟨.m,0,5,[.agg [.int .i64 u.k,.str u.s,.int .i64 u.o,.aa false (ae u.l),.int .i64 n]]⟩]):=oa.cC (HV.one (by simp));refine wXG λv H lp=>?_;refine .nx ⟨_,rfl,lp.hv,?_⟩;have:=lp.out;rw[B1,cZ]at this;rw[cZ,aaS,aaS,aaS];simpa using this
  ·rintro _ H2 ρ ⟨v2,rfl,oa,Eo⟩;refine wXA ?_;exact .nx ⟨v2,rfl,oa,by rw[Kq];simpa[jD]using Eo⟩
 ·rintro _ H ρ ⟨v,rfl,hH,ho⟩;rw[<-Oh];rcases ho with⟨rfl,e0⟩|⟨id,ep,rfl,e1⟩
  ·have e2:jD l=[]:=aaf (by rw[<-aj,e0];rfl);rw[e2];refine wXA ?_;refine ai.cz rfl rfl ?_;refine wXA ?_;refine .ln (B8 H).nine (λr h' hr=>by rw[hr.2]) (λr h' hr=>?_);obtain⟨rfl,rfl⟩:=hr;refine wXA ?_;exact⟨_,rfl,rfl⟩
  ·have qR:=aj (jD l);refine wXA ?_;refine ai.cz rfl (by rw[qR];exact lV e1 (by omega) Ru) ?_;have e2:(H.set id ⟨.m,ep,4,ae (eg (jD l))⟩)[id]?=some ⟨.m,ep,4,ae (eg (jD l))⟩:=Z6 (ag e1);have oa:HV (H.set id ⟨.m,ep,4,ae (eg (jD l))⟩):=hH.set id (by simp) (by simp);have yi:=(fh (jD l)).length_eq;have ez:∀t∈eg (jD l),ay t<1000000000:=λt ht=>Ru t ((fh _).mem_iff.1 ht)
   rw[qR,<-yi];rw[<-yi]at qR En;generalize eg (jD l)=S at *
   cases S with
   |nil=>
    refine wXA ?_;refine .ln (Em _ id ep e2).nine (λr h' hr=>by rw[hr.2]) (λr h' hr=>?_);obtain⟨rfl,rfl⟩:=hr;refine wXA ?_;exact Ls.HJ (.inl (.inr ⟨id,ep,rfl,e2⟩)) rfl (by simp[dd,ae])
   |cons x r=>
    have hc:=(Er x r _ oa id ep e2 (by simp at En;omega) ez).nine;rw[aj]at hc;refine wXA ?_;refine .ln hc (λr h' hr=>by obtain⟨_,_,_,rfl⟩:=hr;simp) (λr h' hr=>?_);obtain⟨rfl,tl,hv,rfl⟩:=hr;rw[aaY];have e3:(H.set id ⟨.m,ep,4,ae (dd (x::r))++tl⟩)[id]?=some ⟨.m,ep,4,ae (dd (x::r))++tl⟩:=Z6 (ag e1);refine wXA ?_;exact gV e3 (by rw[aj]) (by simp) (by simp)
end bP
end Go.Pm
namespace Go.Pm
theorem HS{s:ByteArray}(h:eK s=true):s.size<=24:=by
 rw[<-bsize];unfold eK AF at h
 cases e:s.toList with
 |nil=>simp
 |cons c l=>
  rw[e]at h;simp only[Z9,decide_eq_true_eq]at h;simp;omega
theorem zn{k n o l}(h:node (.mk k n o l)=0):eK n=true/\l.length<=8:=by
 simp only[node]at h
 split at h
 ·cases h
 ·split at h
  ·cases h
  ·rename_i hn
   split at h
   ·cases h
   ·exact⟨by simpa using hn,by omega⟩
theorem oU{k n o l}(h:nodes (.mk k n o l)=0):node (.mk k n o l)=0/\iT l=0:=by
 rw[nodes]at h
 split at h
 ·rename_i hn;exact absurd h hn
 ·exact⟨by omega,h⟩
theorem zo{f:Nat}:∀{l:List Tm},(∀t∈l,(ay t:Int)<=f * size t)->(bF l:Int)<=f * dN l
 |[],_=>by simp[bF,dN]
 |t::l,h=>by
  have h1:=h t (by simp);have h2:=zo (l:=l) λu hu=>h u (by simp[hu])
  simp only[bF,dN,Int.mul_add];omega
theorem EB(t:Tm):nodes t=0->(ay t:Int)<=25 * size t:=by
 induction t using Tm.ind with
 |h k n o l ih=>
  intro h
  obtain⟨h1,h2⟩:=oU h;have h3:=HS (zn h1).1;have h4:=zo (f:=25) λt ht=>by simpa using ih t ht (nw h2 t ht)
  simp only[ay,size,Int.mul_add];omega
theorem eL{t:Tm}(h:valid t=0):ay t<=10000:=by
 obtain⟨h1,h2,_⟩:=fX.1 h;have:=EB t h1;omega
theorem HT{k n o l}(h:valid (.mk k n o l)=0){t:Tm}(ht:t∈l):valid t=0:=by
 rw[fX]at h ⊢;exact VQ.kids h t ht
theorem AG{B:Nat}{x:Tm}:∀{s:List c9},(∀b∈s,ay b.t<=B)->ay (lO s x)<=max B (ay x)
 |[],_=>by simp[lO];omega
 |b::s,h=>by
  unfold lO
  split
  ·have:=h b (by simp);omega
  ·exact AG λc hc=>h c (by simp[hc])
theorem db(l:List Tm)(y:Tm):y∈jb l↔y∈l:=by rw[jb,AB];simp
theorem j0(l:List Tm):fO (jb l):=v8 (by simp[fO])
theorem EC(l:List Tm):dd (eg l)=jb l:=nF (Kp (pV _)) (j0 l) (λy=>by rw[Ko,db];exact(fh _).mem_iff)
theorem Ky(n:Int)(t y:Tm):y∈qw n t↔y∈pre t/\y.k=n:=by rw[qw,db];simp
theorem oV(t y:Tm):y∈bV t↔y∈pre t/\y.k=1:=Ky 1 t y
theorem bT{l:List Tm}{y:Tm}:y∈ch l↔∃t∈l,y∈pre t:=by
 induction l with
 |nil=>simp[ch]
 |cons t l ih=>simp[ch,ih]
theorem oW(t:Tm):∀y∈pre t,ay y<=ay t:=by
 induction t using Tm.ind with
 |h k n o l ih=>
  intro y hy
  rw[pre,Z']at hy;rcases hy with rfl |hy
  ·exact Z5 _
  ·obtain⟨t,ht,hy⟩:=bT.1 hy;have h1:=ih t ht y hy;have h2:=bS ht;simp only[ay];omega
theorem sU:∀{l:List Tm},(∀t∈l,(pre t).length<=ay t)->(ch l).length<=bF l
 |[],_=>by simp[ch,bF]
 |t::l,h=>by
  have h1:=h t (by simp);have h2:=sU (l:=l) λu hu=>h u (by simp[hu])
  simp only[ch,bF,Z2];omega
theorem vf(t:Tm):(pre t).length<=ay t:=by
 induction t using Tm.ind with
 |h k n o l ih=>
  have:=sU ih;simp only[pre,ay,Z4];omega
theorem oX(l:List Tm):(ch l).length<=bF l:=sU λt _=>vf t
theorem wu(l:List Tm):(jb l).length<=l.length:=by have:=vZ l [];simpa[jb]using this
theorem HU(n:Int)(t:Tm):(qw n t).length<=ay t:=by
 have h1:=wu ((pre t).filter λu=>decide (u.k=n));have h2:=aa4 (λu=>decide (u.k=n)) (pre t);have h3:=vf t;unfold qw;omega
theorem gz(t:Tm):(bV t).length<=ay t:=HU 1 t
theorem lf{t y:Tm}(h:y∈bV t):ay y<=ay t:=oW t y ((oV t y).1 h).1
theorem wv{p:ByteArray->Bool}:∀{l:List Tm},(∀t∈l,every p t=(pre t).all λu=>decide (u.k≠3)||p u.s)->iq p l=(ch l).all λu=>decide (u.k≠3)||p u.s
 |[],_=>rfl
 |t::l,h=>by
  rw[iq,ch,abj,h t (by simp),wv λu hu=>h u (by simp[hu])]
theorem sV{p:ByteArray->Bool}(t:Tm):every p t=(pre t).all λu=>decide (u.k≠3)||p u.s:=by
 induction t using Tm.ind with
 |h k n o l ih=>
  rw[every,pre,aaX,wv ih]
  rfl
theorem wx{t:Tm}(h:eB t=0):valid t=0/\od t=0/\rQ t=true/\(bV t).any Om=false/\size t<=60:=by
 unfold eB at h
 split at h
 ·rename_i hn;exact absurd h hn
 ·rename_i h1
  split at h
  ·cases h
  ·rename_i h2
   split at h
   ·cases h
   ·have h3:ky t=0:=by omega
    unfold ky at h3
    split at h3
    ·rename_i hn;exact absurd h3 hn
    ·refine⟨by omega,h3,?_,?_,by omega⟩
     ·cases hf:rQ t with
      |true=>rfl
      |false=>exact absurd (.inl hf) h2
     ·cases hf:(bV t).any Om with
      |false=>rfl
      |true=>exact absurd (.inr hf) h2
theorem ub:∀{l:List Tm},ia l=0->∀t∈l,eB t=0
 |[],_,t,h=>by cases h
 |u::l,e,t,h=>by
  rw[ia]at e
  split at e
  ·rename_i hn;exact absurd e hn
  ·rcases Z'.1 h with rfl |h
   ·omega
   ·exact ub e t h
theorem qV:∀{l:List eE} {p:Option (List Tm)} {b:List Tm},lX p b l=0->∀d∈l,d.kn.length<=40/\ia (d.kn++[d.tm])=0
 |[],_,_,_,d,h=>by cases h
 |u::l,p,b,e,d,h=>by
  rw[lX]at e
  split at e
  ·cases e
  ·split at e
   ·rename_i hn;exact absurd e hn
   ·split at e
    ·cases e
    ·split at e
     ·cases e
     ·rcases Z'.1 h with rfl |h
      ·exact⟨by omega,by omega⟩
      ·exact qV e d h
theorem zp{l:List eE}(h:nL l=0):l.length<=40/\∀d∈l,d.kn.length<=40/\∀t∈d.kn++[d.tm],eB t=0:=by
 unfold nL at h
 split at h
 ·cases h
 ·exact⟨by omega,λd hd=>⟨(qV h d hd).1,ub (qV h d hd).2⟩⟩
theorem oY{b:c9}(h:By b=0):valid b.v=0/\b.v.k=1/\valid b.t=0/\aU b.v b.t≠0/\lc b.v b.t=true:=by
 unfold By at h
 split at h
 ·rename_i hn;exact absurd h hn
 ·split at h
  ·cases h
  ·rename_i h2
   split at h
   ·rename_i hn;exact absurd h hn
   ·split at h
    ·cases h
    ·rename_i h4
     exact⟨by omega,by omega,by omega,by omega,by simpa using h4⟩
theorem wy:∀{s:List c9} {p:Option Tm},nV p s=0->(∀b∈s,By b=0)/\(s.Pairwise λa b=>aU a.v b.v<0)/\(∀q,p=some q->∀b∈s,aU q b.v<0)
 |[],_,_=>⟨λ_ h=>(by cases h),.nil,λ_ _ _ h=>(by cases h)⟩
 |u::s,p,e=>by
  rw[nV]at e
  split at e
  ·rename_i hn;exact absurd e hn
  ·rename_i h1
   split at e
   ·cases e
   ·rename_i h2
    obtain⟨g1,g2,g3⟩:=wy e;refine⟨λb hb=>?_,aal.2 ⟨λb hb=>g3 _ rfl b hb,g2⟩,?_⟩
    ·rcases Z'.1 hb with rfl |hb
     ·omega
     ·exact g1 b hb
    ·rintro q rfl b hb;have h3:aU q u.v<0:=by simpa[behind]using h2
     rcases Z'.1 hb with rfl |hb
     ·exact h3
     ·exact dR h3 (g3 _ rfl b hb)
theorem sX{s:List c9}(h:lN s=0):s.length<=200/\(∀b∈s,By b=0)/\s.Pairwise λa b=>aU a.v b.v<0:=by
 unfold lN at h
 split at h
 ·cases h
 ·obtain⟨g1,g2,_⟩:=wy h;exact⟨by omega,g1,g2⟩
end Go.Pm
