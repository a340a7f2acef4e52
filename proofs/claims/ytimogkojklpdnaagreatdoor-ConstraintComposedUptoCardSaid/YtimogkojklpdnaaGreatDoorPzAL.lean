/-
  A part of the library Pm (joined by program). Conditions: none.
-/
import Derived.Test.YtimogkojklpdnaaGreatDoorPzAA
import Derived.Test.YtimogkojklpdnaaGreatDoorPzAK
import Derived.Test.YtimogkojklpdnaaGreatDoorPzAI
import Derived.Test.YtimogkojklpdnaaGreatDoorPzAG
import Derived.Test.YtimogkojklpdnaaGreatDoorPzAE
import Derived.Test.YtimogkojklpdnaaGreatDoorPzAD
import Derived.Test.YtimogkojklpdnaaGreatDoorPzAH
set_option linter.unusedVariables false
set_option linter.unusedSimpArgs false
set_option linter.unnecessarySimpa false
namespace Go.Pm
theorem ND{a b:List Int}{q:Int}{c:Nat}(h:a.length=b.length):atR (Hb a b q) c=atR a c - q * atR b c:=by
 unfold atR Hb;simp only[List.getD,aaM]
 by_cases hc:c<a.length
 ·rw[Zy hc,Zy (by omega)];simp
 ·rw[ZM (by omega),ZM (by omega)];simp
structure uf(w c:Nat)(S:List Row)(P:List Int):Prop where
 len:∀R∈S,R.1.length=w
 pl:P.length=c
 pv:∀(k:Nat) (i:Int),P[k]?=some i->-1<=i/\(0<=i->∃b,S[i.toNat]?=some (b,true)/\atR b k≠0/\∀j,j<k->atR b j=0)
 un:∀b,(b,false)∈S->∀k,k<c->atR b k=0
 us:∀(j:Nat) (b:List Int),S[j]?=some (b,true)->∃k:Nat,P[k]?=some (j:Int)
theorem uf.ok{w c:Nat}{S:List Row}{P:List Int}(h:uf w c S P):XW S P:=λk i hi=>by
 obtain⟨h1,h2⟩:=h.pv k i hi;exact⟨h1,λh0=>by obtain⟨b,e1,e2,_⟩:=h2 h0;exact⟨b,true,e1,e2⟩⟩
theorem yL{c bi:Nat}{b:List Int}{S:List Row}{R:Row}(h:R∈tq c b bi S):R∈S\/∃a,(a,false)∈S/\R=(Hb a b ((atR a c).tdiv (atR b c)),false):=by
 obtain⟨i,hi⟩:=aas h;rw[yM]at hi
 cases hS:S[i]? with
 |none=>rw[hS]at hi;cases hi
 |some Q=>
  rw[hS]at hi;have hQ:=ZK hS;simp only[ZH,Z4]at hi
  split at hi
  ·exact .inl (hi▸hQ)
  ·unfold JU at hi
   split at hi
   ·rename_i hc
    obtain⟨a,u⟩:=Q;have hu:u=false:=by simp[jV]at hc;exact hc.1
    subst hu;exact .inr ⟨a,hQ,hi.symm⟩
   ·exact .inl (hi▸hQ)
theorem vO{c bi j:Nat}{b a:List Int}{S:List Row}:(tq c b bi S)[j]?=some (a,true)↔S[j]?=some (a,true):=by
 rw[yM]
 cases hS:S[j]? with
 |none=>simp
 |some Q=>
  obtain⟨x,u⟩:=Q;simp only[ZH,Z4]
  split
  ·exact Iff.rfl
  ·cases u
   ·unfold JU;split <;>simp
   ·simp[JU,jV]
theorem uf.step{w c:Nat}{S:List Row}{P:List Int}{bi:Nat}{b:List Int}(h:uf w c S P)(hb:x4 c S bi b):uf w c (tq c b bi S) P:=by
 have PC:=ZK hb.at_;have My:=h.len _ PC;refine⟨λR hR=>?_,h.pl,λk i hi=>?_,λa ha k hk=>?_,λj a ha=>h.us j a (vO.1 ha)⟩
 ·rcases yL hR with hR |⟨a,ha,rfl⟩
  ·exact h.len R hR
  ·have:=h.len _ ha;dsimp only at *;rw[JT (by omega)];exact this
 ·obtain⟨h1,h2⟩:=h.pv k i hi;exact⟨h1,λh0=>by obtain⟨x,e1,e2⟩:=h2 h0;exact⟨x,vO.2 e1,e2⟩⟩
 ·rcases yL ha with hR |⟨x,hx,he⟩
  ·exact h.un a hR k hk
  ·have e:=congrArg Prod.fst he;dsimp only at e;have h1:=h.len _ hx;dsimp only at h1 My;rw[e,ND (by omega),h.un x hx k hk,h.un b PC k hk];simp
theorem uf.col{w c st:Nat}{S:List Row}{P:List Int}{r:Option (List Row×Int)}(hc:PG c st S r):uf w c S P->∀S' i,r=some (S',i)->uf w (c+1) S' (P++[i]):=by
 induction hc with
 | @zero S hz=>
  rintro h _ _ ⟨⟩;have h0:=BA hz;refine⟨h.len,by simp[h.pl],λk i hi=>?_,λa ha k hk=>?_,λj a ha=>?_⟩
  ·rcases aaT k P.length with h1 |h1 |h1
   ·rw[Zv h1]at hi;exact h.pv k i hi
   ·subst h1;simp at hi;subst hi;exact⟨by omega,λhh=>by omega⟩
   ·rw[ZM (by simp;omega)]at hi;cases hi
  ·by_cases XX:k=c
   ·subst XX;have:=h0 _ ha;simpa[jV]using this
   ·exact h.un a ha k (by omega)
  ·obtain⟨k,hk⟩:=h.us j a ha;exact⟨k,by rw[Zv (ag hk)];exact hk⟩
 | @one S bi b hb h1=>
  rintro h _ _ ⟨⟩;have PC:=ZK hb.at_;have cz:=ag hb.at_
  have only:∀(j:Nat) (a:List Int),S[j]?=some (a,false)->atR a c≠0->j=bi:=λj a ha hn=>by
   have hca:jV c (a,false)=true:=by simp[jV,hn]
   have h2:(MB c S).length=1:=by rw[NE,h1]
   obtain⟨x,hx⟩:=List.length_eq_one_iff.1 h2;have m1:j∈MB c S:=FH.2 ⟨_,ha,hca⟩;have m2:bi∈MB c S:=FH.2 ⟨_,hb.at_,hb.isc⟩;rw[hx,ZY]at m1 m2;rw[m1,m2]
  have get:∀j R,(S.set bi (b,true))[j]?=some R->(j=bi/\R=(b,true))\/(j≠bi/\S[j]?=some R):=λj R hR=>by
   rw[List.getElem?_set]at hR
   split at hR
   ·rename_i hj;subst hj;(try rw[if_pos cz]at hR);exact .inl ⟨rfl,by simpa using hR.symm⟩
   ·rename_i hj;exact .inr ⟨λhh=>hj hh.symm,hR⟩
  have setb:(S.set bi (b,true))[bi]?=some (b,true):=by rw[ZB cz]
  refine⟨λR hR=>?_,by simp[h.pl],λk i hi=>?_,λa ha k hk=>?_,λj a ha=>?_⟩
  ·rcases aaQ hR with hR |rfl
   ·exact h.len R hR
   ·have:=h.len _ PC;exact this
  ·rcases aaT k P.length with h1 |h1 |h1
   ·rw[Zv h1]at hi;obtain⟨g1,g2⟩:=h.pv k i hi;refine⟨g1,λh0=>?_⟩;obtain⟨x,e1,e2⟩:=g2 h0;refine⟨x,?_,e2⟩;rw[List.getElem?_set]
    split
    ·rename_i hj;rw[<-hj,hb.at_]at e1;cases e1
    ·exact e1
   ·have hk:k=c:=by rw[h1,h.pl]
    subst h1;simp only[ZI (Zz _),abh,List.getElem?_cons_zero,Z4]at hi;subst hi;refine⟨by omega,λ_=>⟨b,by simpa using setb,by rw[hk];exact hb.nz,λj hj=>h.un b PC j (by omega)⟩⟩
   ·rw[ZM (by simp;omega)]at hi;cases hi
  ·obtain⟨j,hj⟩:=aas ha;rcases get j _ hj with⟨_,he⟩|⟨bI,hS⟩
   ·cases he
   ·by_cases XX:k=c
    ·subst XX;exact abr λhn=>bI (only j a hS hn)
    ·exact h.un a (ZK hS) k (by omega)
  ·rcases get j _ ha with⟨rfl,_⟩|⟨bI,hS⟩
   ·exact⟨P.length,by simp⟩
   ·obtain⟨k,hk⟩:=h.us j a hS;exact⟨k,by rw[Zv (ag hk)];exact hk⟩
 |JV=>rintro _ _ _ ⟨⟩
 |step hb h2 h3 h4 ih=>exact λh S' i e=>ih (h.step hb) S' i e
theorem uf.el{w n c:Nat}{S:List Row}{P:List Int}{r:Option (List Row×List Int)}(hE:El n c S P r):uf w c S P->∀S' P',r=some (S',P')->uf w n S' P':=by
 induction hE with
 |done=>rintro h _ _ ⟨⟩;exact h
 |JV=>rintro _ _ _ ⟨⟩
 |next h1 h2 h3 ih=>exact λh S' P' e=>ih (uf.col h2 h _ _ rfl) S' P' e
open Go.Proofs
set_option maxRecDepth 4000
theorem ai.same{C:cK}{f:FuncId}{args:List PV}{H:ab}{P:PV->Prop}{Q:PV->ab->Prop}(a:ay C f args H (λr h'=>P r/\h'=H))(q:∀r,P r->Q r H)(hm:C.mode f=.opened:=by rfl):ai C 2 f args H Q:=by
 refine ai.opened hm (a.mono λr k hr=>?_);obtain⟨hp,rfl⟩:=hr
 split
 ·rw[aap];exact q r hp
 ·exact q r hp
end Go.Pm
namespace Go.Pm
set_option maxRecDepth 4000
theorem BX(u:ByteArray)(a b:Nat):(u.extract a b).toList=(u.toList.take b).drop a:=by
 rw[ByteArray.toList_eq,ByteArray.toList_eq,ByteArray.data_extract,Array.toList_extract];simp[List.extract_eq_take_drop,abS]
def KF:ByteArray:=⟨#[48,49,50,51,52,53,54,55,56,57]⟩
def iZ:List PV:=(List.range 256).map λi=>.bool (decide (48<=i)&&decide (i<=57))
theorem HA{n:Nat}(h:n<256):iZ[n]?=some (.bool (decide (48<=n)&&decide (n<=57))):=by
 unfold iZ;rw[ZP,abP h]
 rfl
theorem ay.od{C:cK}{f:FuncId}{args:List PV}{h h':ab}{r:PV}{n:Nat}{Q:PV->ab->Prop}(e:eV C n f args h=some (r,h'))(q:Q r h'):ay C f args h Q:=⟨r,h',q,n,λm hm=>yW C hm f args h _ e⟩
theorem BY:∀{n:Nat} {l:List PV} {k:List PV->Prop},n<=l.length->k (l.drop n)->nJ n l k
 |0,l,k,_,h=>h
 |n+1,_::l,k,h1,h=>BY (n:=n) (by simpa using h1) h
 |_+1,[],_,h1,_=>by simp at h1
theorem KG{u:ByteArray}(h:0<u.size):∃c,u[u.size - 1]?=some c/\u.toList=(u.extract 0 (u.size - 1)).toList++[c]:=by
 have hl:=bsize u;have h1:u.toList≠[]:=by intro hh;rw[hh]at hl;simp at hl;omega
 refine⟨u.toList.getLast h1,KH ?_,?_⟩
 ·rw[<-hl,List.getLast_eq_getElem,Zy]
 ·rw[BX,aaA,<-hl,<-List.dropLast_eq_take,List.dropLast_concat_getLast]
theorem KI{u:ByteArray}(h:0<u.size):∃c,u[0]?=some c/\u.toList=c::(u.extract 1 u.size).toList:=by
 have hl:=bsize u
 cases e:u.toList with
 |nil=>rw[e]at hl;simp at hl;omega
 |cons c r=>
  refine⟨c,KH (by rw[e];rfl),?_⟩;rw[BX,<-hl,aap,e]
  rfl
def lE(c:UInt8):Bool:=oR c.toNat
namespace bO
open Go.Proofs
attribute [local irreducible] aE aC aI aJ Ev ah ai ay aV bU
theorem HB:(eV C 400 359 [.str KF] []).map (·.1)=some (.cm [.agg iZ,.bool true]):=by kernel_rfl
theorem KJ:ay C 359 [.str KF] [] (λr h'=>r=.cm [.agg iZ,.bool true]):=by
 have h:=HB
 cases e:eV C 400 359 [.str KF] []with
 |none=>rw[e]at h;cases h
 |some x=>
  obtain⟨r,h'⟩:=x;rw[e]at h;exact ay.od e (Zu h)
section
attribute [local irreducible] nJ
theorem tG(c:UInt8):ay C 382 [.ptr 0 0 0 0,.int .u8 c.toNat] [(⟨.m,0,256,[.agg iZ]⟩:au)] (λr h'=>r=.bool (lE c)/\h'=[(⟨.m,0,256,[.agg iZ]⟩:au)]):=by
 have hc:c.toNat<256:=c.toNat_lt
 have hb:lE c=(decide (48<=c.toNat)&&decide (c.toNat<=57)):=by
  unfold lE oR
  by_cases h1:48<=c.toNat <;>by_cases h2:c.toNat<=57 <;>simp[h1,h2] <;>omega
 have cV:=HA hc;rw[<-hb]at cV;generalize hA:iZ=A at cV ⊢
 have Dd:A.drop (0+c.toNat * 1)=.bool (lE c)::A.drop (c.toNat+1):=by
  have cz:=ag cV;rw[ZS,Nat.mul_one,aa2 cz];rw[Zy cz]at cV;rw[Zu cV]
 refine ay.x T6 Tryz.func382 rfl ?_;refine wXA ?_;refine BY (by show _<=A.length;have:=ag cV;omega) ?_;show wk T6 _ (A.drop (0+c.toNat * 1)) _;rw[Dd];refine Rn.out ?_;refine wXA ?_;exact⟨rfl,rfl⟩
end
theorem BZ(u:ByteArray)(a b:Nat):(u.extract a b).size=min b u.size - a:=by
 rw[<-bsize,BX,abl,aat,bsize]
theorem KK(s:ByteArray)(hs:s.size<1000000000):ay C 361 [.str s,.ptr 0 0 0 0] [(⟨.m,0,256,[.agg iZ]⟩:au)] (λr h'=>h'=[(⟨.m,0,256,[.agg iZ]⟩:au)]/\∃u d,r=.str u/\s.toList=u.toList++d/\d.all lE=true/\u.size<=s.size/\(∀c,u.toList.getLast?=some c->lE c=false)):=by
 refine ay.x T6 Tryz.func361 rfl ?_;refine wXA ?_;refine eJ.nat T6 (λk L H=>∃u d,L=[(0,.str u),(1,.ptr 0 0 0 0)]/\H=[(⟨.m,0,256,[.agg iZ]⟩:au)]/\k=u.size/\s.toList=u.toList++d/\d.all lE=true/\u.size<=s.size) s.size (.nx ⟨s,[],rfl,rfl,rfl,by simp,rfl,Zz _⟩) ?_;rintro k _ _ ρ ⟨u,d,rfl,rfl,rfl,e1,e2,e3⟩
 by_cases hu:0<u.size
 ·obtain⟨c,h1,h2⟩:=KG hu;have hx:=BZ u 0 (u.size - 1);have hc:=tG c;refine wXA ?_;refine .mk (n:=u.size - 1) ?_ (by omega) h1;refine wXA ?_;refine .same (hc.mono λr h' h=>⟨h.1,h.2⟩) (λr hr=>?_);subst hr
  cases hd:lE c
  ·refine wXA ?_;refine⟨rfl,u,d,rfl,e1,e2,e3,λc' rU=>?_⟩;rw[h2,List.getLast?_append]at rU;simp at rU;rw[<-rU];exact hd
  ·refine wXA ?_;rw[show((u.size:Int) - 1).toNat=u.size - 1 by omega];refine .nx ⟨_,?_,u.extract 0 (u.size - 1),c::d,rfl,rfl,rfl,by rw[e1,h2];simp,by simp[hd,e2],by omega⟩;omega
 ·refine wXA ?_;refine⟨rfl,u,d,rfl,e1,e2,e3,λc hc=>?_⟩;have:=bsize u;have h0:u.toList=[]:=ZL (by omega);rw[h0]at hc;simp at hc
theorem KL(s:ByteArray)(hs:s.size<1000000000):ay C 360 [.str s,.ptr 0 0 0 0] [(⟨.m,0,256,[.agg iZ]⟩:au)] (λr h'=>h'=[(⟨.m,0,256,[.agg iZ]⟩:au)]/\∃u d,r=.str u/\s.toList=d++u.toList/\d.all lE=true/\(∀c,u.toList.head?=some c->lE c=false)):=by
 refine ay.x T6 Tryz.func360 rfl ?_;refine wXA ?_;refine eJ.nat T6 (λk L H=>∃u d,L=[(0,.str u),(1,.ptr 0 0 0 0)]/\H=[(⟨.m,0,256,[.agg iZ]⟩:au)]/\k=u.size/\s.toList=d++u.toList/\d.all lE=true/\u.size<=s.size) s.size (.nx ⟨s,[],rfl,rfl,rfl,by simp,rfl,Zz _⟩) ?_;rintro k _ _ ρ ⟨u,d,rfl,rfl,rfl,e1,e2,e3⟩
 by_cases hu:0<u.size
 ·obtain⟨c,h1,h2⟩:=KI hu;have hx:=BZ u 1 u.size;have hc:=tG c;refine wXA ?_;refine .same (hc.mono λr h' h=>⟨h.1,h.2⟩) (λr hr=>?_);subst hr
  cases hd:lE c
  ·refine wXA ?_;refine⟨rfl,u,d,rfl,e1,e2,λc' rU=>?_⟩;rw[h2]at rU;simp at rU;rw[<-rU];exact hd
  ·refine wXA ?_;refine .nx ⟨_,?_,u.extract 1 u.size,d++[c],rfl,rfl,rfl,by rw[e1,h2];simp,by simp[hd,e2],by omega⟩;omega
 ·refine wXA ?_;refine⟨rfl,u,d,rfl,e1,e2,λc hc=>?_⟩;have:=bsize u;have h0:u.toList=[]:=ZL (by omega);rw[h0]at hc;simp at hc
theorem KM{s u u':List UInt8}{d d':List UInt8}(e1:s=u++d)(h1:d.all lE=true)(l1:∀c,u.getLast?=some c->lE c=false)(e2:u=d'++u')(h2:d'.all lE=true)(l2:∀c,u'.head?=some c->lE c=false):u'=[]↔s.all lE=true:=by
 constructor
 ·rintro rfl;rw[e1,e2];simp[h1,h2]
 ·intro h
  rw[e1,aaI,ZD]at h
  have hu:u=[]:=by
   cases hl:u.getLast? with
   |none=>exact List.getLast?_eq_none_iff.1 hl
   |some c=>
    have h3:=l1 c hl;have h4:=Zw.1 h.1 c (List.mem_of_getLast? hl);rw[h3]at h4;cases h4
  rw[hu]at e2;exact(List.append_eq_nil_iff.1 e2.symm).2
theorem Vl:iL C.P 290=some (.agg (List.replicate 256 (.bool false))):=by kernel_rfl
theorem KN(s:ByteArray)(hs:s.size<1000000000):∃r:ByteArray,(r.toList=[]↔s.toList.all lE=true)/\aO C 319 [.str s,.str KF] (.str r):=by
 have key:∃x,(∃r:ByteArray,x=.str r/\(r.toList=[]↔s.toList.all lE=true))/\aO C 319 [.str s,.str KF] x:=by
  refine aO.ex (F:=id) ?_;refine ay.x T6 Tryz.func319 rfl ?_;refine wXI (λhc=>?_) (λhc hc=>?_) λhc hc=>?_
  ·refine⟨.str s,⟨s,rfl,?_⟩,_,rfl,rfl⟩;have h0:s.toList=[]:=by rw[hc,ByteArray.toList_eq]
   rw[h0];simp
  ·exact absurd hc (by rw[ByteArray.toList_eq,ByteArray.toList_eq];decide)
  ·refine .opened rfl (KJ.mono λr h' hr=>?_);subst hr;rw[if_pos (by simp[dZ,cD,dY,iZ,aW])];rw[show List.take ([]:ab).length h'=[]from rfl];refine wXA ?_;refine .mk (v:=.ptr 0 0 0 0) (h':=[⟨.m,0,256,[.agg (List.replicate 256 (.bool false))]⟩]) (λrun ρ=>?_) ?_
   ·simp only[ao,az,Vl];rw[if_pos ⟨by decide,by decide,by decide⟩]
    rfl
   refine wXA ?_;refine .same ((KK s hs).mono λr h' h=>⟨h.2,h.1⟩) (λr hr=>?_);obtain⟨u,d,rfl,e1,e2,e3,l1⟩:=hr;refine wXA ?_;refine .same ((KL u (by omega)).mono λr h' h=>⟨h.2,h.1⟩) (λr hr=>?_);obtain⟨u',d',rfl,f1,f2,l2⟩:=hr;refine wXA ?_;exact⟨.str u',⟨u',rfl,KM e1 e2 l1 f1 f2 l2⟩,_,rfl,rfl⟩
 obtain⟨x,⟨r,rfl,h1⟩,h2⟩:=key;exact⟨r,h1,h2⟩
theorem Ep(s:ByteArray)(hs:s.size<1000000000):aO C 269 [.str s] (.bool (KO s.toList)):=by
 obtain⟨r,h1,h2⟩:=KN s hs;have h2:aO C 319 [.str s,.str ⟨#[48,49,50,51,52,53,54,55,56,57]⟩] (.str r):=h2;have hd:KO s.toList=(!s.toList.isEmpty&&s.toList.all lE):=rfl;refine aO.x T6 Tryz.func269 rfl ?_;refine wXC (λhc=>?_) λhc=>?_
 ·have h0:s.toList=[]:=by rw[hc,ByteArray.toList_eq]
  exact⟨_,rfl,by rw[hd,h0];rfl⟩
 ·have h0:s.toList≠[]:=λhh=>by exact hc (by rw[hh,ByteArray.toList_eq])
  have h3:s.toList.isEmpty=false:=by cases h:s.toList with |nil=>exact absurd h h0 |cons=>rfl
  rw[h3]at hd;refine .p h2 ?_;refine wXC (λhc=>?_) λhc=>?_
  ·have h4:r.toList=[]:=by rw[hc,ByteArray.toList_eq]
   exact⟨_,rfl,by rw[hd,h1.1 h4];rfl⟩
  ·have h4:r.toList≠[]:=λhh=>by exact hc (by rw[hh,ByteArray.toList_eq])
   have h5:s.toList.all lE=false:=by
    cases h:s.toList.all lE
    ·rfl
    ·exact absurd (h1.2 h) h4
   exact⟨_,rfl,by rw[hd,h5];rfl⟩
end bO
theorem ai.rbS{C:cK}{f:FuncId}{args args' K':List PV}{h:ab}{r:PV}{Q:PV->ab->Prop}(hb:iK h args=some args')(hn:aU args'=K')(a:aO C f K' r)(q:Q r h)(hs:dP r=true:=by rfl)(hm:C.mode f=.pure:=by rfl):ai C 2 f args h Q:=by
 subst hn;obtain⟨n0,hn⟩:=a;refine⟨r,h,q,n0,λn h1=>?_⟩;obtain⟨r0,hc,r1,e1,e2,e3⟩:=hn n h1;unfold c9;rw[hm]
 cases hv:ar args
 ·have yq:dP r1=true:=by
   have:=jv r1;rw[e3,hs]at this;exact this.symm
  simp only[dx,hv,ZJ,if_false,hb,e1,e2,yq,abw,if_true,e3]
 ·rw[pK hv]at hb;obtain rfl:=Zu hb;simp only[dx,hv,if_true,e1,e2,e3]
namespace bO
open Go.Proofs
attribute [local irreducible] aE aC aI aJ Ev ah ai ay aV bU
structure KV(b:Nat)(H:ab)(v:PV)(a:List Tm)(h':ab):Prop where
 hr:HR h'
 len:H.length<=h'.length
 var:∃v',h'[b]?=some ⟨.m,0,1,[v']⟩/\Out 4 h' v' (ae a)/\∀i∈ck v',i∈ck v\/H.length<=i
 fr:∀j,j<H.length->j≠b->j∉ck v->h'[j]?=H[j]?
theorem KV.take{b:Nat}{H h':ab}{v:PV}{a:List Tm}(s:KV b H v a h')(h3:b<H.length)(hr:HR (h'.take H.length)):KV b H v a (h'.take H.length):=by
 have hl:=s.len;have cz:(h'.take H.length).length=H.length:=by simp;omega
 obtain⟨v',e1,e2,e3⟩:=s.var;have g1:(h'.take H.length)[b]?=some ⟨.m,0,1,[v']⟩:=by rw[aaa (by omega)];exact e1
 have ia:=(hr _ (ZK g1)).2;refine⟨hr,by omega,⟨v',g1,e2.of_eq λi hi=>?_,e3⟩,λj h1 h2 h3=>by rw[aaa (by omega)];exact s.fr j h1 h2 h3⟩;rw[aaa];rcases e2 with⟨rfl,_⟩|⟨id,ep,rfl,_⟩
 ·simp[ck]at hi
 ·simp[ck]at hi;subst hi;simp[bw,br]at ia;omega
theorem KV.trans{b:Nat}{H h1 h2:ab}{v v1:PV}{a c:List Tm}(s:KV b H v a h1)(e:h1[b]?=some ⟨.m,0,1,[v1]⟩)(t:KV b h1 v1 c h2):KV b H v c h2:=by
 obtain⟨v',q1,q2,q3⟩:=s.var;rw[q1]at e
 cases e
 obtain⟨v2,r1,r2,r3⟩:=t.var;have:=s.len;refine⟨t.hr,aaj s.len t.len,⟨v2,r1,r2,λi hi=>?_⟩,λj h1 h2 h3=>?_⟩
 ·rcases r3 i hi with h |h
  ·exact q3 i h
  ·omega
 ·rw[t.fr j (by omega) h2 (λhh=>by rcases q3 j hh with h |h;exact h3 h;omega)];exact s.fr j h1 h2 h3
theorem ai.kv{b:Nat}{f:FuncId}{args:List PV}{H:ab}{v:PV}{c:List Tm}{Q:PV->ab->Prop}(a:ay C f args H (λr h'=>r=.cm []/\KV b H v c h'))(h3:b<H.length)(q:∀h',KV b H v c h'->Q (.cm []) h')(hm:C.mode f=.opened:=by rfl):ai C 2 f args H Q:=
 ai.sm a (λr h' p=>⟨p.2.hr,p.2.len⟩) (λr h' p=>by rw[p.1];exact q h' p.2) (λr h' p hr=>by rw[p.1];exact q _ (p.2.take h3 hr)) hm
theorem KV.ub{b:Nat}{H J h':ab}{v:PV}{a:List Tm}(s:KV b (H++J) v a h'):KV b H v a h':=by
 have hl:=s.len;rw[Zx]at hl;obtain⟨v',e1,e2,e3⟩:=s.var;refine⟨s.hr,by omega,⟨v',e1,e2,λi hi=>?_⟩,λj h1 h2 h3=>by rw[s.fr j (by simp;omega) h2 h3,Zv h1]⟩;rcases e3 i hi with h |h
 ·exact .inl h
 ·exact .inr (by simp at h;omega)
theorem Oo(b:Nat)(u:Tm)(H:ab)(v:PV)(a:List Tm)(hH:HR H)(h2:H[b]?=some ⟨.m,0,1,[v]⟩)(ho:Out 4 H v (ae a))(hv:b∉ck v)(hn:a.length<100000000):
  ay C 129 [enc u,.ptr b 0 0 0] H (λr h'=>r=.cm []/\KV b H v (a++[u]) h'):=by
 have hle:=an a;have cz:=ag h2;have hu:ae a++[.agg [.int .i64 u.k,.str u.s,.int .i64 u.o,.aa false (ae u.l)]]=ae (a++[u]):=by rw[cd,<-aw];rfl
 rw[aw];refine ay.x T6 Tryz.func129 rfl ?_;refine wXA ?_;refine Py.apd h2 ho (λi hi hh=>hv (hh▸hi)) (by omega) (λid ep h' ap=>?_);refine wXA ?_;refine⟨rfl,?_⟩;have hl:=ap.len;have bT:=ag ap.at';have hg:∀j,j<H.length->j≠id->j≠b->h'[j]?=H[j]?:=λj g1 g2 g3=>by rw[ap.fr j g2 g3,Zv g1]
 refine⟨λo ho=>?_,by omega,⟨_,ap.var,.inr ⟨id,ep,by rw[an];simp,by rw[<-hu];exact ap.at'⟩,λi hi=>?_⟩,λj g1 g2 g3=>hg j g1 (λhh=>?_) g2⟩
 ·obtain⟨j,hj⟩:=aas ho
  by_cases j1:j=id
  ·subst j1;rw[ap.at']at hj;cases hj;exact⟨by simp,bq _ _ (by rw[hu];simp)⟩
  by_cases j2:j=b
  ·subst j2;rw[ap.var]at hj;cases hj;exact⟨by simp,by simp[bw,br];omega⟩
  rw[ap.fr j j1 j2]at hj;have:=(hH.dE (HV.one (ep:=0) (n:=4) (es:=[.agg [.int .i64 u.k,.str u.s,.int .i64 u.o,.aa false (ae u.l)]]) (by simp))) o (ZK hj);exact⟨this.1,eB (λi hi=>by have:=of_decide_eq_true hi;simp at this;exact decide_eq_true (by omega)) _ this.2⟩
 ·simp[ck]at hi;subst hi;rcases ap.Wz with h |h
  ·exact .inl h
  ·exact .inr (by omega)
 ·subst hh;rcases ap.Wz with h |h
  ·exact g3 h
  ·omega
theorem La (b:Nat) (k s o l) (ih:∀t∈l,∀(H:ab) (v:PV) (a:List Tm),HR H->H[b]?=some ⟨.m,0,1,[v]⟩->Out 4 H v (ae a)->b∉ck v->a.length+ax t<100000000->
   ay C 128 [enc t,.fn 129 [.ptr b 0 0 0]] H (λr h'=>r=.cm []/\KV b H v (a++pre t) h'))
  (H:ab) (v:PV) (a:List Tm) (hH:HR H) (h2:H[b]?=some ⟨.m,0,1,[v]⟩) (ho:Out 4 H v (ae a)) (hv:b∉ck v) (hn:a.length+ax (.mk k s o l)<100000000):
  ay C 128 [enc (.mk k s o l),.fn 129 [.ptr b 0 0 0]] H (λr h'=>r=.cm []/\KV b H v (a++pre (.mk k s o l)) h'):=by
 have cT:=an l;have th:=bD l;simp only[ax]at hn;have cz:=ag h2;have SE:HR (H++[⟨.m,0,4,[enc (.mk k s o l)]⟩]):=hH.dE (HV.one (by simp));have b2:(H++[⟨.m,0,4,[enc (.mk k s o l)]⟩])[b]?=some ⟨.m,0,1,[v]⟩:=by rw[Zv cz];exact h2
 have pk:=Oo b (.mk k s o l) (H++[⟨.m,0,4,[enc (.mk k s o l)]⟩]) v a SE b2 (ho.ct _) hv (by omega);rw[bj]at pk ⊢;refine ay.x T6 Tryz.func128 rfl ?_;refine wXA ?_;refine ai.kv pk (by simp;omega) (λh' ks=>?_);refine wXA ?_;have kw:=ks.ub
 have eN:h'[H.length]?=some ⟨.m,0,4,[.agg [.int .i64 k,.str s,.int .i64 o,.aa false (ae l)]]⟩:=by
  rw[ks.fr H.length (by simp) (by omega) (λhh=>by have:=ho.mP _ hh;omega)];simp
 refine wXA ?_;have EG:a++[Tm.mk k s o l]=a++(.mk k s o l::cZ []):=rfl;rw[EG]at kw;refine eJ.zip T6 l (λp q L K=>L=[(1,.fn 129 [.ptr b 0 0 0]),(10,.aa false (ae l)),(11,.int .i64 (ae l).length),(12,.int .i64 p.length)]/\KV b H v (a++(.mk k s o l::cZ p)) K) (.nx ⟨rfl,kw⟩) ?_ ?_
 ·rintro p u q _ K ρ e ⟨rfl,kp⟩;have cV:=bS e;have cH:=congrArg List.length e;simp only[Zx,ZA]at cH;obtain⟨v1,q1,q2,q3⟩:=kp.var;have Sw:=kp.len;have Vz:=kp.hr
  have xL:b∉ck v1:=λhi=>by
   rcases q3 b hi with h |h
   ·exact hv h
   ·omega
  have Sx:bz l=bz p+(ax u+bz q):=by rw[e,pL];simp[bz]
  have nS:(cZ p).length<=bz p:=oF p;have ih1:=ih u (by rw[e];simp) (K++[⟨.m,0,4,[enc u]⟩]) v1 (a++(Tm.mk k s o l::cZ p)) (Vz.dE (HV.one (by simp))) (by rw[Zv (ag q1)];exact q1) (q2.ct _) xL (by simp only[Zx,ZA];omega);rw[aw]at ih1;refine wXA ?_;refine ai.kv ih1 (by simp;omega) (λh' ks=>?_);refine wXA ?_;refine .nx ⟨rfl,?_⟩;have:=kp.trans q1 ks.ub;rwa[ZZ,show Tm.mk k s o l::cZ p++pre u=Tm.mk k s o l::cZ (p++[u]) by rw[mK];simp[cZ]]at this
 ·rintro _ K ρ ⟨rfl,kp⟩;refine wXA ?_;exact⟨rfl,by rw[pre];exact kp⟩
theorem Lb(b:Nat)(t:Tm):∀(H:ab) (v:PV) (a:List Tm),HR H->H[b]?=some ⟨.m,0,1,[v]⟩->Out 4 H v (ae a)->b∉ck v->a.length+ax t<100000000->
   ay C 128 [enc t,.fn 129 [.ptr b 0 0 0]] H (λr h'=>r=.cm []/\KV b H v (a++pre t) h'):=by
 induction t using Tm.ind with
 |h k s o l ih=>exact La b k s o l ih
def yc(h:ab)(r:PV)(l:List Tm):Prop:=∃id ep tl,r=.aj id ep 0 l.length/\h[id]?=some ⟨.m,ep,4,ae l++tl⟩/\ar tl=true
theorem Oq{l:List Tm}(h:l≠[]):cZ l≠[]:=by
 cases l with
 |nil=>exact absurd rfl h
 |cons t l=>intro hh;have:=oC t;rw[cZ]at hh;rw[(List.append_eq_nil_iff.1 hh).1]at this;cases this
theorem rC(l:List Tm)(h0:l≠[])(H:ab)(hH:HR H)(id0 VA:Nat)(e0:H[id0]?=some ⟨.m,VA,4,ae l⟩)(hl:bz l<10000000):ay C 72 [.aj id0 VA 0 l.length] H (λr h'=>HR h'/\H.length<=h'.length/\(∀j,j<H.length->h'[j]?=H[j]?)/\yc h' r (jW l)/\∃id ep n,r=.aj id ep 0 n/\H.length<=id):=by
 have cT:=an l;have th:=bD l;have YC:=ag e0;obtain⟨H1,lA⟩:∃H1:ab,H1=H++[⟨.m,0,1,[.aa true []]⟩]:=⟨_,rfl⟩;have YD:H1.length=H.length+1:=by rw[lA];simp
 have SF:HR H1:=by rw[lA];exact hH.dE (HV.one rfl)
 have YE:H1[H.length]?=some ⟨.m,0,1,[.aa true []]⟩:=by rw[lA];simp
 have YF:H1[id0]?=some ⟨.m,VA,4,ae l⟩:=by rw[lA,Zv YC];exact e0
 refine ay.x T6 Tryz.func72 rfl ?_;refine wXA ?_;rw[<-lA];refine eJ.zip T6 l (λp q L K=>L=[(3,.ptr H.length 0 0 0),(6,.aj id0 VA 0 l.length),(7,.int .i64 l.length),(8,.int .i64 p.length)]/\KV H.length H1 (.aa true []) (cZ p) K) (.nx ⟨rfl,SF,Zz _,⟨_,YE,.inl ⟨rfl,rfl⟩,λi hi=>.inl hi⟩,λ_ _ _ _=>rfl⟩) ?_ ?_
 ·rintro p u q _ K ρ e ⟨rfl,kp⟩;have cV:(ae l)[0+p.length]?=some (.agg [.int .i64 u.k,.str u.s,.int .i64 u.o,.aa false (ae u.l)]):=by rw[ZS];exact bS e
  have cH:=congrArg List.length e;simp only[Zx,ZA]at cH;obtain⟨v1,q1,q2,q3⟩:=kp.var;have Sw:=kp.len;have Vz:=kp.hr;have hK0:K[id0]?=some ⟨.m,VA,4,ae l⟩:=by rw[kp.fr id0 (by omega) (by omega) (by simp[ck])];exact YF
  have xL:H.length∉ck v1:=λhi=>by
   rcases q3 _ hi with h |h
   ·simp[ck]at h
   ·omega
  have Sx:bz l=bz p+(ax u+bz q):=by rw[e,pL];simp[bz]
  have nS:(cZ p).length<=bz p:=oF p;have ih1:=Lb H.length u (K++[⟨.m,0,4,[enc u]⟩]) v1 (cZ p) (Vz.dE (HV.one (by simp))) (by rw[Zv (ag q1)];exact q1) (q2.ct _) xL (by omega);rw[aw]at ih1;refine wXA ?_;refine ai.kv ih1 (by simp;omega) (λh' ks=>?_);refine wXA ?_;refine .nx ⟨rfl,?_⟩;have:=kp.trans q1 ks.ub;rwa[show cZ p++pre u=cZ (p++[u]) by rw[mK];simp[cZ]]at this
 ·rintro _ K ρ ⟨rfl,kp⟩;obtain⟨v',e1,e2,e3⟩:=kp.var;have hh:=kp.hr;have Sw:=kp.len;have nS:=oF l;have cP:dd (dV (cZ l))=jW l:=DW _;rcases e2 with⟨rfl,e9⟩|⟨id,ep,rfl,e2⟩
  ·exact absurd (ZL (by rw[<-an,e9];rfl)) (Oq h0)
  ·have ho:=wE K hh id ep (cZ l) e2 (by omega) (λu hu=>by obtain⟨t,ht,hu⟩:=eT.1 hu;have:=oE t u hu;have:=bN ht;omega);rw[an]at e1
   have bT:H.length+1<=id:=by
    rcases e3 id (by simp[ck])with h |h
    ·simp[ck]at h
    ·omega
   refine wXA ?_;refine .ln ho (λr h' hr=>by obtain⟨_,_,_,rfl⟩:=hr;simp) (λr h' hr=>?_);obtain⟨rfl,tl,hv,rfl⟩:=hr;rw[cP];have e5:=ZB (a:=(⟨.m,ep,4,ae (jW l)++tl⟩:au)) (ag e2);refine wXA ?_;refine⟨hh.set _ (by simp) (bq _ _ (by rw[dj,hv];simp)),by simp;omega,λj hj=>?_,⟨id,ep,tl,rfl,e5,hv⟩,id,ep,_,rfl,by omega⟩;rw[ZC (by omega),kp.fr j (by omega) (by omega) (by simp[ck]),lA,Zv hj]
theorem _root_.Go.Pm.ai.op{f:FuncId}{rest oV:List PV}{h:ab}{v rv:PV}{l:List Tm}{Q:PV->ab->Prop}(o:yc h v l)(a:aO C f (.aa false (ae l)::oV) rv)(q:Q rv h)(hs:dP rv=true:=by rfl)(hr:ar rest=true:=by simp)(hn:aU rest=oV:=by simp)(hm:C.mode f=.pure:=by rfl):ai C 2 f (v::rest) h Q:=by
 obtain⟨id,ep,tl,rfl,e,ht⟩:=o;have Sk:(ae l++tl).take l.length=ae l:=by rw[Z6 (by rw[an];omega),ZW (by rw[an];omega)]
 refine ai.rbS (args':=.aa false (ae l)::rest) ?_ (by subst hn;simp[aU,b9]) a q hs hm;simp only[iK,ly,qi,getM,e];simp only[and_self,if_true,ZS,Zx,an];rw[if_pos ⟨by simp,by simp⟩];simp only[aaA,Sk];rw[if_pos ⟨by first |omega |(rw[Zx,an];omega),by simp,by simp⟩,pK hr]
theorem yc.Ot{h:ab}{r:PV}{l:List Tm}{k:IntKind}{n:Int}(o:yc h r l):∃r1,rb h (aY [r,.int k n])=some r1/\b9 r1=.cm [.aa false (ae l),.int k n]:=by
 obtain⟨id,ep,tl,rfl,e,ht⟩:=o;have Sk:(ae l++tl).take l.length=ae l:=by rw[Z6 (by rw[an];omega),ZW (by rw[an];omega)]
 refine⟨.cm [.aa false (ae l),.int k n],?_,by simp[b9,aU,ba]⟩;simp[aY,rb,iK,ly,qi,getM,e,Sk,aW]
theorem y8(l:List Tm)(hl:l.length<10000000)(hb:∀t∈l,ax t<100000000):aO C 114 [.aa false (ae l)] (.aa false (ae (kS l))):=by
 have cT:=an l;have cP:dd (dV l)=kS l:=DW _;refine aO.x T6 Tryz.func114 rfl ?_;refine wXA ?_
 cases l with
 |nil=>
  refine ai.cu rfl (h':=[]) (rv:=.aa true []) rfl ?_;refine wXA ?_;refine ai.cu rfl rfl ?_;refine wXA ?_;refine .ln (rG _ _) (λr h' hr=>by rw[hr.2]) (λr h' hr=>?_);obtain⟨rfl,rfl⟩:=hr;refine wXA ?_;exact⟨_,rfl,rfl⟩
 |cons y l0=>
  refine ai.cu rfl (li (l:=y::l0) (by simp) (by simp at hl ⊢;omega) []) ?_;generalize hL:y::l0=l at *;refine wXA ?_;have e1:([]++[⟨.m,0,4,ae l⟩]:ab)[0]?=some ⟨.m,0,4,ae l⟩:=rfl;refine ai.cu rfl (lJ e1 (by omega) (λt ht=>by have:=hb t ht;omega)) ?_;have e2:(([]++[⟨.m,0,4,ae l⟩]:ab).set 0 ⟨.m,0,4,ae (dV l)⟩)[0]?=some ⟨.m,0,4,ae (dV l)⟩:=rfl;have xF:=(eY l).length_eq;have eW:∀t∈dV l,ax t<100000000:=λt ht=>hb t ((eY _).mem_iff.1 ht)
  rw[<-xF]at cT hl ⊢;generalize dV l=S at *
  cases S with
  |nil=>rw[<-hL]at xF;simp at xF
  |cons x r=>
   have hc:=oW _ rfl Eo x r _ (HV.one (by simp)).hr 0 0 e2 (by simp at hl;omega) (λt ht=>by have:=eW t ht;omega);rw[an]at hc;refine wXA ?_;refine .ln hc (λr h' hr=>by obtain⟨_,_,_,rfl⟩:=hr;simp) (λr h' hr=>?_);obtain⟨rfl,tl,hv,rfl⟩:=hr;rw[cP];refine wXA ?_;exact gQ (tl:=tl) rfl (by rw[an]) (by simp) (by simp)
theorem rB(l:List Tm):(jW l).length<=bz l:=by
 have h1:=vK (cZ l);have h2:=oF l;unfold jW;omega
theorem zc{l:List Tm}{B:Nat}(h:∀t∈l,ax t<B):∀y∈jW l,ax y<B:=λy hy=>by
 obtain⟨t,ht,hy⟩:=eT.1 ((gX _ _).1 hy);have:=oE t y hy;have:=h t ht;omega
theorem Ar(k:List Tm)(t:Tm)(hf:∀u∈k++[t],ko u=true)(hl:bz (k++[t])<10000000):
  aO C 113 [.aa false (ae k),.aa false (ae [t])] (.cm [.aa false (ae (if lc k t≠0 then[]else jW (k++[t]))),.int .i64 (lc k t)]):=by
 have cT:=an k;have xG:=bD (k++[t]);simp only[Zx,ZA,Z']at xG;have MN:∀u∈k++[t],ax u<10000000:=λu hu=>by have:=bN hu;omega
 have h1:=B9 (k++[t]) hf (by simp;omega) MN
 have h3:=HI (jW (k++[t])) (λy hy=>by
  obtain⟨a,ha,hb⟩:=eT.1 ((gX _ _).1 hy);exact zY (hf a ha) hb) (by have:=rB (k++[t]);omega)
 have hE:lc k t=if 60<k.length then 3 else if k9 (k++[t])≠0 then k9 (k++[t])else if 200<(jW (k++[t])).length then 3 else 0:=rfl;have Ch:X2 [] (.aa true [.aa false (ae k),.aa false (ae [t])]) (.aa false (ae k)) (.aa false (ae [t])):=.inl rfl;have Ou:=(yz k [t] [] _ _ _ Ch (.inr ⟨_,rfl⟩) (.inr ⟨_,rfl⟩) (by simp;omega)).nine;generalize hU:jW (k++[t])=U at *;have WH:lc k t=0->(if lc k t≠0 then[]else U)=U:=λh=>if_neg (by omega)
 have TG:lc k t≠0->(if lc k t≠0 then[]else U)=[]:=λh=>if_pos h
 generalize(if lc k t≠0 then[]else U)=R at *;refine aO.x T6 Tryz.func113 rfl ?_;refine wXC (λhc=>?_) λhc=>?_
 ·rw[if_pos (by omega)]at hE;exact⟨_,rfl,by rw[TG (by omega),hE];rfl⟩
 ·rw[if_neg (by omega)]at hE;refine .opened rfl (Ou.mono λr h' hr=>?_)
  obtain⟨ep,rfl,rfl⟩:∃ep,r=.aj 0 ep 0 (ae (k++[t])).length/\h'=[⟨.m,ep,4,ae (k++[t])⟩]:=by
   rcases hr with⟨h,_⟩|⟨ep,h1,h2⟩
   ·simp at h
   ·exact⟨ep,h1,h2⟩
  rw[if_neg (by simp[dZ,cD,dY])];have ho:Out 4 [⟨.m,ep,4,ae (k++[t])⟩] (.aj 0 ep 0 (ae (k++[t])).length) (ae (k++[t])):=.inr ⟨0,ep,rfl,rfl⟩;refine wXA ?_;refine .plS (.inl ho) h1 ?_;refine wXC (λhc=>?_) λhc=>?_
  ·have hz:k9 (k++[t])=0:=by omega
   rw[if_neg (by omega)]at hE;have y9:=rC (k++[t]) (by simp) [⟨.m,ep,4,ae (k++[t])⟩] (HV.one (by simp)).hr 0 ep rfl hl;rw[an]at *;refine .fr (y9.mono λr h' hr=>⟨hr.1,hr.2.1,hr.2.2.1,hr.2.2.2⟩) (λr h' hr hb=>?_) (λr h' r1 r2 r3 r4=>?_)
   ·obtain⟨_,id,ep,n,rfl,bT⟩:=hr;simp[dZ,cD,dY]at hb;simp at bT;omega
   obtain⟨kH,_⟩:=r4;rw[hU]at kH;refine wXA ?_;refine ai.op kH h3 ?_ (by split <;>rfl);refine wXC (λhc=>?_) λhc=>?_
   ·rw[WH (by omega),show lc k t=0 by omega];exact kH.Ot
   ·exact⟨_,rfl,by rw[TG (by omega),hE];rfl⟩
  ·rw[if_pos (by assumption)]at hE;exact⟨_,rfl,by rw[TG (by omega),hE];rfl⟩
end bO
def wm(s:ByteArray):Bool:=s.toList.take 2==[101,35]
def sE:ByteArray:=⟨#[101,35]⟩
theorem Vm:sE.toList=[101,35]:=by rw[ByteArray.toList_eq];rfl
namespace bO
open Go.Proofs
attribute [local irreducible] aE aC aI aJ Ev ah ai ay aV bU
theorem Er(s:ByteArray)(hs:s.size<1000000000):aO C 356 [.str s,.str sE] (.bool (wm s)):=by
 have hl:=bsize s;have hp:wm s=(s.toList.take 2==[101,35]):=rfl;have hx:(s.extract 0 2).toList=s.toList.take 2:=by rw[BX,aaA]
 refine aO.x T6 Tryz.func356 rfl ?_;refine wXK (λhc hc=>?_) (λhc hc=>?_) λhc=>?_
 ·have hh:(s.extract 0 2).toList=sE.toList:=by assumption
  exact⟨_,rfl,by rw[hp,<-hx,hh,Vm];rfl⟩
 ·have hh:¬(s.extract 0 2).toList=sE.toList:=by assumption
  rw[hx,Vm]at hh;exact⟨_,rfl,by rw[hp];simp[aY,hh]⟩
 ·have h3:sE.size=2:=rfl
  have hh:s.toList.take 2≠[101,35]:=λh=>by
   have:=congrArg List.length h;simp at this;omega
  exact⟨_,rfl,by rw[hp];simp[aY,hh]⟩
theorem KP(s:ByteArray)(hs:s.size<1000000000):∃r:ByteArray,(wm s=true->r.toList=s.toList.drop 2)/\r.size<=s.size/\aO C 268 [.str s,.str ⟨#[101,35]⟩] (.cm [.str r,.bool (wm s)]):=by
 have h1:=Er s hs
 have key:∃r:ByteArray,(wm s=true->r.toList=s.toList.drop 2)/\r.size<=s.size/\aO C 318 [.str s,.str sE] (.cm [.str r,.bool (wm s)]):=by
  cases hp:wm s
  ·refine⟨s,λh=>(by cases h),Zz _,?_⟩;rw[hp]at h1;refine aO.x T6 Tryz.func318 rfl ?_;refine wXA ?_;refine .p h1 ?_;refine wXA ?_;exact⟨_,rfl,rfl⟩
  ·have h2:2<=s.size:=by
    have:=congrArg List.length (eq_of_beq (show(s.toList.take 2==[101,35])=true from hp));have:=bsize s;simp at *;omega
   have hx:(s.extract 2 s.size).toList=s.toList.drop 2:=by rw[BX,<-bsize,aap]
   refine⟨s.extract 2 s.size,λ_=>hx,by rw[<-bsize,hx,abl,bsize];omega,?_⟩;rw[hp]at h1;have h3:sE.size=2:=rfl;refine aO.x T6 Tryz.func318 rfl ?_;refine wXA ?_;refine .p h1 ?_;refine wXA ?_;exact⟨_,rfl,rfl⟩
 obtain⟨r,q1,q2,q3⟩:=key;refine⟨r,q1,q2,?_⟩;have q3:aO C 318 [.str s,.str ⟨#[101,35]⟩] (.cm [.str r,.bool (wm s)]):=q3;refine aO.x T6 Tryz.func268 rfl ?_;refine wXA ?_;refine .p q3 ?_;refine wXA ?_;exact⟨_,rfl,rfl⟩
theorem Es(t:Tm)(hb:ax t<100000000)(hl:t.l.length<100000000):aO C 209 [enc t] (.bool (Et t)):=by
 have hss:t.s.size<100000000:=by obtain⟨k,s,o,l⟩:=t;simp only[ax]at hb;simp only[Tm.s];omega
 obtain⟨r,h1,h2,h3⟩:=KP t.s (by omega);have h4:=Ep r (by omega)
 have h5:aO C 206 [enc t,.aa false [.str ⟨#[122,101,114,111]⟩,.str ⟨#[111,110,101]⟩]] (.bool (decide (t.k=3)&& (gI t.s jj ||gI t.s sG))):=by
  have:=ry t [jj,sG] (by simp);have e:(decide (t.k=3)&& (gI t.s jj ||gI t.s sG))=(decide (t.k=3)&& [jj,sG].any λn=>gI t.s n):=by simp
  rw[e];exact this
 have cT:=an t.l
 have hO:HC t.s.toList=(wm t.s&&KO r.toList):=by
  unfold HC
  cases hp:wm t.s
  ·have:(t.s.toList.take 2==[101,35])=false:=hp;rw[this];rfl
  ·have:(t.s.toList.take 2==[101,35])=true:=hp;rw[this,h1 hp]
 have hP:Et t=if t.k=3 then(gI t.s jj ||gI t.s sG)&&t.l.isEmpty else if t.k≠2 then false else if t.o=1\/t.o=5 then true else if t.o=4 then gI t.s nG ||HC t.s.toList else if t.o=0\/t.o=2\/t.o=3 then HC t.s.toList else false:=rfl;rw[hO]at hP;generalize wm t.s=P at *;generalize KO r.toList=D at *;have WR:t.l.isEmpty=decide ((ae t.l).length=0):=by rw[cT];cases t.l <;>simp
 rw[aw]at h5 ⊢;refine aO.x T6 Tryz.func209 rfl ?_;refine wXI (λhc=>?_) (λhc hc=>?_) λhc hc=>?_
 ·have hk:t.k=3:=by omega
  rw[if_pos hk]at hP;rw[decide_eq_true hk,aaE]at h5;refine .p h5 ?_
  cases hz:gI t.s jj ||gI t.s sG
  ·refine wXA ?_;exact⟨_,rfl,by rw[hP,hz];rfl⟩
  ·refine wXC (λhc=>?_) λhc=>?_
   ·rw[decide_eq_true (by omega)]at WR;exact⟨_,rfl,by rw[hP,hz,WR];rfl⟩
   ·rw[decide_eq_false (by omega)]at WR;exact⟨_,rfl,by rw[hP,hz,WR];rfl⟩
 ·rw[if_neg (by omega)]at hP;refine .p h3 ?_
  (repeat' (first |(refine Rn.go ?_;conv=>whnf)|refine .mk ?_ |refine .mk (λhc=>?_) λhc=>?_ |fail))
  ·rw[if_neg (by omega),if_pos (by omega)]at hP;exact⟨_,rfl,by rw[hP];rfl⟩
  ·rw[if_neg (by omega),if_pos (by omega)]at hP;exact⟨_,rfl,by rw[hP];rfl⟩
  ·have hg:gI t.s nG=true:=qe (by assumption);rw[if_neg (by omega),if_neg (by omega),if_pos (by omega),hg]at hP;exact⟨_,rfl,by rw[hP];rfl⟩
  ·have hg:gI t.s nG=false:=mF (by assumption);rw[if_neg (by omega),if_neg (by omega),if_pos (by omega),hg]at hP
   cases Vn:P
   ·rw[Vn]at hP
    skip
    exact⟨_,rfl,by rw[hP];rfl⟩
   ·rw[Vn]at hP
    skip
    refine .p h4 ?_;refine wXA ?_;exact⟨_,rfl,by rw[hP];rfl⟩
  all_goals first
   |have hq:Et t=(P&&D):=by rw[hP,if_neg (by omega),if_neg (by omega),if_neg (by omega),if_pos (by omega)]
    cases Vn:P
    ·rw[Vn]at hq
     skip
     exact⟨_,rfl,by rw[hq];rfl⟩
    ·rw[Vn]at hq
     skip
     refine .p h4 ?_;refine wXA ?_;exact⟨_,rfl,by rw[hq];rfl⟩
   |exact⟨_,rfl,by rw[hP,if_neg (by omega),if_neg (by omega),if_neg (by omega),if_neg (by omega)];rfl⟩
   |exact⟨_,rfl,by rw[hP,if_pos (by omega)];rfl⟩
 ·exact⟨_,rfl,by rw[hP,if_neg (by omega),if_pos (by omega)];rfl⟩
theorem Oj(l:List Tm)(g:FuncId)(cs:List PV)(p:Tm->Bool)(H:ab)(hl:l.length<1000000000)(hp:∀x∈l,gG H g cs (enc x) (p x)):
  ay C 320 [.aa false (ae l),.fn g cs] H (λr h'=>r=.int .i64 (ug p l)/\fM H h'):=by
 have cT:=an l;refine ay.x T6 Tryz.func320 rfl ?_;refine wXA ?_;refine eJ.zip T6 l (λa q L K=>L=[(0,.aa false (ae l)),(1,.fn g cs),(7,.int .i64 (ae l).length),(8,.int .i64 a.length)]/\fM H K/\∀y∈a,p y=false) (.nx ⟨rfl,fM.refl _,by simp⟩) ?_ ?_
 ·rintro a x q _ K ρ e ⟨rfl,hE,ha⟩;have cV:=bS e;have cH:=congrArg List.length e;simp only[Zx,ZA]at cH;have Ab:=hp x (by rw[e];simp) _ hE;rw[aw]at Ab;refine wXA ?_;refine Ab _ (λh' MM=>?_)
  cases hb:p x
  ·refine wXA ?_;exact .nx ⟨rfl,hE.trans MM,λy hy=>by rcases ZE.1 hy with h |h;exact ha y h;simp at h;rw[h];exact hb⟩
  ·refine wXA ?_;exact⟨by rw[e,pI ha hb];rfl,hE.trans MM⟩
 ·rintro _ K ρ ⟨rfl,hE,ha⟩;refine wXA ?_;exact⟨by rw[kq ha];rfl,hE⟩
theorem F4(l:List Tm)(g:FuncId)(cs:List PV)(p:Tm->Bool)(H:ab)(hl:l.length<1000000000)(hp:∀x∈l,gG H g cs (enc x) (p x)):
  ay C 271 [.aa false (ae l),.fn g cs] H (λr h'=>r=.bool (l.any p)/\fM H h'):=by
 have hi:=Oj l g cs p H hl hp;have ha:=rn p l;refine ay.x T6 Tryz.func271 rfl ?_;refine wXA ?_;refine .ex hi (λh' hE=>?_);refine wXC (λhc=>?_) λhc=>?_
 all_goals exact⟨by rw[<-ha];simp[aY, *],hE⟩
structure jQ(s:List Tm):Prop where
 AU:fK s
 len:s.length<10000000
 bk:∀b∈s,ax b<10000000
theorem jQ.has{s:List Tm}(h:jQ s){t:Tm}(ht:ax t<10000000):aO C 116 [.aa false (ae s),enc t] (.bool (cI s t)):=KB s t h.AU (by have:=h.len;omega) (λb hb=>by have:=h.bk b hb;omega) (by omega)
theorem K8(s:List Tm)(hs:jQ s)(x:Tm)(hx:ax x<10000000)(id:Nat)(H:ab)(h0:H[id]?=some ⟨.m,0,1,[.aa false (ae s)]⟩):ay C 270 [enc x,.ptr id 0 0 0] H (λr h'=>r=.bool (!cI s x)/\fM H h'):=by
 have h1:=hs.has hx;have cz:=ag h0;rw[aw]at h1 ⊢;refine ay.x T6 Tryz.func270 rfl ?_;refine wXA ?_;refine .p h1 ?_
 cases cI s x
 all_goals(
  refine wXA ?_;exact⟨rfl,(fM.refl _).ct (HV.one (by simp))⟩)
theorem Aq(s:List Tm)(hs:jQ s)(u:Tm)(hu:ax u<10000000):aO C 210 [.aa false (ae s),enc u] (.bool (wx s u)):=by
 obtain⟨B,hB⟩:∃B:ab,B=[⟨.m,0,1,[.aa false (ae s)]⟩,⟨.m,0,4,[.agg [.int .i64 u.k,.str u.s,.int .i64 u.o,.aa false (ae u.l)]]⟩]:=⟨_,rfl⟩;have TM:B[0]?=some ⟨.m,0,1,[.aa false (ae s)]⟩:=by rw[hB];rfl
 have Nk:u.l.length<10000000:=by obtain⟨k,n,o,l⟩:=u;have:=bD l;simp only[ax]at hu;simp only[Tm.l];omega
 have hub:∀x∈u.l,ax x<10000000:=λx hx=>by obtain⟨k,n,o,l⟩:=u;have:=bN hx;simp only[ax]at hu;simp only[Tm.l]at this;omega
 have hc:=pJ u.l 270 [.ptr 0 0 0 0] (λx=>!cI s x) B (by omega) (λx hx=>gG.opened λH' hE=>K8 s hs x (hub x hx) 0 H' (hE.at TM));have hn:(u.l.any λx=>!cI s x)= !(u.l.all (cI s)):=by rw[List.all_eq_not_any_not];simp
 rw[hn]at hc
 have h5:aO C 206 [enc u,.aa false [.str ⟨#[112,97,105,114]⟩,.str ⟨#[101,110,99]⟩,.str ⟨#[97,101,110,99]⟩,.str ⟨#[112,107]⟩,.str ⟨#[115,105,103,110]⟩,.str ⟨#[104,97,115,104]⟩]] (.bool (wz u)):=by
  have:=ry u [jP,jt,fH,He,mJ,vP] (by simp);have e:wz u=(decide (u.k=3)&& [jP,jt,fH,He,mJ,vP].any λn=>gI u.s n):=by simp[wz,PY,Bool.or_assoc]
  rw[e];exact this
 have hR:wx s u=(wz u&&u.l.all (cI s)):=rfl;rw[hR];rw[aw]at h5 ⊢;refine aO.x T6 Tryz.func210 rfl ?_;refine wXA ?_;refine .p h5 ?_
 cases wz u
 ·refine wXA ?_;exact⟨_,rfl,rfl⟩
 ·refine wXA ?_;rw[<-hB];refine .ex hc (λh' hE=>?_)
  cases u.l.all (cI s)
  all_goals(
   refine wXA ?_;exact⟨_,rfl,rfl⟩)
theorem wB(t:Tm)(n:ByteArray):aO C 245 [enc t,.str n] (.bool (eU t n)):=by
 rw[aw];refine aO.x T6 Tryz.func245 rfl ?_;refine wXK (λhc hc=>?_) (λhc hc=>?_) λhc=>?_
 ·exact⟨_,rfl,by simp[aY,eU,gI, *]⟩
 ·exact⟨_,rfl,by simp[aY,eU,gI, *]⟩
 ·exact⟨_,rfl,by simp[aY,eU,gI, *]⟩
theorem SB(t:Tm)(hb:ax t<10000000):aO C 364 [enc t,.aa false []] (.cm [enc t,.int .i64 0]):=by
 have h1:=mw t (by omega);rw[aw]at h1 ⊢;refine aO.x T6 Tryz.func364 rfl ?_;refine wXA ?_;obtain⟨B,hB⟩:∃B:ab,B=[⟨.m,0,4,[.agg [.int .i64 t.k,.str t.s,.int .i64 t.o,.aa false (ae t.l)]]⟩,⟨.m,0,4,[.agg [.int .i64 0,.str ByteArray.empty,.int .i64 0,.aa true []]]⟩]:=⟨_,rfl⟩;refine eJ.zip T6 ([]:List Tm) (λp q L K=>L=[(2,.ptr 0 0 0 0),(4,.ptr 1 0 0 0),(8,.aa false []),(9,.int .i64 0),(10,.int .i64 p.length)]/\K=[⟨.m,0,4,[.agg [.int .i64 t.k,.str t.s,.int .i64 t.o,.aa false (ae t.l)]]⟩,⟨.m,0,4,[.agg [.int .i64 0,.str ByteArray.empty,.int .i64 0,.aa true []]]⟩]) (.nx ⟨rfl,rfl⟩) ?_ ?_
 ·rintro p u q _ K ρ e _
  cases p <;>cases e
 ·rintro _ _ ρ ⟨rfl,rfl⟩;refine wXA ?_;refine .p h1 ?_;refine wXA ?_;exact lM
theorem wC(t:Tm)(hb:ax t<10000000):aO C 321 [enc t] (enc t):=by
 have h1:=SB t hb;rw[aw]at h1 ⊢;refine aO.x T6 Tryz.func321 rfl ?_;refine wXA ?_;refine .p h1 ?_;refine wXA ?_;exact PZ
theorem qG{t:Tm}{i:Nat}(h:i<t.l.length):(ae t.l)[i]?=some (.agg [.int .i64 (gJ t i).k,.str (gJ t i).s,.int .i64 (gJ t i).o,.aa false (ae (gJ t i).l)]):=by
 refine gp ?_;rw[gJ,ZR,Zy h]
 rfl
theorem l8{t:Tm}{i:Nat}(h:i<t.l.length):gJ t i∈t.l:=by
 rw[gJ,ZR,Zy h];exact Z2 h
theorem gR{t x:Tm}(h:x∈t.l):ax x<ax t:=by
 obtain⟨k,n,o,l⟩:=t;have:=bN h;simp only[ax,Tm.l]at *;omega
theorem HU{t:Tm}{n:ByteArray}(h:km t=0)(hn:eU t n=true)(h2:(cJ n).a=2/\(cJ n).b=2):t.l.length=2:=by
 obtain⟨a,b,e⟩:=nC h hn h2;rw[e];rfl
theorem Ol(t:Tm)(hb:ax t<10000000):aO C 274 [enc t] (.cm [enc (rD t),.int .i64 (wA t)]):=by
 have h1:=rz t (by omega);have h2:=wB t ⟨#[101,110,99]⟩;have h3:=wB t ⟨#[97,101,110,99]⟩;have hE:wA t=if km t≠0 then km t else if eU t jt=true then 0 else if eU t fH=false then 10 else if eU (gJ t 1) He=false then 4 else 0:=rfl;have hV:rD t=if wA t≠0 then eL else if eU t jt=true then gJ t 1 else gJ (gJ t 1) 0:=rfl;have n1:eU t ⟨#[101,110,99]⟩=eU t jt:=rfl;have n2:eU t ⟨#[97,101,110,99]⟩=eU t fH:=rfl;rw[n1]at h2;rw[n2]at h3;have hz:=rA;rw[aw t]at h1 h2 h3 ⊢
 by_cases hv:km t=0
 ·rw[if_neg (by omega)]at hE
  cases hn:eU t jt
  ·rw[hn]at h2 hE hV;rw[if_neg (by simp)]at hE
   cases ha:eU t fH
   ·rw[ha,if_pos rfl]at hE;rw[ha]at h3;rw[if_pos (by omega)]at hV;rw[hV,hE,hz];refine aO.x T6 Tryz.func274 rfl ?_;refine wXA ?_;refine .p h1 ?_;refine wXA ?_;refine .p h2 ?_;refine wXA ?_;refine .p h3 ?_;refine wXA ?_;exact⟨_,rfl,rfl⟩
   ·rw[ha,if_neg (by simp)]at hE;rw[ha]at h3;have cH:=HU hv ha EE.2.2.1;have cV:=qG (t:=t) (i:=1) (by omega);have h4:=wB (gJ t 1) ⟨#[112,107]⟩;have n3:eU (gJ t 1) ⟨#[112,107]⟩=eU (gJ t 1) He:=rfl;rw[n3,aw]at h4
    cases hp:eU (gJ t 1) He
    ·rw[hp,if_pos rfl]at hE;rw[hp]at h4;rw[if_pos (by omega)]at hV;rw[hV,hE,hz];refine aO.x T6 Tryz.func274 rfl ?_;refine wXA ?_;refine .p h1 ?_;refine wXA ?_;refine .p h2 ?_;refine wXA ?_;refine .p h3 ?_;refine wXA ?_;refine .p h4 ?_;refine wXA ?_;exact⟨_,rfl,rfl⟩
    ·rw[hp,if_neg (by simp)]at hE;rw[hp]at h4;rw[if_neg (by omega),if_neg (by simp)]at hV;have kG:=l8 (t:=t) (i:=1) (by omega);obtain⟨c,Se⟩:=Au (uJ hv kG) hp EE.2.2.2.2;have xD:(gJ t 1).l.length=1:=by rw[Se];rfl
     have oz:=qG (t:=gJ t 1) (i:=0) (by omega);have b1:=gR kG;have b2:=gR (l8 (t:=gJ t 1) (i:=0) (by omega));have h5:=wC (gJ (gJ t 1) 0) (by omega);rw[hV,hE];generalize hK:gJ (gJ t 1) 0=K at *;generalize hM:gJ t 1=M at *;rw[aw]at h5 ⊢;refine aO.x T6 Tryz.func274 rfl ?_;refine wXA ?_;refine .p h1 ?_;refine wXA ?_;refine .p h2 ?_;refine wXA ?_;refine .p h3 ?_;refine wXA ?_;refine .p h4 ?_;refine wXA ?_;refine .p h5 ?_;refine wXA ?_;exact lM
  ·rw[hn,if_pos rfl]at hE;rw[hn]at h2 hV;rw[if_neg (by omega),if_pos rfl]at hV;have cH:=HU hv hn EE.2.1;have cV:=qG (t:=t) (i:=1) (by omega);have b1:=gR (l8 (t:=t) (i:=1) (by omega));have h5:=wC (gJ t 1) (by omega);rw[hV,hE];generalize hM:gJ t 1=M at *;rw[aw]at h5 ⊢;refine aO.x T6 Tryz.func274 rfl ?_;refine wXA ?_;refine .p h1 ?_;refine wXA ?_;refine .p h2 ?_;refine wXA ?_;refine .p h5 ?_;refine wXA ?_;exact lM
 ·rw[if_pos hv]at hE;rw[if_pos (by omega)]at hV;rw[hV,hE,hz];refine aO.x T6 Tryz.func274 rfl ?_;refine wXA ?_;refine .p h1 ?_;refine wXA ?_;exact⟨_,rfl,rfl⟩
theorem EF(s:List Tm)(hs:jQ s)(u t:Tm)(hu:ax u<10000000)(ht:ax t<10000000)(hv:km t=0)(i1 i2:Nat)(H:ab)(hH:HV H)(h1:H[i1]?=some ⟨.m,0,4,[.agg [.int .i64 u.k,.str u.s,.int .i64 u.o,.aa false (ae u.l)]]⟩)(h2:H[i2]?=some ⟨.m,0,1,[.aa false (ae s)]⟩):
  ay C 272 [enc t,.ptr i1 0 0 0,.ptr i2 0 0 0] H (λr h'=>r=.bool (tL s u t)/\fM H h'):=by
 have g1:=mH t ⟨#[112,97,105,114]⟩;have g2:=mH t ⟨#[115,105,103,110]⟩
 have g3:aO C 206 [enc t,.aa false [.str ⟨#[101,110,99]⟩,.str ⟨#[97,101,110,99]⟩]] (.bool (eU t jt ||eU t fH)):=by
  have:=ry t [jt,fH] (by simp);have e:(eU t jt ||eU t fH)=(decide (t.k=3)&& [jt,fH].any λn=>gI t.s n):=by cases h:decide (t.k=3) <;>simp[eU,h]
  rw[e];exact this
 have n1:eU t ⟨#[112,97,105,114]⟩=eU t jP:=rfl;have n2:eU t ⟨#[115,105,103,110]⟩=eU t mJ:=rfl;rw[n1]at g1;rw[n2]at g2;have Su:=ag h1;have YB:=ag h2;have hO:tL s u t=if eU t jP=true then decide (aT (gJ t 0) u=0)||decide (aT (gJ t 1) u=0)else if eU t mJ=true then decide (aT (gJ t 0) u=0)else if eU t jt ||eU t fH then decide (wA t=0)&&decide (aT (gJ t 0) u=0)&&cI s (rD t)else false:=rfl;have k0:=Ol t ht;have di:aR (H++[⟨.m,0,4,[.agg [.int .i64 t.k,.str t.s,.int .i64 t.o,.aa false (ae t.l)]]⟩])=true:=(hH.ct (HV.one (by simp))).closed;have f1:(H++[⟨.m,0,4,[.agg [.int .i64 t.k,.str t.s,.int .i64 t.o,.aa false (ae t.l)]]⟩])[i1]?=some ⟨.m,0,4,[.agg [.int .i64 u.k,.str u.s,.int .i64 u.o,.aa false (ae u.l)]]⟩:=by rw[Zv Su];exact h1
 rw[aw t]at g1 g2 g3 k0 ⊢
 cases hp:eU t jP
 ·rw[hp,if_neg (by simp)]at hO;rw[hp]at g1
  cases hg:eU t mJ
  ·rw[hg,if_neg (by simp)]at hO;rw[hg]at g2
   cases he:eU t jt ||eU t fH
   ·rw[he,if_neg (by simp)]at hO;rw[he]at g3;rw[hO];refine ay.x T6 Tryz.func272 rfl ?_;refine wXA ?_;refine .p g1 ?_;refine wXA ?_;refine .p g2 ?_;refine wXA ?_;refine .p g3 ?_;refine wXA ?_;exact⟨rfl,(fM.refl _).ct (HV.one (by simp))⟩
   ·rw[he,if_pos rfl]at hO;rw[he]at g3
    have cH:t.l.length=2:=by
     rw[ZU]at he;rcases he with he |he
     ·exact HU hv he EE.2.1
     ·exact HU hv he EE.2.2.1
    have cV:=qG (t:=t) (i:=0) (by omega);have b1:=gR (l8 (t:=t) (i:=0) (by omega));have q1:=mE (gJ t 0) u (by omega) (by omega);generalize hM:gJ t 0=M at *;rw[hO]
    by_cases hkE:wA t=0
    ·have hbK:ax (rD t)<10000000:=by
      obtain⟨_,hk⟩:=sH hkE;rcases hk with⟨_,e⟩|⟨_,e1,e⟩
      ·rw[e];have:=gR (l8 (t:=t) (i:=1) (by omega));omega
      ·have kG:=l8 (t:=t) (i:=1) (by omega);obtain⟨c,Se⟩:=Au (uJ hv kG) e1 EE.2.2.2.2;rw[e];have b2:=gR kG;have b3:=gR (l8 (t:=gJ t 1) (i:=0) (by rw[Se];simp));omega
     have q2:=hs.has hbK;generalize rD t=K at *;have Eh:aR (H++[⟨.m,0,4,[.agg [.int .i64 t.k,.str t.s,.int .i64 t.o,.aa false (ae t.l)]]⟩]++[⟨.m,0,4,[.agg [.int .i64 K.k,.str K.s,.int .i64 K.o,.aa false (ae K.l)]]⟩])=true:=((hH.ct (HV.one (by simp))).ct (HV.one (by simp))).closed;have f3:(H++[⟨.m,0,4,[.agg [.int .i64 t.k,.str t.s,.int .i64 t.o,.aa false (ae t.l)]]⟩]++[⟨.m,0,4,[.agg [.int .i64 K.k,.str K.s,.int .i64 K.o,.aa false (ae K.l)]]⟩])[i1]?=some ⟨.m,0,4,[.agg [.int .i64 u.k,.str u.s,.int .i64 u.o,.aa false (ae u.l)]]⟩:=by rw[Zv (by simp;omega)];exact f1
     have f4:(H++[⟨.m,0,4,[.agg [.int .i64 t.k,.str t.s,.int .i64 t.o,.aa false (ae t.l)]]⟩]++[⟨.m,0,4,[.agg [.int .i64 K.k,.str K.s,.int .i64 K.o,.aa false (ae K.l)]]⟩])[i2]?=some ⟨.m,0,1,[.aa false (ae s)]⟩:=by rw[Zv (by simp;omega),Zv YB];exact h2
     rw[aw K]at k0 q2;rw[aw M,aw u]at q1;rw[hkE]at k0 ⊢;refine ay.x T6 Tryz.func272 rfl ?_;refine wXA ?_;refine .p g1 ?_;refine wXA ?_;refine .p g2 ?_;refine wXA ?_;refine .p g3 ?_;refine wXA ?_;refine .p k0 ?_;refine wXA ?_;refine .p q1 ?_
     by_cases hq:aT M u=0
     ·rw[decide_eq_true hq];refine wXA ?_;refine .p q2 ?_;refine wXA ?_;exact⟨by cases cI s K <;>rfl,((fM.refl _).ct (HV.one (by simp))).ct (HV.one (by simp))⟩
     ·rw[decide_eq_false hq];refine wXA ?_;exact⟨rfl,((fM.refl _).ct (HV.one (by simp))).ct (HV.one (by simp))⟩
    ·rw[aw (rD t)]at k0;rw[decide_eq_false hkE];generalize rD t=K at *;have Eh:aR (H++[⟨.m,0,4,[.agg [.int .i64 t.k,.str t.s,.int .i64 t.o,.aa false (ae t.l)]]⟩]++[⟨.m,0,4,[.agg [.int .i64 K.k,.str K.s,.int .i64 K.o,.aa false (ae K.l)]]⟩])=true:=((hH.ct (HV.one (by simp))).ct (HV.one (by simp))).closed;refine ay.x T6 Tryz.func272 rfl ?_;refine wXA ?_;refine .p g1 ?_;refine wXA ?_;refine .p g2 ?_;refine wXA ?_;refine .p g3 ?_;refine wXA ?_;refine .p k0 ?_;refine wXA ?_;exact⟨rfl,((fM.refl _).ct (HV.one (by simp))).ct (HV.one (by simp))⟩
  ·rw[hg,if_pos rfl]at hO;rw[hg]at g2;have cH:=HU hv hg EE.2.2.2.1;have cV:=qG (t:=t) (i:=0) (by omega);have b1:=gR (l8 (t:=t) (i:=0) (by omega));have q1:=mE (gJ t 0) u (by omega) (by omega);generalize hM:gJ t 0=M at *;rw[hO];rw[aw M,aw u]at q1;refine ay.x T6 Tryz.func272 rfl ?_;refine wXA ?_;refine .p g1 ?_;refine wXA ?_;refine .p g2 ?_;refine wXA ?_;refine .p q1 ?_;refine wXA ?_;exact⟨rfl,(fM.refl _).ct (HV.one (by simp))⟩
 ·rw[hp,if_pos rfl]at hO;rw[hp]at g1;have cH:=HU hv hp EE.1;have cV:=qG (t:=t) (i:=0) (by omega);have DM:=qG (t:=t) (i:=1) (by omega);have b1:=gR (l8 (t:=t) (i:=0) (by omega));have b2:=gR (l8 (t:=t) (i:=1) (by omega));have q1:=mE (gJ t 0) u (by omega) (by omega);have q2:=mE (gJ t 1) u (by omega) (by omega);generalize hM:gJ t 0=M at *;generalize WC:gJ t 1=M1 at *;rw[hO];rw[aw M,aw u]at q1;rw[aw M1,aw u]at q2;refine ay.x T6 Tryz.func272 rfl ?_;refine wXA ?_;refine .p g1 ?_;refine wXA ?_;refine .p q1 ?_
  by_cases hq:aT M u=0
  ·rw[decide_eq_true hq];refine wXA ?_;exact⟨rfl,(fM.refl _).ct (HV.one (by simp))⟩
  ·rw[decide_eq_false hq];refine wXA ?_;refine .p q2 ?_;refine wXA ?_;exact⟨by rw[aa0];rfl,(fM.refl _).ct (HV.one (by simp))⟩
theorem EC(s:List Tm)(hs:jQ s)(hv:∀t∈s,km t=0)(u:Tm)(hu:ax u<10000000):aO C 211 [.aa false (ae s),enc u] (.bool (tI s u)):=by
 have hlen:=hs.len;obtain⟨B,hB⟩:∃B:ab,B=[⟨.m,0,1,[.aa false (ae s)]⟩,⟨.m,0,4,[.agg [.int .i64 u.k,.str u.s,.int .i64 u.o,.aa false (ae u.l)]]⟩]:=⟨_,rfl⟩;have TM:B[0]?=some ⟨.m,0,1,[.aa false (ae s)]⟩:=by rw[hB];rfl
 have Vd:B[1]?=some ⟨.m,0,4,[.agg [.int .i64 u.k,.str u.s,.int .i64 u.o,.aa false (ae u.l)]]⟩:=by rw[hB];rfl
 have hBv:HV B:=by rw[hB];exact HV.vV ⟨by simp,by simp⟩ ⟨by simp,by simp⟩
 have hc:=F4 s 272 [.ptr 1 0 0 0,.ptr 0 0 0 0] (tL s u) B (by omega) (λx hx=>gG.opened λH' hE=>EF s hs u x hu (hs.bk x hx) (hv x hx) 1 0 H' (hE.hv hBv) (hE.at Vd) (hE.at TM));have hR:tI s u=s.any (tL s u):=rfl;rw[hR];rw[aw];refine aO.x T6 Tryz.func211 rfl ?_;refine wXA ?_;rw[<-hB];refine .ex hc (λh' hE=>?_);refine wXA ?_;exact⟨_,rfl,rfl⟩
theorem Ck(t:Tm)(hb:ax t<10000000):aO C 308 [enc t,.aa false [],enc t] (.cm [enc t,.int .i64 0]):=by
 have h1:=mw t (by omega);rw[aw]at h1 ⊢;refine aO.x T6 Tryz.func308 rfl ?_;refine wXA ?_;refine .p h1 ?_;refine wXA ?_;refine eJ.zip T6 ([]:List Tm) (λp q L K=>L=[(5,.ptr 1 0 0 0),(6,.ptr 2 0 0 0),(8,.ptr 3 0 0 0),(9,.ptr 3 0 0 0),(14,.aa false []),(15,.int .i64 0),(16,.int .i64 p.length)]/\K=[⟨.m,0,4,[.agg [.int .i64 t.k,.str t.s,.int .i64 t.o,.aa false (ae t.l)]]⟩,⟨.m,0,4,[.agg [.int .i64 t.k,.str t.s,.int .i64 t.o,.aa false (ae t.l)]]⟩,⟨.m,0,4,[PV.agg [.int .i64 0,.str ByteArray.empty,.int .i64 0,.aa true []]]⟩,⟨.m,0,4,[.agg [.int .i64 t.k,.str t.s,.int .i64 t.o,.aa false (ae t.l)]]⟩]) (.nx ⟨rfl,rfl⟩) ?_ ?_
 ·rintro p u q _ K ρ e _
  cases p <;>cases e
 ·rintro _ _ ρ ⟨rfl,rfl⟩;refine wXA ?_;refine .p h1 ?_;refine wXA ?_;exact lM
def ow(u:Tm):PV:=.agg [.int .i64 u.k,.str u.s,.int .i64 u.o,if u.l.length=0 then .aa true []else .aa false (ae u.l)]
theorem SG(u:Tm):b9 (ow u)=enc u:=by
 rw[aw];unfold ow
 split
 ·rename_i h
  have:u.l=[]:=ZL h;simp[b9,aU,this,ae]
 ·simp[b9,aU,ba]
theorem EH(u:Tm):aW (ow u)=true:=by
 unfold ow
 split <;>simp[aW,ar]
theorem Lc(l:List Tm)(hl:l.length<10000000)(hb:∀t∈l,ax t<10000000)(ih:∀t∈l,aO C 249 [.aa false (ae t.l)] (.aa false (ae t.l))):aO C 249 [.aa false (ae l)] (.aa false (ae l)):=by
 have cT:=an l;refine aO.x T6 Tryz.func249 rfl ?_;refine wXA ?_;refine eJ.zip T6 l (λp q L H=>L=[(3,.aj 0 0 0 (ae l).length),(9,.aa false (ae l)),(10,.int .i64 (ae l).length),(11,.int .i64 p.length)]/\HV H/\H[0]?=some ⟨.m,0,4,p.map ow++List.replicate q.length (PV.agg [.int .i64 0,.str ByteArray.empty,.int .i64 0,.aa true []])⟩) (.nx ⟨rfl,HV.one (by rw[bt,Zw];intro y hy;rw[aam hy];rfl),by rw[cT];rfl⟩) ?_ ?_
 ·rintro p u q _ H ρ e ⟨rfl,hH,h0⟩;have cV:=bS e;have cH:=congrArg List.length e;simp only[Zx,ZA]at cH;have hu:u∈l:=by rw[e];simp
  have h1:=Ck u (hb u hu);have h2:=ih u hu;have Nk:=an u.l;rw[aw]at h1;have nS:(p.map ow).length=p.length:=aaB _
  have e0:(p.map ow++List.replicate (u::q).length (PV.agg [.int .i64 0,.str ByteArray.empty,.int .i64 0,.aa true []]))[0+p.length]?=some (PV.agg [.int .i64 0,.str ByteArray.empty,.int .i64 0,.aa true []]):=by
   rw[ZS,ZI (by omega),nS,abh];rfl
  have f0:(H++[⟨.m,0,4,[.agg [.int .i64 u.k,.str u.s,.int .i64 u.o,.aa false (ae u.l)]]⟩])[0]?=some ⟨.m,0,4,p.map ow++List.replicate (u::q).length (PV.agg [.int .i64 0,.str ByteArray.empty,.int .i64 0,.aa true []])⟩:=by rw[Zv (ag h0)];exact h0
  have SE:(H++[⟨.m,0,4,[.agg [.int .i64 u.k,.str u.s,.int .i64 u.o,.aa false (ae u.l)]]⟩])[H.length]?=some ⟨.m,0,4,[.agg [.int .i64 u.k,.str u.s,.int .i64 u.o,.aa false (ae u.l)]]⟩:=by simp
  have th:(p.map ow++List.replicate (u::q).length (PV.agg [.int .i64 0,.str ByteArray.empty,.int .i64 0,.aa true []])).length=(ae l).length:=by simp[cT,cH]
  refine wXA ?_;refine .p h1 ?_;refine wXA ?_;obtain⟨bx,VB⟩:∃bx:au,bx=⟨.m,0,4,[.agg [.int .i64 u.k,.str u.s,.int .i64 u.o,.aa false (ae u.l)]]⟩:=⟨_,rfl⟩;obtain⟨A1,Bf⟩:∃A1:List PV,A1=(p.map ow++List.replicate (u::q).length (PV.agg [.int .i64 0,.str ByteArray.empty,.int .i64 0,.aa true []])).set (0+p.length) (.agg [.int .i64 u.k,.str u.s,.int .i64 u.o,.aa false (ae u.l)]):=⟨_,rfl⟩;obtain⟨K1,Vs⟩:∃K1:ab,K1=(H++[(⟨.m,0,4,[.agg [.int .i64 u.k,.str u.s,.int .i64 u.o,.aa false (ae u.l)]]⟩:au)]).set 0 (⟨.m,0,4,A1⟩:au):=⟨_,rfl⟩;have Fm:=ag h0;have c0:K1[0]?=some ⟨.m,0,4,A1⟩:=by rw[Vs];exact ZB (by simp)
  have cb:K1[H.length]?=some bx:=by rw[Vs,ZC (by omega),VB];exact SE
  have ea:A1[0+p.length]?=some (.agg [.int .i64 u.k,.str u.s,.int .i64 u.o,.aa false (ae u.l)]):=by rw[Bf];exact ZB (by rw[th];omega)
  have ML:A1.length=(ae l).length:=by rw[Bf,abK];exact th
  rw[<-Bf,<-Vs];rw[VB]at cb;refine wXA ?_;refine .p h2 ?_;refine wXA ?_;rw[cS ea,cS c0];have hw:ow u=.agg [.int .i64 u.k,.str u.s,.int .i64 u.o,if u.l.length=0 then .aa true []else .aa false (ae u.l)]:=rfl
  have F':∀x:PV,(p.map ow++List.replicate (u::q).length (PV.agg [.int .i64 0,.str ByteArray.empty,.int .i64 0,.aa true []])).set (0+p.length) x=(p.map ow++[x])++List.replicate q.length (PV.agg [.int .i64 0,.str ByteArray.empty,.int .i64 0,.aa true []]):=λx=>by
   rw[ZS,aaO _ _ (by omega),nS,abh];simp[List.replicate_succ]
  have VC:HV K1:=by
   rw[Vs];refine(hH.ct (HV.one (by simp))).set 0 (by simp) ?_;rw[Bf,F',dj,dj];have v1:ar (p.map ow)=true:=by rw[bt,Zw];intro y hy;obtain⟨t,_,rfl⟩:=Z0.1 hy;exact EH t
   have v2:ar (List.replicate q.length (PV.agg [.int .i64 0,.str ByteArray.empty,.int .i64 0,.aa true []]))=true:=by rw[bt,Zw];intro y hy;rw[aam hy];rfl
   rw[v1,v2];simp[ar,aW]
  refine wXC (λhc=>?_) λhc=>?_
  ·have h0u:u.l.length=0:=by omega
   refine .nx ⟨rfl,VC.set 0 (by simp) ?_,?_⟩
   ·show ar (A1.set (0+p.length) (.agg [.int .i64 u.k,.str u.s,.int .i64 u.o,.aa true []]))=true;rw[Bf,aar,F',dj,dj];have v1:ar (p.map ow)=true:=by rw[bt,Zw];intro y hy;obtain⟨t,_,rfl⟩:=Z0.1 hy;exact EH t
    have v2:ar (List.replicate q.length (PV.agg [.int .i64 0,.str ByteArray.empty,.int .i64 0,.aa true []]))=true:=by rw[bt,Zw];intro y hy;rw[aam hy];rfl
    rw[v1,v2];rfl
   ·rw[ZB (ag c0)]
    have:A1.set (0+p.length) (.agg [.int .i64 u.k,.str u.s,.int .i64 u.o,.aa true []])=(p++[u]).map ow++List.replicate q.length (PV.agg [.int .i64 0,.str ByteArray.empty,.int .i64 0,.aa true []]):=by
     rw[Bf,aar,F',aal,ZN,ZX,hw,if_pos h0u]
    rw[<-this]
  ·have h0u:¬u.l.length=0:=by omega
   refine .nx ⟨rfl,VC,?_⟩;rw[c0,Bf,F',aal,ZN,ZX,hw,if_neg h0u]
 ·rintro _ H ρ ⟨rfl,hH,h0⟩;have h0:H[0]?=some ⟨.m,0,4,l.map ow++[]⟩:=h0;refine wXA ?_;exact gQ h0 (by simp[cT]) (by rw[bt,Zw];intro y hy;obtain⟨t,_,rfl⟩:=Z0.1 hy;exact EH t) (by rw[cE,aa5,cU];exact aan λt _=>SG t)
theorem Ov(t:Tm):ax t<10000000->aO C 249 [.aa false (ae t.l)] (.aa false (ae t.l)):=by
 induction t using Tm.ind with
 |h k s o l ih=>
  intro hb
  have:=bD l;simp only[ax]at hb;exact Lc l (by omega) (λt ht=>by have:=bN ht;omega) λt ht=>ih t ht (by have:=bN ht;omega)
theorem Ld(u:Tm)(hb:ax u<10000000):aO C 249 [.aa false (ae [u])] (.aa false (ae [u])):=
 Lc [u] (by simp) (λt ht=>by simp at ht;rw[ht];exact hb) λt ht=>by simp at ht;rw[ht];exact Ov u hb
theorem nD(u:Tm)(h1:eU u jj=false)(h2:eU u wo=false):aO C 248 [enc u] (.aa false (ae [u])):=by
 have e1:eU u jj=(decide (u.k=3)&& (u.s.toList==(⟨#[122,101,114,111]⟩:ByteArray).toList)):=rfl;have e2:eU u wo=(decide (u.k=3)&& (u.s.toList==(⟨#[120,111,114]⟩:ByteArray).toList)):=rfl;rw[h1]at e1;rw[h2]at e2;have hu:ae [u]=[.agg [.int .i64 u.k,.str u.s,.int .i64 u.o,.aa false (ae u.l)]]:=by rw[ae,aw];rfl
 rw[hu,aw]
 by_cases hk:u.k=3
 ·rw[decide_eq_true hk,aaE]at e1 e2;have n1:¬u.s.toList=(⟨#[122,101,114,111]⟩:ByteArray).toList:=by simpa using e1.symm
  have n2:¬u.s.toList=(⟨#[120,111,114]⟩:ByteArray).toList:=by simpa using e2.symm
  refine aO.x T6 Tryz.func248 rfl ?_;refine wXA ?_;exact⟨_,rfl,by simp[aY,b9,aU,ba]⟩
 ·refine aO.x T6 Tryz.func248 rfl ?_;refine wXA ?_;exact⟨_,rfl,by simp[aY,b9,aU,ba]⟩
theorem wF(u:Tm)(hv:valid u=0)(hb:ax u<10000000):aO C 246 [.aa false [],.aa false (ae [u])] (.int .i64 0):=by
 have h1:=(fo u (by omega)).nine;rw[hv]at h1;have Ch:X2 [] (.aa true [.aa false [],.aa false (ae [u])]) (.aa false []) (.aa false (ae [u])):=.inl rfl;have Ou:=(yz [] [u] [] _ _ _ Ch (.inr ⟨_,rfl⟩) (.inr ⟨_,rfl⟩) (by simp)).nine;have hu:ae [u]=[.agg [.int .i64 u.k,.str u.s,.int .i64 u.o,.aa false (ae u.l)]]:=by rw[ae,aw];rfl
 rw[aw]at h1;rw[aad]at Ou;refine aO.x T6 Tryz.func246 rfl ?_;refine wXA ?_;refine .opened rfl (Ou.mono λr h' hr=>?_)
 obtain⟨ep,rfl,rfl⟩:∃ep,r=.aj 0 ep 0 (ae [u]).length/\h'=[⟨.m,ep,4,ae [u]⟩]:=by
  rcases hr with⟨h,_⟩|⟨ep,h1,h2⟩
  ·simp at h
  ·exact⟨ep,h1,h2⟩
 rw[if_neg (by simp[dZ,cD,dY])];have ho:Out 4 [⟨.m,ep,4,ae [u]⟩] (.aj 0 ep 0 (ae [u]).length) (ae [u]):=.inr ⟨0,ep,rfl,rfl⟩;rw[hu]at ho ⊢;refine wXA ?_;refine eJ.zip T6 [u] (λp q L H=>L=[(14,.aj 0 ep 0 1),(15,.int .i64 1),(16,.int .i64 p.length)]/\HV H/\H[0]?=some ⟨.m,ep,4,[.agg [.int .i64 u.k,.str u.s,.int .i64 u.o,.aa false (ae u.l)]]⟩) (.nx ⟨rfl,HV.one (by simp),rfl⟩) ?_ ?_
 ·rintro p x q _ H ρ e ⟨rfl,hH,h0⟩
  obtain⟨rfl,rfl,rfl⟩:p=[]/\x=u/\q=[]:=by
   cases p with
   |nil=>simp at e;exact⟨rfl,e.1.symm,e.2⟩
   |cons a p=>simp at e
  have TS:([]:List Tm).length=0:=rfl;refine wXA ?_;refine .p h1 ?_;refine wXA ?_;exact .nx ⟨rfl,hH.ct (HV.one (by simp)),by rw[Zv (ag h0)];exact h0⟩
 ·rintro _ H ρ ⟨rfl,hH,h0⟩;have WS:[u].length=1:=rfl;refine wXA ?_;exact⟨_,rfl,rfl⟩
theorem HJ(u:Tm)(hv:valid u=0)(hb:ax u<10000000)(h1:eU u jj=false)(h2:eU u wo=false):aO C 275 [enc u] (.cm [.aa false (ae [u]),.int .i64 0]):=by
 have g1:=wF u hv hb;have g2:=nD u h1 h2;have g3:=Ld u hb;have hu:ae [u]=[.agg [.int .i64 u.k,.str u.s,.int .i64 u.o,.aa false (ae u.l)]]:=by rw[ae,aw];rfl
 rw[hu]at g1 g2 g3 ⊢;rw[aw]at g2 ⊢;refine aO.x T6 Tryz.func275 rfl ?_;refine wXA ?_;refine .p g1 ?_;refine wXA ?_;refine .p g2 ?_;refine wXA ?_;refine .p g3 ?_;refine wXA ?_;exact⟨_,rfl,by simp[aY,b9,aU,ba]⟩
end bO
open Go.Proofs
theorem Ta{cs A B:List Tm}{u:Tm}(e:cs=A++u::B)(hs:fK cs){m:Nat}{w:Tm}(hm:cs[m]?=some w):aT w u<0↔m<A.length:=by
 subst e;have h:=abN.1 hs;rcases aaT m A.length with h1 |h1 |h1
 ·rw[Zv h1]at hm;exact⟨λ_=>h1,λ_=>h.2.2 w (ZK hm) u (by simp)⟩
 ·subst h1;simp at hm;subst hm;rw[cX];omega
 ·rw[ZI (by omega)]at hm
  have h2:(u::B)[m - A.length]?=B[m - A.length - 1]?:=by
   rw[show m - A.length=(m - A.length - 1)+1 by omega];simp
  rw[h2]at hm;have h3:=(ZQ.1 h.2.1).1 w (ZK hm);have ng:=dU u w;omega
theorem CN{p:List Pw}{u t:Tm}{n:Int}(h:aT u t≠0):te (p++[(u,n)]) t=te p t:=by
 induction p with
 |nil=>simp[te,h]
 |cons y p ih=>rw[Z3,te,te,ih]
theorem OL{cs A B:List Tm}{u:Tm}{p:List Pw}{n:Int}(e:cs=A++u::B)(hs:fK cs)(hp:∀y∈p,aT y.1 u≠0):(fw (cs.map (te p))).set A.length (.int .i64 n)=fw (cs.map (te (p++[(u,n)]))):=by
 subst e;have h:=abN.1 hs;have hA:A.map (te p)=A.map (te (p++[(u,n)])):=aan λt ht=>(CN (by have:=h.2.2 t ht u (by simp);have:=dU t u;omega)).symm
 have hB:B.map (te p)=B.map (te (p++[(u,n)])):=aan λt ht=>(CN (by have:=(ZQ.1 h.2.1).1 t ht;omega)).symm
 have hu:te (p++[(u,n)]) u=n:=Jr (q:=[]) hp (cX u);simp only[fw,aal,ZN,hA,hB,hu];rw[aaO _ _ (by simp)];simp
attribute [local irreducible] aE aC aI aJ Ev ah ai ay aV
theorem Cm(cs A B:List Tm)(u:Tm)(e:cs=A++u::B)(hs:fK cs)(hl:cs.length<100000000)(hb:∀t∈cs,ax t<1000000000):
  aO C 386 [.aa false (ae cs),enc u,.fn 52 []] (.cm [.int .i64 A.length,.bool true]):=by
 have hle:A.length<cs.length:=by rw[e];simp
 have cT:=an cs;have Nk:cs[A.length]?=some u:=by rw[e];simp
 have hub:ax u<1000000000:=hb u (by rw[e];simp)
 have elem:∀m,m<cs.length->∃w,cs[m]?=some w/\(ae cs)[m]?=some (.agg [.int .i64 w.k,.str w.s,.int .i64 w.o,.aa false (ae w.l)])/\aO C 52 [.agg [.int .i64 w.k,.str w.s,.int .i64 w.o,.aa false (ae w.l)],.agg [.int .i64 u.k,.str u.s,.int .i64 u.o,.aa false (ae u.l)]] (.int .i64 (aT w u)):=λm hm=>by
  have h1:cs[m]?=some cs[m]:=Zy hm;refine⟨_,h1,gp h1,?_⟩;rw[<-aw,<-aw];exact dT _ _ (hb _ (ZK h1)) hub
 have Mv:∀m w,cs[m]?=some w->(aT w u<0↔m<A.length):=λm w hm=>Ta e hs hm
 have hz:=cX u;generalize A.length=LB at *;rw[aw];refine aO.x T6 Tryz.func386 rfl ?_;refine wXA ?_;refine eJ.nat T6 (λk L H=>∃i j:Nat,L=[(0,.aa false (ae cs)),(2,.fn 52 []),(4,.ptr 0 0 0 0),(8,.int .i64 (ae cs).length),(9,.int .i64 i),(10,.int .i64 j)]/\H=[⟨.m,0,4,[.agg [.int .i64 u.k,.str u.s,.int .i64 u.o,.aa false (ae u.l)]]⟩]/\k=j - i/\i<=LB/\LB<=j/\j<=cs.length) cs.length (.nx ⟨0,(ae cs).length,rfl,rfl,by omega,by omega,by omega,by omega⟩) ?_;rintro k _ _ ρ ⟨i,j,rfl,rfl,hk,i1,i2,i3⟩
 by_cases Ny:i<j
 ·obtain⟨m,Vk⟩:∃m:Nat,((i:Int)+j) / 2=m:=⟨(i+j) / 2,by omega⟩;obtain⟨w,h1,cV,qo⟩:=elem m (by omega);have MV:=Mv m _ h1;refine wXA ?_;refine .mk (n:=m) ?_ Vk cV;refine wXA ?_;refine .p qo ?_;refine wXC (λhc=>?_) λhc=>?_
  ·exact .nx ⟨j - (m+1),by omega,m+1,j,rfl,rfl,rfl,by omega,by omega,by omega⟩
  ·exact .nx ⟨m - i,by omega,i,m,rfl,rfl,rfl,by omega,by omega,by omega⟩
 ·have hi:i=LB:=by omega
  subst hi;obtain⟨w,h1,cV,qo⟩:=elem i hle;rw[Nk]at h1;obtain rfl:=Zu h1;rw[hz]at qo;refine wXA ?_;refine .p qo ?_;refine wXA ?_
  all_goals exact⟨_,rfl,by simp[aY,b9,aU, *]⟩
end Go.Pm
namespace Go.Pm
namespace bO
open Go.Proofs
attribute [local irreducible] aE aC aI aJ Ev ah ai ay aV bU
set_option maxRecDepth 4000
theorem Ow(b:Nat)(H:ab)(hb:H[b]?=some ⟨.m,0,1,[.int .u64 1]⟩):ay C 326 [.aj b 0 0 1,.int .i64 0] H (λr h'=>r=.bool true/\h'=H):=by
 refine ay.x T6 Tryz.func326 rfl ?_;refine wXA ?_;refine .raw 0 rfl ?_;refine wXA ?_;refine .mk (c:=1) ?_ rfl (by decide);refine wXA ?_;refine .mk 1 rfl ?_;refine wXA ?_;exact⟨rfl,rfl⟩
theorem Le(b:Nat)(H:ab)(hH:HR H)(hb:H[b]?=some ⟨.m,0,1,[.int .u64 0]⟩):ay C 366 [.aj b 0 0 1,.int .i64 0] H (λr h'=>r=.cm []/\h'=H.set b ⟨.m,0,1,[.int .u64 1]⟩):=by
 have di:=hH.closed;refine ay.x T6 Tryz.func366 rfl ?_;refine wXA ?_;refine .raw 0 rfl ?_;refine wXA ?_;refine .mk 1 rfl (by decide) ?_;refine wXA ?_;refine .mk 1 rfl ?_;refine wXA ?_;exact⟨rfl,rfl⟩
theorem HW(b:Nat)(H:ab)(hb:H[b]?=some ⟨.m,0,1,[.int .u64 1]⟩):ay C 325 [.aj b 0 0 1,.int .i64 1] H (λr h'=>r=.int .i64 0/\h'=H):=by
 have hh:=Ow b H hb;refine ay.x T6 Tryz.func325 rfl ?_;refine wXA ?_;refine eJ.nat T6 (λk L K=>L=[(0,.aj b 0 0 1),(6,.int .i64 1),(7,.int .i64 0)]/\K=H) 1 (.nx ⟨rfl,rfl⟩) ?_;rintro k _ _ ρ ⟨rfl,rfl⟩;refine wXA ?_;refine .same (hh.mono λr h' h=>⟨h.1,h.2⟩) (λr hr=>?_);subst hr;refine wXA ?_;exact⟨rfl,rfl⟩
structure Sys(h:ab)(x m1 m2 c ep:Nat)(u:Tm)(tl:List PV):Prop where
 hx:h[x]?=some ⟨.m,0,5,[.agg [.aj c ep 0 1,.int .i64 0,.cB m1,.cB m2,.aa true []]]⟩
 h1:h[m1]?=some ⟨.m,0,0,[]⟩
 h2:h[m2]?=some ⟨.m,0,0,[]⟩
 hc:h[c]?=some ⟨.m,ep,4,.agg [.int .i64 u.k,.str u.s,.int .i64 u.o,.aa false (ae u.l)]::tl⟩
 ht:ar tl=true
theorem Sys.of_eq{h h':ab}{x m1 m2 c ep:Nat}{u:Tm}{tl:List PV}(s:Sys h x m1 m2 c ep u tl)(n:Nat)(hn:x<n/\m1<n/\m2<n/\c<n)(e:∀j,j<n->h'[j]?=h[j]?):Sys h' x m1 m2 c ep u tl:=
 ⟨(e _ hn.1).trans s.hx,(e _ hn.2.1).trans s.h1,(e _ hn.2.2.1).trans s.h2,(e _ hn.2.2.2).trans s.hc,s.ht⟩
theorem SH(x m1 m2 c ep:Nat)(u:Tm)(tl:List PV)(hu:ax u<10000000)(H:ab)(hH:HR H)(s:Sys H x m1 m2 c ep u tl):ay C 368 [.ptr x 0 0 0,enc u] H (λr h'=>r=.int .i64 0/\fM H h'):=by
 have hb:=(Cm [u] [] [] u rfl (by simp[fK]) (by simp) (λt ht=>by simp at ht;rw[ht];omega)).nine;have di:=(hH.dE (HV.one (ep:=0) (n:=4) (es:=[.agg [.int .i64 u.k,.str u.s,.int .i64 u.o,.aa false (ae u.l)]]) (by simp))).closed;have RU:=ag s.hx;have HX:=ag s.hc;have fx:(H++[(⟨.m,0,4,[.agg [.int .i64 u.k,.str u.s,.int .i64 u.o,.aa false (ae u.l)]]⟩:au)])[x]?=some ⟨.m,0,5,[.agg [.aj c ep 0 1,.int .i64 0,.cB m1,.cB m2,.aa true []]]⟩:=by rw[Zv RU];exact s.hx
 have fc:(H++[(⟨.m,0,4,[.agg [.int .i64 u.k,.str u.s,.int .i64 u.o,.aa false (ae u.l)]]⟩:au)])[c]?=some ⟨.m,ep,4,ae [u]++tl⟩:=by rw[Zv HX,s.hc,ae,aw];rfl
 have kH:yc (H++[(⟨.m,0,4,[.agg [.int .i64 u.k,.str u.s,.int .i64 u.o,.aa false (ae u.l)]]⟩:au)]) (.aj c ep 0 1) [u]:=⟨c,ep,tl,rfl,fc,s.ht⟩;rw[aw u]at hb ⊢;refine ay.x T6 Tryz.func368 rfl ?_;refine wXA ?_;refine ai.op kH hb ?_;refine wXA ?_;exact⟨rfl,(fM.refl _).ct (HV.one (by simp))⟩
theorem uK{u a:Tm}{p q:List Tm}(e:[u]=p++a::q):p=[]/\a=u/\q=[]:=by
 cases p with
 |nil=>simp at e;exact⟨rfl,e.1.symm,e.2⟩
 |cons b p=>simp at e
theorem SI(x m1 m2 c ep:Nat)(u:Tm)(tl:List PV)(hu:ax u<10000000)(f1:eU u jj=false)(f2:eU u wo=false)(H:ab)(hH:HR H)(s:Sys H x m1 m2 c ep u tl):
  ay C 324 [.ptr x 0 0 0,enc u] H (λr h'=>HR h'/\H.length<=h'.length/\(∀j,j<H.length->h'[j]?=H[j]?)/\∃b,r=.aj b 0 0 1/\H.length<=b/\h'[b]?=some ⟨.m,0,1,[.int .u64 1]⟩):=by
 have hs:=nD u f1 f2;have RU:=ag s.hx;have HX:=ag s.hc;have WU:=ag s.h1;have WV:=ag s.h2;obtain⟨H1,lA⟩:∃H1:ab,H1=H++[(⟨.m,0,4,[.agg [.int .i64 u.k,.str u.s,.int .i64 u.o,.aa false (ae u.l)]]⟩:au)]:=⟨_,rfl⟩;have ext:∀J:ab,Sys (H++J) x m1 m2 c ep u tl:=λJ=>s.of_eq H.length ⟨RU,WU,WV,HX⟩ λj hj=>Zv hj
 have YD:H1.length=H.length+1:=by rw[lA];simp
 have SF:HR H1:=by rw[lA];exact hH.dE (HV.one (by simp))
 have YG:∀j,j<H.length->H1[j]?=H[j]?:=λj hj=>by rw[lA,Zv hj]
 have SE:H1[H.length]?=some ⟨.m,0,4,[.agg [.int .i64 u.k,.str u.s,.int .i64 u.o,.aa false (ae u.l)]]⟩:=by rw[lA];simp
 have s1:Sys H1 x m1 m2 c ep u tl:=by rw[lA];exact ext _
 have fx:=s1.hx;have fc:=s1.hc;have x8:ae [u]=[.agg [.int .i64 u.k,.str u.s,.int .i64 u.o,.aa false (ae u.l)]]:=by rw[ae,aw];rfl
 rw[x8]at hs;rw[aw]at hs;rw[aw u];have TS:([]:List Tm).length=0:=rfl;have WS:[u].length=1:=rfl;have pW:∀K:ab,HR K->H.length+2<=K.length->(∀j,j<H.length->K[j]?=H[j]?)->Sys K x m1 m2 c ep u tl:=λK _ _ h=>s.of_eq H.length ⟨RU,WU,WV,HX⟩ h
 refine ay.x T6 Tryz.func324 rfl ?_;refine wXA ?_;rw[<-lA];refine wXA ?_;refine .raw 0 rfl ?_;refine wXA ?_;have Zk:(H1++[(⟨.m,0,0+1,List.replicate (0+1) (.int .u64 0)⟩:au)])[H.length]?=some ⟨.m,0,4,[.agg [.int .i64 u.k,.str u.s,.int .i64 u.o,.aa false (ae u.l)]]⟩:=by rw[Zv (by omega)];exact SE
 skip
 refine .p hs ?_;refine wXA ?_;refine eJ.zip T6 [u] (λp q L K=>L=[(0,.ptr x 0 0 0),(5,.aj H1.length 0 0 1),(17,.aa false [.agg [.int .i64 u.k,.str u.s,.int .i64 u.o,.aa false (ae u.l)]]),(18,.int .i64 1),(19,.int .i64 p.length)]/\HR K/\H1.length+1<=K.length/\(∀j,j<H1.length->K[j]?=H1[j]?)/\K[H1.length]?=some ⟨.m,0,1,[.int .u64 (if q.length=0 then 1 else 0)]⟩) (.nx ⟨rfl,SF.dE (HV.one rfl),by simp,λj hj=>Zv hj,by simp⟩) ?_ ?_
 ·rintro p a q _ K ρ e ⟨rfl,hK,Sw,N',hKb⟩;obtain⟨rfl,I7,rfl⟩:=uK e;have I7:=I7.symm;subst I7;have sK:Sys K x m1 m2 c ep u tl:=s1.of_eq H1.length (by omega) N';have sK2:Sys (K++[(⟨.m,0,4,[.agg [.int .i64 u.k,.str u.s,.int .i64 u.o,.aa false (ae u.l)]]⟩:au)]) x m1 m2 c ep u tl:=sK.of_eq K.length ⟨ag sK.hx,ag sK.h1,ag sK.h2,ag sK.hc⟩ λj hj=>Zv hj
  have hc:=SH x m1 m2 c ep u tl hu (K++[(⟨.m,0,4,[.agg [.int .i64 u.k,.str u.s,.int .i64 u.o,.aa false (ae u.l)]]⟩:au)]) (hK.dE (HV.one (by simp))) sK2;rw[aw]at hc;refine wXA ?_;refine .ex hc (λh' hE=>?_);obtain⟨J,hJ,rfl⟩:=hE;have vf:(K++[(⟨.m,0,4,[.agg [.int .i64 u.k,.str u.s,.int .i64 u.o,.aa false (ae u.l)]]⟩:au)]++J)[H1.length]?=some ⟨.m,0,1,[.int .u64 0]⟩:=by rw[ZZ,Zv (by omega)];exact hKb
  have hrr:HR (K++[(⟨.m,0,4,[.agg [.int .i64 u.k,.str u.s,.int .i64 u.o,.aa false (ae u.l)]]⟩:au)]++J):=(hK.dE (HV.one (by simp))).dE hJ;have hf:=Le H1.length _ hrr vf;refine wXA ?_;refine .ln hf (λr h' hr=>by rw[hr.2];simp) (λr h' hr=>?_);obtain⟨rfl,rfl⟩:=hr;refine wXA ?_;refine .nx ⟨rfl,hrr.set _ (by simp) (by simp[bw,br]),by simp;omega,λj hj=>?_,ZB (ag vf)⟩;rw[ZC (by omega),ZZ,Zv (by omega)];exact N' j hj
 ·rintro _ K ρ ⟨rfl,hK,Sw,N',hKb⟩;refine wXA ?_;exact⟨hK,by omega,λj hj=>(N' j (by omega)).trans (YG j hj),H1.length,rfl,by omega,hKb⟩
theorem SJ(x m1 m2 c ep b:Nat)(u:Tm)(tl:List PV)(H:ab)(hH:HR H)(s:Sys H x m1 m2 c ep u tl):
  ay C 323 [.ptr x 0 0 0,.aj b 0 0 1] H (λr h'=>r=.cm [.aj b 0 0 1,.aj H.length 0 0 1]/\h'=H++[⟨.m,0,1,[.int .u64 0]⟩]):=by
 have RU:=ag s.hx;have HX:=ag s.hc;have WU:=ag s.h1;have WV:=ag s.h2;have fx:=s.hx;have TS:([]:List Tm).length=0:=rfl;have WS:[u].length=1:=rfl;obtain⟨H1,lA⟩:∃H1:ab,H1=H++[(⟨.m,0,0+1,List.replicate (0+1) (.int .u64 0)⟩:au)]:=⟨_,rfl⟩;have s1:Sys H1 x m1 m2 c ep u tl:=by rw[lA];exact s.of_eq H.length ⟨RU,WU,WV,HX⟩ λj hj=>Zv hj
 have gx:=s1.hx;have gc:=s1.hc;have g1:=s1.h1;refine ay.x T6 Tryz.func323 rfl ?_;refine wXA ?_;refine .raw 0 rfl ?_;refine wXA ?_;rw[<-lA];refine wXA ?_;refine eJ.zip T6 [u] (λp q L K=>L=[(0,.ptr x 0 0 0),(1,.aj b 0 0 1),(6,.aj H.length 0 0 1),(21,.int .i64 1),(22,.int .i64 p.length)]/\K=H1) (.nx ⟨rfl,rfl⟩) ?_ ?_
 ·rintro p a q _ _ ρ e ⟨rfl,rfl⟩;obtain⟨rfl,I7,rfl⟩:=uK e;have I7:=I7.symm;subst I7;refine wXA ?_;refine .Ox rfl ?_ g1;refine wXA ?_;exact .nx ⟨rfl,rfl⟩
 ·rintro _ _ ρ ⟨rfl,rfl⟩;refine wXA ?_;exact⟨rfl,lA⟩
theorem Oy(a b:Tm)(ha:ax a<1000000000)(hb:ax b<1000000000):aO C 365 [enc a,enc b] (.bool (decide (aT a b=0))):=by
 have h1:=(dT a b ha hb).nine;rw[aw,aw]at h1 ⊢;refine aO.x T6 Tryz.func365 rfl ?_;refine wXA ?_;refine .p h1 ?_;refine wXC (λhc=>?_) λhc=>?_
 all_goals exact⟨_,rfl,by simp[aY, *]⟩
theorem _root_.Go.Pm.VD{C:cK}(T:lz C.P){run:gU}{lv:Nat}{L:Al}{ρ:Nat->PV}{h:ab}{t el:TypeId}{x:Operand}{id ep len:Nat}{o:au}(hx:cG L x=some (.aj id ep 0 len))(hk:T.kd t=some (.sl el))(hg:getM h id ep=some o)(hl:len<=o.es.length):ao C run lv (.call ⟨.builtin .len,#[x],#[t]⟩) (al L ρ) h=some (.int .i64 len,h):=by
 simp[ao,bo,ak hx,nV,bp (T.cP _ _ hk),hg,hl]
theorem Oz(u:Tm)(hu:ax u<10000000)(f1:eU u jj=false)(f2:eU u wo=false):ay C 322 [.aa false [],enc u] [⟨.m,0,4,[enc u]⟩] (λr h'=>HR h'/\1<=h'.length/\(∀j,j<1->h'[j]?=[(⟨.m,0,4,[enc u]⟩:au)][j]?)/\∃x m1 m2 c ep tl,r=.ptr x 0 0 0/\1<=x/\Sys h' x m1 m2 c ep u tl):=by
 have hs:=nD u f1 f2;have x8:ae [u]=[.agg [.int .i64 u.k,.str u.s,.int .i64 u.o,.aa false (ae u.l)]]:=by rw[ae,aw];rfl
 have TS:([]:List Tm).length=0:=rfl;have WS:[u].length=1:=rfl;rw[x8]at hs;rw[aw]at hs;rw[aw u]
 have hBr:HR [(⟨.m,0,4,[.agg [.int .i64 u.k,.str u.s,.int .i64 u.o,.aa false (ae u.l)]]⟩:au),⟨.m,0,4,[.agg [.int .i64 u.k,.str u.s,.int .i64 u.o,.aa false (ae u.l)]]⟩,⟨.m,0,0,[]⟩,⟨.m,0,0,[]⟩,⟨.m,0,5,[.agg [.aa true [],.int .i64 0,.cB 2,.cB 3,.aa true []]]⟩]:=by
  intro o ho
  simp only[ZF,aaD,or_false]at ho;rcases ho with rfl |rfl |rfl |rfl |rfl <;>simp[bw,br,bq]
 have hBc:=hBr.closed;refine ay.x T6 Tryz.func322 rfl ?_;refine wXG ?_;refine .raw (λρ=>?_);have KE:bu 4 [.aa false []] ([(⟨.m,0,4,[.agg [.int .i64 u.k,.str u.s,.int .i64 u.o,.aa false (ae u.l)]]⟩:au),⟨.m,0,4,[.agg [.int .i64 u.k,.str u.s,.int .i64 u.o,.aa false (ae u.l)]]⟩,⟨.m,0,0,[]⟩,⟨.m,0,0,[]⟩,⟨.m,0,5,[.agg [.aa true [],.int .i64 0,.cB 2,.cB 3,.aa true []]]⟩].map bM)=some (.aa true [],[(⟨.m,0,4,[.agg [.int .i64 u.k,.str u.s,.int .i64 u.o,.aa false (ae u.l)]]⟩:au),⟨.m,0,4,[.agg [.int .i64 u.k,.str u.s,.int .i64 u.o,.aa false (ae u.l)]]⟩,⟨.m,0,0,[]⟩,⟨.m,0,0,[]⟩,⟨.m,0,5,[.agg [.aa true [],.int .i64 0,.cB 2,.cB 3,.aa true []]]⟩].map bM):=rfl;refine D.move rfl ?_;refine .AW [(⟨.m,0,4,[.agg [.int .i64 u.k,.str u.s,.int .i64 u.o,.aa false (ae u.l)]]⟩:au),⟨.m,0,4,[.agg [.int .i64 u.k,.str u.s,.int .i64 u.o,.aa false (ae u.l)]]⟩,⟨.m,0,0,[]⟩,⟨.m,0,0,[]⟩,⟨.m,0,5,[.agg [.aa true [],.int .i64 0,.cB 2,.cB 3,.aa true []]]⟩] [] ⟨0,λn _=>BW rfl rfl KE rfl⟩ ?_ rfl rfl hBc rfl rfl;refine .AW [(⟨.m,0,4,[.agg [.int .i64 u.k,.str u.s,.int .i64 u.o,.aa false (ae u.l)]]⟩:au),⟨.m,0,4,[.agg [.int .i64 u.k,.str u.s,.int .i64 u.o,.aa false (ae u.l)]]⟩,⟨.m,0,0,[]⟩,⟨.m,0,0,[]⟩,⟨.m,0,5,[.agg [.aa true [],.int .i64 0,.cB 2,.cB 3,.aa true []]]⟩] [] ⟨0,λn _=>Hq T6 rfl rfl⟩ ?_ rfl rfl hBc rfl rfl;refine .AW [(⟨.m,0,4,[.agg [.int .i64 u.k,.str u.s,.int .i64 u.o,.aa false (ae u.l)]]⟩:au),⟨.m,0,4,[.agg [.int .i64 u.k,.str u.s,.int .i64 u.o,.aa false (ae u.l)]]⟩,⟨.m,0,0,[]⟩,⟨.m,0,0,[]⟩,⟨.m,0,5,[.agg [.aa true [],.int .i64 0,.cB 2,.cB 3,.aa true []]]⟩] [] ⟨0,λn _=>Ho T6 (vs:=[.agg [.int .i64 u.k,.str u.s,.int .i64 u.o,.aa false (ae u.l)]]) (by exact rfl) (by simp)⟩ ?_ rfl rfl hBc rfl rfl
 refine aV.two rfl rfl ⟨0,λn _=>x9 rfl rfl (fZ T6 (lv:=2) (full:=true) (ys:=[.agg [.int .i64 u.k,.str u.s,.int .i64 u.o,.aa false (ae u.l)]]) (by omega) rfl rfl rfl rfl rfl (by decide) rfl rfl rfl rfl (by simp))⟩ ?_;refine aV.two rfl rfl ⟨0,λn _=>VD T6 rfl rfl rfl (by simp)⟩ ?_;refine D.move rfl ?_;refine aV.nil ⟨_,_,rfl,?_⟩
 conv=>whnf
 have YH:HR [(⟨.m,0,4,[.agg [.int .i64 u.k,.str u.s,.int .i64 u.o,.aa false (ae u.l)]]⟩:au),⟨.m,0,4,[.agg [.int .i64 u.k,.str u.s,.int .i64 u.o,.aa false (ae u.l)]]⟩,⟨.m,0,0,[]⟩,⟨.m,0,0,[]⟩,⟨.m,0,5,[.agg [.aa true [],.int .i64 0,.cB 2,.cB 3,.aa true []]]⟩,⟨.m,0,4,[.agg [.int .i64 u.k,.str u.s,.int .i64 u.o,.aa false (ae u.l)]]⟩,⟨.m,0,4,[.agg [.int .i64 u.k,.str u.s,.int .i64 u.o,.aa false (ae u.l)]]⟩]:=by
  intro o ho
  simp only[ZF,aaD,or_false]at ho;rcases ho with rfl |rfl |rfl |rfl |rfl |rfl |rfl <;>simp[bw,br,bq]
 have Zl:=YH.closed
 have YI:HR [(⟨.m,0,4,[.agg [.int .i64 u.k,.str u.s,.int .i64 u.o,.aa false (ae u.l)]]⟩:au),⟨.m,0,4,[.agg [.int .i64 u.k,.str u.s,.int .i64 u.o,.aa false (ae u.l)]]⟩,⟨.m,0,0,[]⟩,⟨.m,0,0,[]⟩,⟨.m,0,5,[.agg [.aj 7 0 0 1,.int .i64 0,.cB 2,.cB 3,.aa true []]]⟩,⟨.m,0,4,[.agg [.int .i64 u.k,.str u.s,.int .i64 u.o,.aa false (ae u.l)]]⟩,⟨.m,0,4,[.agg [.int .i64 u.k,.str u.s,.int .i64 u.o,.aa false (ae u.l)]]⟩,⟨.m,0,4,[.agg [.int .i64 u.k,.str u.s,.int .i64 u.o,.aa false (ae u.l)]]⟩]:=by
  intro o ho
  simp only[ZF,aaD,or_false]at ho;rcases ho with rfl |rfl |rfl |rfl |rfl |rfl |rfl |rfl <;>simp[bw,br,bq]
 refine eJ.zip T6 [u] (λp q L K=>L=[(0,.aa false []),(5,.ptr 4 0 0 0),(23,.aj 5 0 0 1),(24,.int .i64 1),(25,.int .i64 p.length)]/\((q.length=1/\K=[(⟨.m,0,4,[.agg [.int .i64 u.k,.str u.s,.int .i64 u.o,.aa false (ae u.l)]]⟩:au),⟨.m,0,4,[.agg [.int .i64 u.k,.str u.s,.int .i64 u.o,.aa false (ae u.l)]]⟩,⟨.m,0,0,[]⟩,⟨.m,0,0,[]⟩,⟨.m,0,5,[.agg [.aa true [],.int .i64 0,.cB 2,.cB 3,.aa true []]]⟩,⟨.m,0,4,[.agg [.int .i64 u.k,.str u.s,.int .i64 u.o,.aa false (ae u.l)]]⟩])\/(q.length=0/\K=[(⟨.m,0,4,[.agg [.int .i64 u.k,.str u.s,.int .i64 u.o,.aa false (ae u.l)]]⟩:au),⟨.m,0,4,[.agg [.int .i64 u.k,.str u.s,.int .i64 u.o,.aa false (ae u.l)]]⟩,⟨.m,0,0,[]⟩,⟨.m,0,0,[]⟩,⟨.m,0,5,[.agg [.aj 7 0 0 1,.int .i64 0,.cB 2,.cB 3,.aa true []]]⟩,⟨.m,0,4,[.agg [.int .i64 u.k,.str u.s,.int .i64 u.o,.aa false (ae u.l)]]⟩,⟨.m,0,4,[.agg [.int .i64 u.k,.str u.s,.int .i64 u.o,.aa false (ae u.l)]]⟩,⟨.m,0,4,[.agg [.int .i64 u.k,.str u.s,.int .i64 u.o,.aa false (ae u.l)]]⟩]))) (.nx ⟨rfl,.inl ⟨rfl,rfl⟩⟩) ?_ ?_
 ·rintro p a q _ K ρ e ⟨rfl,hK⟩;obtain⟨rfl,I7,rfl⟩:=uK e;obtain rfl:K=[(⟨.m,0,4,[.agg [.int .i64 u.k,.str u.s,.int .i64 u.o,.aa false (ae u.l)]]⟩:au),⟨.m,0,4,[.agg [.int .i64 u.k,.str u.s,.int .i64 u.o,.aa false (ae u.l)]]⟩,⟨.m,0,0,[]⟩,⟨.m,0,0,[]⟩,⟨.m,0,5,[.agg [.aa true [],.int .i64 0,.cB 2,.cB 3,.aa true []]]⟩,⟨.m,0,4,[.agg [.int .i64 u.k,.str u.s,.int .i64 u.o,.aa false (ae u.l)]]⟩]:=by rcases hK with h |h;exact h.2;exact absurd h.1 (by simp)
  refine wXA ?_;refine .mk (.aa false [.agg [.int .i64 u.k,.str u.s,.int .i64 u.o,.aa false (ae u.l)]]) (by simpa[aU,b9,ba]using hs) ?_;refine wXA ?_;refine .sn (es:=[]) ?_ rfl (by simp);refine wXA ?_;exact .nx ⟨rfl,.inr ⟨rfl,rfl⟩⟩
 ·rintro _ K ρ ⟨rfl,hK⟩;obtain rfl:K=[(⟨.m,0,4,[.agg [.int .i64 u.k,.str u.s,.int .i64 u.o,.aa false (ae u.l)]]⟩:au),⟨.m,0,4,[.agg [.int .i64 u.k,.str u.s,.int .i64 u.o,.aa false (ae u.l)]]⟩,⟨.m,0,0,[]⟩,⟨.m,0,0,[]⟩,⟨.m,0,5,[.agg [.aj 7 0 0 1,.int .i64 0,.cB 2,.cB 3,.aa true []]]⟩,⟨.m,0,4,[.agg [.int .i64 u.k,.str u.s,.int .i64 u.o,.aa false (ae u.l)]]⟩,⟨.m,0,4,[.agg [.int .i64 u.k,.str u.s,.int .i64 u.o,.aa false (ae u.l)]]⟩,⟨.m,0,4,[.agg [.int .i64 u.k,.str u.s,.int .i64 u.o,.aa false (ae u.l)]]⟩]:=by rcases hK with h |h;exact absurd h.1 (by simp);exact h.2
  have eS:[(⟨.m,0,4,[.agg [.int .i64 u.k,.str u.s,.int .i64 u.o,.aa false (ae u.l)]]⟩:au),⟨.m,0,4,[.agg [.int .i64 u.k,.str u.s,.int .i64 u.o,.aa false (ae u.l)]]⟩,⟨.m,0,0,[]⟩,⟨.m,0,0,[]⟩,⟨.m,0,5,[.agg [.aj 7 0 0 1,.int .i64 0,.cB 2,.cB 3,.aa true []]]⟩,⟨.m,0,4,[.agg [.int .i64 u.k,.str u.s,.int .i64 u.o,.aa false (ae u.l)]]⟩,⟨.m,0,4,[.agg [.int .i64 u.k,.str u.s,.int .i64 u.o,.aa false (ae u.l)]]⟩,⟨.m,0,4,[.agg [.int .i64 u.k,.str u.s,.int .i64 u.o,.aa false (ae u.l)]]⟩][7]?=some ⟨.m,0,4,ae [u]⟩:=by rw[x8];rfl
  have TT:=lJ (ts:=[u]) eS (by simp) (λt ht=>by simp at ht;rw[ht];omega);have y9:dV [u]=[u]:=rfl;rw[y9,x8]at TT;refine wXA ?_;refine ai.cu rfl TT ?_;have hc:=oW _ rfl Oy u [] ([(⟨.m,0,4,[.agg [.int .i64 u.k,.str u.s,.int .i64 u.o,.aa false (ae u.l)]]⟩:au),⟨.m,0,4,[.agg [.int .i64 u.k,.str u.s,.int .i64 u.o,.aa false (ae u.l)]]⟩,⟨.m,0,0,[]⟩,⟨.m,0,0,[]⟩,⟨.m,0,5,[.agg [.aj 7 0 0 1,.int .i64 0,.cB 2,.cB 3,.aa true []]]⟩,⟨.m,0,4,[.agg [.int .i64 u.k,.str u.s,.int .i64 u.o,.aa false (ae u.l)]]⟩,⟨.m,0,4,[.agg [.int .i64 u.k,.str u.s,.int .i64 u.o,.aa false (ae u.l)]]⟩,⟨.m,0,4,[.agg [.int .i64 u.k,.str u.s,.int .i64 u.o,.aa false (ae u.l)]]⟩].set 7 ⟨.m,0,4,ae [u]⟩) (by rw[x8];exact YI) 7 0 rfl (by simp) (λt ht=>by simp at ht;rw[ht];omega);have QI:dd [u]=[u]:=rfl;rw[QI,x8]at hc;refine wXA ?_;refine .ln hc (λr h' hr=>by obtain⟨_,_,_,rfl⟩:=hr;simp) (λr h' hr=>?_);obtain⟨rfl,tl,hv,rfl⟩:=hr;refine wXA ?_;refine eJ.zip T6 ([]:List Tm) (λp q L K=>L=[(5,.ptr 4 0 0 0),(53,.aa false []),(54,.int .i64 0),(55,.int .i64 p.length)]/\K=(([(⟨.m,0,4,[.agg [.int .i64 u.k,.str u.s,.int .i64 u.o,.aa false (ae u.l)]]⟩:au),⟨.m,0,4,[.agg [.int .i64 u.k,.str u.s,.int .i64 u.o,.aa false (ae u.l)]]⟩,⟨.m,0,0,[]⟩,⟨.m,0,0,[]⟩,⟨.m,0,5,[.agg [.aj 7 0 0 1,.int .i64 0,.cB 2,.cB 3,.aa true []]]⟩,⟨.m,0,4,[.agg [.int .i64 u.k,.str u.s,.int .i64 u.o,.aa false (ae u.l)]]⟩,⟨.m,0,4,[.agg [.int .i64 u.k,.str u.s,.int .i64 u.o,.aa false (ae u.l)]]⟩,⟨.m,0,4,[.agg [.int .i64 u.k,.str u.s,.int .i64 u.o,.aa false (ae u.l)]]⟩].set 7 ⟨.m,0,4,ae [u]⟩).set 7 ⟨.m,0,4,[.agg [.int .i64 u.k,.str u.s,.int .i64 u.o,.aa false (ae u.l)]]++tl⟩).set 4 ⟨.m,0,5,[.agg [.aj 7 0 0 1,.int .i64 0,.cB 2,.cB 3,.aa true []]]⟩) (.nx ⟨rfl,rfl⟩) ?_ ?_
  ·rintro p u q _ K ρ e _
   cases p <;>cases e
  ·rintro _ _ ρ ⟨rfl,rfl⟩;refine wXA ?_;refine⟨?_,by simp,λj hj=>(by obtain rfl:j=0:=(by omega);rfl),4,2,3,7,0,tl,rfl,by omega,⟨rfl,rfl,rfl,rfl,hv⟩⟩
   intro o ho
   have ho:o∈[(⟨.m,0,4,[.agg [.int .i64 u.k,.str u.s,.int .i64 u.o,.aa false (ae u.l)]]⟩:au),⟨.m,0,4,[.agg [.int .i64 u.k,.str u.s,.int .i64 u.o,.aa false (ae u.l)]]⟩,⟨.m,0,0,[]⟩,⟨.m,0,0,[]⟩,⟨.m,0,5,[.agg [.aj 7 0 0 1,.int .i64 0,.cB 2,.cB 3,.aa true []]]⟩,⟨.m,0,4,[.agg [.int .i64 u.k,.str u.s,.int .i64 u.o,.aa false (ae u.l)]]⟩,⟨.m,0,4,[.agg [.int .i64 u.k,.str u.s,.int .i64 u.o,.aa false (ae u.l)]]⟩,⟨.m,0,4,[.agg [.int .i64 u.k,.str u.s,.int .i64 u.o,.aa false (ae u.l)]]++tl⟩]:=ho;simp only[ZF,aaD,or_false]at ho;have xZ:ar ([.agg [.int .i64 u.k,.str u.s,.int .i64 u.o,.aa false (ae u.l)]]++tl)=true:=by rw[dj,hv];simp
   rcases ho with rfl |rfl |rfl |rfl |rfl |rfl |rfl |rfl
   ·exact⟨by simp,bq _ _ (by simp)⟩
   ·exact⟨by simp,bq _ _ (by simp)⟩
   ·exact⟨by simp,rfl⟩
   ·exact⟨by simp,rfl⟩
   ·exact⟨by simp,by simp[bw,br]⟩
   ·exact⟨by simp,bq _ _ (by simp)⟩
   ·exact⟨by simp,bq _ _ (by simp)⟩
   ·exact⟨by simp,bq _ _ xZ⟩
theorem HK(u:Tm)(hv:valid u=0)(hu:ax u<10000000)(f1:eU u jj=false)(f2:eU u wo=false):aO C 276 [.aa false [],enc u] (.cm [.aa false [],.int .i64 4]):=by
 have g1:=wF u hv hu;have g2:=Oz u hu f1 f2;have x8:ae [u]=[.agg [.int .i64 u.k,.str u.s,.int .i64 u.o,.aa false (ae u.l)]]:=by rw[ae,aw];rfl
 rw[x8]at g1;rw[aw u]at g2 ⊢;refine aO.x T6 Tryz.func276 rfl ?_;refine wXA ?_;refine .p g1 ?_;refine wXA ?_;refine .fr (P:=λr h'=>∃x m1 m2 c ep tl,r=.ptr x 0 0 0/\1<=x/\Sys h' x m1 m2 c ep u tl) g2 (λr h hr hb=>?_) (λr h r1 r2 r3 r4=>?_)
 ·obtain⟨x,m1,m2,c,ep,tl,rfl,hx,_⟩:=hr;simp[dZ,cD,dY]at hb;omega
 obtain⟨x,m1,m2,c,ep,tl,rfl,hx,hS⟩:=r4;have h0:h[0]?=some ⟨.m,0,4,[.agg [.int .i64 u.k,.str u.s,.int .i64 u.o,.aa false (ae u.l)]]⟩:=r3 0 (by simp);have g3:=SI x m1 m2 c ep u tl hu f1 f2 h r1 hS;rw[aw u]at g3;refine wXA ?_;refine .fr (P:=λr h'=>∃b,r=.aj b 0 0 1/\h.length<=b/\h'[b]?=some ⟨.m,0,1,[.int .u64 1]⟩) g3 (λr k hr hb=>?_) (λr k k1 k2 k3 k4=>?_)
 ·obtain⟨b,rfl,vf,_⟩:=hr;simp[dZ,cD,dY]at hb;omega
 obtain⟨b,rfl,vf,hb3⟩:=k4;have TU:Sys k x m1 m2 c ep u tl:=hS.of_eq h.length ⟨ag hS.hx,ag hS.h1,ag hS.h2,ag hS.hc⟩ k3;have g4:=SJ x m1 m2 c ep b u tl k k1 TU;refine wXA ?_;refine .fr (P:=λr h'=>r=.cm [.aj b 0 0 1,.aj k.length 0 0 1]/\h'=k++[⟨.m,0,1,[.int .u64 0]⟩]) (g4.mono λr h' hr=>?_) (λr k hr hb=>?_) (λr h' _ _ _ k4=>?_)
 ·obtain⟨rfl,rfl⟩:=hr;exact⟨k1.dE (HV.one rfl),by simp,λj hj=>Zv hj,rfl,rfl⟩
 ·obtain⟨rfl,_⟩:=hr;simp[dZ,cD,dY]at hb
 obtain⟨rfl,rfl⟩:=k4;have hS3:Sys (k++[(⟨.m,0,1,[.int .u64 0]⟩:au)]) x m1 m2 c ep u tl:=TU.of_eq k.length ⟨ag TU.hx,ag TU.h1,ag TU.h2,ag TU.hc⟩ λj hj=>Zv hj
 have hb4:(k++[(⟨.m,0,1,[.int .u64 0]⟩:au)])[b]?=some ⟨.m,0,1,[.int .u64 1]⟩:=by rw[Zv (ag hb3)];exact hb3
 have g5:=HW b _ hb4;have fx:=hS3.hx;have fc:=hS3.hc;refine wXA ?_;refine .same (g5.mono λr h' h=>⟨h.1,h.2⟩) (λr hr=>?_);subst hr;refine wXA ?_;exact⟨_,rfl,rfl⟩
end bO
open Go.Proofs
section
variable{C:cK}(T:lz C.P){ops:Array Oper}{i d:Nat}{ty:TypeId}{pos:String}{af:Array Edge}{r:List Oper}{ρ:Nat->PV}{L:List (Nat×PV)}{h:ab}{L0:Nat}{own:List Nat}{Q:St->Prop}
set_option maxRecDepth 4000
theorem aV.sP{op:Op}(hs:vB T op L λv=>aV C ops (i+1) r ⟨⟨al ((d,v)::L) ρ,h⟩,L0,own⟩ Q):aV C ops i (⟨some d,op,ty,pos,af,none⟩::r) ⟨⟨al L ρ,h⟩,L0,own⟩ Q:=by
 obtain⟨hh,v,hv,k⟩:=pC T hs;exact aV.plain hh (λrun=>hv run 1 ρ h) k
theorem aV.sR{op:Op}(hs:tg T op L h λv=>aV C ops (i+1) r ⟨⟨al ((d,v)::L) ρ,h⟩,h.length,[]⟩ Q)(di:aR h=true)(hv:Ir L h op.operands.toList):aV C ops i (⟨some d,op,ty,pos,af,none⟩::r) ⟨⟨al L ρ,h⟩,h.length,[]⟩ Q:=by
 obtain⟨hh,v,hc,k⟩:=kj T hs;exact aV.read hh di (E0 hv) ⟨0,λn lv _ _=>hc _ lv ρ⟩ k
theorem aV.sW{op:Op}(hh:cR op=true)(hl:level ops (before ops) i=2)(hs:tV T op L h λv h'=>aV C ops (i+1) r ⟨⟨al ((d,v)::L) ρ,h'⟩,h'.length,[]⟩ Q):aV C ops i (⟨some d,op,ty,pos,af,none⟩::r) ⟨⟨al L ρ,h⟩,L0,own⟩ Q:=by
 obtain⟨v,h',hc,k⟩:=pQ T hs;exact aV.two hh hl ⟨0,λn _=>hc _ ρ⟩ k
theorem aV.Vx{x:Operand}{xs:List Operand}{yU:Array TypeId}{f:FuncId}{args:List PV}{n:Nat}{P:ab->Prop}(hl:level ops (before ops) i=1)(di:aR h=true)(hf:cG L x=some (.fn f []))(ha:xf L xs=some args)(hm:C.mode f=.opened)(ia:bw (aL h) args=true)
  (a:ay C f args (h.map bM) (λr' h'=>r'=.aj h.length 0 0 n/\∃D,h'=h.map bM++D/\(∀o∈D,o.mu≠.l)/\P D))
  (k:∀D,P D->aV C ops (i+1) r ⟨⟨al ((d,.aj h.length 0 0 n)::L) ρ,h++D⟩,h.length,List.replicate D.length i⟩ Q):aV C ops i (⟨some d,.call ⟨.value x,xs.toArray,yU⟩,ty,pos,af,none⟩::r) ⟨⟨al L ρ,h⟩,h.length,[]⟩ Q:=by
 obtain⟨r',h',⟨rfl,D,rfl,hD,hP⟩,n0,hn⟩:=a;refine aV.step ⟨n0,λm h1=>?_⟩ (k D hP);have hM:cc ((before ops).getD i 0).testBit h.length [] h=h:=by simp[cc]
 have he:=gw (ρ:=ρ) ha;have Dd:(h.map bM++D).drop h.length=D:=by rw[aav (by simp),Z5 (by simp)];simp
 have hDl:(D.all λo=>decide (o.mu≠.l))=true:=by rw[Zw];exact λo ho=>decide_eq_true (hD o ho)
 have hb:dZ h.length (.aj h.length 0 0 n)=false:=by simp[dZ,cD,dY]
 have C2:c9 C (eV C m) 1 f args h=some (.aj h.length 0 0 n,h++D):=by
  unfold c9;simp only[hm,gK,dQ,hn m h1,Dd,hDl];simp[hb]
 have kH:((Op.call ⟨.value x,xs.toArray,yU⟩).operands.toList.all λy=>br (aL h) (ev (al L ρ) y))=true:=by
  rw[Zw]
  intro y hy
  simp[Op.operands,Call.operands]at hy;rcases hy with rfl |hy
  ·rw[ak hf];rfl
  ·rw[fI]at ia;have:ev (al L ρ) y∈args:=by rw[<-he];exact Z0.2 ⟨y,hy,rfl⟩
   exact Zw.1 ia _ this
 have cH:¬level ops (before ops) i=2:=by rw[hl];decide
 have jf:ao C (eV C m) 1 (.call ⟨.value x,xs.toArray,yU⟩) (al L ρ) h=some (.aj h.length 0 0 n,h++D):=by
  simp only[ao,fO,ak hf,he,ZV,C2]
 have IY:(h++D).drop h.length=D:=by simp
 simp only[cf,bm,show cR (.call ⟨.value x,xs.toArray,yU⟩)=true from rfl,aab,if_false,cH,hM,di,kH,and_self,if_true,jf,IY,hDl,bZ,aad]
theorem tx{D:ab}(di:aR h=true):aR (h++D.map eE)=true:=by
 unfold aR at di ⊢;rw[Zw]at di ⊢
 intro o ho
 rcases ZE.1 ho with ho |ho
 ·have:=di o ho;rw[ZU]at this ⊢;rcases this with h1 |h1
  ·exact .inl h1
  ·refine .inr (eB (λi hi=>?_) _ h1);unfold aL at hi ⊢
   split at hi
   ·rename_i o ho
    rw[Zv (ag ho),ho];exact hi
   ·cases hi
 ·obtain⟨o',_,rfl⟩:=Z0.1 ho;simp[eE]
theorem yS{D:ab}{e:Nat->Bool}{j:Nat}(he:e j=false):cc e h.length (List.replicate D.length j) (h++D)=h++D.map eE:=by
 unfold cc;rw[List.take_left' rfl,List.drop_left' rfl]
 congr 1
 induction D with
 |nil=>rfl
 |cons o D ih=>simp[List.replicate_succ,he,ih]
theorem aV.bT{op:Op}{D:ab}{j:Nat}{v:PV}{E:ab}(hh:cR op=true)(hl:level ops (before ops) i=1)(he:((before ops).getD i 0).testBit j=false)(di:aR h=true)(kH:∀y∈op.operands.toList,aW (ev (al L ρ) y)=true)
  (hc:∀run,ao C run 1 op (al L ρ) (h++D.map eE)=some (v,h++D.map eE++E)) (hE:∀o∈E,o.mu≠.l) (k:aV C ops (i+1) r ⟨⟨al ((d,v)::L) ρ,h++D++E⟩,h.length,List.replicate D.length j++List.replicate E.length i⟩ Q):
  aV C ops i (⟨some d,op,ty,pos,af,none⟩::r) ⟨⟨al L ρ,h++D⟩,h.length,List.replicate D.length j⟩ Q:=by
 refine aV.step ⟨0,λm _=>?_⟩ k;have cH:¬level ops (before ops) i=2:=by rw[hl];decide
 have hM:cc ((before ops).getD i 0).testBit h.length (List.replicate D.length j) (h++D)=h++D.map eE:=yS he
 have Y2:(op.operands.toList.all λy=>br (aL (h++D.map eE)) (ev (al L ρ) y))=true:=by
  rw[Zw];exact λy hy=>uD _ _ (kH y hy)
 have Dd:(h++D.map eE++E).drop (h++D).length=E:=by
  rw[aav (by simp),Z5 (by simp)];simp
 have hEl:(E.all λo=>decide (o.mu≠.l))=true:=by rw[Zw];exact λo ho=>decide_eq_true (hE o ho)
 simp only[cf,bm,hh,aab,if_false,cH,hM,tx di,Y2,and_self,if_true,hc,Dd,hEl,bZ]
theorem aV.Sz{x:Operand}{t el:TypeId}{D:ab}{j:Nat}{full:Bool}{es:List PV}(hl:level ops (before ops) i=1)(he:((before ops).getD i 0).testBit j=false)(di:aR h=true)(hx:cG L x=some (.aa full es))(hk:T.kd t=some (.sl el))
  (k:aV C ops (i+1) r ⟨⟨al ((d,.int .i64 es.length)::L) ρ,h++D⟩,h.length,List.replicate D.length j⟩ Q):aV C ops i (⟨some d,.call ⟨.builtin .len,#[x],#[t]⟩,ty,pos,af,none⟩::r) ⟨⟨al L ρ,h++D⟩,h.length,List.replicate D.length j⟩ Q:=by
 refine aV.bT (E:=[]) (v:=.int .i64 es.length) rfl hl he di (λy hy=>?_) (λrun=>?_) (by simp) (by simpa using k)
 ·simp[Op.operands,Call.operands]at hy;subst hy;rw[ak hx];rfl
 ·simp only[ao,bo,ZN,ZX,ak hx,nV,bp (T.cP _ _ hk),ZH,ZV]
theorem aV.Og{l:Operand}{t el:TypeId}{D:ab}{j:Nat}{kk:IntKind}{n sz fX:Nat}{z:PV}(hl:level ops (before ops) i=1)(he:((before ops).getD i 0).testBit j=false)(di:aR h=true)(hx:cG L l=some (.int kk n))(hk:T.kd t=some (.sl el))(hs:T.ts el=some (sz+1))(hb:T.tb el=some fX)(hz:T.tz el=some z)
  (jc:fX<=65536) (Nl:(cells z).length=sz+1) (ho:(cells z).all bG=true) (hn:n<=1073741824)
  (k:aV C ops (i+1) r ⟨⟨al ((d,.aj (h.length+D.length) 0 0 n)::L) ρ,h++D++[⟨.m,0,sz+1,List.replicate n z⟩]⟩,h.length,List.replicate D.length j++[i]⟩ Q):aV C ops i (⟨some d,.makeSlice t l l,ty,pos,af,none⟩::r) ⟨⟨al L ρ,h++D⟩,h.length,List.replicate D.length j⟩ Q:=by
 refine aV.bT (E:=[⟨.m,0,sz+1,List.replicate n z⟩]) (v:=.aj (h.length+D.length) 0 0 n) rfl hl he di (λy hy=>?_) (λrun=>?_) (by simp) k
 ·simp[Op.operands]at hy;subst hy;rw[ak hx];rfl
 ·simp only[ao,az,ak hx,jk,bp (T.cP _ _ hk),T.dO _ _ hs,T.rV _ _ hb,T.mO _ _ hz];rw[if_pos ⟨by omega,by omega,by omega,by omega,by omega,jc,Nl,ho⟩];simp[newObj]
end
attribute [local irreducible] aE aC aI aJ Ev ah ai ay aV
set_option maxRecDepth 4000
theorem Of(cs:List Tm)(x:List Pw)(H:ab)(hs:fK cs)(hl:cs.length<100000000)(hb:∀t∈cs,ax t<1000000000)(hx:zJ x)(lx:x.length<100000000)(hm:∀p∈x,p.1∈cs):
  ay C 398 [.aa false (ae cs),.aa false (bh x)] H (λr h'=>r=.aj H.length 0 0 cs.length/\∃J:ab,h'=H++⟨.m,0,1,fw (cs.map (te x))⟩::J/\∀o∈J,o.mu=.m/\ar o.es=true):=by
 have cT:=an cs;have XH:=eO x;refine ay.x T6 Tryz.func398 rfl ?_;refine wXA ?_
 refine eJ.zip T6 x (λp q L h=>L=[(0,.aa false (ae cs)),(5,.aj H.length 0 0 (ae cs).length),(13,.aa false (bh x)),(14,.int .i64 (bh x).length),(15,.int .i64 p.length)]/\∃J:ab,h=H++⟨.m,0,1,fw (cs.map (te p))⟩::J/\∀o∈J,o.mu=.m/\ar o.es=true)
  (.nx ⟨rfl,[],?_,by simp⟩) ?_ ?_
 ·have:fw (cs.map (te []))=List.replicate (ae cs).length (.int .i64 0):=by rw[cT,fw,aa5,<-List.map_const];rfl
  rw[this]
 ·rintro p ⟨u,n⟩ q _ h ρ e ⟨rfl,J,hJ,U8⟩;have e1:h[H.length]?=some ⟨.m,0,1,fw (cs.map (te p))⟩:=by rw[hJ];simp
  have h1:H.length<h.length:=by rw[hJ];simp
  have cV:=Bq e;have cH:=congrArg List.length e;simp only[List.length_append,List.length_cons]at cH;obtain⟨A,B,hc⟩:=List.append_of_mem (hm (u,n) (by rw[e];simp));dsimp only at hc;have Hy:=Cm cs A B u hc hs hl hb;rw[aw]at Hy;have NA:A.length<cs.length:=by rw[hc];simp
  have oz:(fw (cs.map (te p)))[0+A.length]?=some (.int .i64 (te p u)):=by rw[hc];simp[fw]
  have hlen:(fw (cs.map (te p))).length=cs.length:=by simp
  have bI:∀y∈p,aT y.1 u≠0:=λy hy=>by
   rw[e]at hx;have:=(abN.1 hx).2.2 y hy (u,n) (by simp);simp only at this;omega
  refine wXA ?_;refine .p Hy ?_;have j8:(fw (cs.map (te p))).set (0+A.length) (.int .i64 n)=fw (cs.map (te (p++[(u,n)]))):=by rw[ZS];exact OL hc hs bI
  refine wXA ?_;rw[j8];refine .nx ⟨rfl,J++[⟨.m,0,5,[.agg [.int .i64 u.k,.str u.s,.int .i64 u.o,.aa false (ae u.l),.int .i64 n]]⟩],?_,?_⟩
  ·rw[hJ,ZZ,Z3,aaO _ _ (Zz _),abh,List.set_cons_zero]
  ·intro o ho
   rcases ZE.1 ho with ho |ho
   ·exact U8 o ho
   ·rw[ZY.1 ho];exact⟨rfl,by simp⟩
 ·rintro _ h ρ ⟨rfl,J,hJ,U8⟩;refine wXA ?_;exact⟨by rw[cT];rfl,J,hJ,U8⟩
end Go.Pm
namespace Go.Pm
open Go.Proofs
set_option maxRecDepth 4000
structure Km(u:Tm)(k:ab)(x t p c:Nat):Prop where
 hr:HR k
 ex:∃i,k[x]?=some ⟨.m,0,4,[.agg [.aa false (ae [u]),.aa true [],.aj i 0 0 1,.bool false]]⟩/\k[i]?=some ⟨.m,0,1,[.int .i64 (-1)]⟩
 et:k[t]?=some ⟨.m,0,3,[.agg [.aj p 0 0 1,.aj c 0 0 0,.bool false]]⟩
 ep:k[p]?=some ⟨.m,0,1,[.int .i64 1]⟩
theorem HP(u:Tm):te [(u,1)] u=1:=Jr (p:=[]) (q:=[]) (by simp) (cX u)
namespace bO
attribute [local irreducible] aE aC aI aJ Ev ah ai ay aV
theorem Od(x:Nat)(cv pv:PV)(H:ab)(hR:HR H)(ex:H[x]?=some ⟨.m,0,4,[.agg [cv,.aa true [],pv,.bool false]]⟩):ay C 399 [.ptr x 0 0 0,.int .i64 0] H (λr h'=>r=.cm []/\h'=H):=by
 refine ay.x T6 Tryz.func399 rfl ?_;refine wXA ?_;refine eJ.nat T6 (λm L h=>m=0/\L=[(0,.ptr x 0 0 0),(1,.int .i64 0)]/\h=H) 0 (.nx ⟨rfl,rfl,rfl⟩) ?_;rintro m _ h ρ ⟨rfl,rfl,rfl⟩;refine wXA ?_;refine eJ.zip T6 ([]:List Nat) (λp q L' h'=>h'=h/\p=[]/\L'=[(0,.ptr x 0 0 0),(1,.int .i64 0),(4,.int .i64 (-1)),(5,.int .i64 0),(18,.aa true []),(19,.int .i64 0),(20,.int .i64 0)]) (.nx ⟨rfl,rfl,rfl⟩) ?_ ?_
 ·rintro p a q L' h' ρ e;simp at e
 ·rintro _ h ρ ⟨rfl,_,rfl⟩;refine wXA ?_;exact⟨rfl,rfl⟩
theorem Oe(u:Tm)(H:ab)(x t p c:Nat)(K:Km u H x t p c):ay C 388 [.ptr x 0 0 0,.ptr t 0 0 0] H (λr h'=>r=.int .i64 0/\h'=H):=by
 obtain⟨hR,⟨i,ex,ei⟩,et,ep⟩:=K;have cT:(ae [u]).length=1:=an [u];refine ay.x T6 Tryz.func388 rfl ?_;refine wXA ?_;rw[cT];refine eJ.zip T6 [(0:Nat)] (λp q L h=>L=[(0,.ptr x 0 0 0),(1,.ptr t 0 0 0),(12,.int .i64 1),(13,.int .i64 p.length)]/\h=H/\q≠[]) (.nx ⟨rfl,rfl,by simp⟩) ?_ ?_
 ·rintro p i q _ _ ρ e ⟨rfl,rfl,_⟩
  obtain rfl:p=[]:=by
   cases p with
   |nil=>rfl
   |cons b p=>simp at e
  refine wXA ?_;exact⟨rfl,rfl⟩
 ·rintro _ _ ρ ⟨rfl,rfl,h⟩;exact absurd rfl h
theorem HQ(u:Tm)(hu:ax u<10000000)(h:de u=false)(hv:valid u=0):
  ay C 387 [.aa false [],.aa false (bh [(u,1)])] [] (λr h'=>HR h'/\([]:ab).length<=h'.length/\(∀j,j<([]:ab).length->h'[j]?=([]:ab)[j]?)/\∃x t p c,r=.cm [.ptr x 0 0 0,.ptr t 0 0 0,.int .i64 0]/\Km u h' x t p c):=by
 have hvp:lf [(u,1)]=0:=by
  unfold lf;rw[if_neg (by simp),nB,if_neg (by simpa using hv),if_neg (by simp[h]),if_neg (by simp),if_neg (by simp),tK]
 have Sx:∀q∈[(u,(1:Int))],ax q.1<100000000:=by simp;omega
 have hvm:=(ED [(u,1)] Sx (by simp)).nine;rw[hvp]at hvm;have PX:=JI [[(u,1)]] ⟨λx hx=>by simp at hx;subst hx;exact⟨Sx,by simp⟩,by simp⟩;have hf:GR [[(u,1)]]=[u]:=rfl;rw[hf]at PX;have cT:(ae [u]).length=1:=an [u];refine ay.x T6 Tryz.func387 rfl ?_;refine wXG ?_;refine eJ.zip T6 ([]:List Nat) (λp q L h=>p=[]/\L=[(0,.aa false []),(1,.aa false (bh [(u,1)])),(19,.aa false []),(20,.int .i64 0),(21,.int .i64 0)]/\h=[]) (.nx ⟨rfl,rfl,rfl⟩) ?_ ?_
 ·rintro p x q _ h ρ e;simp at e
 rintro _ h ρ ⟨_,rfl,rfl⟩;refine wXG ?_;refine .p hvm ?_;refine wXG ?_;refine ai.cu rfl (show bu 1 [.aa false []] []=some (.aa true [],[])from rfl) ?_
 (repeat' (first |(refine Rn.go ?_;conv=>whnf)|((fail_if_success (show Py _ _ _ _ _));refine .mk ?_)|refine .lp λv H lp=>?_ |fail))
 have Dk:=lp.hv;have xJ:Out 1 H v (h9 [[(u,1)]]):=lp.out;refine .po xJ PX (λh4 hh4=>?_)
 have hv4:HV h4:=by
  rcases hh4 with rfl |⟨_,_,_,rfl⟩
  ·exact Dk
  ·exact Dk.set _ (by simp) (by simp)
 clear hh4 xJ Dk lp;have hx5:(h4++[(⟨.m,0,4,[.agg [.aa false (ae [u]),.aa true [],.aa true [],.bool false]]⟩:au)])[h4.length]?=some ⟨.m,0,4,[.agg [.aa false (ae [u]),.aa true [],.aa true [],.bool false]]⟩:=by simp
 have hR5:HR (h4++[(⟨.m,0,4,[.agg [.aa false (ae [u]),.aa true [],.aa true [],.bool false]]⟩:au)]):=hv4.hr.dE (HV.one rfl);refine wXG ?_;generalize h4++[(⟨.m,0,4,[.agg [.aa false (ae [u]),.aa true [],.aa true [],.bool false]]⟩:au)]=h5 at *;generalize h4.length=x at *;clear hv4;refine eJ.zip T6 ([]:List Nat) (λp q L k=>p=[]/\L=[(0,.aa false []),(1,.aa false (bh [(u,1)])),(11,.ptr x 0 0 0),(50,.aa false []),(51,.int .i64 0),(52,.int .i64 0)]/\k=h5) (.nx ⟨rfl,rfl,rfl⟩) ?_ ?_
 ·rintro p y q _ k ρ e;simp at e
 rintro _ h5 ρ ⟨_,rfl,rfl⟩;refine wXG ?_;refine eJ.nat T6 (λm L2 k=>(m=1/\L2=[(0,.aa false []),(1,.aa false (bh [(u,1)])),(11,.ptr x 0 0 0),(89,.int .i64 (ae [u]).length),(90,.int .i64 0)]/\k=h5)\/(m=0/\L2=[(0,.aa false []),(1,.aa false (bh [(u,1)])),(11,.ptr x 0 0 0),(89,.int .i64 (ae [u]).length),(90,.int .i64 1)]/\HR k/\∃i,k[x]?=some ⟨.m,0,4,[.agg [.aa false (ae [u]),.aa true [],.aj i 0 0 1,.bool false]]⟩/\k[i]?=some ⟨.m,0,1,[.int .i64 (-1)]⟩)) 1 (.nx (.inl ⟨rfl,rfl,rfl⟩)) ?_;rintro m _ k ρ (⟨rfl,rfl,rfl⟩|⟨rfl,rfl,hR,i,ex,ei⟩)
 ·have kx:=ag hx5;refine wXG ?_;refine .sn (es:=[]) ?_ rfl (by simp);have ex:(k++[(⟨.m,0,1,[.int .i64 (-1)]⟩:au)])[x]?=some ⟨.m,0,4,[.agg [.aa false (ae [u]),.aa true [],.aa true [],.bool false]]⟩:=by rw[Zv kx];exact hx5
  have hR:HR (k++[(⟨.m,0,1,[.int .i64 (-1)]⟩:au)]):=hR5.dE (HV.one rfl);refine wXG ?_;refine .nx ⟨0,by omega,.inr ⟨rfl,rfl,hR.set _ (by simp) (by simp[bw,br]),k.length,ZB (by simp;omega),?_⟩⟩;rw[ZC (by omega)];simp
 refine wXG ?_;refine eJ.nat T6 (λm L2 K=>K=k/\((m=1/\L2=[(0,.aa false []),(1,.aa false (bh [(u,1)])),(11,.ptr x 0 0 0),(106,.int .i64 (ae [u]).length),(107,.int .i64 0)])\/(m=0/\L2=[(0,.aa false []),(1,.aa false (bh [(u,1)])),(11,.ptr x 0 0 0),(106,.int .i64 (ae [u]).length),(107,.int .i64 1)]))) 1 (.nx ⟨rfl,.inl ⟨rfl,rfl⟩⟩) ?_;rintro m _ K ρ ⟨rfl,(⟨rfl,rfl⟩|⟨rfl,rfl⟩)⟩
 ·refine wXG ?_;refine .same (Od x _ _ _ hR ex) λr hr=>?_;subst hr;refine wXG ?_;exact .nx ⟨0,by omega,rfl,.inr ⟨rfl,rfl⟩⟩
 have K7:=(Of [u] [(u,1)] (K.map bM) (by simp[fK]) (by simp) (by simp;omega) (by simp[zJ]) (by simp) (by simp)).nine;rw[aaB]at K7;refine wXG ?_;refine .raw λρ=>?_;refine aV.sP T6 ?_
 conv=>whnf
 refine aV.sP T6 ?_
 conv=>whnf
 refine aV.sP T6 ?_
 conv=>whnf
 refine aV.sP T6 ?_
 conv=>whnf
 refine aV.sR T6 ?_ hR.closed ⟨As ex (by simp),trivial⟩
 conv=>whnf
 refine wXA ?_;refine aV.sP T6 ?_
 conv=>whnf
 refine aV.Vx (n:=1) (P:=λD=>∃J:ab,D=⟨.m,0,1,[.int .i64 1]⟩::J/\∀o∈J,o.mu=.m/\ar o.es=true) rfl hR.closed rfl rfl rfl rfl (K7.mono λr h' hh=>⟨hh.1,?_⟩) λD hD=>?_
 ·obtain⟨_,J,rfl,hJ⟩:=hh
  exact⟨_,rfl,λo ho=>by
   rcases ZF.1 ho with rfl |ho
   ·simp
   ·rw[(hJ o ho).1];simp,J,by simp[fw,HP],hJ⟩
 obtain⟨J,hDJ,hJ⟩:=hD;refine aV.sP T6 ?_
 conv=>whnf
 refine aV.Sz T6 rfl rfl hR.closed rfl rfl ?_;refine aV.Og T6 (n:=0) rfl rfl hR.closed rfl rfl rfl rfl rfl (by decide) rfl rfl (by omega) ?_;refine aV.sP T6 ?_
 conv=>whnf
 refine aV.sW T6 rfl rfl ?_
 conv=>whnf
 refine wXA ?_;refine aV.sP T6 ?_
 conv=>whnf
 refine aV.sP T6 ?_
 conv=>whnf
 refine aV.sP T6 ?_
 conv=>whnf
 obtain⟨kA,NV⟩:∃kA,kA=K++D++[(⟨.m,0,0+1,List.replicate 0 (.int .i64 0)⟩:au)]++[(⟨.m,0,3,[.agg [.aj K.length 0 0 1,.aj (K.length+D.length) 0 0 0,.bool false]]⟩:au)]:=⟨_,rfl⟩;have hlD:K.length+D.length+1=(K++D++[(⟨.m,0,0+1,List.replicate 0 (.int .i64 0)⟩:au)]).length:=by simp;omega
 have lD:0<D.length:=by rw[hDJ];simp
 have aF:∀j,j<K.length->kA[j]?=K[j]?:=λj hj=>by rw[NV,ZZ,ZZ,Zv hj]
 have a3:kA[K.length]?=some ⟨.m,0,1,[.int .i64 1]⟩:=by rw[NV,hDJ];simp
 have a2:kA[K.length+D.length+1]?=some ⟨.m,0,3,[.agg [.aj K.length 0 0 1,.aj (K.length+D.length) 0 0 0,.bool false]]⟩:=by
  rw[NV,hlD,ZI (Zz _),abh];rfl
 have hRA:HR kA:=by
  rw[NV];refine HR.Ka (HR.Ka (hR.dE λo ho=>?_) (by simp) (by simp[bw])) (by simp) (by simp[bw,br];omega);rw[hDJ]at ho;rcases ZF.1 ho with rfl |ho
  ·simp
  ·rw[(hJ o ho).1];exact⟨by simp,(hJ o ho).2⟩
 have kx:=ag ex;have ki:=ag ei;rw[<-hlD,<-NV];refine aV.nil ⟨_,_,rfl,?_⟩
 conv=>whnf
 skip
 exact⟨hRA,aaL _,λj hj=>absurd hj (Nat.not_lt_zero _),x,_,_,_,rfl,hRA,⟨i,by rw[aF _ kx];exact ex,by rw[aF _ ki];exact ei⟩,a2,a3⟩
theorem HS(u:Tm)(hu:ax u<10000000)(h:de u=false)(hv:valid u=0):
  ay C 372 [.aa false [],.aa false (bh [(u,1)])] [] (λr h'=>HR h'/\([]:ab).length<=h'.length/\(∀j,j<([]:ab).length->h'[j]?=([]:ab)[j]?)/\∃x t p c,r=.cm [.ptr x 0 0 0,.ptr t 0 0 0,.int .i64 0,.int .i64 0]/\Km u h' x t p c):=by
 have y9:=HQ u hu h hv;refine ay.x T6 Tryz.func372 rfl ?_;refine wXA ?_;refine .fr y9 (λr h hr hb=>?_) (λr h r1 r2 r3 r4=>?_)
 ·obtain⟨x,t,p,c,rfl,K⟩:=hr;simp[dZ,cD,dY]at hb
 obtain⟨x,t,p,c,rfl,K⟩:=r4;have Mx:=Oe u _ x t p c K;obtain⟨i,ex,ei⟩:=K.ex;refine wXA ?_;refine .same Mx λr hr=>?_;subst hr;refine wXA ?_;exact⟨r1,r2,r3,x,t,p,c,rfl,K⟩
theorem Cb(u:Tm)(hu:ax u<10000000)(h:de u=false)(hv:valid u=0):∃x,aO C 328 [.aa false [],.aa false (bh [(u,1)])] (.cm [x,.int .i64 4]):=by
 have Vy:=HS u hu h hv;refine⟨.aa false [],?_⟩;refine aO.x T6 Tryz.func328 rfl ?_;refine wXA ?_;refine .fr Vy (λr h hr hb=>?_) (λr h r1 r2 r3 r4=>?_)
 ·obtain⟨x,t,p,c,rfl,K⟩:=hr;simp[dZ,cD,dY]at hb
 obtain⟨x,t,p,c,rfl,K⟩:=r4;refine wXA ?_;exact⟨_,rfl,rfl⟩
end bO
end Go.Pm
namespace Go.Pm
set_option maxRecDepth 4000
theorem tH{u:Tm}(h:ko u=true):de u=false:=by
 obtain⟨h1,h2,_,_,_,h6⟩:=lP h;obtain⟨k,s,o,l⟩:=u
 have key:∀(n:ByteArray) (m:List UInt8),n.toList=m->eU (.mk k s o l) n=false->(decide (k=3)&&decide (s.toList=m))=false:=λn m e hh=>by
  subst e;simp only[eU,gI,Tm.k,Tm.s]at hh
  cases hk:decide (k=3)with
  |false=>rfl
  |true=>
   have e:k=3:=by simpa using hk
   subst e;simp at hh;simpa using hh
 have a1:=key Am sY Jc h1;have a2:=key An lI Jd h2;have a3:=key sG sZ Je h6;show(decide (k=3)&& (decide (s.toList=sY)||decide (s.toList=lI)||decide (s.toList=sZ)))=false;rw[Bool.and_or_distrib_left,Bool.and_or_distrib_left,a1,a2,a3]
 rfl
theorem KX{u:Tm}(h:de u=false)(hv:valid u=0):F3 u=([(u,1)],0):=by
 obtain⟨k,s,o,l⟩:=u;have ha:arity (.mk k s o l)=true:=by rw[arity,if_pos h]
 have hc:fU [] (.mk k s o l) 1=[(.mk k s o l,1)]:=by rw[fU,if_pos h];rfl
 rw[F3,if_neg (by omega),if_neg (by rw[ha];simp),hc,if_neg (by simp)]
namespace bO
open Go.Proofs
attribute [local irreducible] aE aC aI aJ Ev ah ai ay aV bU
theorem Ca(u:Tm):bh [(u,1)]=[.agg [.int .i64 u.k,.str u.s,.int .i64 u.o,.aa false (ae u.l),.int .i64 1]]:=by obtain⟨k,s,o,l⟩:=u;rfl
theorem N5(s:List Tm)(hs:jQ s)(u:Tm)(hu:ax u<10000000)(id:Nat)(H:ab)(h0:H[id]?=some ⟨.m,0,1,[.aa false (ae s)]⟩):ay C 371 [.agg [.int .i64 u.k,.str u.s,.int .i64 u.o,.aa false (ae u.l),.int .i64 1],.ptr id 0 0 0] H (λr h'=>r=.bool (cI s u)/\fM H h'):=by
 have h1:=hs.has hu;have cz:=ag h0;rw[aw]at h1;refine ay.x T6 Tryz.func371 rfl ?_;refine wXA ?_;refine .p h1 ?_;refine wXA ?_;exact⟨rfl,(fM.refl _).ct (HV.one (by simp[ar,aW]))⟩
theorem Ap(s:List Tm)(hs:jQ s)(u:Tm)(hu:ax u<10000000)(hn:cI s u=false):aO C 327 [.aa false (ae s),.aa false (bh [(u,1)])] (.aa false (bh [(u,1)])):=by
 rw[Ca];obtain⟨B,hB⟩:∃B:ab,B=[⟨.m,0,1,[.aa false (ae s)]⟩,⟨.m,0,5,[.agg [.int .i64 u.k,.str u.s,.int .i64 u.o,.aa false (ae u.l),.int .i64 1]]⟩]:=⟨_,rfl⟩;have TM:B[0]?=some ⟨.m,0,1,[.aa false (ae s)]⟩:=by rw[hB];rfl
 have Vd:B[1]?=some ⟨.m,0,5,[.agg [.int .i64 u.k,.str u.s,.int .i64 u.o,.aa false (ae u.l),.int .i64 1]]⟩:=by rw[hB];rfl
 have Sr:ay C 381 [.aj 1 0 0 1,.fn 371 [.ptr 0 0 0 0]] B (λr h'=>r=.int .i64 (-1)/\fM B h'):=by
  have TS:([]:List Tm).length=0:=rfl;have WS:[u].length=1:=rfl;refine ay.x T6 Tryz.func381 rfl ?_;refine wXA ?_;refine eJ.zip T6 [u] (λp q L K=>L=[(0,.aj 1 0 0 1),(1,.fn 371 [.ptr 0 0 0 0]),(7,.int .i64 1),(8,.int .i64 p.length)]/\fM B K) (.nx ⟨rfl,fM.refl _⟩) ?_ ?_
  ·rintro p a q _ K ρ e ⟨rfl,hE⟩;obtain⟨rfl,I7,rfl⟩:=uK e;have I7:=I7.symm;subst I7;have Vs:=hE.at Vd;have hk:=N5 s hs u hu 0 K (hE.at TM);rw[hn]at hk;refine wXA ?_;refine .ex hk (λh' MM=>?_);refine wXA ?_;exact .nx ⟨rfl,hE.trans MM⟩
  ·rintro _ K ρ ⟨rfl,hE⟩;refine wXA ?_;exact⟨rfl,hE⟩
 have IY:ay C 369 [.aj 1 0 0 1,.fn 371 [.ptr 0 0 0 0]] B (λr h'=>r=.aj 1 0 0 1/\fM B h'):=by
  refine ay.x T6 Tryz.func369 rfl ?_;refine wXA ?_;refine .ex Sr (λh' hE=>?_);refine wXA ?_;exact⟨rfl,hE⟩
 have KE:bu 5 [.aa false [.agg [.int .i64 u.k,.str u.s,.int .i64 u.o,.aa false (ae u.l),.int .i64 1]]] [⟨.m,0,1,[.aa false (ae s)]⟩]=some (.aj 1 0 0 1,B):=by rw[hB];rfl
 refine aO.x T6 Tryz.func327 rfl ?_;refine wXA ?_;refine ai.cu rfl KE ?_;refine wXA ?_;refine .ex IY (λh' hE=>?_);have h1:=hE.at Vd;refine wXA ?_;exact gQ (tl:=[]) (es:=[.agg [.int .i64 u.k,.str u.s,.int .i64 u.o,.aa false (ae u.l),.int .i64 1]]) h1 rfl (by rw[<-Ca];simp) (by rw[<-Ca];simp)
theorem wv(s:List Tm)(hs:jQ s)(hf:∀t∈s,ko t=true)(u:Tm)(hu:ax u<10000000)(hn:cI s u=false)(EA:ko u=true)(hv:valid u=0):aO C 280 [.aa false (ae s),.aa false (bh [(u,1)])] (.bool false):=by
 have cT:=an s;have TJ:=hs.len;have h1:=Ap s hs u hu hn;obtain⟨x,h2⟩:=Cb u hu (tH EA) hv;rw[Ca]at h1 h2 ⊢;refine aO.x T6 Tryz.func280 rfl ?_;refine wXA ?_;refine .p h1 ?_;refine wXC (λhc=>?_) λhc=>?_
 ·exfalso;simp at hc
 refine eJ.zip T6 s (λp q L H=>L=[(0,.aa false (ae s)),(1,.aa false [.agg [.int .i64 u.k,.str u.s,.int .i64 u.o,.aa false (ae u.l),.int .i64 1]]),(5,.aa true []),(18,.aa false (ae s)),(19,.int .i64 (ae s).length),(20,.int .i64 p.length)]/\HV H) (.nx ⟨rfl,HV.nil⟩) ?_ ?_
 ·rintro p t q _ H ρ e ⟨rfl,hH⟩;have cV:=bS e;have cH:=congrArg List.length e;simp only[Zx,ZA]at cH;have h3:=yY t;obtain⟨g1,g2,_⟩:=lP (hf t (by rw[e];simp));rw[show B8 t=false by simp[B8,g1,g2],aw]at h3;refine wXA ?_;refine .p h3 ?_;refine wXA ?_;exact .nx ⟨rfl,hH.ct (HV.one (by simp))⟩
 ·rintro _ H ρ ⟨rfl,hH⟩;refine wXA ?_;refine .p h2 ?_;refine wXA ?_;exact⟨_,rfl,rfl⟩
theorem uj(s:List Tm)(hs:jQ s)(hf:∀t∈s,ko t=true)(u:Tm)(hu:ax u<10000000)(hn:cI s u=false)(EA:ko u=true)(hv:valid u=0):aO C 214 [.aa false (ae s),enc u] (.bool false):=by
 have h1:=(Ss u (by omega)).nine;rw[KX (tH EA) hv]at h1;have h2:=wv s hs hf u hu hn EA hv;rw[Ca]at h1 h2;rw[aw]at h1 ⊢;refine aO.x T6 Tryz.func214 rfl ?_;refine wXA ?_;refine .p h1 ?_;refine wXA ?_;refine .p h2 ?_;refine wXA ?_;exact⟨_,rfl,rfl⟩
theorem Cc(u:Tm)(EA:ko u=true):aO C 277 [enc u] (.cm [enc u,.aa false []]):=by
 have h1:=mH u ⟨#[101,120,112]⟩;rw[show eU u ⟨#[101,120,112]⟩=false from(lP EA).2.2.1]at h1;rw[aw]at h1 ⊢;refine aO.x T6 Tryz.func277 rfl ?_;refine wXA ?_;refine .p h1 ?_;refine wXA ?_;exact⟨_,rfl,by simp⟩
theorem EB(u t:Tm)(hu:ax u<10000000)(ht:ax t<10000000)(hft:ko t=true)(bI:aT u t≠0)(i1 i2 i3:Nat)(H:ab)(hH:HV H)(h1:H[i1]?=some ⟨.m,0,4,[.agg [.int .i64 u.k,.str u.s,.int .i64 u.o,.aa false (ae u.l)]]⟩):
  ay C 278 [enc t,.ptr i1 0 0 0,.ptr i2 0 0 0,.ptr i3 0 0 0] H (λr h'=>r=.bool false/\fM H h'):=by
 have g1:=Cc t hft;have g2:=mE u t (by omega) (by omega);have Su:=ag h1;rw[decide_eq_false bI]at g2;rw[aw]at g1 g2 ⊢;rw[aw t]at g2
 have f1:(H++[(⟨.m,0,4,[.agg [.int .i64 t.k,.str t.s,.int .i64 t.o,.aa false (ae t.l)]]⟩:au)]++[⟨.m,0,4,[.agg [.int .i64 t.k,.str t.s,.int .i64 t.o,.aa false (ae t.l)]]⟩])[i1]?=some ⟨.m,0,4,[.agg [.int .i64 u.k,.str u.s,.int .i64 u.o,.aa false (ae u.l)]]⟩:=by
  rw[Zv (by simp;omega),Zv Su];exact h1
 refine ay.x T6 Tryz.func278 rfl ?_;refine wXA ?_;refine .p g1 ?_;refine wXA ?_;refine .p g2 ?_;refine wXA ?_;exact⟨rfl,((fM.refl _).ct (HV.one (by simp))).ct (HV.one (by simp))⟩
theorem Cd(s:List Tm)(hs:jQ s)(hf:∀t∈s,ko t=true)(u:Tm)(hu:ax u<10000000)(hn:cI s u=false)(EA:ko u=true):aO C 213 [.aa false (ae s),enc u] (.bool false):=by
 have h1:=Cc u EA;have hlen:=hs.len;obtain⟨B,hB⟩:∃B:ab,B=[⟨.m,0,1,[.aa false (ae s)]⟩,⟨.m,0,4,[.agg [.int .i64 u.k,.str u.s,.int .i64 u.o,.aa false (ae u.l)]]⟩,⟨.m,0,4,[.agg [.int .i64 u.k,.str u.s,.int .i64 u.o,.aa false (ae u.l)]]⟩,⟨.m,0,1,[.aa false []]⟩]:=⟨_,rfl⟩;have hB2:B[2]?=some ⟨.m,0,4,[.agg [.int .i64 u.k,.str u.s,.int .i64 u.o,.aa false (ae u.l)]]⟩:=by rw[hB];rfl
 have hBv:HV B:=by
  rw[hB];intro o ho;simp only[ZF,aaD,or_false]at ho;rcases ho with rfl |rfl |rfl |rfl <;>simp[ar,aW]
 have hc:=F4 s 278 [.ptr 2 0 0 0,.ptr 3 0 0 0,.ptr 0 0 0 0] (λ_=>false) B (by omega) (λx hx=>gG.opened λH' hE=>EB u x hu (hs.bk x hx) (hf x hx) (λh0=>by
  have:=dI.2 ((dn h0)▸hx);rw[hn]at this;cases this) 2 3 0 H' (hE.hv hBv) (hE.at hB2))
 have ha:(s.any λ_=>false)=false:=by simp
 rw[ha]at hc;rw[aw]at h1 ⊢;refine aO.x T6 Tryz.func213 rfl ?_;refine wXA ?_;refine .p h1 ?_;refine wXA ?_;rw[<-hB];refine .ex hc (λh' hE=>?_);refine wXA ?_;exact⟨_,rfl,rfl⟩
end bO
end Go.Pm
