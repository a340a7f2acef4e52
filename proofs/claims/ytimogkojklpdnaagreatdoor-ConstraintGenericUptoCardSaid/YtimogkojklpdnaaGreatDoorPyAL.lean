/-
  Pm, a part. Conditions: none.
-/
import Derived.Test.YtimogkojklpdnaaGreatDoorPyAK
set_option linter.unusedVariables false
set_option linter.unusedSimpArgs false
set_option linter.unnecessarySimpa false
set_option linter.unusedSectionVars false
namespace Go.Pm
set_option maxRecDepth 4000
def lK(l:List ByteArray):List PV:=l.map PV.str
@[simp] theorem J7(l:List ByteArray):(lK l).length=l.length:=by simp[lK]
@[simp] theorem QX(l:List ByteArray):ao (lK l)=true:=by rw[bj];simp[lK,aV]
@[simp] theorem VA(l:List ByteArray):aU (lK l)=lK l:=by rw[cJ];simp[lK,bW]
theorem NW{l p q:List ByteArray}{d:ByteArray}(e:l=p++d::q):(lK l)[p.length]?=some (.str d):=by rw[lK,e];simp
def DP(t:Tm):Bool:=fv t xT ||fv t xU
theorem mw{t:Tm}(h:kV t=true):fv t xT=false/\fv t xU=false/\fv t Gt=false/\fv t uo=false/\fv t iT=false/\fv t rE=false:=by
 have key:∀n:ByteArray,ue n=false->fv t n=false:=λn hn=>by
  cases hh:fv t n
  rfl
  ·obtain⟨h1,h2⟩:=NX hh;have:=QY h h1;rw[h2,hn]at this
   cases this
 refine⟨key _ ?_,key _ ?_,key _ ?_,key _ ?_,key _ ?_,key _ ?_⟩ <;>kernel_rfl
namespace bh
open Go.Proofs
attribute [local irreducible] aD ay aJ aG Ev ah ai ax aZ bE
theorem Gw(ns:List ByteArray)(s:ByteArray)(hl:ns.length<1000000):aL C 148 [.aa false (lK ns),.str s] (.int .i64 (qM (λn=>fu s n) ns)):=by
 have cz:=J7 ns;refine aL.x T6 Tryz.func148 rfl ?_;refine wA ?_;refine dw.zip T6 ns (λp q L H=>L=[(0,.aa false (lK ns)),(1,.str s),(7,.int .i64 (lK ns).length),(8,.int .i64 p.length)]/\H=[]/\∀y∈p,fu s y=false) (.nx ⟨rfl,rfl,by simp⟩) ?_ ?_
 ·rintro p n q _ _ Y e ⟨rfl,rfl,hp⟩;have cC:=NW e;have dO:=lenE e;refine wC (λhc=>?_) λhc=>?_;exact⟨_,rfl,by rw[e,j4 hp (kz (by assumption))];rfl⟩;exact .nx ⟨rfl,rfl,λy hy=>by rcases aa9.1 hy with h |h;exact hp y h;simp at h;rw[h];exact iU (by assumption)⟩
 ·rintro _ _ Y ⟨rfl,rfl,hp⟩;refine wA ?_;exact⟨_,rfl,by rw[gi hp];rfl⟩
theorem J8(ns:List ByteArray)(s:ByteArray)(hl:ns.length<1000000):aL C 147 [.aa false (lK ns),.str s] (.bool (ns.any λn=>fu s n)):=by
 have h1:=Gw ns s hl;have ha:=sN (λn=>fu s n) ns;refine aL.x T6 Tryz.func147 rfl ?_;refine wA ?_;refine .p h1 ?_;refine wC (λhc=>?_) λhc=>?_
 all_goals exact⟨_,rfl,by rw[<-ha];simp[aT, *]⟩
theorem sU(t:Tm)(ns:List ByteArray)(hl:ns.length<1000000):aL C 206 [enc t,.aa false (lK ns)] (.bool (decide (t.k=3)&&ns.any λn=>fu t.s n)):=by
 have h1:=J8 ns t.s hl;rw[aw];refine aL.x T6 Tryz.func206 rfl ?_;refine wC (λhc=>?_) λhc=>?_
 ·refine .p h1 ?_;refine wA ?_;exact⟨_,rfl,by simp[aT, *]⟩
 exact⟨_,rfl,by simp[aT, *]⟩
theorem nw(t:Tm)(n:ByteArray):aL C 206 [enc t,.aa false [.str n]] (.bool (fv t n)):=by
 have:=sU t [n] (by simp);simpa[lK,fv]using this
theorem AG(t:Tm):aL C 205 [enc t] (.bool (DP t)):=by
 have h1:aL C 206 [enc t,.aa false [.str ⟨#[109,117,108]⟩,.str ⟨#[105,110,118]⟩]] (.bool (DP t)):=by
  have:=sU t [xT,xU] (by simp);have e:DP t=(decide (t.k=3)&& [xT,xU].any λn=>fu t.s n):=by cases h:decide (t.k=3) <;>simp[DP,fv,h]
  rw[e];exact this
 rw[aw]at h1 ⊢;refine aL.x T6 Tryz.func205 rfl ?_;refine wA ?_;refine .p h1 ?_;refine wA ?_;exact⟨_,rfl,rfl⟩
theorem Gx(t:Tm)(hf:kV t=true)(hb:az t<10000000):aL C 204 [enc t] (.int .i64 (sG t)):=by
 have h1:=sV t (by omega);have h2:=lL t hb;have h3:=AF t hf (by omega);have cz:=ak (bz t);have hr:sG t=if jc t≠0 then jc t else if bz t≠[]then 13 else 0:=rfl;rw[aw]at h1 h2 h3 ⊢;refine aL.x T6 Tryz.func204 rfl ?_;refine wA ?_;refine .p h1 ?_;refine wC (λhc=>?_) λhc=>?_
 ·have hz:jc t=0:=by omega
  rw[hz]at h3;rw[if_neg (by omega)]at hr;refine .p h2 ?_;refine wC (λhc=>?_) λhc=>?_
  ·have hn:bz t≠[]:=by
    intro hh
    have h0:(ae (bz t)).length=0:=by rw[cz,hh];rfl
    omega
   rw[if_pos hn]at hr;exact⟨_,rfl,by rw[hr];rfl⟩
  ·have hn:bz t=[]:=abj (by omega);rw[if_neg (by simp[hn])]at hr;refine .p h3 ?_;refine wA ?_;exact⟨_,rfl,by rw[hr];rfl⟩
 exact⟨_,rfl,by rw[hr,if_pos (by assumption)];rfl⟩
theorem NY{l p q:List Tm}{u:Tm}(e:l=p++u::q)(hp:∀v∈p,sG v=0)(hu:sG u≠0):jD l=sG u:=by
 subst e
 induction p with
 |nil=>simp only[abK,jD];rw[if_pos hu]
 |cons v p ih=>
  simp only[abz,jD];rw[if_neg (by rw[hp v (by simp)];simp),ih (λw hw=>hp w (by simp[hw]))]
theorem xW:∀{l:List Tm},(∀v∈l,sG v=0)->jD l=0
 |[],_=>rfl
 |v::l,h=>by
  rw[jD,if_neg (by rw[h v (by simp)];simp)];exact xW λu hu=>h u (by simp[hu])
theorem DQ(l:List Tm)(hf:∀t∈l,kV t=true)(hl:l.length<10000000)(hb:∀t∈l,az t<10000000):aL C 159 [.aa false (ae l)] (.int .i64 (jD l)):=by
 have cz:=ak l;refine aL.x T6 Tryz.func159 rfl ?_;refine wA ?_;refine dw.zip T6 l (λp q L H=>L=[(6,.aa false (ae l)),(7,.int .i64 (ae l).length),(8,.int .i64 p.length)]/\HV H/\∀v∈p,sG v=0) (.nx ⟨rfl,HV.nil,by simp⟩) ?_ ?_
 ·rintro p u q _ H Y e ⟨rfl,hH,hp⟩;have cC:=bD e;have dO:=lenE e;have h1:=Gx u (hf u (by rw[e];simp)) (hb u (by rw[e];simp));rw[aw]at h1;refine wA ?_;refine .p h1 ?_;refine wC (λhc=>?_) λhc=>?_;exact .nx ⟨rfl,hH.c8 (HV.one (by simp)),λv hv=>by rcases aa9.1 hv with h |h;exact hp v h;simp at h;rw[h];omega⟩;exact⟨_,rfl,by rw[NY e hp (by assumption)];rfl⟩
 ·rintro _ H Y ⟨rfl,hH,hp⟩;refine wA ?_;exact⟨_,rfl,by rw[xW hp];rfl⟩
theorem J9(u:List Tm)(hf:∀t∈u,kV t=true)(hl:u.length<10000000):aL C 160 [.aa false (ae u)] (.int .i64 (if 200<u.length then 3 else 0)):=by
 have cz:=ak u;refine aL.x T6 Tryz.func160 rfl ?_;refine wA ?_;refine dw.zip T6 u (λp q L H=>L=[(0,.aa false (ae u)),(3,.int .i64 0),(4,.aa true []),(11,.aa false (ae u)),(12,.int .i64 (ae u).length),(13,.int .i64 p.length)]/\HV H) (.nx ⟨rfl,HV.nil⟩) ?_ ?_
 ·rintro p t q _ H Y e ⟨rfl,hH⟩;have cC:=bD e;have dO:=lenE e;obtain⟨f1,f2,f3,_⟩:=mw (hf t (by rw[e];simp));have h1:=AG t;have h2:=nw t ⟨#[101,120,112]⟩;have e2:fv t ⟨#[101,120,112]⟩=false:=f3;have e1:DP t=false:=by simp[DP,f1,f2]
  rw[e1]at h1;rw[e2]at h2;rw[aw]at h1 h2;refine wA ?_;refine .p h1 ?_;refine wA ?_;refine .p h2 ?_;refine wA ?_;exact .nx ⟨rfl,hH.c8 (HV.one (by simp))⟩
 ·rintro _ H Y ⟨rfl,hH⟩;refine wC (λhc=>?_) λhc=>?_;exact⟨_,rfl,by rw[if_pos (by omega)];rfl⟩;exact⟨_,rfl,by rw[if_neg (by omega)];rfl⟩
end bh
open Go.Proofs
theorem Th{n:Int}(h1:0<=n)(h2:n<256):IntKind.u8.wrap n=n:=by
 have:IntKind.u8.wrap n=n % 256:=by simp[IntKind.wrap,IntKind.bits,IntKind.signed]
 rw[this];omega
attribute [local irreducible] aD ay aJ aG Ev ah ai ax aZ
theorem UE(a b:Nat):Int.tdiv (a:Int) (b:Int)=((a / b:Nat):Int):=by rw[Int.tdiv_eq_ediv_of_nonneg (by omega)];exact(Int.natCast_ediv a b).symm
theorem Jy(a b:Nat):Int.tmod (a:Int) (b:Int)=((a % b:Nat):Int):=by rw[Int.tmod_eq_emod_of_nonneg (by omega)];exact(Int.natCast_emod a b).symm
end Go.Pm
namespace Go.Pm
open Go.Proofs
set_option maxRecDepth 4000
def ZS(S:List Row)(P:List Int):Prop:=∀(c:Nat) (i:Int),P[c]?=some i->-1<=i/\(0<=i->∃b u,S[i.toNat]?=some (b,u)/\atR b c≠0)
end Go.Pm
namespace Go.Pm
theorem Qt{a b:List Int}{q:Int}{c:Nat}(h:a.length=b.length):atR (Jz a b q) c=atR a c - q * atR b c:=by
 unfold atR Jz;simp only[List.getD,acv]
 by_cases hc:c<a.length
 rw[aa6 hc,aa6 (by omega)];simp;rw[abl (by omega),abl (by omega)];simp
structure vG(w c:Nat)(S:List Row)(P:List Int):Prop where
 len:∀R∈S,R.1.length=w
 pl:P.length=c
 pv:∀(k:Nat) (i:Int),P[k]?=some i->-1<=i/\(0<=i->∃b,S[i.toNat]?=some (b,true)/\atR b k≠0/\∀j,j<k->atR b j=0)
 un:∀b,(b,false)∈S->∀k,k<c->atR b k=0
 us:∀(j:Nat) (b:List Int),S[j]?=some (b,true)->∃k:Nat,P[k]?=some (j:Int)
theorem vG.ok{w c:Nat}{S:List Row}{P:List Int}(h:vG w c S P):ZS S P:=λk i hi=>by
 obtain⟨h1,h2⟩:=h.pv k i hi;exact⟨h1,λh0=>by obtain⟨b,e1,e2,_⟩:=h2 h0;exact⟨b,true,e1,e2⟩⟩
theorem Ak{c bi:Nat}{b:List Int}{S:List Row}{R:Row}(h:R∈uQ c b bi S):R∈S\/∃a,(a,false)∈S/\R=(Jz a b ((atR a c).tdiv (atR b c)),false):=by
 obtain⟨i,hi⟩:=ab6 h;rw[Am]at hi
 cases hS:S[i]? with
 |none=>rw[hS]at hi;cases hi
 |some Q=>
  rw[hS]at hi;have hQ:=abh hS;simp only[abf,abw]at hi
  split at hi
  exact .inl (hi▸hQ)
  ·unfold MK at hi
   split at hi
   ·rename_i hc
    obtain⟨a,u⟩:=Q;have hu:u=false:=by simp[kN]at hc;exact hc.1
    subst hu;exact .inr ⟨a,hQ,hi.symm⟩
   exact .inl (hi▸hQ)
theorem xo{c bi j:Nat}{b a:List Int}{S:List Row}:(uQ c b bi S)[j]?=some (a,true)↔S[j]?=some (a,true):=by
 rw[Am]
 cases hS:S[j]? with
 |none=>simp
 |some Q=>
  obtain⟨x,u⟩:=Q;simp only[abf,abw]
  split
  exact Iff.rfl
  ·cases u
   ·unfold MK;split <;>simp
   ·simp[MK,kN]
theorem vG.step{w c:Nat}{S:List Row}{P:List Int}{bi:Nat}{b:List Int}(h:vG w c S P)(hb:zw c S bi b):vG w c (uQ c b bi S) P:=by
 have Tb:=abh hb.at_;have CA:=h.len _ Tb;refine⟨λR hR=>?_,h.pl,λk i hi=>?_,λa ha k hk=>?_,λj a ha=>h.us j a (xo.1 ha)⟩
 ·rcases Ak hR with hR |⟨a,ha,rfl⟩
  ·exact h.len R hR
  ·have:=h.len _ ha;dsimp only at *;rw[MJ (by omega)];exact this
 ·obtain⟨h1,h2⟩:=h.pv k i hi;exact⟨h1,λh0=>by obtain⟨x,e1,e2⟩:=h2 h0;exact⟨x,xo.2 e1,e2⟩⟩
 ·rcases Ak ha with hR |⟨x,hx,he⟩
  ·exact h.un a hR k hk
  ·have e:=congrArg Prod.fst he;dsimp only at e;have h1:=h.len _ hx;dsimp only at h1 CA;rw[e,Qt (by omega),h.un x hx k hk,h.un b Tb k hk];simp
theorem vG.col{w c st:Nat}{S:List Row}{P:List Int}{r:Option (List Row×Int)}(hc:Ti c st S r):vG w c S P->∀S' i,r=some (S',i)->vG w (c+1) S' (P++[i]):=by
 induction hc with
 | @zero S hz=>
  rintro h _ _ ⟨⟩;have h0:=Dp hz;refine⟨h.len,by simp[h.pl],λk i hi=>?_,λa ha k hk=>?_,λj a ha=>?_⟩
  ·rcases acE k P.length with h1 |h1 |h1
   ·rw[aa3 h1]at hi;exact h.pv k i hi
   ·subst h1;simp at hi;subst hi;exact⟨by omega,λhh=>by omega⟩
   ·rw[abl (by simp;omega)]at hi;cases hi
  ·by_cases hkc:k=c
   ·subst hkc;have:=h0 _ ha;simpa[kN]using this
   ·exact h.un a ha k (by omega)
  ·obtain⟨k,hk⟩:=h.us j a ha;exact⟨k,by rw[aa3 (ag hk)];exact hk⟩
 | @one S bi b hb h1=>
  rintro h _ _ ⟨⟩;have Tb:=abh hb.at_;have cL:=ag hb.at_
  have only:∀(j:Nat) (a:List Int),S[j]?=some (a,false)->atR a c≠0->j=bi:=λj a ha hn=>by
   have hca:kN c (a,false)=true:=by simp[kN,hn]
   have h2:(Pv c S).length=1:=by rw[Qu,h1]
   obtain⟨x,hx⟩:=List.length_eq_one_iff.1 h2;have m1:j∈Pv c S:=HU.2 ⟨_,ha,hca⟩;have m2:bi∈Pv c S:=HU.2 ⟨_,hb.at_,hb.isc⟩;rw[hx,abC]at m1 m2;rw[m1,m2]
  have get:∀j R,(S.set bi (b,true))[j]?=some R->(j=bi/\R=(b,true))\/(j≠bi/\S[j]?=some R):=λj R hR=>by
   rw[List.getElem?_set]at hR
   split at hR
   ·rename_i hj;subst hj;(try rw[if_pos cL]at hR);exact .inl ⟨rfl,by simpa using hR.symm⟩
   ·rename_i hj;exact .inr ⟨λhh=>hj hh.symm,hR⟩
  have setb:(S.set bi (b,true))[bi]?=some (b,true):=by rw[aa7 cL]
  refine⟨λR hR=>?_,by simp[h.pl],λk i hi=>?_,λa ha k hk=>?_,λj a ha=>?_⟩
  ·rcases acx hR with hR |rfl
   ·exact h.len R hR
   ·have:=h.len _ Tb;exact this
  ·rcases acE k P.length with h1 |h1 |h1
   ·rw[aa3 h1]at hi;obtain⟨g1,g2⟩:=h.pv k i hi;refine⟨g1,λh0=>?_⟩;obtain⟨x,e1,e2⟩:=g2 h0;refine⟨x,?_,e2⟩;rw[List.getElem?_set]
    split
    ·rename_i hj;rw[<-hj,hb.at_]at e1;cases e1
    exact e1
   ·have hk:k=c:=by rw[h1,h.pl]
    subst h1;simp only[abd (aa5 _),acz,ab0,abw]at hi;subst hi;refine⟨by omega,λ_=>⟨b,by simpa using setb,by rw[hk];exact hb.nz,λj hj=>h.un b Tb j (by omega)⟩⟩
   ·rw[abl (by simp;omega)]at hi;cases hi
  ·obtain⟨j,hj⟩:=ab6 ha;rcases get j _ hj with⟨_,he⟩|⟨bN,hS⟩
   cases he
   ·by_cases hkc:k=c
    ·subst hkc;exact ac8 λhn=>bN (only j a hS hn)
    ·exact h.un a (abh hS) k (by omega)
  ·rcases get j _ ha with⟨rfl,_⟩|⟨bN,hS⟩
   ·exact⟨P.length,by simp⟩
   ·obtain⟨k,hk⟩:=h.us j a hS;exact⟨k,by rw[aa3 (ag hk)];exact hk⟩
 |ML=>rintro _ _ _ ⟨⟩
 |step hb h2 h3 h4 ih=>exact λh S' i e=>ih (h.step hb) S' i e
theorem vG.el{w n c:Nat}{S:List Row}{P:List Int}{r:Option (List Row×List Int)}(hE:El n c S P r):vG w c S P->∀S' P',r=some (S',P')->vG w n S' P':=by
 induction hE with
 |done=>rintro h _ _ ⟨⟩;exact h
 |ML=>rintro _ _ _ ⟨⟩
 |next h1 h2 h3 ih=>exact λh S' P' e=>ih (vG.col h2 h _ _ rfl) S' P' e
def ps:List Nat:=[2,3,5,7,11,13,17,19,23,29,31,37,41,43,47,53,59,61,67,71,73,79,83,89,97,101,103,107,109,113,127,131,137,139,149,151,157,163,167,173,179,181,191,193,197,199,211,223,227,229,233,239,241,251,257,263,269,271,277,281,283,293,307,311,313,317,331,337,347,349,353,359,367,373,379,383,389]
open Go.Proofs
set_option maxRecDepth 4000
theorem ai.same{C:cG}{f:FuncId}{args:List PV}{H:ab}{P:PV->Prop}{Q:PV->ab->Prop}(a:ax C f args H (λr h'=>P r/\h'=H))(q:∀r,P r->Q r H)(hm:C.mode f=.opened:=by rfl):ai C 2 f args H Q:=by
 refine ai.opened hm (a.mono λr k hr=>?_);obtain⟨hp,rfl⟩:=hr
 split
 rw[ab2];exact q r hp;exact q r hp
end Go.Pm
namespace Go.Pm
set_option maxRecDepth 4000
theorem DL(u:ByteArray)(a b:Nat):(u.extract a b).toList=(u.toList.take b).drop a:=by
 rw[ByteArray.toList_eq,ByteArray.toList_eq,ByteArray.data_extract,Array.toList_extract];simp[List.extract_eq_take_drop,adG]
def NL:ByteArray:=⟨#[48,49,50,51,52,53,54,55,56,57]⟩
def jt:List PV:=(List.range 256).map λi=>.bool (decide (48<=i)&&decide (i<=57))
theorem JZ{n:Nat}(h:n<256):jt[n]?=some (.bool (decide (48<=n)&&decide (n<=57))):=by
 unfold jt;rw[abm,adD h]
 rfl
theorem ax.iE{C:cG}{f:FuncId}{args:List PV}{h h':ab}{r:PV}{n:Nat}{Q:PV->ab->Prop}(e:fa C n f args h=some (r,h'))(q:Q r h'):ax C f args h Q:=⟨r,h',q,n,λm hm=>AE C hm f args h _ e⟩
theorem DM:∀{n:Nat} {l:List PV} {k:List PV->Prop},n<=l.length->k (l.drop n)->oJ n l k
 |0,l,k,_,h=>h
 |n+1,_::l,k,h1,h=>DM (n:=n) (by simpa using h1) h
 |_+1,[],_,h1,_=>by simp at h1
theorem NM{u:ByteArray}(h:0<u.size):∃c,u[u.size - 1]?=some c/\u.toList=(u.extract 0 (u.size - 1)).toList++[c]:=by
 have hl:=bsize u;have h1:u.toList≠[]:=by intro hh;rw[hh]at hl;simp at hl;omega
 refine⟨u.toList.getLast h1,Jj ?_,?_⟩;rw[<-hl,List.getLast_eq_getElem,aa6];rw[DL,acb,<-hl,<-List.dropLast_eq_take,List.dropLast_concat_getLast]
theorem NN{u:ByteArray}(h:0<u.size):∃c,u[0]?=some c/\u.toList=c::(u.extract 1 u.size).toList:=by
 have hl:=bsize u
 cases e:u.toList with
 |nil=>rw[e]at hl;simp at hl;omega
 |cons c r=>
  refine⟨c,Jj (by rw[e];rfl),?_⟩;rw[DL,<-hl,ab2,e]
  rfl
def l6(c:UInt8):Bool:=pS c.toNat
namespace bh
open Go.Proofs
attribute [local irreducible] aD ay aJ aG Ev ah ai ax aZ bE
theorem J0:(fa C 400 359 [.str NL] []).map (·.1)=some (.cy [.agg jt,.bool true]):=by kernel_rfl
theorem NO:ax C 359 [.str NL] [] (λr h'=>r=.cy [.agg jt,.bool true]):=by
 have h:=J0
 cases e:fa C 400 359 [.str NL] []with
 |none=>rw[e]at h;cases h
 |some x=>
  obtain⟨r,h'⟩:=x;rw[e]at h;exact ax.iE e (aa2 h)
section
attribute [local irreducible] oJ
theorem uY(c:UInt8):ax C 382 [.ptr 0 0 0 0,.int .u8 c.toNat] [(⟨.m,0,256,[.agg jt]⟩:au)] (λr h'=>r=.bool (l6 c)/\h'=[(⟨.m,0,256,[.agg jt]⟩:au)]):=by
 have hc:c.toNat<256:=c.toNat_lt
 have hb:l6 c=(decide (48<=c.toNat)&&decide (c.toNat<=57)):=by
  unfold l6 pS
  by_cases h1:48<=c.toNat <;>by_cases h2:c.toNat<=57 <;>simp[h1,h2] <;>omega
 have cC:=JZ hc;rw[<-hb]at cC;generalize hA:jt=A at cC ⊢
 have E1:A.drop (0+c.toNat * 1)=.bool (l6 c)::A.drop (c.toNat+1):=by
  have cL:=ag cC;rw[abp,Nat.mul_one,acO cL];rw[aa6 cL]at cC;rw[aa2 cC]
 refine ax.x T6 Tryz.func382 rfl ?_;refine wA ?_;refine DM (by show _<=A.length;have:=ag cC;omega) ?_;show xR T6 _ (A.drop (0+c.toNat * 1)) _;rw[E1];refine Rn.out ?_;refine wA ?_;exact⟨rfl,rfl⟩
end
theorem DN(u:ByteArray)(a b:Nat):(u.extract a b).size=min b u.size - a:=by
 rw[<-bsize,DL,ac3,ab7,bsize]
theorem NP(s:ByteArray)(hs:s.size<1000000000):ax C 361 [.str s,.ptr 0 0 0 0] [(⟨.m,0,256,[.agg jt]⟩:au)] (λr h'=>h'=[(⟨.m,0,256,[.agg jt]⟩:au)]/\∃u d,r=.str u/\s.toList=u.toList++d/\d.all l6=true/\u.size<=s.size/\(∀c,u.toList.getLast?=some c->l6 c=false)):=by
 refine ax.x T6 Tryz.func361 rfl ?_;refine wA ?_;refine dw.nat T6 (λk L H=>∃u d,L=[(0,.str u),(1,.ptr 0 0 0 0)]/\H=[(⟨.m,0,256,[.agg jt]⟩:au)]/\k=u.size/\s.toList=u.toList++d/\d.all l6=true/\u.size<=s.size) s.size (.nx ⟨s,[],rfl,rfl,rfl,by simp,rfl,aa5 _⟩) ?_;rintro k _ _ Y ⟨u,d,rfl,rfl,rfl,e1,e2,e3⟩
 by_cases hu:0<u.size
 ·obtain⟨c,h1,h2⟩:=NM hu;have hx:=DN u 0 (u.size - 1);have hc:=uY c;refine wA ?_;refine .mk (n:=u.size - 1) ?_ (by omega) h1;refine wA ?_;refine .same (hc.mono λr h' h=>⟨h.1,h.2⟩) (λr hr=>?_);subst hr
  cases hd:l6 c
  ·refine wA ?_;refine⟨rfl,u,d,rfl,e1,e2,e3,λc' tF=>?_⟩;rw[h2,List.getLast?_append]at tF;simp at tF;rw[<-tF];exact hd
  ·refine wA ?_;rw[show((u.size:Int) - 1).toNat=u.size - 1 by omega];refine .nx ⟨_,?_,u.extract 0 (u.size - 1),c::d,rfl,rfl,rfl,by rw[e1,h2];simp,by simp[hd,e2],by omega⟩;omega
 ·refine wA ?_;refine⟨rfl,u,d,rfl,e1,e2,e3,λc hc=>?_⟩;have:=bsize u;have h0:u.toList=[]:=abj (by omega);rw[h0]at hc;simp at hc
theorem NQ(s:ByteArray)(hs:s.size<1000000000):ax C 360 [.str s,.ptr 0 0 0 0] [(⟨.m,0,256,[.agg jt]⟩:au)] (λr h'=>h'=[(⟨.m,0,256,[.agg jt]⟩:au)]/\∃u d,r=.str u/\s.toList=d++u.toList/\d.all l6=true/\(∀c,u.toList.head?=some c->l6 c=false)):=by
 refine ax.x T6 Tryz.func360 rfl ?_;refine wA ?_;refine dw.nat T6 (λk L H=>∃u d,L=[(0,.str u),(1,.ptr 0 0 0 0)]/\H=[(⟨.m,0,256,[.agg jt]⟩:au)]/\k=u.size/\s.toList=d++u.toList/\d.all l6=true/\u.size<=s.size) s.size (.nx ⟨s,[],rfl,rfl,rfl,by simp,rfl,aa5 _⟩) ?_;rintro k _ _ Y ⟨u,d,rfl,rfl,rfl,e1,e2,e3⟩
 by_cases hu:0<u.size
 ·obtain⟨c,h1,h2⟩:=NN hu;have hx:=DN u 1 u.size;have hc:=uY c;refine wA ?_;refine .same (hc.mono λr h' h=>⟨h.1,h.2⟩) (λr hr=>?_);subst hr
  cases hd:l6 c
  ·refine wA ?_;refine⟨rfl,u,d,rfl,e1,e2,λc' tF=>?_⟩;rw[h2]at tF;simp at tF;rw[<-tF];exact hd
  ·refine wA ?_;refine .nx ⟨_,?_,u.extract 1 u.size,d++[c],rfl,rfl,rfl,by rw[e1,h2];simp,by simp[hd,e2],by omega⟩;omega
 ·refine wA ?_;refine⟨rfl,u,d,rfl,e1,e2,λc hc=>?_⟩;have:=bsize u;have h0:u.toList=[]:=abj (by omega);rw[h0]at hc;simp at hc
theorem NR{s u u':List UInt8}{d d':List UInt8}(e1:s=u++d)(h1:d.all l6=true)(l1:∀c,u.getLast?=some c->l6 c=false)(e2:u=d'++u')(h2:d'.all l6=true)(l2:∀c,u'.head?=some c->l6 c=false):u'=[]↔s.all l6=true:=by
 constructor
 ·rintro rfl;rw[e1,e2];simp[h1,h2]
 ·intro h
  rw[e1,ab5,abb]at h
  have hu:u=[]:=by
   cases hl:u.getLast? with
   |none=>exact List.getLast?_eq_none_iff.1 hl
   |some c=>
    have h3:=l1 c hl;have h4:=aa4.1 h.1 c (List.mem_of_getLast? hl);rw[h3]at h4;cases h4
  rw[hu]at e2;exact(List.append_eq_nil_iff.1 e2.symm).2
theorem YI:je C.P 290=some (.agg (List.replicate 256 (.bool false))):=by kernel_rfl
theorem NS(s:ByteArray)(hs:s.size<1000000000):∃r:ByteArray,(r.toList=[]↔s.toList.all l6=true)/\aL C 319 [.str s,.str NL] (.str r):=by
 have key:∃x,(∃r:ByteArray,x=.str r/\(r.toList=[]↔s.toList.all l6=true))/\aL C 319 [.str s,.str NL] x:=by
  refine aL.ex (F:=id) ?_;refine ax.x T6 Tryz.func319 rfl ?_;refine wI (λhc=>?_) (λhc hc=>?_) λhc hc=>?_
  ·refine⟨.str s,⟨s,rfl,?_⟩,_,rfl,rfl⟩;have h0:s.toList=[]:=by rw[hc,ByteArray.toList_eq]
   rw[h0];simp
  exact absurd hc (by rw[ByteArray.toList_eq,ByteArray.toList_eq];decide)
  ·refine .opened rfl (NO.mono λr h' hr=>?_);subst hr;rw[if_pos (by simp[eL,cS,eK,jt,aV])];rw[show List.take ([]:ab).length h'=[]from rfl];refine wA ?_;refine .mk (v:=.ptr 0 0 0 0) (h':=[⟨.m,0,256,[.agg (List.replicate 256 (.bool false))]⟩]) (λrun Y=>?_) ?_
   ·simp only[ar,aC,YI];rw[if_pos ⟨by decide,by decide,by decide⟩]
    rfl
   refine wA ?_;refine .same ((NP s hs).mono λr h' h=>⟨h.2,h.1⟩) (λr hr=>?_);obtain⟨u,d,rfl,e1,e2,e3,l1⟩:=hr;refine wA ?_;refine .same ((NQ u (by omega)).mono λr h' h=>⟨h.2,h.1⟩) (λr hr=>?_);obtain⟨u',d',rfl,f1,f2,l2⟩:=hr;refine wA ?_;exact⟨.str u',⟨u',rfl,NR e1 e2 l1 f1 f2 l2⟩,_,rfl,rfl⟩
 obtain⟨x,⟨r,rfl,h1⟩,h2⟩:=key;exact⟨r,h1,h2⟩
theorem Gp(s:ByteArray)(hs:s.size<1000000000):aL C 269 [.str s] (.bool (NT s.toList)):=by
 obtain⟨r,h1,h2⟩:=NS s hs;have h2:aL C 319 [.str s,.str ⟨#[48,49,50,51,52,53,54,55,56,57]⟩] (.str r):=h2;have hd:NT s.toList=(!s.toList.isEmpty&&s.toList.all l6):=rfl;refine aL.x T6 Tryz.func269 rfl ?_;refine wC (λhc=>?_) λhc=>?_
 ·have h0:s.toList=[]:=by rw[hc,ByteArray.toList_eq]
  exact⟨_,rfl,by rw[hd,h0];rfl⟩
 ·have h0:s.toList≠[]:=λhh=>by exact hc (by rw[hh,ByteArray.toList_eq])
  have h3:s.toList.isEmpty=false:=by cases h:s.toList with |nil=>exact absurd h h0 |cons=>rfl
  rw[h3]at hd;refine .p h2 ?_;refine wC (λhc=>?_) λhc=>?_
  ·have h4:r.toList=[]:=by rw[hc,ByteArray.toList_eq]
   exact⟨_,rfl,by rw[hd,h1.1 h4];rfl⟩
  ·have h4:r.toList≠[]:=λhh=>by exact hc (by rw[hh,ByteArray.toList_eq])
   have h5:s.toList.all l6=false:=by
    cases h:s.toList.all l6
    rfl
    exact absurd (h1.2 h) h4
   exact⟨_,rfl,by rw[hd,h5];rfl⟩
end bh
theorem ai.rbS{C:cG}{f:FuncId}{args args' N8:List PV}{h:ab}{r:PV}{Q:PV->ab->Prop}(hb:ie h args=some args')(hn:aU args'=N8)(a:aL C f N8 r)(q:Q r h)(hs:eT r=true:=by rfl)(hm:C.mode f=.pure:=by rfl):ai C 2 f args h Q:=by
 subst hn;obtain⟨n0,hn⟩:=a;refine⟨r,h,q,n0,λn h1=>?_⟩;obtain⟨r0,hc,r1,e1,e2,e3⟩:=hn n h1;unfold di;rw[hm]
 cases hv:ao args
 ·have Cz:eT r1=true:=by
   have:=li r1;rw[e3,hs]at this;exact this.symm
  simp only[dV,hv,abi,if_false,hb,e1,e2,Cz,ade,if_true,e3]
 ·rw[jX hv]at hb;obtain rfl:=aa2 hb;simp only[dV,hv,if_true,e1,e2,e3]
namespace bh
open Go.Proofs
attribute [local irreducible] aD ay aJ aG Ev ah ai ax aZ bE
structure KV(b:Nat)(H:ab)(v:PV)(a:List Tm)(h':ab):Prop where
 hr:HR h'
 len:H.length<=h'.length
 var:∃v',h'[b]?=some ⟨.m,0,1,[v']⟩/\Out 4 h' v' (ae a)/\∀i∈cg v',i∈cg v\/H.length<=i
 fr:∀j,j<H.length->j≠b->j∉cg v->h'[j]?=H[j]?
theorem KV.take{b:Nat}{H h':ab}{v:PV}{a:List Tm}(s:KV b H v a h')(h3:b<H.length)(hr:HR (h'.take H.length)):KV b H v a (h'.take H.length):=by
 have hl:=s.len;have cL:(h'.take H.length).length=H.length:=by simp;omega
 obtain⟨v',e1,e2,e3⟩:=s.var;have g1:(h'.take H.length)[b]?=some ⟨.m,0,1,[v']⟩:=by rw[abE (by omega)];exact e1
 have iG:=(hr _ (abh g1)).2;refine⟨hr,by omega,⟨v',g1,e2.of_eq λi hi=>?_,e3⟩,λj h1 h2 h3=>by rw[abE (by omega)];exact s.fr j h1 h2 h3⟩;rw[abE];rcases e2 with⟨rfl,_⟩|⟨id,ep,rfl,_⟩;simp[cg]at hi
 ·simp[cg]at hi;subst hi;simp[bL,bw]at iG;omega
theorem KV.trans{b:Nat}{H h1 h2:ab}{v v1:PV}{a c:List Tm}(s:KV b H v a h1)(e:h1[b]?=some ⟨.m,0,1,[v1]⟩)(t:KV b h1 v1 c h2):KV b H v c h2:=by
 obtain⟨v',q1,q2,q3⟩:=s.var;rw[q1]at e
 cases e
 obtain⟨v2,r1,r2,r3⟩:=t.var;have:=s.len;refine⟨t.hr,abQ s.len t.len,⟨v2,r1,r2,λi hi=>?_⟩,λj h1 h2 h3=>?_⟩
 ·rcases r3 i hi with h |h
  ·exact q3 i h
  ·omega
 ·rw[t.fr j (by omega) h2 (λhh=>by rcases q3 j hh with h |h;exact h3 h;omega)];exact s.fr j h1 h2 h3
theorem ai.kv{b:Nat}{f:FuncId}{args:List PV}{H:ab}{v:PV}{c:List Tm}{Q:PV->ab->Prop}(a:ax C f args H (λr h'=>r=.cy []/\KV b H v c h'))(h3:b<H.length)(q:∀h',KV b H v c h'->Q (.cy []) h')(hm:C.mode f=.opened:=by rfl):ai C 2 f args H Q:=
 ai.sm a (λr h' p=>⟨p.2.hr,p.2.len⟩) (λr h' p=>by rw[p.1];exact q h' p.2) (λr h' p hr=>by rw[p.1];exact q _ (p.2.take h3 hr)) hm
theorem KV.kL{b:Nat}{H J h':ab}{v:PV}{a:List Tm}(s:KV b (H++J) v a h'):KV b H v a h':=by
 have hl:=s.len;rw[aba]at hl;obtain⟨v',e1,e2,e3⟩:=s.var;refine⟨s.hr,by omega,⟨v',e1,e2,λi hi=>?_⟩,λj h1 h2 h3=>by rw[s.fr j (by simp;omega) h2 h3,aa3 h1]⟩;rcases e3 i hi with h |h;exact .inl h;exact .inr (by simp at h;omega)
theorem Rq(b:Nat)(u:Tm)(H:ab)(v:PV)(a:List Tm)(hH:HR H)(h2:H[b]?=some ⟨.m,0,1,[v]⟩)(ho:Out 4 H v (ae a))(hv:b∉cg v)(hn:a.length<100000000):
  ax C 129 [enc u,.ptr b 0 0 0] H (λr h'=>r=.cy []/\KV b H v (a++[u]) h'):=by
 have hle:=ak a;have cL:=ag h2;have hu:ae a++[.agg [.int .i64 u.k,.str u.s,.int .i64 u.o,.aa false (ae u.l)]]=ae (a++[u]):=by rw[cc,<-aw];rfl
 rw[aw];refine ax.x T6 Tryz.func129 rfl ?_;refine wA ?_;refine SY.apd h2 ho (λi hi hh=>hv (hh▸hi)) (by omega) (λid ep h' ap=>?_);refine wA ?_;refine⟨rfl,?_⟩;have hl:=ap.len;have hid:=ag ap.at';have hg:∀j,j<H.length->j≠id->j≠b->h'[j]?=H[j]?:=λj g1 g2 g3=>by rw[ap.fr j g2 g3,aa3 g1]
 refine⟨λo ho=>?_,by omega,⟨_,ap.var,.inr ⟨id,ep,by rw[ak];simp,by rw[<-hu];exact ap.at'⟩,λi hi=>?_⟩,λj g1 g2 g3=>hg j g1 (λhh=>?_) g2⟩
 ·obtain⟨j,hj⟩:=ab6 ho
  by_cases j1:j=id
  subst j1;rw[ap.at']at hj;cases hj;exact⟨by simp,bt _ _ (by rw[hu];simp)⟩
  by_cases j2:j=b
  subst j2;rw[ap.var]at hj;cases hj;exact⟨by simp,by simp[bL,bw];omega⟩;rw[ap.fr j j1 j2]at hj;have:=(hH.dg (HV.one (ep:=0) (n:=4) (es:=[.agg [.int .i64 u.k,.str u.s,.int .i64 u.o,.aa false (ae u.l)]]) (by simp))) o (abh hj);exact⟨this.1,eQ (λi hi=>by have:=of_decide_eq_true hi;simp at this;exact decide_eq_true (by omega)) _ this.2⟩
 ·simp[cg]at hi;subst hi;rcases ap.idv with h |h;exact .inl h;exact .inr (by omega)
 ·subst hh;rcases ap.idv with h |h;exact g3 h;omega
theorem N9 (b:Nat) (k s o l) (ih:∀t∈l,∀(H:ab) (v:PV) (a:List Tm),HR H->H[b]?=some ⟨.m,0,1,[v]⟩->Out 4 H v (ae a)->b∉cg v->a.length+az t<100000000->
   ax C 128 [enc t,.fn 129 [.ptr b 0 0 0]] H (λr h'=>r=.cy []/\KV b H v (a++pre t) h'))
  (H:ab) (v:PV) (a:List Tm) (hH:HR H) (h2:H[b]?=some ⟨.m,0,1,[v]⟩) (ho:Out 4 H v (ae a)) (hv:b∉cg v) (hn:a.length+az (.mk k s o l)<100000000):
  ax C 128 [enc (.mk k s o l),.fn 129 [.ptr b 0 0 0]] H (λr h'=>r=.cy []/\KV b H v (a++pre (.mk k s o l)) h'):=by
 have cz:=ak l;have o8:=bH l;simp only[az]at hn;have cL:=ag h2;have VL:HR (H++[⟨.m,0,4,[enc (.mk k s o l)]⟩]):=hH.dg (HV.one (by simp));have b2:(H++[⟨.m,0,4,[enc (.mk k s o l)]⟩])[b]?=some ⟨.m,0,1,[v]⟩:=by rw[aa3 cL];exact h2
 have pk:=Rq b (.mk k s o l) (H++[⟨.m,0,4,[enc (.mk k s o l)]⟩]) v a VL b2 (ho.c8 _) hv (by omega);rw[bo]at pk ⊢;refine ax.x T6 Tryz.func128 rfl ?_;refine wA ?_;refine ai.kv pk (by simp;omega) (λh' ks=>?_);refine wA ?_;have kw:=ks.kL
 have fg:h'[H.length]?=some ⟨.m,0,4,[.agg [.int .i64 k,.str s,.int .i64 o,.aa false (ae l)]]⟩:=by
  rw[ks.fr H.length (by simp) (by omega) (λhh=>by have:=ho.oU _ hh;omega)];simp
 refine wA ?_;have GF:a++[Tm.mk k s o l]=a++(.mk k s o l::cV []):=rfl;rw[GF]at kw;refine dw.zip T6 l (λp q L K=>L=[(1,.fn 129 [.ptr b 0 0 0]),(10,.aa false (ae l)),(11,.int .i64 (ae l).length),(12,.int .i64 p.length)]/\KV b H v (a++(.mk k s o l::cV p)) K) (.nx ⟨rfl,kw⟩) ?_ ?_
 ·rintro p u q _ K Y e ⟨rfl,kp⟩;have cC:=bD e;have dO:=lenE e;obtain⟨v1,q1,q2,q3⟩:=kp.var;have Qo:=kp.len;have hKr:=kp.hr
  have zq:b∉cg v1:=λhi=>by
   rcases q3 b hi with h |h;exact hv h;omega
  have VF:bF l=bF p+(az u+bF q):=by rw[e,nk];simp[bF]
  have oH:(cV p).length<=bF p:=pH p;have ih1:=ih u (by rw[e];simp) (K++[⟨.m,0,4,[enc u]⟩]) v1 (a++(Tm.mk k s o l::cV p)) (hKr.dg (HV.one (by simp))) (by rw[aa3 (ag q1)];exact q1) (q2.c8 _) zq (by simp only[aba,abg];omega);rw[aw]at ih1;refine wA ?_;refine ai.kv ih1 (by simp;omega) (λh' ks=>?_);refine wA ?_;refine .nx ⟨rfl,?_⟩;have:=kp.trans q1 ks.kL;rwa[abu,show Tm.mk k s o l::cV p++pre u=Tm.mk k s o l::cV (p++[u]) by rw[nC];simp[cV]]at this
 ·rintro _ K Y ⟨rfl,kp⟩;refine wA ?_;exact⟨rfl,by rw[pre];exact kp⟩
theorem N'(b:Nat)(t:Tm):∀(H:ab) (v:PV) (a:List Tm),HR H->H[b]?=some ⟨.m,0,1,[v]⟩->Out 4 H v (ae a)->b∉cg v->a.length+az t<100000000->
   ax C 128 [enc t,.fn 129 [.ptr b 0 0 0]] H (λr h'=>r=.cy []/\KV b H v (a++pre t) h'):=by
 induction t using Tm.ind with
 |h k s o l ih=>exact N9 b k s o l ih
def zC(h:ab)(r:PV)(l:List Tm):Prop:=∃id ep tl,r=.aj id ep 0 l.length/\h[id]?=some ⟨.m,ep,4,ae l++tl⟩/\ao tl=true
theorem Rr{l:List Tm}(h:l≠[]):cV l≠[]:=by
 cases l with
 |nil=>exact absurd rfl h
 |cons t l=>intro hh;have:=ko t;rw[cV]at hh;rw[(List.append_eq_nil_iff.1 hh).1]at this;cases this
theorem sZ(l:List Tm)(h0:l≠[])(H:ab)(hH:HR H)(id0 ep0:Nat)(e0:H[id0]?=some ⟨.m,ep0,4,ae l⟩)(hl:bF l<10000000):ax C 72 [.aj id0 ep0 0 l.length] H (λr h'=>HR h'/\H.length<=h'.length/\(∀j,j<H.length->h'[j]?=H[j]?)/\zC h' r (jQ l)/\∃id ep n,r=.aj id ep 0 n/\H.length<=id):=by
 have cz:=ak l;have o8:=bH l;have aad:=ag e0;obtain⟨H1,mj⟩:∃H1:ab,H1=H++[⟨.m,0,1,[.aa true []]⟩]:=⟨_,rfl⟩;have aae:H1.length=H.length+1:=by rw[mj];simp
 have VN:HR H1:=by rw[mj];exact hH.dg (HV.one rfl)
 have aaf:H1[H.length]?=some ⟨.m,0,1,[.aa true []]⟩:=by rw[mj];simp
 have aag:H1[id0]?=some ⟨.m,ep0,4,ae l⟩:=by rw[mj,aa3 aad];exact e0
 refine ax.x T6 Tryz.func72 rfl ?_;refine wA ?_;rw[<-mj];refine dw.zip T6 l (λp q L K=>L=[(3,.ptr H.length 0 0 0),(6,.aj id0 ep0 0 l.length),(7,.int .i64 l.length),(8,.int .i64 p.length)]/\KV H.length H1 (.aa true []) (cV p) K) (.nx ⟨rfl,VN,aa5 _,⟨_,aaf,.inl ⟨rfl,rfl⟩,λi hi=>.inl hi⟩,λ_ _ _ _=>rfl⟩) ?_ ?_
 ·rintro p u q _ K Y e ⟨rfl,kp⟩;have cC:(ae l)[0+p.length]?=some (.agg [.int .i64 u.k,.str u.s,.int .i64 u.o,.aa false (ae u.l)]):=by rw[abp];exact bD e
  have dO:=lenE e;obtain⟨v1,q1,q2,q3⟩:=kp.var;have Qo:=kp.len;have hKr:=kp.hr;have hK0:K[id0]?=some ⟨.m,ep0,4,ae l⟩:=by rw[kp.fr id0 (by omega) (by omega) (by simp[cg])];exact aag
  have zq:H.length∉cg v1:=λhi=>by
   rcases q3 _ hi with h |h;simp[cg]at h;omega
  have VF:bF l=bF p+(az u+bF q):=by rw[e,nk];simp[bF]
  have oH:(cV p).length<=bF p:=pH p;have ih1:=N' H.length u (K++[⟨.m,0,4,[enc u]⟩]) v1 (cV p) (hKr.dg (HV.one (by simp))) (by rw[aa3 (ag q1)];exact q1) (q2.c8 _) zq (by omega);rw[aw]at ih1;refine wA ?_;refine ai.kv ih1 (by simp;omega) (λh' ks=>?_);refine wA ?_;refine .nx ⟨rfl,?_⟩;have:=kp.trans q1 ks.kL;rwa[show cV p++pre u=cV (p++[u]) by rw[nC];simp[cV]]at this
 ·rintro _ K Y ⟨rfl,kp⟩;obtain⟨v',e1,e2,e3⟩:=kp.var;have hh:=kp.hr;have Qo:=kp.len;have oH:=pH l;have cQ:dd (eH (cV l))=jQ l:=FX _;rcases e2 with⟨rfl,e9⟩|⟨id,ep,rfl,e2⟩;exact absurd (abj (by rw[<-ak,e9];rfl)) (Rr h0)
  ·have ho:=x8 K hh id ep (cV l) e2 (by omega) (λu hu=>by obtain⟨t,ht,hu⟩:=dR.1 hu;have:=pG t u hu;have:=bU ht;omega);rw[ak]at e1
   have hid:H.length+1<=id:=by
    rcases e3 id (by simp[cg])with h |h;simp[cg]at h;omega
   refine wA ?_;refine .ln ho (λr h' hr=>by obtain⟨_,_,_,rfl⟩:=hr;simp) (λr h' hr=>?_);obtain⟨rfl,tl,hv,rfl⟩:=hr;rw[cQ];have e5:=aa7 (a:=(⟨.m,ep,4,ae (jQ l)++tl⟩:au)) (ag e2);refine wA ?_;refine⟨hh.set _ (by simp) (bt _ _ (by rw[ck,hv];simp)),by simp;omega,λj hj=>?_,⟨id,ep,tl,rfl,e5,hv⟩,id,ep,_,rfl,by omega⟩;rw[aa8 (by omega),kp.fr j (by omega) (by omega) (by simp[cg]),mj,aa3 hj]
theorem _root_.Go.Pm.ai.op{f:FuncId}{rest pW:List PV}{h:ab}{v rv:PV}{l:List Tm}{Q:PV->ab->Prop}(o:zC h v l)(a:aL C f (.aa false (ae l)::pW) rv)(q:Q rv h)(hs:eT rv=true:=by rfl)(hr:ao rest=true:=by simp)(hn:aU rest=pW:=by simp)(hm:C.mode f=.pure:=by rfl):ai C 2 f (v::rest) h Q:=by
 obtain⟨id,ep,tl,rfl,e,ht⟩:=o;have Di:(ae l++tl).take l.length=ae l:=by rw[abq (by rw[ak];omega),abo (by rw[ak];omega)]
 refine ai.rbS (args':=.aa false (ae l)::rest) ?_ (by subst hn;simp[aU,bW]) a q hs hm;simp only[ie,kY,oE,getM,e];simp only[and_self,if_true,abp,aba,ak];rw[if_pos ⟨by simp,by simp⟩];simp only[acb,Di];rw[if_pos ⟨by first |omega |(rw[aba,ak];omega),by simp,by simp⟩,jX hr]
theorem zC.QF{h:ab}{r:PV}{l:List Tm}{k:IntKind}{n:Int}(o:zC h r l):∃r1,rb h (aT [r,.int k n])=some r1/\bW r1=.cy [.aa false (ae l),.int k n]:=by
 obtain⟨id,ep,tl,rfl,e,ht⟩:=o;have Di:(ae l++tl).take l.length=ae l:=by rw[abq (by rw[ak];omega),abo (by rw[ak];omega)]
 refine⟨.cy [.aa false (ae l),.int k n],?_,by simp[bW,aU,bg]⟩;simp[aT,rb,ie,kY,oE,getM,e,Di,aV]
theorem AI(l:List Tm)(hl:l.length<10000000)(hb:∀t∈l,az t<100000000):aL C 114 [.aa false (ae l)] (.aa false (ae (jd l))):=by
 have cz:=ak l;have cQ:dd (eH l)=jd l:=FX _;refine aL.x T6 Tryz.func114 rfl ?_;refine wA ?_
 cases l with
 |nil=>
  refine ai.cD rfl (h':=[]) (rv:=.aa true []) rfl ?_;refine wA ?_;refine ai.cD rfl rfl ?_;refine wA ?_;refine .ln (td _ _) (λr h' hr=>by rw[hr.2]) (λr h' hr=>?_);obtain⟨rfl,rfl⟩:=hr;refine wA ?_;exact⟨_,rfl,rfl⟩
 |cons y l0=>
  refine ai.cD rfl (lN (l:=y::l0) (by simp) (by simp at hl ⊢;omega) []) ?_;generalize hL:y::l0=l at *;refine wA ?_;have e1:([]++[⟨.m,0,4,ae l⟩]:ab)[0]?=some ⟨.m,0,4,ae l⟩:=rfl;refine ai.cD rfl (ml e1 (by omega) (λt ht=>by have:=hb t ht;omega)) ?_;have e2:(([]++[⟨.m,0,4,ae l⟩]:ab).set 0 ⟨.m,0,4,ae (eH l)⟩)[0]?=some ⟨.m,0,4,ae (eH l)⟩:=rfl;have zm:=(fD l).length_eq;have fy:∀t∈eH l,az t<100000000:=λt ht=>hb t ((fD _).mem_iff.1 ht)
  rw[<-zm]at cz hl ⊢;generalize eH l=S at *
  cases S with
  |nil=>rw[<-hL]at zm;simp at zm
  |cons x r=>
   have hc:=pX _ rfl Gn x r _ (HV.one (by simp)).hr 0 0 e2 (by simp at hl;omega) (λt ht=>by have:=fy t ht;omega);rw[ak]at hc;refine wA ?_;refine .ln hc (λr h' hr=>by obtain⟨_,_,_,rfl⟩:=hr;simp) (λr h' hr=>?_);obtain⟨rfl,tl,hv,rfl⟩:=hr;rw[cQ];refine wA ?_;exact iq (tl:=tl) rfl (by rw[ak]) (by simp) (by simp)
theorem sY(l:List Tm):(jQ l).length<=bF l:=by
 have h1:=sw (cV l);have h2:=pH l;unfold jQ;omega
theorem AK{l:List Tm}{B:Nat}(h:∀t∈l,az t<B):∀y∈jQ l,az y<B:=λy hy=>by
 obtain⟨t,ht,hy⟩:=dR.1 ((fq _ _).1 hy);have:=pG t y hy;have:=h t ht;omega
theorem BY(k:List Tm)(t:Tm)(hf:∀u∈k++[t],kV u=true)(hl:bF (k++[t])<10000000):
  aL C 113 [.aa false (ae k),.aa false (ae [t])] (.cy [.aa false (ae (if jR k t≠0 then[]else jQ (k++[t]))),.int .i64 (jR k t)]):=by
 have cz:=ak k;have tO:=bH (k++[t]);simp only[aba,abg,abH]at tO;have PH:∀u∈k++[t],az u<10000000:=λu hu=>by have:=bU hu;omega
 have h1:=DQ (k++[t]) hf (by simp;omega) PH
 have h3:=J9 (jQ (k++[t])) (λy hy=>by
  obtain⟨a,ha,hb⟩:=dR.1 ((fq _ _).1 hy);exact BI (hf a ha) hb) (by have:=sY (k++[t]);omega)
 have hE:jR k t=if 60<k.length then 3 else if jD (k++[t])≠0 then jD (k++[t])else if 200<(jQ (k++[t])).length then 3 else 0:=rfl;have DY:X2 [] (.aa true [.aa false (ae k),.aa false (ae [t])]) (.aa false (ae k)) (.aa false (ae [t])):=.inl rfl;have Rt:=(zW k [t] [] _ _ _ DY (.inr ⟨_,rfl⟩) (.inr ⟨_,rfl⟩) (by simp;omega)).nine;generalize hU:jQ (k++[t])=U at *;have hR1:jR k t=0->(if jR k t≠0 then[]else U)=U:=λh=>if_neg (by omega)
 have WK:jR k t≠0->(if jR k t≠0 then[]else U)=[]:=λh=>if_pos h
 generalize(if jR k t≠0 then[]else U)=R at *;refine aL.x T6 Tryz.func113 rfl ?_;refine wC (λhc=>?_) λhc=>?_
 ·rw[if_pos (by omega)]at hE;exact⟨_,rfl,by rw[WK (by omega),hE];rfl⟩
 ·rw[if_neg (by omega)]at hE;refine .opened rfl (Rt.mono λr h' hr=>?_)
  obtain⟨ep,rfl,rfl⟩:∃ep,r=.aj 0 ep 0 (ae (k++[t])).length/\h'=[⟨.m,ep,4,ae (k++[t])⟩]:=by
   rcases hr with⟨h,_⟩|⟨ep,h1,h2⟩;simp at h;exact⟨ep,h1,h2⟩
  rw[if_neg (by simp[eL,cS,eK])];have ho:Out 4 [⟨.m,ep,4,ae (k++[t])⟩] (.aj 0 ep 0 (ae (k++[t])).length) (ae (k++[t])):=.inr ⟨0,ep,rfl,rfl⟩;refine wA ?_;refine .plS (.inl ho) h1 ?_;refine wC (λhc=>?_) λhc=>?_
  ·have hz:jD (k++[t])=0:=by omega
   rw[if_neg (by omega)]at hE;have AJ:=sZ (k++[t]) (by simp) [⟨.m,ep,4,ae (k++[t])⟩] (HV.one (by simp)).hr 0 ep rfl hl;rw[ak]at *;refine .fr (AJ.mono λr h' hr=>⟨hr.1,hr.2.1,hr.2.2.1,hr.2.2.2⟩) (λr h' hr hb=>?_) (λr h' r1 r2 r3 r4=>?_)
   ·obtain⟨_,id,ep,n,rfl,hid⟩:=hr;simp[eL,cS,eK]at hb;simp at hid;omega
   obtain⟨lz,_⟩:=r4;rw[hU]at lz;refine wA ?_;refine ai.op lz h3 ?_ (by split <;>rfl);refine wC (λhc=>?_) λhc=>?_
   ·rw[hR1 (by omega),show jR k t=0 by omega];exact lz.QF
   exact⟨_,rfl,by rw[WK (by omega),hE];rfl⟩
  ·rw[if_pos (by assumption)]at hE;exact⟨_,rfl,by rw[WK (by omega),hE];rfl⟩
end bh
def xS(s:ByteArray):Bool:=s.toList.take 2==[101,35]
def sE:ByteArray:=⟨#[101,35]⟩
theorem YJ:sE.toList=[101,35]:=by rw[ByteArray.toList_eq];rfl
namespace bh
open Go.Proofs
attribute [local irreducible] aD ay aJ aG Ev ah ai ax aZ bE
theorem Gq(s:ByteArray)(hs:s.size<1000000000):aL C 356 [.str s,.str sE] (.bool (xS s)):=by
 have hl:=bsize s;have hp:xS s=(s.toList.take 2==[101,35]):=rfl;have hx:(s.extract 0 2).toList=s.toList.take 2:=by rw[DL,acb]
 refine aL.x T6 Tryz.func356 rfl ?_;refine wJ (λhc hc=>?_) (λhc hc=>?_) λhc=>?_
 ·have hh:(s.extract 0 2).toList=sE.toList:=by assumption
  exact⟨_,rfl,by rw[hp,<-hx,hh,YJ];rfl⟩
 ·have hh:¬(s.extract 0 2).toList=sE.toList:=by assumption
  rw[hx,YJ]at hh;exact⟨_,rfl,by rw[hp];simp[aT,hh]⟩
 ·have h3:sE.size=2:=rfl
  have hh:s.toList.take 2≠[101,35]:=λh=>by
   have:=congrArg List.length h;simp at this;omega
  exact⟨_,rfl,by rw[hp];simp[aT,hh]⟩
theorem NU(s:ByteArray)(hs:s.size<1000000000):∃r:ByteArray,(xS s=true->r.toList=s.toList.drop 2)/\r.size<=s.size/\aL C 268 [.str s,.str ⟨#[101,35]⟩] (.cy [.str r,.bool (xS s)]):=by
 have h1:=Gq s hs
 have key:∃r:ByteArray,(xS s=true->r.toList=s.toList.drop 2)/\r.size<=s.size/\aL C 318 [.str s,.str sE] (.cy [.str r,.bool (xS s)]):=by
  cases hp:xS s
  ·refine⟨s,λh=>(by cases h),aa5 _,?_⟩;rw[hp]at h1;refine aL.x T6 Tryz.func318 rfl ?_;refine wA ?_;refine .p h1 ?_;refine wA ?_;exact⟨_,rfl,rfl⟩
  ·have h2:2<=s.size:=by
    have:=congrArg List.length (eq_of_beq (show(s.toList.take 2==[101,35])=true from hp));have:=bsize s;simp at *;omega
   have hx:(s.extract 2 s.size).toList=s.toList.drop 2:=by rw[DL,<-bsize,ab2]
   refine⟨s.extract 2 s.size,λ_=>hx,by rw[<-bsize,hx,ac3,bsize];omega,?_⟩;rw[hp]at h1;have h3:sE.size=2:=rfl;refine aL.x T6 Tryz.func318 rfl ?_;refine wA ?_;refine .p h1 ?_;refine wA ?_;exact⟨_,rfl,rfl⟩
 obtain⟨r,q1,q2,q3⟩:=key;refine⟨r,q1,q2,?_⟩;have q3:aL C 318 [.str s,.str ⟨#[101,35]⟩] (.cy [.str r,.bool (xS s)]):=q3;refine aL.x T6 Tryz.func268 rfl ?_;refine wA ?_;refine .p q3 ?_;refine wA ?_;exact⟨_,rfl,rfl⟩
theorem Gs(t:Tm)(hb:az t<100000000)(hl:t.l.length<100000000):aL C 209 [enc t] (.bool (xq t)):=by
 have hss:t.s.size<100000000:=by obtain⟨k,s,o,l⟩:=t;simp only[az]at hb;simp only[Tm.s];omega
 obtain⟨r,h1,h2,h3⟩:=NU t.s (by omega);have h4:=Gp r (by omega)
 have h5:aL C 206 [enc t,.aa false [.str ⟨#[122,101,114,111]⟩,.str ⟨#[111,110,101]⟩]] (.bool (decide (t.k=3)&& (fu t.s iT ||fu t.s rE))):=by
  have:=sU t [iT,rE] (by simp);have e:(decide (t.k=3)&& (fu t.s iT ||fu t.s rE))=(decide (t.k=3)&& [iT,rE].any λn=>fu t.s n):=by simp
  rw[e];exact this
 have cz:=ak t.l
 have hO:J3 t.s.toList=(xS t.s&&NT r.toList):=by
  unfold J3
  cases hp:xS t.s
  ·have:(t.s.toList.take 2==[101,35])=false:=hp;rw[this];rfl
  ·have:(t.s.toList.take 2==[101,35])=true:=hp;rw[this,h1 hp]
 have hP:xq t=if t.k=3 then(fu t.s iT ||fu t.s rE)&&t.l.isEmpty else if t.k≠2 then false else if t.o=1\/t.o=5 then true else if t.o=4 then fu t.s nG ||J3 t.s.toList else if t.o=0\/t.o=2\/t.o=3 then J3 t.s.toList else false:=rfl;rw[hO]at hP;generalize xS t.s=P at *;generalize NT r.toList=D at *;have hEm:t.l.isEmpty=decide ((ae t.l).length=0):=by rw[cz];cases t.l <;>simp
 rw[aw]at h5 ⊢;refine aL.x T6 Tryz.func209 rfl ?_;refine wI (λhc=>?_) (λhc hc=>?_) λhc hc=>?_
 ·have hk:t.k=3:=by omega
  rw[if_pos hk]at hP;rw[decide_eq_true hk,aco]at h5;refine .p h5 ?_
  cases hz:fu t.s iT ||fu t.s rE
  ·refine wA ?_;exact⟨_,rfl,by rw[hP,hz];rfl⟩
  ·refine wC (λhc=>?_) λhc=>?_
   ·rw[decide_eq_true (by omega)]at hEm;exact⟨_,rfl,by rw[hP,hz,hEm];rfl⟩
   ·rw[decide_eq_false (by omega)]at hEm;exact⟨_,rfl,by rw[hP,hz,hEm];rfl⟩
 ·rw[if_neg (by omega)]at hP;refine .p h3 ?_
  (repeat' (first |(refine Rn.go ?_;conv=>whnf)|refine .mk ?_ |refine .mk (λhc=>?_) λhc=>?_ |fail))
  ·rw[if_neg (by omega),if_pos (by omega)]at hP;exact⟨_,rfl,by rw[hP];rfl⟩
  ·rw[if_neg (by omega),if_pos (by omega)]at hP;exact⟨_,rfl,by rw[hP];rfl⟩
  ·have hg:fu t.s nG=true:=kz (by assumption);rw[if_neg (by omega),if_neg (by omega),if_pos (by omega),hg]at hP;exact⟨_,rfl,by rw[hP];rfl⟩
  ·have hg:fu t.s nG=false:=iU (by assumption);rw[if_neg (by omega),if_neg (by omega),if_pos (by omega),hg]at hP
   cases YK:P
   ·rw[YK]at hP
    skip
    exact⟨_,rfl,by rw[hP];rfl⟩
   ·rw[YK]at hP
    skip
    refine .p h4 ?_;refine wA ?_;exact⟨_,rfl,by rw[hP];rfl⟩
  all_goals first
   |have hq:xq t=(P&&D):=by rw[hP,if_neg (by omega),if_neg (by omega),if_neg (by omega),if_pos (by omega)]
    cases YK:P
    ·rw[YK]at hq
     skip
     exact⟨_,rfl,by rw[hq];rfl⟩
    ·rw[YK]at hq
     skip
     refine .p h4 ?_;refine wA ?_;exact⟨_,rfl,by rw[hq];rfl⟩
   |exact⟨_,rfl,by rw[hP,if_neg (by omega),if_neg (by omega),if_neg (by omega),if_neg (by omega)];rfl⟩
   |exact⟨_,rfl,by rw[hP,if_pos (by omega)];rfl⟩
 exact⟨_,rfl,by rw[hP,if_neg (by omega),if_pos (by omega)];rfl⟩
theorem Rl(l:List Tm)(g:FuncId)(cs:List PV)(p:Tm->Bool)(H:ab)(hl:l.length<1000000000)(hp:∀x∈l,hZ H g cs (enc x) (p x)):
  ax C 320 [.aa false (ae l),.fn g cs] H (λr h'=>r=.int .i64 (qM p l)/\fW H h'):=by
 have cz:=ak l;refine ax.x T6 Tryz.func320 rfl ?_;refine wA ?_;refine dw.zip T6 l (λa q L K=>L=[(0,.aa false (ae l)),(1,.fn g cs),(7,.int .i64 (ae l).length),(8,.int .i64 a.length)]/\fW H K/\∀y∈a,p y=false) (.nx ⟨rfl,fW.refl _,by simp⟩) ?_ ?_
 ·rintro a x q _ K Y e ⟨rfl,hE,ha⟩;have cC:=bD e;have dO:=lenE e;have vF:=hp x (by rw[e];simp) _ hE;rw[aw]at vF;refine wA ?_;refine vF _ (λh' PG=>?_)
  cases hb:p x
  ·refine wA ?_;exact .nx ⟨rfl,hE.trans PG,λy hy=>by rcases aa9.1 hy with h |h;exact ha y h;simp at h;rw[h];exact hb⟩
  ·refine wA ?_;exact⟨by rw[e,j4 ha hb];rfl,hE.trans PG⟩
 ·rintro _ K Y ⟨rfl,hE,ha⟩;refine wA ?_;exact⟨by rw[gi ha];rfl,hE⟩
theorem Is(l:List Tm)(g:FuncId)(cs:List PV)(p:Tm->Bool)(H:ab)(hl:l.length<1000000000)(hp:∀x∈l,hZ H g cs (enc x) (p x)):
  ax C 271 [.aa false (ae l),.fn g cs] H (λr h'=>r=.bool (l.any p)/\fW H h'):=by
 have hi:=Rl l g cs p H hl hp;have ha:=sN p l;refine ax.x T6 Tryz.func271 rfl ?_;refine wA ?_;refine .ex hi (λh' hE=>?_);refine wC (λhc=>?_) λhc=>?_
 all_goals exact⟨by rw[<-ha];simp[aT, *],hE⟩
structure kC(s:List Tm):Prop where
 CD:fZ s
 len:s.length<10000000
 bk:∀b∈s,az b<10000000
theorem kC.has{s:List Tm}(h:kC s){t:Tm}(ht:az t<10000000):aL C 116 [.aa false (ae s),enc t] (.bool (cm s t)):=NI s t h.CD (by have:=h.len;omega) (λb hb=>by have:=h.bk b hb;omega) (by omega)
theorem N6(s:List Tm)(hs:kC s)(x:Tm)(hx:az x<10000000)(id:Nat)(H:ab)(h0:H[id]?=some ⟨.m,0,1,[.aa false (ae s)]⟩):ax C 270 [enc x,.ptr id 0 0 0] H (λr h'=>r=.bool (!cm s x)/\fW H h'):=by
 have h1:=hs.has hx;have cL:=ag h0;rw[aw]at h1 ⊢;refine ax.x T6 Tryz.func270 rfl ?_;refine wA ?_;refine .p h1 ?_
 cases cm s x
 all_goals(
  refine wA ?_;exact⟨rfl,(fW.refl _).c8 (HV.one (by simp))⟩)
theorem BX(s:List Tm)(hs:kC s)(u:Tm)(hu:az u<10000000):aL C 210 [.aa false (ae s),enc u] (.bool (xY s u)):=by
 obtain⟨B,hB⟩:∃B:ab,B=[⟨.m,0,1,[.aa false (ae s)]⟩,⟨.m,0,4,[.agg [.int .i64 u.k,.str u.s,.int .i64 u.o,.aa false (ae u.l)]]⟩]:=⟨_,rfl⟩;have WO:B[0]?=some ⟨.m,0,1,[.aa false (ae s)]⟩:=by rw[hB];rfl
 have P9:u.l.length<10000000:=by obtain⟨k,n,o,l⟩:=u;have:=bH l;simp only[az]at hu;simp only[Tm.l];omega
 have hub:∀x∈u.l,az x<10000000:=λx hx=>by obtain⟨k,n,o,l⟩:=u;have:=bU hx;simp only[az]at hu;simp only[Tm.l]at this;omega
 have hc:=qB u.l 270 [.ptr 0 0 0 0] (λx=>!cm s x) B (by omega) (λx hx=>hZ.opened λH' hE=>N6 s hs x (hub x hx) 0 H' (hE.at WO));have hn:(u.l.any λx=>!cm s x)= !(u.l.all (cm s)):=by rw[List.all_eq_not_any_not];simp
 rw[hn]at hc
 have h5:aL C 206 [enc u,.aa false [.str ⟨#[112,97,105,114]⟩,.str ⟨#[101,110,99]⟩,.str ⟨#[97,101,110,99]⟩,.str ⟨#[112,107]⟩,.str ⟨#[115,105,103,110]⟩,.str ⟨#[104,97,115,104]⟩]] (.bool (x3 u)):=by
  have:=sU u [ky,jT,gb,JD,nB,xw] (by simp);have e:x3 u=(decide (u.k=3)&& [ky,jT,gb,JD,nB,xw].any λn=>fu u.s n):=by simp[x3,TD,Bool.or_assoc]
  rw[e];exact this
 have hR:xY s u=(x3 u&&u.l.all (cm s)):=rfl;rw[hR];rw[aw]at h5 ⊢;refine aL.x T6 Tryz.func210 rfl ?_;refine wA ?_;refine .p h5 ?_
 cases x3 u
 ·refine wA ?_;exact⟨_,rfl,rfl⟩
 ·refine wA ?_;rw[<-hB];refine .ex hc (λh' hE=>?_)
  cases u.l.all (cm s)
  all_goals(
   refine wA ?_;exact⟨_,rfl,rfl⟩)
theorem x5(t:Tm)(n:ByteArray):aL C 245 [enc t,.str n] (.bool (fv t n)):=by
 rw[aw];refine aL.x T6 Tryz.func245 rfl ?_;refine wJ (λhc hc=>?_) (λhc hc=>?_) λhc=>?_;exact⟨_,rfl,by simp[aT,fv,fu, *]⟩;exact⟨_,rfl,by simp[aT,fv,fu, *]⟩;exact⟨_,rfl,by simp[aT,fv,fu, *]⟩
theorem VJ(t:Tm)(hb:az t<10000000):aL C 364 [enc t,.aa false []] (.cy [enc t,.int .i64 0]):=by
 have h1:=m' t (by omega);rw[aw]at h1 ⊢;refine aL.x T6 Tryz.func364 rfl ?_;refine wA ?_;obtain⟨B,hB⟩:∃B:ab,B=[⟨.m,0,4,[.agg [.int .i64 t.k,.str t.s,.int .i64 t.o,.aa false (ae t.l)]]⟩,⟨.m,0,4,[.agg [.int .i64 0,.str ByteArray.empty,.int .i64 0,.aa true []]]⟩]:=⟨_,rfl⟩;refine dw.zip T6 ([]:List Tm) (λp q L K=>L=[(2,.ptr 0 0 0 0),(4,.ptr 1 0 0 0),(8,.aa false []),(9,.int .i64 0),(10,.int .i64 p.length)]/\K=[⟨.m,0,4,[.agg [.int .i64 t.k,.str t.s,.int .i64 t.o,.aa false (ae t.l)]]⟩,⟨.m,0,4,[.agg [.int .i64 0,.str ByteArray.empty,.int .i64 0,.aa true []]]⟩]) (.nx ⟨rfl,rfl⟩) ?_ ?_
 ·rintro p u q _ K Y e _
  cases p <;>cases e
 ·rintro _ _ Y ⟨rfl,rfl⟩;refine wA ?_;refine .p h1 ?_;refine wA ?_;exact mr
theorem x6(t:Tm)(hb:az t<10000000):aL C 321 [enc t] (enc t):=by
 have h1:=VJ t hb;rw[aw]at h1 ⊢;refine aL.x T6 Tryz.func321 rfl ?_;refine wA ?_;refine .p h1 ?_;refine wA ?_;exact TE
theorem rF{t:Tm}{i:Nat}(h:i<t.l.length):(ae t.l)[i]?=some (.agg [.int .i64 (ic t i).k,.str (ic t i).s,.int .i64 (ic t i).o,.aa false (ae (ic t i).l)]):=by
 refine gR ?_;rw[ic,abt,aa6 h]
 rfl
theorem mI{t:Tm}{i:Nat}(h:i<t.l.length):ic t i∈t.l:=by
 rw[ic,abt,aa6 h];exact abF h
theorem iz{t x:Tm}(h:x∈t.l):az x<az t:=by
 obtain⟨k,n,o,l⟩:=t;have:=bU h;simp only[az,Tm.l]at *;omega
theorem Kj{t:Tm}{n:ByteArray}(h:jc t=0)(hn:fv t n=true)(h2:(bX n).a=2/\(bX n).b=2):t.l.length=2:=by
 obtain⟨a,b,e⟩:=oA h hn h2;rw[e];rfl
theorem Rm(t:Tm)(hb:az t<10000000):aL C 274 [enc t] (.cy [enc (s9 t),.int .i64 (x4 t)]):=by
 have h1:=sV t (by omega);have h2:=x5 t ⟨#[101,110,99]⟩;have h3:=x5 t ⟨#[97,101,110,99]⟩;have hE:x4 t=if jc t≠0 then jc t else if fv t jT=true then 0 else if fv t gb=false then 10 else if fv (ic t 1) JD=false then 4 else 0:=rfl;have hV:s9 t=if x4 t≠0 then fL else if fv t jT=true then ic t 1 else ic (ic t 1) 0:=rfl;have n1:fv t ⟨#[101,110,99]⟩=fv t jT:=rfl;have n2:fv t ⟨#[97,101,110,99]⟩=fv t gb:=rfl;rw[n1]at h2;rw[n2]at h3;have hz:=sX;rw[aw t]at h1 h2 h3 ⊢
 by_cases hv:jc t=0
 ·rw[if_neg (by omega)]at hE
  cases hn:fv t jT
  ·rw[hn]at h2 hE hV;rw[if_neg (by simp)]at hE
   cases ha:fv t gb
   ·rw[ha,if_pos rfl]at hE;rw[ha]at h3;rw[if_pos (by omega)]at hV;rw[hV,hE,hz];refine aL.x T6 Tryz.func274 rfl ?_;refine wA ?_;refine .p h1 ?_;refine wA ?_;refine .p h2 ?_;refine wA ?_;refine .p h3 ?_;refine wA ?_;exact⟨_,rfl,rfl⟩
   ·rw[ha,if_neg (by simp)]at hE;rw[ha]at h3;have dO:=Kj hv ha GC.2.2.1;have cC:=rF (t:=t) (i:=1) (by omega);have h4:=x5 (ic t 1) ⟨#[112,107]⟩;have n3:fv (ic t 1) ⟨#[112,107]⟩=fv (ic t 1) JD:=rfl;rw[n3,aw]at h4
    cases hp:fv (ic t 1) JD
    ·rw[hp,if_pos rfl]at hE;rw[hp]at h4;rw[if_pos (by omega)]at hV;rw[hV,hE,hz];refine aL.x T6 Tryz.func274 rfl ?_;refine wA ?_;refine .p h1 ?_;refine wA ?_;refine .p h2 ?_;refine wA ?_;refine .p h3 ?_;refine wA ?_;refine .p h4 ?_;refine wA ?_;exact⟨_,rfl,rfl⟩
    ·rw[hp,if_neg (by simp)]at hE;rw[hp]at h4;rw[if_neg (by omega),if_neg (by simp)]at hV;have kF:=mI (t:=t) (i:=1) (by omega);obtain⟨c,Vs⟩:=BZ (v8 hv kF) hp GC.2.2.2.2;have yY:(ic t 1).l.length=1:=by rw[Vs];rfl
     have na:=rF (t:=ic t 1) (i:=0) (by omega);have b1:=iz kF;have b2:=iz (mI (t:=ic t 1) (i:=0) (by omega));have h5:=x6 (ic (ic t 1) 0) (by omega);rw[hV,hE];generalize hK:ic (ic t 1) 0=K at *;generalize hM:ic t 1=M at *;rw[aw]at h5 ⊢;refine aL.x T6 Tryz.func274 rfl ?_;refine wA ?_;refine .p h1 ?_;refine wA ?_;refine .p h2 ?_;refine wA ?_;refine .p h3 ?_;refine wA ?_;refine .p h4 ?_;refine wA ?_;refine .p h5 ?_;refine wA ?_;exact mr
  ·rw[hn,if_pos rfl]at hE;rw[hn]at h2 hV;rw[if_neg (by omega),if_pos rfl]at hV;have dO:=Kj hv hn GC.2.1;have cC:=rF (t:=t) (i:=1) (by omega);have b1:=iz (mI (t:=t) (i:=1) (by omega));have h5:=x6 (ic t 1) (by omega);rw[hV,hE];generalize hM:ic t 1=M at *;rw[aw]at h5 ⊢;refine aL.x T6 Tryz.func274 rfl ?_;refine wA ?_;refine .p h1 ?_;refine wA ?_;refine .p h2 ?_;refine wA ?_;refine .p h5 ?_;refine wA ?_;exact mr
 ·rw[if_pos hv]at hE;rw[if_pos (by omega)]at hV;rw[hV,hE,hz];refine aL.x T6 Tryz.func274 rfl ?_;refine wA ?_;refine .p h1 ?_;refine wA ?_;exact⟨_,rfl,rfl⟩
theorem GD(s:List Tm)(hs:kC s)(u t:Tm)(hu:az u<10000000)(ht:az t<10000000)(hv:jc t=0)(i1 i2:Nat)(H:ab)(hH:HV H)(h1:H[i1]?=some ⟨.m,0,4,[.agg [.int .i64 u.k,.str u.s,.int .i64 u.o,.aa false (ae u.l)]]⟩)(h2:H[i2]?=some ⟨.m,0,1,[.aa false (ae s)]⟩):
  ax C 272 [enc t,.ptr i1 0 0 0,.ptr i2 0 0 0] H (λr h'=>r=.bool (u9 s u t)/\fW H h'):=by
 have g1:=nw t ⟨#[112,97,105,114]⟩;have g2:=nw t ⟨#[115,105,103,110]⟩
 have g3:aL C 206 [enc t,.aa false [.str ⟨#[101,110,99]⟩,.str ⟨#[97,101,110,99]⟩]] (.bool (fv t jT ||fv t gb)):=by
  have:=sU t [jT,gb] (by simp);have e:(fv t jT ||fv t gb)=(decide (t.k=3)&& [jT,gb].any λn=>fu t.s n):=by cases h:decide (t.k=3) <;>simp[fv,h]
  rw[e];exact this
 have n1:fv t ⟨#[112,97,105,114]⟩=fv t ky:=rfl;have n2:fv t ⟨#[115,105,103,110]⟩=fv t nB:=rfl;rw[n1]at g1;rw[n2]at g2;have VC:=ag h1;have aac:=ag h2;have hO:u9 s u t=if fv t ky=true then decide (aW (ic t 0) u=0)||decide (aW (ic t 1) u=0)else if fv t nB=true then decide (aW (ic t 0) u=0)else if fv t jT ||fv t gb then decide (x4 t=0)&&decide (aW (ic t 0) u=0)&&cm s (s9 t)else false:=rfl;have k0:=Rm t ht;have dG:aY (H++[⟨.m,0,4,[.agg [.int .i64 t.k,.str t.s,.int .i64 t.o,.aa false (ae t.l)]]⟩])=true:=(hH.c8 (HV.one (by simp))).closed;have f1:(H++[⟨.m,0,4,[.agg [.int .i64 t.k,.str t.s,.int .i64 t.o,.aa false (ae t.l)]]⟩])[i1]?=some ⟨.m,0,4,[.agg [.int .i64 u.k,.str u.s,.int .i64 u.o,.aa false (ae u.l)]]⟩:=by rw[aa3 VC];exact h1
 rw[aw t]at g1 g2 g3 k0 ⊢
 cases hp:fv t ky
 ·rw[hp,if_neg (by simp)]at hO;rw[hp]at g1
  cases hg:fv t nB
  ·rw[hg,if_neg (by simp)]at hO;rw[hg]at g2
   cases he:fv t jT ||fv t gb
   ·rw[he,if_neg (by simp)]at hO;rw[he]at g3;rw[hO];refine ax.x T6 Tryz.func272 rfl ?_;refine wA ?_;refine .p g1 ?_;refine wA ?_;refine .p g2 ?_;refine wA ?_;refine .p g3 ?_;refine wA ?_;exact⟨rfl,(fW.refl _).c8 (HV.one (by simp))⟩
   ·rw[he,if_pos rfl]at hO;rw[he]at g3
    have dO:t.l.length=2:=by
     rw[abA]at he;rcases he with he |he;exact Kj hv he GC.2.1;exact Kj hv he GC.2.2.1
    have cC:=rF (t:=t) (i:=0) (by omega);have b1:=iz (mI (t:=t) (i:=0) (by omega));have q1:=nt (ic t 0) u (by omega) (by omega);generalize hM:ic t 0=M at *;rw[hO]
    by_cases hkE:x4 t=0
    ·have hbK:az (s9 t)<10000000:=by
      obtain⟨_,hk⟩:=uq hkE;rcases hk with⟨_,e⟩|⟨_,e1,e⟩;rw[e];have:=iz (mI (t:=t) (i:=1) (by omega));omega
      ·have kF:=mI (t:=t) (i:=1) (by omega);obtain⟨c,Vs⟩:=BZ (v8 hv kF) e1 GC.2.2.2.2;rw[e];have b2:=iz kF;have b3:=iz (mI (t:=ic t 1) (i:=0) (by rw[Vs];simp));omega
     have q2:=hs.has hbK;generalize s9 t=K at *;have Gh:aY (H++[⟨.m,0,4,[.agg [.int .i64 t.k,.str t.s,.int .i64 t.o,.aa false (ae t.l)]]⟩]++[⟨.m,0,4,[.agg [.int .i64 K.k,.str K.s,.int .i64 K.o,.aa false (ae K.l)]]⟩])=true:=((hH.c8 (HV.one (by simp))).c8 (HV.one (by simp))).closed;have f3:(H++[⟨.m,0,4,[.agg [.int .i64 t.k,.str t.s,.int .i64 t.o,.aa false (ae t.l)]]⟩]++[⟨.m,0,4,[.agg [.int .i64 K.k,.str K.s,.int .i64 K.o,.aa false (ae K.l)]]⟩])[i1]?=some ⟨.m,0,4,[.agg [.int .i64 u.k,.str u.s,.int .i64 u.o,.aa false (ae u.l)]]⟩:=by rw[aa3 (by simp;omega)];exact f1
     have f4:(H++[⟨.m,0,4,[.agg [.int .i64 t.k,.str t.s,.int .i64 t.o,.aa false (ae t.l)]]⟩]++[⟨.m,0,4,[.agg [.int .i64 K.k,.str K.s,.int .i64 K.o,.aa false (ae K.l)]]⟩])[i2]?=some ⟨.m,0,1,[.aa false (ae s)]⟩:=by rw[aa3 (by simp;omega),aa3 aac];exact h2
     rw[aw K]at k0 q2;rw[aw M,aw u]at q1;rw[hkE]at k0 ⊢;refine ax.x T6 Tryz.func272 rfl ?_;refine wA ?_;refine .p g1 ?_;refine wA ?_;refine .p g2 ?_;refine wA ?_;refine .p g3 ?_;refine wA ?_;refine .p k0 ?_;refine wA ?_;refine .p q1 ?_
     by_cases hq:aW M u=0
     ·rw[decide_eq_true hq];refine wA ?_;refine .p q2 ?_;refine wA ?_;exact⟨by cases cm s K <;>rfl,((fW.refl _).c8 (HV.one (by simp))).c8 (HV.one (by simp))⟩
     ·rw[decide_eq_false hq];refine wA ?_;exact⟨rfl,((fW.refl _).c8 (HV.one (by simp))).c8 (HV.one (by simp))⟩
    ·rw[aw (s9 t)]at k0;rw[decide_eq_false hkE];generalize s9 t=K at *;have Gh:aY (H++[⟨.m,0,4,[.agg [.int .i64 t.k,.str t.s,.int .i64 t.o,.aa false (ae t.l)]]⟩]++[⟨.m,0,4,[.agg [.int .i64 K.k,.str K.s,.int .i64 K.o,.aa false (ae K.l)]]⟩])=true:=((hH.c8 (HV.one (by simp))).c8 (HV.one (by simp))).closed;refine ax.x T6 Tryz.func272 rfl ?_;refine wA ?_;refine .p g1 ?_;refine wA ?_;refine .p g2 ?_;refine wA ?_;refine .p g3 ?_;refine wA ?_;refine .p k0 ?_;refine wA ?_;exact⟨rfl,((fW.refl _).c8 (HV.one (by simp))).c8 (HV.one (by simp))⟩
  ·rw[hg,if_pos rfl]at hO;rw[hg]at g2;have dO:=Kj hv hg GC.2.2.2.1;have cC:=rF (t:=t) (i:=0) (by omega);have b1:=iz (mI (t:=t) (i:=0) (by omega));have q1:=nt (ic t 0) u (by omega) (by omega);generalize hM:ic t 0=M at *;rw[hO];rw[aw M,aw u]at q1;refine ax.x T6 Tryz.func272 rfl ?_;refine wA ?_;refine .p g1 ?_;refine wA ?_;refine .p g2 ?_;refine wA ?_;refine .p q1 ?_;refine wA ?_;exact⟨rfl,(fW.refl _).c8 (HV.one (by simp))⟩
 ·rw[hp,if_pos rfl]at hO;rw[hp]at g1;have dO:=Kj hv hp GC.1;have cC:=rF (t:=t) (i:=0) (by omega);have Da:=rF (t:=t) (i:=1) (by omega);have b1:=iz (mI (t:=t) (i:=0) (by omega));have b2:=iz (mI (t:=t) (i:=1) (by omega));have q1:=nt (ic t 0) u (by omega) (by omega);have q2:=nt (ic t 1) u (by omega) (by omega);generalize hM:ic t 0=M at *;generalize hM1:ic t 1=M1 at *;rw[hO];rw[aw M,aw u]at q1;rw[aw M1,aw u]at q2;refine ax.x T6 Tryz.func272 rfl ?_;refine wA ?_;refine .p g1 ?_;refine wA ?_;refine .p q1 ?_
  by_cases hq:aW M u=0
  ·rw[decide_eq_true hq];refine wA ?_;exact⟨rfl,(fW.refl _).c8 (HV.one (by simp))⟩
  ·rw[decide_eq_false hq];refine wA ?_;refine .p q2 ?_;refine wA ?_;exact⟨by rw[acG];rfl,(fW.refl _).c8 (HV.one (by simp))⟩
theorem GA(s:List Tm)(hs:kC s)(hv:∀t∈s,jc t=0)(u:Tm)(hu:az u<10000000):aL C 211 [.aa false (ae s),enc u] (.bool (u5 s u)):=by
 have hlen:=hs.len;obtain⟨B,hB⟩:∃B:ab,B=[⟨.m,0,1,[.aa false (ae s)]⟩,⟨.m,0,4,[.agg [.int .i64 u.k,.str u.s,.int .i64 u.o,.aa false (ae u.l)]]⟩]:=⟨_,rfl⟩;have WO:B[0]?=some ⟨.m,0,1,[.aa false (ae s)]⟩:=by rw[hB];rfl
 have Yx:B[1]?=some ⟨.m,0,4,[.agg [.int .i64 u.k,.str u.s,.int .i64 u.o,.aa false (ae u.l)]]⟩:=by rw[hB];rfl
 have hBv:HV B:=by rw[hB];exact HV.xE ⟨by simp,by simp⟩ ⟨by simp,by simp⟩
 have hc:=Is s 272 [.ptr 1 0 0 0,.ptr 0 0 0 0] (u9 s u) B (by omega) (λx hx=>hZ.opened λH' hE=>GD s hs u x hu (hs.bk x hx) (hv x hx) 1 0 H' (hE.hv hBv) (hE.at Yx) (hE.at WO));have hR:u5 s u=s.any (u9 s u):=rfl;rw[hR];rw[aw];refine aL.x T6 Tryz.func211 rfl ?_;refine wA ?_;rw[<-hB];refine .ex hc (λh' hE=>?_);refine wA ?_;exact⟨_,rfl,rfl⟩
theorem D4(t:Tm)(hb:az t<10000000):aL C 308 [enc t,.aa false [],enc t] (.cy [enc t,.int .i64 0]):=by
 have h1:=m' t (by omega);rw[aw]at h1 ⊢;refine aL.x T6 Tryz.func308 rfl ?_;refine wA ?_;refine .p h1 ?_;refine wA ?_;refine dw.zip T6 ([]:List Tm) (λp q L K=>L=[(5,.ptr 1 0 0 0),(6,.ptr 2 0 0 0),(8,.ptr 3 0 0 0),(9,.ptr 3 0 0 0),(14,.aa false []),(15,.int .i64 0),(16,.int .i64 p.length)]/\K=[⟨.m,0,4,[.agg [.int .i64 t.k,.str t.s,.int .i64 t.o,.aa false (ae t.l)]]⟩,⟨.m,0,4,[.agg [.int .i64 t.k,.str t.s,.int .i64 t.o,.aa false (ae t.l)]]⟩,⟨.m,0,4,[PV.agg [.int .i64 0,.str ByteArray.empty,.int .i64 0,.aa true []]]⟩,⟨.m,0,4,[.agg [.int .i64 t.k,.str t.s,.int .i64 t.o,.aa false (ae t.l)]]⟩]) (.nx ⟨rfl,rfl⟩) ?_ ?_
 ·rintro p u q _ K Y e _
  cases p <;>cases e
 ·rintro _ _ Y ⟨rfl,rfl⟩;refine wA ?_;refine .p h1 ?_;refine wA ?_;exact mr
def ow(u:Tm):PV:=.agg [.int .i64 u.k,.str u.s,.int .i64 u.o,if u.l.length=0 then .aa true []else .aa false (ae u.l)]
theorem VO(u:Tm):bW (ow u)=enc u:=by
 rw[aw];unfold ow
 split
 ·rename_i h
  have:u.l=[]:=abj h;simp[bW,aU,this,ae]
 simp[bW,aU,bg]
theorem GG(u:Tm):aV (ow u)=true:=by
 unfold ow
 split <;>simp[aV,ao]
theorem Oa(l:List Tm)(hl:l.length<10000000)(hb:∀t∈l,az t<10000000)(ih:∀t∈l,aL C 249 [.aa false (ae t.l)] (.aa false (ae t.l))):aL C 249 [.aa false (ae l)] (.aa false (ae l)):=by
 have cz:=ak l;refine aL.x T6 Tryz.func249 rfl ?_;refine wA ?_;refine dw.zip T6 l (λp q L H=>L=[(3,.aj 0 0 0 (ae l).length),(9,.aa false (ae l)),(10,.int .i64 (ae l).length),(11,.int .i64 p.length)]/\HV H/\H[0]?=some ⟨.m,0,4,p.map ow++List.replicate q.length (PV.agg [.int .i64 0,.str ByteArray.empty,.int .i64 0,.aa true []])⟩) (.nx ⟨rfl,HV.one (by rw[bj,aa4];intro y hy;rw[abU hy];rfl),by rw[cz];rfl⟩) ?_ ?_
 ·rintro p u q _ H Y e ⟨rfl,hH,h0⟩;have cC:=bD e;have dO:=lenE e;have hu:u∈l:=by rw[e];simp
  have h1:=D4 u (hb u hu);have h2:=ih u hu;have P9:=ak u.l;rw[aw]at h1;have oH:(p.map ow).length=p.length:=ace _
  have e0:(p.map ow++List.replicate (u::q).length (PV.agg [.int .i64 0,.str ByteArray.empty,.int .i64 0,.aa true []]))[0+p.length]?=some (PV.agg [.int .i64 0,.str ByteArray.empty,.int .i64 0,.aa true []]):=by
   rw[abp,abd (by omega),oH,acz];rfl
  have f0:(H++[⟨.m,0,4,[.agg [.int .i64 u.k,.str u.s,.int .i64 u.o,.aa false (ae u.l)]]⟩])[0]?=some ⟨.m,0,4,p.map ow++List.replicate (u::q).length (PV.agg [.int .i64 0,.str ByteArray.empty,.int .i64 0,.aa true []])⟩:=by rw[aa3 (ag h0)];exact h0
  have VL:(H++[⟨.m,0,4,[.agg [.int .i64 u.k,.str u.s,.int .i64 u.o,.aa false (ae u.l)]]⟩])[H.length]?=some ⟨.m,0,4,[.agg [.int .i64 u.k,.str u.s,.int .i64 u.o,.aa false (ae u.l)]]⟩:=by simp
  have o8:(p.map ow++List.replicate (u::q).length (PV.agg [.int .i64 0,.str ByteArray.empty,.int .i64 0,.aa true []])).length=(ae l).length:=by simp[cz,dO]
  refine wA ?_;refine .p h1 ?_;refine wA ?_;obtain⟨bx,YR⟩:∃bx:au,bx=⟨.m,0,4,[.agg [.int .i64 u.k,.str u.s,.int .i64 u.o,.aa false (ae u.l)]]⟩:=⟨_,rfl⟩;obtain⟨A1,Bu⟩:∃A1:List PV,A1=(p.map ow++List.replicate (u::q).length (PV.agg [.int .i64 0,.str ByteArray.empty,.int .i64 0,.aa true []])).set (0+p.length) (.agg [.int .i64 u.k,.str u.s,.int .i64 u.o,.aa false (ae u.l)]):=⟨_,rfl⟩;obtain⟨K1,To⟩:∃K1:ab,K1=(H++[(⟨.m,0,4,[.agg [.int .i64 u.k,.str u.s,.int .i64 u.o,.aa false (ae u.l)]]⟩:au)]).set 0 (⟨.m,0,4,A1⟩:au):=⟨_,rfl⟩;have Hx:=ag h0;have c0:K1[0]?=some ⟨.m,0,4,A1⟩:=by rw[To];exact aa7 (by simp)
  have cb:K1[H.length]?=some bx:=by rw[To,aa8 (by omega),YR];exact VL
  have ea:A1[0+p.length]?=some (.agg [.int .i64 u.k,.str u.s,.int .i64 u.o,.aa false (ae u.l)]):=by rw[Bu];exact aa7 (by rw[o8];omega)
  have PE:A1.length=(ae l).length:=by rw[Bu,adx];exact o8
  rw[<-Bu,<-To];rw[YR]at cb;refine wA ?_;refine .p h2 ?_;refine wA ?_;rw[da ea,da c0];have hw:ow u=.agg [.int .i64 u.k,.str u.s,.int .i64 u.o,if u.l.length=0 then .aa true []else .aa false (ae u.l)]:=rfl
  have Iw:∀x:PV,(p.map ow++List.replicate (u::q).length (PV.agg [.int .i64 0,.str ByteArray.empty,.int .i64 0,.aa true []])).set (0+p.length) x=(p.map ow++[x])++List.replicate q.length (PV.agg [.int .i64 0,.str ByteArray.empty,.int .i64 0,.aa true []]):=λx=>by
   rw[abp,ack _ _ (by omega),oH,acz];simp[List.replicate_succ]
  have YS:HV K1:=by
   rw[To];refine(hH.c8 (HV.one (by simp))).set 0 (by simp) ?_;rw[Bu,Iw,ck,ck];have v1:ao (p.map ow)=true:=by rw[bj,aa4];intro y hy;obtain⟨t,_,rfl⟩:=abB.1 hy;exact GG t
   have v2:ao (List.replicate q.length (PV.agg [.int .i64 0,.str ByteArray.empty,.int .i64 0,.aa true []]))=true:=by rw[bj,aa4];intro y hy;rw[abU hy];rfl
   rw[v1,v2];simp[ao,aV]
  refine wC (λhc=>?_) λhc=>?_
  ·have h0u:u.l.length=0:=by omega
   refine .nx ⟨rfl,YS.set 0 (by simp) ?_,?_⟩
   ·show ao (A1.set (0+p.length) (.agg [.int .i64 u.k,.str u.s,.int .i64 u.o,.aa true []]))=true;rw[Bu,ab4,Iw,ck,ck];have v1:ao (p.map ow)=true:=by rw[bj,aa4];intro y hy;obtain⟨t,_,rfl⟩:=abB.1 hy;exact GG t
    have v2:ao (List.replicate q.length (PV.agg [.int .i64 0,.str ByteArray.empty,.int .i64 0,.aa true []]))=true:=by rw[bj,aa4];intro y hy;rw[abU hy];rfl
    rw[v1,v2];rfl
   ·rw[aa7 (ag c0)]
    have:A1.set (0+p.length) (.agg [.int .i64 u.k,.str u.s,.int .i64 u.o,.aa true []])=(p++[u]).map ow++List.replicate q.length (PV.agg [.int .i64 0,.str ByteArray.empty,.int .i64 0,.aa true []]):=by
     rw[Bu,ab4,Iw,abT,abk,abx,hw,if_pos h0u]
    rw[<-this]
  ·have h0u:¬u.l.length=0:=by omega
   refine .nx ⟨rfl,YS,?_⟩;rw[c0,Bu,Iw,abT,abk,abx,hw,if_neg h0u]
 ·rintro _ H Y ⟨rfl,hH,h0⟩;have h0:H[0]?=some ⟨.m,0,4,l.map ow++[]⟩:=h0;refine wA ?_;exact iq h0 (by simp[cz]) (by rw[bj,aa4];intro y hy;obtain⟨t,_,rfl⟩:=abB.1 hy;exact GG t) (by rw[cJ,adf,de];exact acg λt _=>VO t)
theorem Ru(t:Tm):az t<10000000->aL C 249 [.aa false (ae t.l)] (.aa false (ae t.l)):=by
 induction t using Tm.ind with
 |h k s o l ih=>
  intro hb
  have:=bH l;simp only[az]at hb;exact Oa l (by omega) (λt ht=>by have:=bU ht;omega) λt ht=>ih t ht (by have:=bU ht;omega)
theorem Ob(u:Tm)(hb:az u<10000000):aL C 249 [.aa false (ae [u])] (.aa false (ae [u])):=
 Oa [u] (by simp) (λt ht=>by simp at ht;rw[ht];exact hb) λt ht=>by simp at ht;rw[ht];exact Ru u hb
theorem oB(u:Tm)(h1:fv u iT=false)(h2:fv u uo=false):aL C 248 [enc u] (.aa false (ae [u])):=by
 have e1:fv u iT=(decide (u.k=3)&& (u.s.toList==(⟨#[122,101,114,111]⟩:ByteArray).toList)):=rfl;have e2:fv u uo=(decide (u.k=3)&& (u.s.toList==(⟨#[120,111,114]⟩:ByteArray).toList)):=rfl;rw[h1]at e1;rw[h2]at e2;have hu:ae [u]=[.agg [.int .i64 u.k,.str u.s,.int .i64 u.o,.aa false (ae u.l)]]:=by rw[ae,aw];rfl
 rw[hu,aw]
 by_cases hk:u.k=3
 ·rw[decide_eq_true hk,aco]at e1 e2;have n1:¬u.s.toList=(⟨#[122,101,114,111]⟩:ByteArray).toList:=by simpa using e1.symm
  have n2:¬u.s.toList=(⟨#[120,111,114]⟩:ByteArray).toList:=by simpa using e2.symm
  refine aL.x T6 Tryz.func248 rfl ?_;refine wA ?_;exact⟨_,rfl,by simp[aT,bW,aU,bg]⟩
 ·refine aL.x T6 Tryz.func248 rfl ?_;refine wA ?_;exact⟨_,rfl,by simp[aT,bW,aU,bg]⟩
theorem x9(u:Tm)(hv:valid u=0)(hb:az u<10000000):aL C 246 [.aa false [],.aa false (ae [u])] (.int .i64 0):=by
 have h1:=(fi u (by omega)).nine;rw[hv]at h1;have DY:X2 [] (.aa true [.aa false [],.aa false (ae [u])]) (.aa false []) (.aa false (ae [u])):=.inl rfl;have Rt:=(zW [] [u] [] _ _ _ DY (.inr ⟨_,rfl⟩) (.inr ⟨_,rfl⟩) (by simp)).nine;have hu:ae [u]=[.agg [.int .i64 u.k,.str u.s,.int .i64 u.o,.aa false (ae u.l)]]:=by rw[ae,aw];rfl
 rw[aw]at h1;rw[abK]at Rt;refine aL.x T6 Tryz.func246 rfl ?_;refine wA ?_;refine .opened rfl (Rt.mono λr h' hr=>?_)
 obtain⟨ep,rfl,rfl⟩:∃ep,r=.aj 0 ep 0 (ae [u]).length/\h'=[⟨.m,ep,4,ae [u]⟩]:=by
  rcases hr with⟨h,_⟩|⟨ep,h1,h2⟩;simp at h;exact⟨ep,h1,h2⟩
 rw[if_neg (by simp[eL,cS,eK])];have ho:Out 4 [⟨.m,ep,4,ae [u]⟩] (.aj 0 ep 0 (ae [u]).length) (ae [u]):=.inr ⟨0,ep,rfl,rfl⟩;rw[hu]at ho ⊢;refine wA ?_;refine dw.zip T6 [u] (λp q L H=>L=[(14,.aj 0 ep 0 1),(15,.int .i64 1),(16,.int .i64 p.length)]/\HV H/\H[0]?=some ⟨.m,ep,4,[.agg [.int .i64 u.k,.str u.s,.int .i64 u.o,.aa false (ae u.l)]]⟩) (.nx ⟨rfl,HV.one (by simp),rfl⟩) ?_ ?_
 ·rintro p x q _ H Y e ⟨rfl,hH,h0⟩
  obtain⟨rfl,rfl,rfl⟩:p=[]/\x=u/\q=[]:=by
   cases p with
   |nil=>simp at e;exact⟨rfl,e.1.symm,e.2⟩
   |cons a p=>simp at e
  have WY:([]:List Tm).length=0:=rfl;refine wA ?_;refine .p h1 ?_;refine wA ?_;exact .nx ⟨rfl,hH.c8 (HV.one (by simp)),by rw[aa3 (ag h0)];exact h0⟩
 ·rintro _ H Y ⟨rfl,hH,h0⟩;have h01:[u].length=1:=rfl;refine wA ?_;exact⟨_,rfl,rfl⟩
theorem J'(u:Tm)(hv:valid u=0)(hb:az u<10000000)(h1:fv u iT=false)(h2:fv u uo=false):aL C 275 [enc u] (.cy [.aa false (ae [u]),.int .i64 0]):=by
 have g1:=x9 u hv hb;have g2:=oB u h1 h2;have g3:=Ob u hb;have hu:ae [u]=[.agg [.int .i64 u.k,.str u.s,.int .i64 u.o,.aa false (ae u.l)]]:=by rw[ae,aw];rfl
 rw[hu]at g1 g2 g3 ⊢;rw[aw]at g2 ⊢;refine aL.x T6 Tryz.func275 rfl ?_;refine wA ?_;refine .p g1 ?_;refine wA ?_;refine .p g2 ?_;refine wA ?_;refine .p g3 ?_;refine wA ?_;exact⟨_,rfl,by simp[aT,bW,aU,bg]⟩
end bh
open Go.Proofs
theorem V4{cs A B:List Tm}{u:Tm}(e:cs=A++u::B)(hs:fZ cs){m:Nat}{w:Tm}(hm:cs[m]?=some w):aW w u<0↔m<A.length:=by
 subst e;have h:=adB.1 hs;rcases acE m A.length with h1 |h1 |h1
 ·rw[aa3 h1]at hm;exact⟨λ_=>h1,λ_=>h.2.2 w (abh hm) u (by simp)⟩
 ·subst h1;simp at hm;subst hm;rw[cH];omega
 ·rw[abd (by omega)]at hm
  have h2:(u::B)[m - A.length]?=B[m - A.length - 1]?:=by
   rw[show m - A.length=(m - A.length - 1)+1 by omega];simp
  rw[h2]at hm;have h3:=(abr.1 h.2.1).1 w (abh hm);have ng:=eG u w;omega
theorem Ep{p:List Pw}{u t:Tm}{n:Int}(h:aW u t≠0):uK (p++[(u,n)]) t=uK p t:=by
 induction p with
 |nil=>simp[uK,h]
 |cons y p ih=>rw[abz,uK,uK,ih]
theorem RT{cs A B:List Tm}{u:Tm}{p:List Pw}{n:Int}(e:cs=A++u::B)(hs:fZ cs)(hp:∀y∈p,aW y.1 u≠0):(fO (cs.map (uK p))).set A.length (.int .i64 n)=fO (cs.map (uK (p++[(u,n)]))):=by
 subst e;have h:=adB.1 hs;have hA:A.map (uK p)=A.map (uK (p++[(u,n)])):=acg λt ht=>(Ep (by have:=h.2.2 t ht u (by simp);have:=eG t u;omega)).symm
 have hB:B.map (uK p)=B.map (uK (p++[(u,n)])):=acg λt ht=>(Ep (by have:=(abr.1 h.2.1).1 t ht;omega)).symm
 have hu:uK (p++[(u,n)]) u=n:=LU (q:=[]) hp (cH u);simp only[fO,abT,abk,hA,hB,hu];rw[ack _ _ (by simp)];simp
attribute [local irreducible] aD ay aJ aG Ev ah ai ax aZ
theorem D5(cs A B:List Tm)(u:Tm)(e:cs=A++u::B)(hs:fZ cs)(hl:cs.length<100000000)(hb:∀t∈cs,az t<1000000000):
  aL C 386 [.aa false (ae cs),enc u,.fn 52 []] (.cy [.int .i64 A.length,.bool true]):=by
 have hle:A.length<cs.length:=by rw[e];simp
 have cz:=ak cs;have P9:cs[A.length]?=some u:=by rw[e];simp
 have hub:az u<1000000000:=hb u (by rw[e];simp)
 have elem:∀m,m<cs.length->∃w,cs[m]?=some w/\(ae cs)[m]?=some (.agg [.int .i64 w.k,.str w.s,.int .i64 w.o,.aa false (ae w.l)])/\aL C 52 [.agg [.int .i64 w.k,.str w.s,.int .i64 w.o,.aa false (ae w.l)],.agg [.int .i64 u.k,.str u.s,.int .i64 u.o,.aa false (ae u.l)]] (.int .i64 (aW w u)):=λm hm=>by
  have h1:cs[m]?=some cs[m]:=aa6 hm;refine⟨_,h1,gR h1,?_⟩;rw[<-aw,<-aw];exact eF _ _ (hb _ (abh h1)) hub
 have Pp:∀m w,cs[m]?=some w->(aW w u<0↔m<A.length):=λm w hm=>V4 e hs hm
 have hz:=cH u;generalize A.length=LB at *;rw[aw];refine aL.x T6 Tryz.func386 rfl ?_;refine wA ?_;refine dw.nat T6 (λk L H=>∃i j:Nat,L=[(0,.aa false (ae cs)),(2,.fn 52 []),(4,.ptr 0 0 0 0),(8,.int .i64 (ae cs).length),(9,.int .i64 i),(10,.int .i64 j)]/\H=[⟨.m,0,4,[.agg [.int .i64 u.k,.str u.s,.int .i64 u.o,.aa false (ae u.l)]]⟩]/\k=j - i/\i<=LB/\LB<=j/\j<=cs.length) cs.length (.nx ⟨0,(ae cs).length,rfl,rfl,by omega,by omega,by omega,by omega⟩) ?_;rintro k _ _ Y ⟨i,j,rfl,rfl,hk,i1,i2,i3⟩
 by_cases Qr:i<j
 ·obtain⟨m,YH⟩:∃m:Nat,((i:Int)+j) / 2=m:=⟨(i+j) / 2,by omega⟩;obtain⟨w,h1,cC,rf⟩:=elem m (by omega);have PO:=Pp m _ h1;refine wA ?_;refine .mk (n:=m) ?_ YH cC;refine wA ?_;refine .p rf ?_;refine wC (λhc=>?_) λhc=>?_;exact .nx ⟨j - (m+1),by omega,m+1,j,rfl,rfl,rfl,by omega,by omega,by omega⟩;exact .nx ⟨m - i,by omega,i,m,rfl,rfl,rfl,by omega,by omega,by omega⟩
 ·have hi:i=LB:=by omega
  subst hi;obtain⟨w,h1,cC,rf⟩:=elem i hle;rw[P9]at h1;obtain rfl:=aa2 h1;rw[hz]at rf;refine wA ?_;refine .p rf ?_;refine wA ?_
  all_goals exact⟨_,rfl,by simp[aT,bW,aU, *]⟩
end Go.Pm
namespace Go.Pm
namespace bh
open Go.Proofs
attribute [local irreducible] aD ay aJ aG Ev ah ai ax aZ bE
set_option maxRecDepth 4000
theorem Rv(b:Nat)(H:ab)(hb:H[b]?=some ⟨.m,0,1,[.int .u64 1]⟩):ax C 326 [.aj b 0 0 1,.int .i64 0] H (λr h'=>r=.bool true/\h'=H):=by
 refine ax.x T6 Tryz.func326 rfl ?_;refine wA ?_;refine .raw 0 rfl ?_;refine wA ?_;refine .mk (c:=1) ?_ rfl (by decide);refine wA ?_;refine .mk 1 rfl ?_;refine wA ?_;exact⟨rfl,rfl⟩
theorem Oc(b:Nat)(H:ab)(hH:HR H)(hb:H[b]?=some ⟨.m,0,1,[.int .u64 0]⟩):ax C 366 [.aj b 0 0 1,.int .i64 0] H (λr h'=>r=.cy []/\h'=H.set b ⟨.m,0,1,[.int .u64 1]⟩):=by
 have dG:=hH.closed;refine ax.x T6 Tryz.func366 rfl ?_;refine wA ?_;refine .raw 0 rfl ?_;refine wA ?_;refine .mk 1 rfl (by decide) ?_;refine wA ?_;refine .mk 1 rfl ?_;refine wA ?_;exact⟨rfl,rfl⟩
theorem Kk(b:Nat)(H:ab)(hb:H[b]?=some ⟨.m,0,1,[.int .u64 1]⟩):ax C 325 [.aj b 0 0 1,.int .i64 1] H (λr h'=>r=.int .i64 0/\h'=H):=by
 have hh:=Rv b H hb;refine ax.x T6 Tryz.func325 rfl ?_;refine wA ?_;refine dw.nat T6 (λk L K=>L=[(0,.aj b 0 0 1),(6,.int .i64 1),(7,.int .i64 0)]/\K=H) 1 (.nx ⟨rfl,rfl⟩) ?_;rintro k _ _ Y ⟨rfl,rfl⟩;refine wA ?_;refine .same (hh.mono λr h' h=>⟨h.1,h.2⟩) (λr hr=>?_);subst hr;refine wA ?_;exact⟨rfl,rfl⟩
structure Sys(h:ab)(x m1 m2 c ep:Nat)(u:Tm)(tl:List PV):Prop where
 hx:h[x]?=some ⟨.m,0,5,[.agg [.aj c ep 0 1,.int .i64 0,.cM m1,.cM m2,.aa true []]]⟩
 h1:h[m1]?=some ⟨.m,0,0,[]⟩
 h2:h[m2]?=some ⟨.m,0,0,[]⟩
 hc:h[c]?=some ⟨.m,ep,4,.agg [.int .i64 u.k,.str u.s,.int .i64 u.o,.aa false (ae u.l)]::tl⟩
 ht:ao tl=true
theorem Sys.of_eq{h h':ab}{x m1 m2 c ep:Nat}{u:Tm}{tl:List PV}(s:Sys h x m1 m2 c ep u tl)(n:Nat)(hn:x<n/\m1<n/\m2<n/\c<n)(e:∀j,j<n->h'[j]?=h[j]?):Sys h' x m1 m2 c ep u tl:=
 ⟨(e _ hn.1).trans s.hx,(e _ hn.2.1).trans s.h1,(e _ hn.2.2.1).trans s.h2,(e _ hn.2.2.2).trans s.hc,s.ht⟩
theorem VP(x m1 m2 c ep:Nat)(u:Tm)(tl:List PV)(hu:az u<10000000)(H:ab)(hH:HR H)(s:Sys H x m1 m2 c ep u tl):ax C 368 [.ptr x 0 0 0,enc u] H (λr h'=>r=.int .i64 0/\fW H h'):=by
 have hb:=(D5 [u] [] [] u rfl (by simp[fZ]) (by simp) (λt ht=>by simp at ht;rw[ht];omega)).nine;have dG:=(hH.dg (HV.one (ep:=0) (n:=4) (es:=[.agg [.int .i64 u.k,.str u.s,.int .i64 u.o,.aa false (ae u.l)]]) (by simp))).closed;have PB:=ag s.hx;have Kl:=ag s.hc;have fx:(H++[(⟨.m,0,4,[.agg [.int .i64 u.k,.str u.s,.int .i64 u.o,.aa false (ae u.l)]]⟩:au)])[x]?=some ⟨.m,0,5,[.agg [.aj c ep 0 1,.int .i64 0,.cM m1,.cM m2,.aa true []]]⟩:=by rw[aa3 PB];exact s.hx
 have fc:(H++[(⟨.m,0,4,[.agg [.int .i64 u.k,.str u.s,.int .i64 u.o,.aa false (ae u.l)]]⟩:au)])[c]?=some ⟨.m,ep,4,ae [u]++tl⟩:=by rw[aa3 Kl,s.hc,ae,aw];rfl
 have lz:zC (H++[(⟨.m,0,4,[.agg [.int .i64 u.k,.str u.s,.int .i64 u.o,.aa false (ae u.l)]]⟩:au)]) (.aj c ep 0 1) [u]:=⟨c,ep,tl,rfl,fc,s.ht⟩;rw[aw u]at hb ⊢;refine ax.x T6 Tryz.func368 rfl ?_;refine wA ?_;refine ai.op lz hb ?_;refine wA ?_;exact⟨rfl,(fW.refl _).c8 (HV.one (by simp))⟩
theorem wa{u a:Tm}{p q:List Tm}(e:[u]=p++a::q):p=[]/\a=u/\q=[]:=by
 cases p with
 |nil=>simp at e;exact⟨rfl,e.1.symm,e.2⟩
 |cons b p=>simp at e
theorem VR(x m1 m2 c ep:Nat)(u:Tm)(tl:List PV)(hu:az u<10000000)(f1:fv u iT=false)(f2:fv u uo=false)(H:ab)(hH:HR H)(s:Sys H x m1 m2 c ep u tl):
  ax C 324 [.ptr x 0 0 0,enc u] H (λr h'=>HR h'/\H.length<=h'.length/\(∀j,j<H.length->h'[j]?=H[j]?)/\∃b,r=.aj b 0 0 1/\H.length<=b/\h'[b]?=some ⟨.m,0,1,[.int .u64 1]⟩):=by
 have hs:=oB u f1 f2;have PB:=ag s.hx;have Kl:=ag s.hc;have h1l:=ag s.h1;have h2l:=ag s.h2;obtain⟨H1,mj⟩:∃H1:ab,H1=H++[(⟨.m,0,4,[.agg [.int .i64 u.k,.str u.s,.int .i64 u.o,.aa false (ae u.l)]]⟩:au)]:=⟨_,rfl⟩;have ext:∀J:ab,Sys (H++J) x m1 m2 c ep u tl:=λJ=>s.of_eq H.length ⟨PB,h1l,h2l,Kl⟩ λj hj=>aa3 hj
 have aae:H1.length=H.length+1:=by rw[mj];simp
 have VN:HR H1:=by rw[mj];exact hH.dg (HV.one (by simp))
 have aah:∀j,j<H.length->H1[j]?=H[j]?:=λj hj=>by rw[mj,aa3 hj]
 have VL:H1[H.length]?=some ⟨.m,0,4,[.agg [.int .i64 u.k,.str u.s,.int .i64 u.o,.aa false (ae u.l)]]⟩:=by rw[mj];simp
 have s1:Sys H1 x m1 m2 c ep u tl:=by rw[mj];exact ext _
 have fx:=s1.hx;have fc:=s1.hc;have vW:ae [u]=[.agg [.int .i64 u.k,.str u.s,.int .i64 u.o,.aa false (ae u.l)]]:=by rw[ae,aw];rfl
 rw[vW]at hs;rw[aw]at hs;rw[aw u];have WY:([]:List Tm).length=0:=rfl;have h01:[u].length=1:=rfl;have oS:∀K:ab,HR K->H.length+2<=K.length->(∀j,j<H.length->K[j]?=H[j]?)->Sys K x m1 m2 c ep u tl:=λK _ _ h=>s.of_eq H.length ⟨PB,h1l,h2l,Kl⟩ h
 refine ax.x T6 Tryz.func324 rfl ?_;refine wA ?_;rw[<-mj];refine wA ?_;refine .raw 0 rfl ?_;refine wA ?_;have aaT:(H1++[(⟨.m,0,0+1,List.replicate (0+1) (.int .u64 0)⟩:au)])[H.length]?=some ⟨.m,0,4,[.agg [.int .i64 u.k,.str u.s,.int .i64 u.o,.aa false (ae u.l)]]⟩:=by rw[aa3 (by omega)];exact VL
 skip
 refine .p hs ?_;refine wA ?_;refine dw.zip T6 [u] (λp q L K=>L=[(0,.ptr x 0 0 0),(5,.aj H1.length 0 0 1),(17,.aa false [.agg [.int .i64 u.k,.str u.s,.int .i64 u.o,.aa false (ae u.l)]]),(18,.int .i64 1),(19,.int .i64 p.length)]/\HR K/\H1.length+1<=K.length/\(∀j,j<H1.length->K[j]?=H1[j]?)/\K[H1.length]?=some ⟨.m,0,1,[.int .u64 (if q.length=0 then 1 else 0)]⟩) (.nx ⟨rfl,VN.dg (HV.one rfl),by simp,λj hj=>aa3 hj,by simp⟩) ?_ ?_
 ·rintro p a q _ K Y e ⟨rfl,hK,Qo,HT,hKb⟩;obtain⟨rfl,Lo,rfl⟩:=wa e;have Lo:=Lo.symm;subst Lo;have sK:Sys K x m1 m2 c ep u tl:=s1.of_eq H1.length (by omega) HT;have sK2:Sys (K++[(⟨.m,0,4,[.agg [.int .i64 u.k,.str u.s,.int .i64 u.o,.aa false (ae u.l)]]⟩:au)]) x m1 m2 c ep u tl:=sK.of_eq K.length ⟨ag sK.hx,ag sK.h1,ag sK.h2,ag sK.hc⟩ λj hj=>aa3 hj
  have hc:=VP x m1 m2 c ep u tl hu (K++[(⟨.m,0,4,[.agg [.int .i64 u.k,.str u.s,.int .i64 u.o,.aa false (ae u.l)]]⟩:au)]) (hK.dg (HV.one (by simp))) sK2;rw[aw]at hc;refine wA ?_;refine .ex hc (λh' hE=>?_);obtain⟨J,hJ,rfl⟩:=hE;have tL:(K++[(⟨.m,0,4,[.agg [.int .i64 u.k,.str u.s,.int .i64 u.o,.aa false (ae u.l)]]⟩:au)]++J)[H1.length]?=some ⟨.m,0,1,[.int .u64 0]⟩:=by rw[abu,aa3 (by omega)];exact hKb
  have hrr:HR (K++[(⟨.m,0,4,[.agg [.int .i64 u.k,.str u.s,.int .i64 u.o,.aa false (ae u.l)]]⟩:au)]++J):=(hK.dg (HV.one (by simp))).dg hJ;have hf:=Oc H1.length _ hrr tL;refine wA ?_;refine .ln hf (λr h' hr=>by rw[hr.2];simp) (λr h' hr=>?_);obtain⟨rfl,rfl⟩:=hr;refine wA ?_;refine .nx ⟨rfl,hrr.set _ (by simp) (by simp[bL,bw]),by simp;omega,λj hj=>?_,aa7 (ag tL)⟩;rw[aa8 (by omega),abu,aa3 (by omega)];exact HT j hj
 ·rintro _ K Y ⟨rfl,hK,Qo,HT,hKb⟩;refine wA ?_;exact⟨hK,by omega,λj hj=>(HT j (by omega)).trans (aah j hj),H1.length,rfl,by omega,hKb⟩
theorem VS(x m1 m2 c ep b:Nat)(u:Tm)(tl:List PV)(H:ab)(hH:HR H)(s:Sys H x m1 m2 c ep u tl):
  ax C 323 [.ptr x 0 0 0,.aj b 0 0 1] H (λr h'=>r=.cy [.aj b 0 0 1,.aj H.length 0 0 1]/\h'=H++[⟨.m,0,1,[.int .u64 0]⟩]):=by
 have PB:=ag s.hx;have Kl:=ag s.hc;have h1l:=ag s.h1;have h2l:=ag s.h2;have fx:=s.hx;have WY:([]:List Tm).length=0:=rfl;have h01:[u].length=1:=rfl;obtain⟨H1,mj⟩:∃H1:ab,H1=H++[(⟨.m,0,0+1,List.replicate (0+1) (.int .u64 0)⟩:au)]:=⟨_,rfl⟩;have s1:Sys H1 x m1 m2 c ep u tl:=by rw[mj];exact s.of_eq H.length ⟨PB,h1l,h2l,Kl⟩ λj hj=>aa3 hj
 have gx:=s1.hx;have gc:=s1.hc;have g1:=s1.h1;refine ax.x T6 Tryz.func323 rfl ?_;refine wA ?_;refine .raw 0 rfl ?_;refine wA ?_;rw[<-mj];refine wA ?_;refine dw.zip T6 [u] (λp q L K=>L=[(0,.ptr x 0 0 0),(1,.aj b 0 0 1),(6,.aj H.length 0 0 1),(21,.int .i64 1),(22,.int .i64 p.length)]/\K=H1) (.nx ⟨rfl,rfl⟩) ?_ ?_
 ·rintro p a q _ _ Y e ⟨rfl,rfl⟩;obtain⟨rfl,Lo,rfl⟩:=wa e;have Lo:=Lo.symm;subst Lo;refine wA ?_;refine .JC rfl ?_ g1;refine wA ?_;exact .nx ⟨rfl,rfl⟩
 ·rintro _ _ Y ⟨rfl,rfl⟩;refine wA ?_;exact⟨rfl,mj⟩
theorem Rx(a b:Tm)(ha:az a<1000000000)(hb:az b<1000000000):aL C 365 [enc a,enc b] (.bool (decide (aW a b=0))):=by
 have h1:=(eF a b ha hb).nine;rw[aw,aw]at h1 ⊢;refine aL.x T6 Tryz.func365 rfl ?_;refine wA ?_;refine .p h1 ?_;refine wC (λhc=>?_) λhc=>?_
 all_goals exact⟨_,rfl,by simp[aT, *]⟩
theorem _root_.Go.Pm.YT{C:cG}(T:kJ C.P){run:gW}{lv:Nat}{L:Al}{Y:Nat->PV}{h:ab}{t el:TypeId}{x:Operand}{id ep len:Nat}{o:au}(hx:cO L x=some (.aj id ep 0 len))(hk:T.kd t=some (.sl el))(hg:getM h id ep=some o)(hl:len<=o.es.length):ar C run lv (.call ⟨.builtin .len,#[x],#[t]⟩) (al L Y) h=some (.int .i64 len,h):=by
 simp[ar,br,an hx,pe,bp (T.cQ _ _ hk),hg,hl]
theorem Ry(u:Tm)(hu:az u<10000000)(f1:fv u iT=false)(f2:fv u uo=false):ax C 322 [.aa false [],enc u] [⟨.m,0,4,[enc u]⟩] (λr h'=>HR h'/\1<=h'.length/\(∀j,j<1->h'[j]?=[(⟨.m,0,4,[enc u]⟩:au)][j]?)/\∃x m1 m2 c ep tl,r=.ptr x 0 0 0/\1<=x/\Sys h' x m1 m2 c ep u tl):=by
 have hs:=oB u f1 f2;have vW:ae [u]=[.agg [.int .i64 u.k,.str u.s,.int .i64 u.o,.aa false (ae u.l)]]:=by rw[ae,aw];rfl
 have WY:([]:List Tm).length=0:=rfl;have h01:[u].length=1:=rfl;rw[vW]at hs;rw[aw]at hs;rw[aw u]
 have hBr:HR [(⟨.m,0,4,[.agg [.int .i64 u.k,.str u.s,.int .i64 u.o,.aa false (ae u.l)]]⟩:au),⟨.m,0,4,[.agg [.int .i64 u.k,.str u.s,.int .i64 u.o,.aa false (ae u.l)]]⟩,⟨.m,0,0,[]⟩,⟨.m,0,0,[]⟩,⟨.m,0,5,[.agg [.aa true [],.int .i64 0,.cM 2,.cM 3,.aa true []]]⟩]:=by
  intro o ho
  simp only[abc,acn,or_false]at ho;rcases ho with rfl |rfl |rfl |rfl |rfl <;>simp[bL,bw,bt]
 have hBc:=hBr.closed;refine ax.x T6 Tryz.func322 rfl ?_;refine wG ?_;refine .raw (λY=>?_);have NK:bB 4 [.aa false []] ([(⟨.m,0,4,[.agg [.int .i64 u.k,.str u.s,.int .i64 u.o,.aa false (ae u.l)]]⟩:au),⟨.m,0,4,[.agg [.int .i64 u.k,.str u.s,.int .i64 u.o,.aa false (ae u.l)]]⟩,⟨.m,0,0,[]⟩,⟨.m,0,0,[]⟩,⟨.m,0,5,[.agg [.aa true [],.int .i64 0,.cM 2,.cM 3,.aa true []]]⟩].map bI)=some (.aa true [],[(⟨.m,0,4,[.agg [.int .i64 u.k,.str u.s,.int .i64 u.o,.aa false (ae u.l)]]⟩:au),⟨.m,0,4,[.agg [.int .i64 u.k,.str u.s,.int .i64 u.o,.aa false (ae u.l)]]⟩,⟨.m,0,0,[]⟩,⟨.m,0,0,[]⟩,⟨.m,0,5,[.agg [.aa true [],.int .i64 0,.cM 2,.cM 3,.aa true []]]⟩].map bI):=rfl;refine D.move rfl ?_;refine .Dy [(⟨.m,0,4,[.agg [.int .i64 u.k,.str u.s,.int .i64 u.o,.aa false (ae u.l)]]⟩:au),⟨.m,0,4,[.agg [.int .i64 u.k,.str u.s,.int .i64 u.o,.aa false (ae u.l)]]⟩,⟨.m,0,0,[]⟩,⟨.m,0,0,[]⟩,⟨.m,0,5,[.agg [.aa true [],.int .i64 0,.cM 2,.cM 3,.aa true []]]⟩] [] ⟨0,λn _=>DK rfl rfl NK rfl⟩ ?_ rfl rfl hBc rfl rfl;refine .Dy [(⟨.m,0,4,[.agg [.int .i64 u.k,.str u.s,.int .i64 u.o,.aa false (ae u.l)]]⟩:au),⟨.m,0,4,[.agg [.int .i64 u.k,.str u.s,.int .i64 u.o,.aa false (ae u.l)]]⟩,⟨.m,0,0,[]⟩,⟨.m,0,0,[]⟩,⟨.m,0,5,[.agg [.aa true [],.int .i64 0,.cM 2,.cM 3,.aa true []]]⟩] [] ⟨0,λn _=>Gc T6 rfl rfl⟩ ?_ rfl rfl hBc rfl rfl;refine .Dy [(⟨.m,0,4,[.agg [.int .i64 u.k,.str u.s,.int .i64 u.o,.aa false (ae u.l)]]⟩:au),⟨.m,0,4,[.agg [.int .i64 u.k,.str u.s,.int .i64 u.o,.aa false (ae u.l)]]⟩,⟨.m,0,0,[]⟩,⟨.m,0,0,[]⟩,⟨.m,0,5,[.agg [.aa true [],.int .i64 0,.cM 2,.cM 3,.aa true []]]⟩] [] ⟨0,λn _=>JK T6 (vs:=[.agg [.int .i64 u.k,.str u.s,.int .i64 u.o,.aa false (ae u.l)]]) (by exact rfl) (by simp)⟩ ?_ rfl rfl hBc rfl rfl
 refine aZ.two rfl rfl ⟨0,λn _=>vE rfl rfl (gE T6 (lv:=2) (full:=true) (ys:=[.agg [.int .i64 u.k,.str u.s,.int .i64 u.o,.aa false (ae u.l)]]) (by omega) rfl rfl rfl rfl rfl (by decide) rfl rfl rfl rfl (by simp))⟩ ?_;refine aZ.two rfl rfl ⟨0,λn _=>YT T6 rfl rfl rfl (by simp)⟩ ?_;refine D.move rfl ?_;refine aZ.nil ⟨_,_,rfl,?_⟩
 conv=>whnf
 have aai:HR [(⟨.m,0,4,[.agg [.int .i64 u.k,.str u.s,.int .i64 u.o,.aa false (ae u.l)]]⟩:au),⟨.m,0,4,[.agg [.int .i64 u.k,.str u.s,.int .i64 u.o,.aa false (ae u.l)]]⟩,⟨.m,0,0,[]⟩,⟨.m,0,0,[]⟩,⟨.m,0,5,[.agg [.aa true [],.int .i64 0,.cM 2,.cM 3,.aa true []]]⟩,⟨.m,0,4,[.agg [.int .i64 u.k,.str u.s,.int .i64 u.o,.aa false (ae u.l)]]⟩,⟨.m,0,4,[.agg [.int .i64 u.k,.str u.s,.int .i64 u.o,.aa false (ae u.l)]]⟩]:=by
  intro o ho
  simp only[abc,acn,or_false]at ho;rcases ho with rfl |rfl |rfl |rfl |rfl |rfl |rfl <;>simp[bL,bw,bt]
 have aaU:=aai.closed
 have aaj:HR [(⟨.m,0,4,[.agg [.int .i64 u.k,.str u.s,.int .i64 u.o,.aa false (ae u.l)]]⟩:au),⟨.m,0,4,[.agg [.int .i64 u.k,.str u.s,.int .i64 u.o,.aa false (ae u.l)]]⟩,⟨.m,0,0,[]⟩,⟨.m,0,0,[]⟩,⟨.m,0,5,[.agg [.aj 7 0 0 1,.int .i64 0,.cM 2,.cM 3,.aa true []]]⟩,⟨.m,0,4,[.agg [.int .i64 u.k,.str u.s,.int .i64 u.o,.aa false (ae u.l)]]⟩,⟨.m,0,4,[.agg [.int .i64 u.k,.str u.s,.int .i64 u.o,.aa false (ae u.l)]]⟩,⟨.m,0,4,[.agg [.int .i64 u.k,.str u.s,.int .i64 u.o,.aa false (ae u.l)]]⟩]:=by
  intro o ho
  simp only[abc,acn,or_false]at ho;rcases ho with rfl |rfl |rfl |rfl |rfl |rfl |rfl |rfl <;>simp[bL,bw,bt]
 refine dw.zip T6 [u] (λp q L K=>L=[(0,.aa false []),(5,.ptr 4 0 0 0),(23,.aj 5 0 0 1),(24,.int .i64 1),(25,.int .i64 p.length)]/\((q.length=1/\K=[(⟨.m,0,4,[.agg [.int .i64 u.k,.str u.s,.int .i64 u.o,.aa false (ae u.l)]]⟩:au),⟨.m,0,4,[.agg [.int .i64 u.k,.str u.s,.int .i64 u.o,.aa false (ae u.l)]]⟩,⟨.m,0,0,[]⟩,⟨.m,0,0,[]⟩,⟨.m,0,5,[.agg [.aa true [],.int .i64 0,.cM 2,.cM 3,.aa true []]]⟩,⟨.m,0,4,[.agg [.int .i64 u.k,.str u.s,.int .i64 u.o,.aa false (ae u.l)]]⟩])\/(q.length=0/\K=[(⟨.m,0,4,[.agg [.int .i64 u.k,.str u.s,.int .i64 u.o,.aa false (ae u.l)]]⟩:au),⟨.m,0,4,[.agg [.int .i64 u.k,.str u.s,.int .i64 u.o,.aa false (ae u.l)]]⟩,⟨.m,0,0,[]⟩,⟨.m,0,0,[]⟩,⟨.m,0,5,[.agg [.aj 7 0 0 1,.int .i64 0,.cM 2,.cM 3,.aa true []]]⟩,⟨.m,0,4,[.agg [.int .i64 u.k,.str u.s,.int .i64 u.o,.aa false (ae u.l)]]⟩,⟨.m,0,4,[.agg [.int .i64 u.k,.str u.s,.int .i64 u.o,.aa false (ae u.l)]]⟩,⟨.m,0,4,[.agg [.int .i64 u.k,.str u.s,.int .i64 u.o,.aa false (ae u.l)]]⟩]))) (.nx ⟨rfl,.inl ⟨rfl,rfl⟩⟩) ?_ ?_
 ·rintro p a q _ K Y e ⟨rfl,hK⟩;obtain⟨rfl,Lo,rfl⟩:=wa e;obtain rfl:K=[(⟨.m,0,4,[.agg [.int .i64 u.k,.str u.s,.int .i64 u.o,.aa false (ae u.l)]]⟩:au),⟨.m,0,4,[.agg [.int .i64 u.k,.str u.s,.int .i64 u.o,.aa false (ae u.l)]]⟩,⟨.m,0,0,[]⟩,⟨.m,0,0,[]⟩,⟨.m,0,5,[.agg [.aa true [],.int .i64 0,.cM 2,.cM 3,.aa true []]]⟩,⟨.m,0,4,[.agg [.int .i64 u.k,.str u.s,.int .i64 u.o,.aa false (ae u.l)]]⟩]:=by rcases hK with h |h;exact h.2;exact absurd h.1 (by simp)
  refine wA ?_;refine .mk (.aa false [.agg [.int .i64 u.k,.str u.s,.int .i64 u.o,.aa false (ae u.l)]]) (by simpa[aU,bW,bg]using hs) ?_;refine wA ?_;refine .sn (es:=[]) ?_ rfl (by simp);refine wA ?_;exact .nx ⟨rfl,.inr ⟨rfl,rfl⟩⟩
 ·rintro _ K Y ⟨rfl,hK⟩;obtain rfl:K=[(⟨.m,0,4,[.agg [.int .i64 u.k,.str u.s,.int .i64 u.o,.aa false (ae u.l)]]⟩:au),⟨.m,0,4,[.agg [.int .i64 u.k,.str u.s,.int .i64 u.o,.aa false (ae u.l)]]⟩,⟨.m,0,0,[]⟩,⟨.m,0,0,[]⟩,⟨.m,0,5,[.agg [.aj 7 0 0 1,.int .i64 0,.cM 2,.cM 3,.aa true []]]⟩,⟨.m,0,4,[.agg [.int .i64 u.k,.str u.s,.int .i64 u.o,.aa false (ae u.l)]]⟩,⟨.m,0,4,[.agg [.int .i64 u.k,.str u.s,.int .i64 u.o,.aa false (ae u.l)]]⟩,⟨.m,0,4,[.agg [.int .i64 u.k,.str u.s,.int .i64 u.o,.aa false (ae u.l)]]⟩]:=by rcases hK with h |h;exact absurd h.1 (by simp);exact h.2
  have eS:[(⟨.m,0,4,[.agg [.int .i64 u.k,.str u.s,.int .i64 u.o,.aa false (ae u.l)]]⟩:au),⟨.m,0,4,[.agg [.int .i64 u.k,.str u.s,.int .i64 u.o,.aa false (ae u.l)]]⟩,⟨.m,0,0,[]⟩,⟨.m,0,0,[]⟩,⟨.m,0,5,[.agg [.aj 7 0 0 1,.int .i64 0,.cM 2,.cM 3,.aa true []]]⟩,⟨.m,0,4,[.agg [.int .i64 u.k,.str u.s,.int .i64 u.o,.aa false (ae u.l)]]⟩,⟨.m,0,4,[.agg [.int .i64 u.k,.str u.s,.int .i64 u.o,.aa false (ae u.l)]]⟩,⟨.m,0,4,[.agg [.int .i64 u.k,.str u.s,.int .i64 u.o,.aa false (ae u.l)]]⟩][7]?=some ⟨.m,0,4,ae [u]⟩:=by rw[vW];rfl
  have WZ:=ml (ts:=[u]) eS (by simp) (λt ht=>by simp at ht;rw[ht];omega);have AJ:eH [u]=[u]:=rfl;rw[AJ,vW]at WZ;refine wA ?_;refine ai.cD rfl WZ ?_;have hc:=pX _ rfl Rx u [] ([(⟨.m,0,4,[.agg [.int .i64 u.k,.str u.s,.int .i64 u.o,.aa false (ae u.l)]]⟩:au),⟨.m,0,4,[.agg [.int .i64 u.k,.str u.s,.int .i64 u.o,.aa false (ae u.l)]]⟩,⟨.m,0,0,[]⟩,⟨.m,0,0,[]⟩,⟨.m,0,5,[.agg [.aj 7 0 0 1,.int .i64 0,.cM 2,.cM 3,.aa true []]]⟩,⟨.m,0,4,[.agg [.int .i64 u.k,.str u.s,.int .i64 u.o,.aa false (ae u.l)]]⟩,⟨.m,0,4,[.agg [.int .i64 u.k,.str u.s,.int .i64 u.o,.aa false (ae u.l)]]⟩,⟨.m,0,4,[.agg [.int .i64 u.k,.str u.s,.int .i64 u.o,.aa false (ae u.l)]]⟩].set 7 ⟨.m,0,4,ae [u]⟩) (by rw[vW];exact aaj) 7 0 rfl (by simp) (λt ht=>by simp at ht;rw[ht];omega);have Uq:dd [u]=[u]:=rfl;rw[Uq,vW]at hc;refine wA ?_;refine .ln hc (λr h' hr=>by obtain⟨_,_,_,rfl⟩:=hr;simp) (λr h' hr=>?_);obtain⟨rfl,tl,hv,rfl⟩:=hr;refine wA ?_;refine dw.zip T6 ([]:List Tm) (λp q L K=>L=[(5,.ptr 4 0 0 0),(53,.aa false []),(54,.int .i64 0),(55,.int .i64 p.length)]/\K=(([(⟨.m,0,4,[.agg [.int .i64 u.k,.str u.s,.int .i64 u.o,.aa false (ae u.l)]]⟩:au),⟨.m,0,4,[.agg [.int .i64 u.k,.str u.s,.int .i64 u.o,.aa false (ae u.l)]]⟩,⟨.m,0,0,[]⟩,⟨.m,0,0,[]⟩,⟨.m,0,5,[.agg [.aj 7 0 0 1,.int .i64 0,.cM 2,.cM 3,.aa true []]]⟩,⟨.m,0,4,[.agg [.int .i64 u.k,.str u.s,.int .i64 u.o,.aa false (ae u.l)]]⟩,⟨.m,0,4,[.agg [.int .i64 u.k,.str u.s,.int .i64 u.o,.aa false (ae u.l)]]⟩,⟨.m,0,4,[.agg [.int .i64 u.k,.str u.s,.int .i64 u.o,.aa false (ae u.l)]]⟩].set 7 ⟨.m,0,4,ae [u]⟩).set 7 ⟨.m,0,4,[.agg [.int .i64 u.k,.str u.s,.int .i64 u.o,.aa false (ae u.l)]]++tl⟩).set 4 ⟨.m,0,5,[.agg [.aj 7 0 0 1,.int .i64 0,.cM 2,.cM 3,.aa true []]]⟩) (.nx ⟨rfl,rfl⟩) ?_ ?_
  ·rintro p u q _ K Y e _
   cases p <;>cases e
  ·rintro _ _ Y ⟨rfl,rfl⟩;refine wA ?_;refine⟨?_,by simp,λj hj=>(by obtain rfl:j=0:=(by omega);rfl),4,2,3,7,0,tl,rfl,by omega,⟨rfl,rfl,rfl,rfl,hv⟩⟩
   intro o ho
   have ho:o∈[(⟨.m,0,4,[.agg [.int .i64 u.k,.str u.s,.int .i64 u.o,.aa false (ae u.l)]]⟩:au),⟨.m,0,4,[.agg [.int .i64 u.k,.str u.s,.int .i64 u.o,.aa false (ae u.l)]]⟩,⟨.m,0,0,[]⟩,⟨.m,0,0,[]⟩,⟨.m,0,5,[.agg [.aj 7 0 0 1,.int .i64 0,.cM 2,.cM 3,.aa true []]]⟩,⟨.m,0,4,[.agg [.int .i64 u.k,.str u.s,.int .i64 u.o,.aa false (ae u.l)]]⟩,⟨.m,0,4,[.agg [.int .i64 u.k,.str u.s,.int .i64 u.o,.aa false (ae u.l)]]⟩,⟨.m,0,4,[.agg [.int .i64 u.k,.str u.s,.int .i64 u.o,.aa false (ae u.l)]]++tl⟩]:=ho;simp only[abc,acn,or_false]at ho;have vC:ao ([.agg [.int .i64 u.k,.str u.s,.int .i64 u.o,.aa false (ae u.l)]]++tl)=true:=by rw[ck,hv];simp
   rcases ho with rfl |rfl |rfl |rfl |rfl |rfl |rfl |rfl;exact⟨by simp,bt _ _ (by simp)⟩;exact⟨by simp,bt _ _ (by simp)⟩;exact⟨by simp,rfl⟩;exact⟨by simp,rfl⟩;exact⟨by simp,by simp[bL,bw]⟩;exact⟨by simp,bt _ _ (by simp)⟩;exact⟨by simp,bt _ _ (by simp)⟩;exact⟨by simp,bt _ _ vC⟩
theorem Ka(u:Tm)(hv:valid u=0)(hu:az u<10000000)(f1:fv u iT=false)(f2:fv u uo=false):aL C 276 [.aa false [],enc u] (.cy [.aa false [],.int .i64 4]):=by
 have g1:=x9 u hv hu;have g2:=Ry u hu f1 f2;have vW:ae [u]=[.agg [.int .i64 u.k,.str u.s,.int .i64 u.o,.aa false (ae u.l)]]:=by rw[ae,aw];rfl
 rw[vW]at g1;rw[aw u]at g2 ⊢;refine aL.x T6 Tryz.func276 rfl ?_;refine wA ?_;refine .p g1 ?_;refine wA ?_;refine .fr (P:=λr h'=>∃x m1 m2 c ep tl,r=.ptr x 0 0 0/\1<=x/\Sys h' x m1 m2 c ep u tl) g2 (λr h hr hb=>?_) (λr h r1 r2 r3 r4=>?_)
 ·obtain⟨x,m1,m2,c,ep,tl,rfl,hx,_⟩:=hr;simp[eL,cS,eK]at hb;omega
 obtain⟨x,m1,m2,c,ep,tl,rfl,hx,hS⟩:=r4;have h0:h[0]?=some ⟨.m,0,4,[.agg [.int .i64 u.k,.str u.s,.int .i64 u.o,.aa false (ae u.l)]]⟩:=r3 0 (by simp);have g3:=VR x m1 m2 c ep u tl hu f1 f2 h r1 hS;rw[aw u]at g3;refine wA ?_;refine .fr (P:=λr h'=>∃b,r=.aj b 0 0 1/\h.length<=b/\h'[b]?=some ⟨.m,0,1,[.int .u64 1]⟩) g3 (λr k hr hb=>?_) (λr k k1 k2 k3 k4=>?_)
 ·obtain⟨b,rfl,tL,_⟩:=hr;simp[eL,cS,eK]at hb;omega
 obtain⟨b,rfl,tL,hb3⟩:=k4;have W0:Sys k x m1 m2 c ep u tl:=hS.of_eq h.length ⟨ag hS.hx,ag hS.h1,ag hS.h2,ag hS.hc⟩ k3;have g4:=VS x m1 m2 c ep b u tl k k1 W0;refine wA ?_;refine .fr (P:=λr h'=>r=.cy [.aj b 0 0 1,.aj k.length 0 0 1]/\h'=k++[⟨.m,0,1,[.int .u64 0]⟩]) (g4.mono λr h' hr=>?_) (λr k hr hb=>?_) (λr h' _ _ _ k4=>?_)
 ·obtain⟨rfl,rfl⟩:=hr;exact⟨k1.dg (HV.one rfl),by simp,λj hj=>aa3 hj,rfl,rfl⟩
 ·obtain⟨rfl,_⟩:=hr;simp[eL,cS,eK]at hb
 obtain⟨rfl,rfl⟩:=k4;have hS3:Sys (k++[(⟨.m,0,1,[.int .u64 0]⟩:au)]) x m1 m2 c ep u tl:=W0.of_eq k.length ⟨ag W0.hx,ag W0.h1,ag W0.h2,ag W0.hc⟩ λj hj=>aa3 hj
 have hb4:(k++[(⟨.m,0,1,[.int .u64 0]⟩:au)])[b]?=some ⟨.m,0,1,[.int .u64 1]⟩:=by rw[aa3 (ag hb3)];exact hb3
 have g5:=Kk b _ hb4;have fx:=hS3.hx;have fc:=hS3.hc;refine wA ?_;refine .same (g5.mono λr h' h=>⟨h.1,h.2⟩) (λr hr=>?_);subst hr;refine wA ?_;exact⟨_,rfl,rfl⟩
end bh
open Go.Proofs
section
variable{C:cG}(T:kJ C.P){ops:Array Oper}{i d:Nat}{ty:TypeId}{pos:String}{af:Array Edge}{r:List Oper}{Y:Nat->PV}{L:List (Nat×PV)}{h:ab}{L0:Nat}{own:List Nat}{Q:St->Prop}
set_option maxRecDepth 4000
theorem aZ.sP{op:Op}(hs:xa T op L λv=>aZ C ops (i+1) r ⟨⟨al ((d,v)::L) Y,h⟩,L0,own⟩ Q):aZ C ops i (⟨some d,op,ty,pos,af,none⟩::r) ⟨⟨al L Y,h⟩,L0,own⟩ Q:=by
 obtain⟨hh,v,hv,k⟩:=qo T hs;exact aZ.plain hh (λrun=>hv run 1 Y h) k
theorem aZ.sR{op:Op}(hs:so T op L h λv=>aZ C ops (i+1) r ⟨⟨al ((d,v)::L) Y,h⟩,h.length,[]⟩ Q)(dG:aY h=true)(hv:KT L h op.operands.toList):aZ C ops i (⟨some d,op,ty,pos,af,none⟩::r) ⟨⟨al L Y,h⟩,h.length,[]⟩ Q:=by
 obtain⟨hh,v,hc,k⟩:=jN T hs;exact aZ.read hh dG (Hd hv) ⟨0,λn lv _ _=>hc _ lv Y⟩ k
theorem aZ.sW{op:Op}(hh:c9 op=true)(hl:level ops (before ops) i=2)(hs:vt T op L h λv h'=>aZ C ops (i+1) r ⟨⟨al ((d,v)::L) Y,h'⟩,h'.length,[]⟩ Q):aZ C ops i (⟨some d,op,ty,pos,af,none⟩::r) ⟨⟨al L Y,h⟩,L0,own⟩ Q:=by
 obtain⟨v,h',hc,k⟩:=qH T hs;exact aZ.two hh hl ⟨0,λn _=>hc _ Y⟩ k
theorem aZ.YQ{x:Operand}{xs:List Operand}{zf:Array TypeId}{f:FuncId}{args:List PV}{n:Nat}{P:ab->Prop}(hl:level ops (before ops) i=1)(dG:aY h=true)(hf:cO L x=some (.fn f []))(ha:vI L xs=some args)(hm:C.mode f=.opened)(iG:bL (aO h) args=true)
  (a:ax C f args (h.map bI) (λr' h'=>r'=.aj h.length 0 0 n/\∃D,h'=h.map bI++D/\(∀o∈D,o.mu≠.l)/\P D))
  (k:∀D,P D->aZ C ops (i+1) r ⟨⟨al ((d,.aj h.length 0 0 n)::L) Y,h++D⟩,h.length,List.replicate D.length i⟩ Q):aZ C ops i (⟨some d,.call ⟨.value x,xs.toArray,zf⟩,ty,pos,af,none⟩::r) ⟨⟨al L Y,h⟩,h.length,[]⟩ Q:=by
 obtain⟨r',h',⟨rfl,D,rfl,hD,hP⟩,n0,hn⟩:=a;refine aZ.step ⟨n0,λm h1=>?_⟩ (k D hP);have hM:cB ((before ops).getD i 0).testBit h.length [] h=h:=by simp[cB]
 have he:=gq (Y:=Y) ha;have E1:(h.map bI++D).drop h.length=D:=by rw[ab1 (by simp),abG (by simp)];simp
 have hDl:(D.all λo=>decide (o.mu≠.l))=true:=by rw[aa4];exact λo ho=>decide_eq_true (hD o ho)
 have hb:eL h.length (.aj h.length 0 0 n)=false:=by simp[eL,cS,eK]
 have EK:di C (fa C m) 1 f args h=some (.aj h.length 0 0 n,h++D):=by
  unfold di;simp only[hm,ig,dI,hn m h1,E1,hDl];simp[hb]
 have lz:((Op.call ⟨.value x,xs.toArray,zf⟩).operands.toList.all λy=>bw (aO h) (ev (al L Y) y))=true:=by
  rw[aa4]
  intro y hy
  simp[Op.operands,Call.operands]at hy;rcases hy with rfl |hy;rw[an hf];rfl
  ·rw[gj]at iG;have:ev (al L Y) y∈args:=by rw[<-he];exact abB.2 ⟨y,hy,rfl⟩
   exact aa4.1 iG _ this
 have dO:¬level ops (before ops) i=2:=by rw[hl];decide
 have jJ:ar C (fa C m) 1 (.call ⟨.value x,xs.toArray,zf⟩) (al L Y) h=some (.aj h.length 0 0 n,h++D):=by
  simp only[ar,fQ,an hf,he,abv,EK]
 have Fy:(h++D).drop h.length=D:=by simp
 simp only[ct,bu,show c9 (.call ⟨.value x,xs.toArray,zf⟩)=true from rfl,abL,if_false,dO,hM,dG,lz,and_self,if_true,jJ,Fy,hDl,b8,abK]
theorem pQ{D:ab}(dG:aY h=true):aY (h++D.map ez)=true:=by
 unfold aY at dG ⊢;rw[aa4]at dG ⊢
 intro o ho
 rcases aa9.1 ho with ho |ho
 ·have:=dG o ho;rw[abA]at this ⊢;rcases this with h1 |h1;exact .inl h1
  ·refine .inr (eQ (λi hi=>?_) _ h1);unfold aO at hi ⊢
   split at hi
   ·rename_i o ho
    rw[aa3 (ag ho),ho];exact hi
   cases hi
 ·obtain⟨o',_,rfl⟩:=abB.1 ho;simp[ez]
theorem ug{D:ab}{e:Nat->Bool}{j:Nat}(he:e j=false):cB e h.length (List.replicate D.length j) (h++D)=h++D.map ez:=by
 unfold cB;rw[List.take_left' rfl,List.drop_left' rfl]
 congr 1
 induction D with
 |nil=>rfl
 |cons o D ih=>simp[List.replicate_succ,he,ih]
theorem aZ.hid{op:Op}{D:ab}{j:Nat}{v:PV}{E:ab}(hh:c9 op=true)(hl:level ops (before ops) i=1)(he:((before ops).getD i 0).testBit j=false)(dG:aY h=true)(lz:∀y∈op.operands.toList,aV (ev (al L Y) y)=true)
  (hc:∀run,ar C run 1 op (al L Y) (h++D.map ez)=some (v,h++D.map ez++E)) (hE:∀o∈E,o.mu≠.l) (k:aZ C ops (i+1) r ⟨⟨al ((d,v)::L) Y,h++D++E⟩,h.length,List.replicate D.length j++List.replicate E.length i⟩ Q):
  aZ C ops i (⟨some d,op,ty,pos,af,none⟩::r) ⟨⟨al L Y,h++D⟩,h.length,List.replicate D.length j⟩ Q:=by
 refine aZ.step ⟨0,λm _=>?_⟩ k;have dO:¬level ops (before ops) i=2:=by rw[hl];decide
 have hM:cB ((before ops).getD i 0).testBit h.length (List.replicate D.length j) (h++D)=h++D.map ez:=ug he
 have aaB:(op.operands.toList.all λy=>bw (aO (h++D.map ez)) (ev (al L Y) y))=true:=by
  rw[aa4];exact λy hy=>sy _ _ (lz y hy)
 have E1:(h++D.map ez++E).drop (h++D).length=E:=by
  rw[ab1 (by simp),abG (by simp)];simp
 have hEl:(E.all λo=>decide (o.mu≠.l))=true:=by rw[aa4];exact λo ho=>decide_eq_true (hE o ho)
 simp only[ct,bu,hh,abL,if_false,dO,hM,pQ dG,aaB,and_self,if_true,hc,E1,hEl,b8]
theorem aZ.VG{x:Operand}{t el:TypeId}{D:ab}{j:Nat}{full:Bool}{es:List PV}(hl:level ops (before ops) i=1)(he:((before ops).getD i 0).testBit j=false)(dG:aY h=true)(hx:cO L x=some (.aa full es))(hk:T.kd t=some (.sl el))
  (k:aZ C ops (i+1) r ⟨⟨al ((d,.int .i64 es.length)::L) Y,h++D⟩,h.length,List.replicate D.length j⟩ Q):aZ C ops i (⟨some d,.call ⟨.builtin .len,#[x],#[t]⟩,ty,pos,af,none⟩::r) ⟨⟨al L Y,h++D⟩,h.length,List.replicate D.length j⟩ Q:=by
 refine aZ.hid (E:=[]) (v:=.int .i64 es.length) rfl hl he dG (λy hy=>?_) (λrun=>?_) (by simp) (by simpa using k)
 ·simp[Op.operands,Call.operands]at hy;subst hy;rw[an hx];rfl
 simp only[ar,br,abk,abx,an hx,pe,bp (T.cQ _ _ hk),abf,abv]
theorem aZ.Ri{l:Operand}{t el:TypeId}{D:ab}{j:Nat}{kk:IntKind}{n sz fY:Nat}{z:PV}(hl:level ops (before ops) i=1)(he:((before ops).getD i 0).testBit j=false)(dG:aY h=true)(hx:cO L l=some (.int kk n))(hk:T.kd t=some (.sl el))(hs:T.ts el=some (sz+1))(hb:T.tb el=some fY)(hz:T.tz el=some z)
  (jb:fY<=65536) (Qb:(cells z).length=sz+1) (ho:(cells z).all bC=true) (hn:n<=1073741824)
  (k:aZ C ops (i+1) r ⟨⟨al ((d,.aj (h.length+D.length) 0 0 n)::L) Y,h++D++[⟨.m,0,sz+1,List.replicate n z⟩]⟩,h.length,List.replicate D.length j++[i]⟩ Q):aZ C ops i (⟨some d,.makeSlice t l l,ty,pos,af,none⟩::r) ⟨⟨al L Y,h++D⟩,h.length,List.replicate D.length j⟩ Q:=by
 refine aZ.hid (E:=[⟨.m,0,sz+1,List.replicate n z⟩]) (v:=.aj (h.length+D.length) 0 0 n) rfl hl he dG (λy hy=>?_) (λrun=>?_) (by simp) k
 ·simp[Op.operands]at hy;subst hy;rw[an hx];rfl
 ·simp only[ar,aC,an hx,jE,bp (T.cQ _ _ hk),T.eA _ _ hs,T.rS _ _ hb,T.mM _ _ hz];rw[if_pos ⟨by omega,by omega,by omega,by omega,by omega,jb,Qb,ho⟩];simp[newObj]
end
attribute [local irreducible] aD ay aJ aG Ev ah ai ax aZ
set_option maxRecDepth 4000
theorem Rh(cs:List Tm)(x:List Pw)(H:ab)(hs:fZ cs)(hl:cs.length<100000000)(hb:∀t∈cs,az t<1000000000)(hx:Bo x)(lx:x.length<100000000)(hm:∀p∈x,p.1∈cs):
  ax C 398 [.aa false (ae cs),.aa false (bq x)] H (λr h'=>r=.aj H.length 0 0 cs.length/\∃J:ab,h'=H++⟨.m,0,1,fO (cs.map (uK x))⟩::J/\∀o∈J,o.mu=.m/\ao o.es=true):=by
 have cz:=ak cs;have ZK:=fh x;refine ax.x T6 Tryz.func398 rfl ?_;refine wA ?_
 refine dw.zip T6 x (λp q L h=>L=[(0,.aa false (ae cs)),(5,.aj H.length 0 0 (ae cs).length),(13,.aa false (bq x)),(14,.int .i64 (bq x).length),(15,.int .i64 p.length)]/\∃J:ab,h=H++⟨.m,0,1,fO (cs.map (uK p))⟩::J/\∀o∈J,o.mu=.m/\ao o.es=true)
  (.nx ⟨rfl,[],?_,by simp⟩) ?_ ?_
 ·have:fO (cs.map (uK []))=List.replicate (ae cs).length (.int .i64 0):=by rw[cz,fO,adf,<-List.map_const];rfl
  rw[this]
 ·rintro p ⟨u,n⟩ q _ h Y e ⟨rfl,J,hJ,Yq⟩;have e1:h[H.length]?=some ⟨.m,0,1,fO (cs.map (uK p))⟩:=by rw[hJ];simp
  have h1:H.length<h.length:=by rw[hJ];simp
  have cC:=Db e;have dO:=lenE e;obtain⟨A,B,hc⟩:=List.append_of_mem (hm (u,n) (by rw[e];simp));dsimp only at hc;have JW:=D5 cs A B u hc hs hl hb;rw[aw]at JW;have Qs:A.length<cs.length:=by rw[hc];simp
  have na:(fO (cs.map (uK p)))[0+A.length]?=some (.int .i64 (uK p u)):=by rw[hc];simp[fO]
  have hlen:(fO (cs.map (uK p))).length=cs.length:=by simp
  have bN:∀y∈p,aW y.1 u≠0:=λy hy=>by
   rw[e]at hx;have:=(adB.1 hx).2.2 y hy (u,n) (by simp);simp only at this;omega
  refine wA ?_;refine .p JW ?_;have jm:(fO (cs.map (uK p))).set (0+A.length) (.int .i64 n)=fO (cs.map (uK (p++[(u,n)]))):=by rw[abp];exact RT hc hs bN
  refine wA ?_;rw[jm];refine .nx ⟨rfl,J++[⟨.m,0,5,[.agg [.int .i64 u.k,.str u.s,.int .i64 u.o,.aa false (ae u.l),.int .i64 n]]⟩],?_,?_⟩;rw[hJ,abu,abz,ack _ _ (aa5 _),acz,List.set_cons_zero]
  ·intro o ho
   rcases aa9.1 ho with ho |ho;exact Yq o ho;rw[abC.1 ho];exact⟨rfl,by simp⟩
 ·rintro _ h Y ⟨rfl,J,hJ,Yq⟩;refine wA ?_;exact⟨by rw[cz];rfl,J,hJ,Yq⟩
end Go.Pm
namespace Go.Pm
open Go.Proofs
set_option maxRecDepth 4000
structure Km(u:Tm)(k:ab)(x t p c:Nat):Prop where
 hr:HR k
 ex:∃i,k[x]?=some ⟨.m,0,4,[.agg [.aa false (ae [u]),.aa true [],.aj i 0 0 1,.bool false]]⟩/\k[i]?=some ⟨.m,0,1,[.int .i64 (-1)]⟩
 et:k[t]?=some ⟨.m,0,3,[.agg [.aj p 0 0 1,.aj c 0 0 0,.bool false]]⟩
 ep:k[p]?=some ⟨.m,0,1,[.int .i64 1]⟩
theorem Ke(u:Tm):uK [(u,1)] u=1:=LU (p:=[]) (q:=[]) (by simp) (cH u)
namespace bh
attribute [local irreducible] aD ay aJ aG Ev ah ai ax aZ
theorem Re(x:Nat)(cv pv:PV)(H:ab)(hR:HR H)(ex:H[x]?=some ⟨.m,0,4,[.agg [cv,.aa true [],pv,.bool false]]⟩):ax C 399 [.ptr x 0 0 0,.int .i64 0] H (λr h'=>r=.cy []/\h'=H):=by
 refine ax.x T6 Tryz.func399 rfl ?_;refine wA ?_;refine dw.nat T6 (λm L h=>m=0/\L=[(0,.ptr x 0 0 0),(1,.int .i64 0)]/\h=H) 0 (.nx ⟨rfl,rfl,rfl⟩) ?_;rintro m _ h Y ⟨rfl,rfl,rfl⟩;refine wA ?_;refine dw.zip T6 ([]:List Nat) (λp q L' h'=>h'=h/\p=[]/\L'=[(0,.ptr x 0 0 0),(1,.int .i64 0),(4,.int .i64 (-1)),(5,.int .i64 0),(18,.aa true []),(19,.int .i64 0),(20,.int .i64 0)]) (.nx ⟨rfl,rfl,rfl⟩) ?_ ?_
 ·rintro p a q L' h' Y e;simp at e
 ·rintro _ h Y ⟨rfl,_,rfl⟩;refine wA ?_;exact⟨rfl,rfl⟩
theorem Rg(u:Tm)(H:ab)(x t p c:Nat)(K:Km u H x t p c):ax C 388 [.ptr x 0 0 0,.ptr t 0 0 0] H (λr h'=>r=.int .i64 0/\h'=H):=by
 obtain⟨hR,⟨i,ex,ei⟩,et,ep⟩:=K;have cz:(ae [u]).length=1:=ak [u];refine ax.x T6 Tryz.func388 rfl ?_;refine wA ?_;rw[cz];refine dw.zip T6 [(0:Nat)] (λp q L h=>L=[(0,.ptr x 0 0 0),(1,.ptr t 0 0 0),(12,.int .i64 1),(13,.int .i64 p.length)]/\h=H/\q≠[]) (.nx ⟨rfl,rfl,by simp⟩) ?_ ?_
 ·rintro p i q _ _ Y e ⟨rfl,rfl,_⟩
  obtain rfl:p=[]:=by
   cases p with
   |nil=>rfl
   |cons b p=>simp at e
  refine wA ?_;exact⟨rfl,rfl⟩
 ·rintro _ _ Y ⟨rfl,rfl,h⟩;exact absurd rfl h
theorem Kf(u:Tm)(hu:az u<10000000)(h:dA u=false)(hv:valid u=0):
  ax C 387 [.aa false [],.aa false (bq [(u,1)])] [] (λr h'=>HR h'/\([]:ab).length<=h'.length/\(∀j,j<([]:ab).length->h'[j]?=([]:ab)[j]?)/\∃x t p c,r=.cy [.ptr x 0 0 0,.ptr t 0 0 0,.int .i64 0]/\Km u h' x t p c):=by
 have hvp:lM [(u,1)]=0:=by
  unfold lM;rw[if_neg (by simp),oz,if_neg (by simpa using hv),if_neg (by simp[h]),if_neg (by simp),if_neg (by simp),u7]
 have VF:∀q∈[(u,(1:Int))],az q.1<100000000:=by simp;omega
 have WI:=(GB [(u,1)] VF (by simp)).nine;rw[hvp]at WI;have TC:=Ml [[(u,1)]] ⟨λx hx=>by simp at hx;subst hx;exact⟨VF,by simp⟩,by simp⟩;have hf:I' [[(u,1)]]=[u]:=rfl;rw[hf]at TC;have cz:(ae [u]).length=1:=ak [u];refine ax.x T6 Tryz.func387 rfl ?_;refine wG ?_;refine dw.zip T6 ([]:List Nat) (λp q L h=>p=[]/\L=[(0,.aa false []),(1,.aa false (bq [(u,1)])),(19,.aa false []),(20,.int .i64 0),(21,.int .i64 0)]/\h=[]) (.nx ⟨rfl,rfl,rfl⟩) ?_ ?_
 ·rintro p x q _ h Y e;simp at e
 rintro _ h Y ⟨_,rfl,rfl⟩;refine wG ?_;refine .p WI ?_;refine wG ?_;refine ai.cD rfl (show bB 1 [.aa false []] []=some (.aa true [],[])from rfl) ?_
 (repeat' (first |(refine Rn.go ?_;conv=>whnf)|((fail_if_success (show SY _ _ _ _ _));refine .mk ?_)|refine .lp λv H lp=>?_ |fail))
 have E5:=lp.hv;have zc:Out 1 H v (iF [[(u,1)]]):=lp.out;refine .po zc TC (λh4 hh4=>?_)
 have hv4:HV h4:=by
  rcases hh4 with rfl |⟨_,_,_,rfl⟩;exact E5;exact E5.set _ (by simp) (by simp)
 clear hh4 zc E5 lp;have hx5:(h4++[(⟨.m,0,4,[.agg [.aa false (ae [u]),.aa true [],.aa true [],.bool false]]⟩:au)])[h4.length]?=some ⟨.m,0,4,[.agg [.aa false (ae [u]),.aa true [],.aa true [],.bool false]]⟩:=by simp
 have hR5:HR (h4++[(⟨.m,0,4,[.agg [.aa false (ae [u]),.aa true [],.aa true [],.bool false]]⟩:au)]):=hv4.hr.dg (HV.one rfl);refine wG ?_;generalize h4++[(⟨.m,0,4,[.agg [.aa false (ae [u]),.aa true [],.aa true [],.bool false]]⟩:au)]=h5 at *;generalize h4.length=x at *;clear hv4;refine dw.zip T6 ([]:List Nat) (λp q L k=>p=[]/\L=[(0,.aa false []),(1,.aa false (bq [(u,1)])),(11,.ptr x 0 0 0),(50,.aa false []),(51,.int .i64 0),(52,.int .i64 0)]/\k=h5) (.nx ⟨rfl,rfl,rfl⟩) ?_ ?_
 ·rintro p y q _ k Y e;simp at e
 rintro _ h5 Y ⟨_,rfl,rfl⟩;refine wG ?_;refine dw.nat T6 (λm L2 k=>(m=1/\L2=[(0,.aa false []),(1,.aa false (bq [(u,1)])),(11,.ptr x 0 0 0),(89,.int .i64 (ae [u]).length),(90,.int .i64 0)]/\k=h5)\/(m=0/\L2=[(0,.aa false []),(1,.aa false (bq [(u,1)])),(11,.ptr x 0 0 0),(89,.int .i64 (ae [u]).length),(90,.int .i64 1)]/\HR k/\∃i,k[x]?=some ⟨.m,0,4,[.agg [.aa false (ae [u]),.aa true [],.aj i 0 0 1,.bool false]]⟩/\k[i]?=some ⟨.m,0,1,[.int .i64 (-1)]⟩)) 1 (.nx (.inl ⟨rfl,rfl,rfl⟩)) ?_;rintro m _ k Y (⟨rfl,rfl,rfl⟩|⟨rfl,rfl,hR,i,ex,ei⟩)
 ·have kx:=ag hx5;refine wG ?_;refine .sn (es:=[]) ?_ rfl (by simp);have ex:(k++[(⟨.m,0,1,[.int .i64 (-1)]⟩:au)])[x]?=some ⟨.m,0,4,[.agg [.aa false (ae [u]),.aa true [],.aa true [],.bool false]]⟩:=by rw[aa3 kx];exact hx5
  have hR:HR (k++[(⟨.m,0,1,[.int .i64 (-1)]⟩:au)]):=hR5.dg (HV.one rfl);refine wG ?_;refine .nx ⟨0,by omega,.inr ⟨rfl,rfl,hR.set _ (by simp) (by simp[bL,bw]),k.length,aa7 (by simp;omega),?_⟩⟩;rw[aa8 (by omega)];simp
 refine wG ?_;refine dw.nat T6 (λm L2 K=>K=k/\((m=1/\L2=[(0,.aa false []),(1,.aa false (bq [(u,1)])),(11,.ptr x 0 0 0),(106,.int .i64 (ae [u]).length),(107,.int .i64 0)])\/(m=0/\L2=[(0,.aa false []),(1,.aa false (bq [(u,1)])),(11,.ptr x 0 0 0),(106,.int .i64 (ae [u]).length),(107,.int .i64 1)]))) 1 (.nx ⟨rfl,.inl ⟨rfl,rfl⟩⟩) ?_;rintro m _ K Y ⟨rfl,(⟨rfl,rfl⟩|⟨rfl,rfl⟩)⟩
 ·refine wG ?_;refine .same (Re x _ _ _ hR ex) λr hr=>?_;subst hr;refine wG ?_;exact .nx ⟨0,by omega,rfl,.inr ⟨rfl,rfl⟩⟩
 have N5:=(Rh [u] [(u,1)] (K.map bI) (by simp[fZ]) (by simp) (by simp;omega) (by simp[Bo]) (by simp) (by simp)).nine;rw[ace]at N5;refine wG ?_;refine .raw λY=>?_;refine aZ.sP T6 ?_
 conv=>whnf
 refine aZ.sP T6 ?_
 conv=>whnf
 refine aZ.sP T6 ?_
 conv=>whnf
 refine aZ.sP T6 ?_
 conv=>whnf
 refine aZ.sR T6 ?_ hR.closed ⟨jS ex (by simp),trivial⟩
 conv=>whnf
 refine wA ?_;refine aZ.sP T6 ?_
 conv=>whnf
 refine aZ.YQ (n:=1) (P:=λD=>∃J:ab,D=⟨.m,0,1,[.int .i64 1]⟩::J/\∀o∈J,o.mu=.m/\ao o.es=true) rfl hR.closed rfl rfl rfl rfl (N5.mono λr h' hh=>⟨hh.1,?_⟩) λD hD=>?_
 ·obtain⟨_,J,rfl,hJ⟩:=hh
  exact⟨_,rfl,λo ho=>by
   rcases abc.1 ho with rfl |ho;simp;rw[(hJ o ho).1];simp,J,by simp[fO,Ke],hJ⟩
 obtain⟨J,hDJ,hJ⟩:=hD;refine aZ.sP T6 ?_
 conv=>whnf
 refine aZ.VG T6 rfl rfl hR.closed rfl rfl ?_;refine aZ.Ri T6 (n:=0) rfl rfl hR.closed rfl rfl rfl rfl rfl (by decide) rfl rfl (by omega) ?_;refine aZ.sP T6 ?_
 conv=>whnf
 refine aZ.sW T6 rfl rfl ?_
 conv=>whnf
 refine wA ?_;refine aZ.sP T6 ?_
 conv=>whnf
 refine aZ.sP T6 ?_
 conv=>whnf
 refine aZ.sP T6 ?_
 conv=>whnf
 obtain⟨kA,QR⟩:∃kA,kA=K++D++[(⟨.m,0,0+1,List.replicate 0 (.int .i64 0)⟩:au)]++[(⟨.m,0,3,[.agg [.aj K.length 0 0 1,.aj (K.length+D.length) 0 0 0,.bool false]]⟩:au)]:=⟨_,rfl⟩;have hlD:K.length+D.length+1=(K++D++[(⟨.m,0,0+1,List.replicate 0 (.int .i64 0)⟩:au)]).length:=by simp;omega
 have lD:0<D.length:=by rw[hDJ];simp
 have aF:∀j,j<K.length->kA[j]?=K[j]?:=λj hj=>by rw[QR,abu,abu,aa3 hj]
 have a3:kA[K.length]?=some ⟨.m,0,1,[.int .i64 1]⟩:=by rw[QR,hDJ];simp
 have a2:kA[K.length+D.length+1]?=some ⟨.m,0,3,[.agg [.aj K.length 0 0 1,.aj (K.length+D.length) 0 0 0,.bool false]]⟩:=by
  rw[QR,hlD,abd (aa5 _),acz];rfl
 have hRA:HR kA:=by
  rw[QR];refine HR.Nj (HR.Nj (hR.dg λo ho=>?_) (by simp) (by simp[bL])) (by simp) (by simp[bL,bw];omega);rw[hDJ]at ho;rcases abc.1 ho with rfl |ho;simp;rw[(hJ o ho).1];exact⟨by simp,(hJ o ho).2⟩
 have kx:=ag ex;have ki:=ag ei;rw[<-hlD,<-QR];refine aZ.nil ⟨_,_,rfl,?_⟩
 conv=>whnf
 skip
 exact⟨hRA,acu _,λj hj=>absurd hj (Nat.not_lt_zero _),x,_,_,_,rfl,hRA,⟨i,by rw[aF _ kx];exact ex,by rw[aF _ ki];exact ei⟩,a2,a3⟩
theorem Kg(u:Tm)(hu:az u<10000000)(h:dA u=false)(hv:valid u=0):
  ax C 372 [.aa false [],.aa false (bq [(u,1)])] [] (λr h'=>HR h'/\([]:ab).length<=h'.length/\(∀j,j<([]:ab).length->h'[j]?=([]:ab)[j]?)/\∃x t p c,r=.cy [.ptr x 0 0 0,.ptr t 0 0 0,.int .i64 0,.int .i64 0]/\Km u h' x t p c):=by
 have AJ:=Kf u hu h hv;refine ax.x T6 Tryz.func372 rfl ?_;refine wA ?_;refine .fr AJ (λr h hr hb=>?_) (λr h r1 r2 r3 r4=>?_)
 ·obtain⟨x,t,p,c,rfl,K⟩:=hr;simp[eL,cS,eK]at hb
 obtain⟨x,t,p,c,rfl,K⟩:=r4;have Pr:=Rg u _ x t p c K;obtain⟨i,ex,ei⟩:=K.ex;refine wA ?_;refine .same Pr λr hr=>?_;subst hr;refine wA ?_;exact⟨r1,r2,r3,x,t,p,c,rfl,K⟩
theorem DS(u:Tm)(hu:az u<10000000)(h:dA u=false)(hv:valid u=0):∃x,aL C 328 [.aa false [],.aa false (bq [(u,1)])] (.cy [x,.int .i64 4]):=by
 have VH:=Kg u hu h hv;refine⟨.aa false [],?_⟩;refine aL.x T6 Tryz.func328 rfl ?_;refine wA ?_;refine .fr VH (λr h hr hb=>?_) (λr h r1 r2 r3 r4=>?_)
 ·obtain⟨x,t,p,c,rfl,K⟩:=hr;simp[eL,cS,eK]at hb
 obtain⟨x,t,p,c,rfl,K⟩:=r4;refine wA ?_;exact⟨_,rfl,rfl⟩
end bh
end Go.Pm
