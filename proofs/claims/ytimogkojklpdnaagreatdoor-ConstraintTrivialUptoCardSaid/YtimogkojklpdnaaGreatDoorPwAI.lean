/-
  Pm, a part. Conditions: none.
-/
import Derived.Test.YtimogkojklpdnaaGreatDoorPwAH
set_option linter.unusedVariables false
set_option linter.unusedSimpArgs false
set_option linter.unnecessarySimpa false
namespace Go.Pm
def bH(l:List fq):List Tm:=(de (l.flatMap λd=>d.kn++[d.tm])).filter λt=>decide (t.k=1)
theorem Ed(l:List fq):fJ ((l.flatMap λd=>d.kn++[d.tm]).flatMap bL)=bH l:=by
 refine mM (gp _) (gN (gp _)) λy=>?_;simp only[cq,bH,de,acO,bF,decide_eq_true_eq,acL]
 constructor
 ·rintro⟨t,ht,hy⟩;obtain⟨h1,h2⟩:=(iM t y).1 hy;exact⟨⟨t,ht,h1⟩,h2⟩
 ·rintro⟨⟨t,ht,h1⟩,h2⟩;exact⟨t,ht,(iM t y).2 ⟨h1,h2⟩⟩
theorem qe{k s o l}:iE (.mk k s o l)=true↔(k=3->um s=true)/\∀t∈l,iE t=true:=by
 have h:∀l:List Tm,gM um l=true↔∀t∈l,every um t=true:=by
  intro l
  induction l with
  |nil=>simp[gM]
  |cons t l ih=>simp[gM,ih]
 unfold iE;rw[every,ab4,h];simp only[acs,decide_eq_true_eq]
 constructor
 ·rintro⟨h1,h2⟩;exact⟨λhk=>h1.resolve_left (by simpa using hk),h2⟩
 ·rintro⟨h1,h2⟩;exact⟨by by_cases hk:k=3;exact .inr (h1 hk);exact .inl hk,h2⟩
theorem EN:∀{S:List eE} {x:Tm},iE x=true->(∀b∈S,iE b.t=true)->iE (j0 S x)=true
 |[],x,hx,_=>hx
 |b::S,x,hx,h=>by
  rw[j0]
  split
  exact h b (by simp);exact EN hx λc hc=>h c (by simp[hc])
theorem Jj{S:List eE}(hS:∀b∈S,iE b.t=true)(t:Tm):iE t=true->iE (bj S t)=true:=by
 induction t using Tm.ind with
 |h k s o l ih=>
  intro h
  rw[bj]
  split
  exact EN h hS
  ·rw[qe]at h ⊢;refine⟨h.1,λt ht=>?_⟩;rw[bI]at ht;obtain⟨u,hu,rfl⟩:=aci.1 ht;exact ih u hu (h.2 u hu)
def GK:Tm:=.mk 2 ⟨#[97]⟩ 1 []
def Uc:Tm:=.mk 2 ⟨#[98]⟩ 1 []
def lfN:Tm:=.mk 2 ⟨#[110,35,48]⟩ 2 []
def lfM:Tm:=.mk 2 ⟨#[109,35,49]⟩ 2 []
def lfK:Tm:=.mk 2 ⟨#[107,35,48]⟩ 3 []
def lfS:Tm:=.mk 3 td 0 [GK,Uc]
def lfP:Tm:=.mk 3 F4 0 [.mk 3 Ao 0 [Uc]]
def lfH:Tm:=.mk 2 ⟨#[104,105]⟩ 5 []
def NU:Tm:=.mk 3 F4 0 [.mk 3 Ao 0 [GK]]
def vO:List Tm:=[lfN,lfM,lfK,lfS,lfP,GK,lfH]
def vrX:Tm:=.mk 1 ⟨#[120]⟩ 2 []
def vrY:Tm:=.mk 1 ⟨#[121]⟩ 0 []
def vrZ:Tm:=.mk 1 ⟨#[122]⟩ 3 []
def vrW:Tm:=.mk 1 ⟨#[119]⟩ 2 []
def qT:List Tm:=[vrX,vrY,vrZ,vrW]
def iz(b:List Nat)(i:Nat):Nat:=b.getD i 0
def NV(b:List Nat)(l:List Tm)(at':Nat):Tm:=l.getD (iz b at' / 2 % l.length) fW
def iD(b:List Nat)(l:List Tm):Nat->Nat->Tm×Nat
 |0,i=>(NV b l i,i+1)
 |f+1,i=>
  if iz b i % 2=0 then(NV b l i,i+1)
  else if iz b i / 2 % 6=0 then(.mk 3 yh 0 [(iD b l f (i+1)).1],(iD b l f (i+1)).2)
  else if iz b i / 2 % 6<=2 then(.mk 3 iW 0 [(iD b l f (i+1)).1,(iD b l f (iD b l f (i+1)).2).1],(iD b l f (iD b l f (i+1)).2).2)
  else if iz b i / 2 % 6=3 then(.mk 3 fK 0 [(iD b l f (i+1)).1,NU],(iD b l f (iD b l f (i+1)).2).2)
  else(.mk 3 gq 0 [(iD b l f (i+1)).1,(iD b l f (iD b l f (i+1)).2).1],(iD b l f (iD b l f (i+1)).2).2)
def okN(y:Tm):Bool:=(decide (y.k≠1)||bJ qT y)&&decide (y.s.toList.head?≠some 113)&& (decide (y.k≠2)||decide (y.s.size<=3))
def Qt(t:Tm):Bool:=(pre t).all okN
def Be(t:Tm):Bool:=iE t&&Qt t
theorem VS{k:Int}{s:ByteArray}{o:Int}{l:List Tm}(h:okN (.mk k s o l)=true)(hl:∀t∈l,Qt t=true):Qt (.mk k s o l)=true:=by
 unfold Qt;rw[pre,acT,h,ada,abX]
 intro y hy
 obtain⟨t,ht,hy⟩:=bF.1 hy;exact abX.1 (hl t ht) y hy
theorem VT{t y:Tm}(h:Qt t=true)(hy:y∈pre t):Qt y=true:=by
 unfold Qt at *;rw[abX]at *;exact λz hz=>h z (lJ t y hy z hz)
theorem I4{t y:Tm}(h:Qt t=true)(hy:y∈pre t):(y.k=1->y∈qT)/\y.s.toList.head?≠some 113:=by
 have:=abX.1 h y hy;simp only[okN,ab4,acs,decide_eq_true_eq]at this;exact⟨λhk=>bX.1 (this.1.1.resolve_left (by simpa using hk)),this.1.2⟩
theorem Ud{t y:Tm}(h:Qt t=true)(hy:y∈pre t)(hk:y.k=2):y.s.size<=3:=by
 have:=abX.1 h y hy;simp only[okN,ab4,acs,decide_eq_true_eq]at this;exact this.2.resolve_left (by simpa using hk)
theorem gZ{t:Tm}:Be t=true↔iE t=true/\Qt t=true:=by simp[Be]
def Ue(s:ByteArray):Bool:=um s&&decide (s.toList.head?≠some 113)
def Ap(B:Nat)(l:List Tm):Prop:=∀t∈l,Be t=true/\ax t<=B
theorem Ap.db{B:Nat}{a b:List Tm}(x:Ap B a)(y:Ap B b):Ap B (a++b):=λt ht=>(ab2.1 ht).elim (x t) (y t)
theorem Ap.mono{B B':Nat}{a:List Tm}(x:Ap B a)(h:B<=B'):Ap B' a:=λt ht=>⟨(x t ht).1,by have:=(x t ht).2;omega⟩
theorem Ap.getD{B i:Nat}{l:List Tm}(x:Ap B l)(h:i<l.length):Be (l.getD i fW)=true/\ax (l.getD i fW)<=B:=by
 rw[acn,ab1 h];exact x _ (acB h)
def aaF(B:Nat)(l:List Tm):Bool:=l.all λt=>Be t&&decide (ax t<=B)
theorem yi{B:Nat}{l:List Tm}(h:aaF B l=true):Ap B l:=λt ht=>by
 have:=abX.1 h t ht;simpa using this
theorem Cp:Ap 20 vO:=yi (by kernel_rfl)
theorem Cq:Ap 20 qT:=yi (by kernel_rfl)
theorem mR:vO.length=7:=rfl
theorem tf:qT.length=4:=rfl
theorem VU:Be NU=true/\ax NU<=20:=by
 have:=yi (B:=20) (l:=[NU]) (by kernel_rfl) NU (by simp);exact this
theorem Y8:Ue yh=true/\Ue iW=true/\Ue fK=true/\Ue gq=true:=by
 refine⟨?_,?_,?_,?_⟩ <;>kernel_rfl
theorem aaG:yh.size=4/\iW.size=3/\fK.size=4/\gq.size=4:=by
 refine⟨?_,?_,?_,?_⟩ <;>kernel_rfl
theorem I5{s:ByteArray}{l:List Tm}(h:Ue s=true)(hl:∀t∈l,Be t=true):Be (.mk 3 s 0 l)=true:=by
 simp only[Ue,ab4]at h;refine gZ.2 ⟨qe.2 ⟨λ_=>h.1,λt ht=>(gZ.1 (hl t ht)).1⟩,VS ?_ λt ht=>(gZ.1 (hl t ht)).2⟩;simp only[okN,Tm.k,Tm.s,ab4,acs];exact⟨⟨.inl rfl,h.2⟩,.inl rfl⟩
theorem Rr{s:ByteArray}{a:Tm}(h:Ue s=true)(ha:Be a=true):Be (.mk 3 s 0 [a])=true:=I5 h λt ht=>by simp at ht;rw[ht];exact ha
theorem Cr{s:ByteArray}{a b:Tm}(h:Ue s=true)(ha:Be a=true)(hb:Be b=true):Be (.mk 3 s 0 [a,b])=true:=I5 h λt ht=>by
 simp at ht;rcases ht with rfl |rfl;exact ha;exact hb
def NW(B:Nat):Nat->Nat
 |0=>B
 |f+1=>2 * NW B f+30
theorem I6(B:Nat):∀f,B<=NW B f
 |0=>abZ _
 |f+1=>by have:=I6 B f;simp only[NW];omega
theorem yj{b:List Nat}{l:List Tm}{B:Nat}(h0:0<l.length)(h:Ap B l):∀f i,Be (iD b l f i).1=true/\ax (iD b l f i).1<=NW B f/\i<(iD b l f i).2/\(iD b l f i).2+1<=i+2^ (f+1)
 |0,i=>by
  obtain⟨h1,h2⟩:=h.getD (aes (iz b i / 2) h0);exact⟨h1,h2,by simp[iD],by simp[iD]⟩
 |f+1,i=>by
  obtain⟨h1,h2⟩:=h.getD (aes (iz b i / 2) h0);have h2:ax (NV b l i)<=B:=h2;obtain⟨a1,a2,a3,a4⟩:=yj h0 h f (i+1);obtain⟨b1,b2,b3,b4⟩:=yj h0 h f (iD b l f (i+1)).2;obtain⟨p1,p2⟩:=VU;obtain⟨f1,f2,f3,f4⟩:=Y8;obtain⟨s1,s2,s3,s4⟩:=aaG;have hp:2^ (f+1+1)=2^ (f+1)+2^ (f+1):=by rw[Nat.pow_succ];omega
  have FX:1<=2^ (f+1):=Nat.one_le_two_pow;have hg:=I6 B f;unfold iD;generalize iD b l f (iD b l f (i+1)).2=Y at *;generalize iD b l f (i+1)=fo at *;simp only[NW]
  split
  exact⟨h1,by simp only;omega,by simp,by simp only[hp];omega⟩
  ·split
   exact⟨Rr f1 a1,by simp only[ax,br];omega,by simp only;omega,by simp only;omega⟩
   ·split
    exact⟨Cr f2 a1 b1,by simp only[ax,br];omega,by simp only;omega,by simp only;omega⟩
    ·split
     exact⟨Cr f3 a1 p1,by simp only[ax,br];omega,by simp only;omega,by simp only;omega⟩;exact⟨Cr f4 a1 b1,by simp only[ax,br];omega,by simp only;omega,by simp only;omega⟩
def jh(x:List Nat):List Nat:=x++[0,0]
def MF(b:List Nat)(bd:List Tm)(n:Nat):List Tm:=(List.range n).map λk=>(iD b (vO++bd) 2 (1+3 * k)).1
def VV(b:List Nat):Tm:=if iz b 0 / 3 % 3=0 then qT.getD (iz b 1 % 4) fW else(iD b (vO++qT) 2 7).1
structure Qu where
 kn:List Tm
 bd:List Tm
 out:List fq
def uM(s:Qu)(x:List Nat):Qu:=
 ⟨s.kn++MF (jh x) s.bd (iz (jh x) 0 % 3),s.bd++bL (VV (jh x)),s.out++[⟨s.kn++MF (jh x) s.bd (iz (jh x) 0 % 3),VV (jh x)⟩]⟩
def c8(l:List (List Nat)):Qu:=l.foldl uM ⟨[],[],[]⟩
def l6(l:List (List Nat)):List fq:=(c8 (l.take 5)).out
theorem vP(l:List (List Nat))(x:List Nat):c8 (l++[x])=uM (c8 l) x:=by simp[c8]
theorem NX(b:List Nat)(bd:List Tm)(n:Nat):MF b bd (n+1)=MF b bd n++[(iD b (vO++bd) 2 (1+3 * n)).1]:=by simp[MF,List.range_succ]
theorem xm(b:List Nat)(bd:List Tm)(n:Nat):(MF b bd n).length=n:=by simp[MF]
theorem NY(b:List Nat):Be (VV b)=true/\ax (VV b)<=170:=by
 unfold VV
 split
 ·obtain⟨h1,h2⟩:=Cq.getD (i:=iz b 1 % 4) (by rw[tf];omega);exact⟨h1,by omega⟩
 ·obtain⟨h1,h2,_⟩:=yj (b:=b) (l:=vO++qT) (B:=20) (by simp[mR];omega) (Cp.db Cq) 2 7;exact⟨h1,h2⟩
theorem NZ{B:Nat}{t:Tm}(h:Be t=true/\ax t<=B):Ap B (bL t):=λy hy=>by
 have hp:=((iM t y).1 hy).1;obtain⟨h1,h2⟩:=gZ.1 h.1;exact⟨gZ.2 ⟨tg h1 hp,VT h2 hp⟩,by have:=j4 hy;omega⟩
theorem VW{b:List Nat}{bd:List Tm}(h:Ap 170 bd)(n:Nat):Ap 770 (MF b bd n):=λt ht=>by
 obtain⟨k,_,rfl⟩:=aci.1 ht;obtain⟨h1,h2,_⟩:=yj (b:=b) (l:=vO++bd) (B:=170) (by simp[mR];omega) ((Cp.mono (by omega)).db h) 2 (1+3 * k);exact⟨h1,h2⟩
structure aaH(n:Nat)(s:Qu):Prop where
 kl:s.kn.length<=2 * n
 bl:s.bd.length<=170 * n
 ol:s.out.length=n
 kf:Ap 770 s.kn
 bf:Ap 170 s.bd
 of:∀d∈s.out,d.kn.length<=2 * n/\Ap 770 d.kn/\Be d.tm=true/\ax d.tm<=170
theorem nP(n:Nat):∀l:List (List Nat),l.length=n->aaH n (c8 l):=by
 induction n with
 |zero=>
  intro l h
  obtain rfl:=acd h;exact⟨by simp[c8],by simp[c8],rfl,λ_ h=>(by cases h),λ_ h=>(by cases h),λ_ h=>(by cases h)⟩
 |succ n ih=>
  intro l h
  obtain⟨p,x,rfl⟩:∃p x,l=p++[x]:=⟨l.dropLast,l.getLast (by intro hh;rw[hh]at h;cases h),(List.dropLast_concat_getLast _).symm⟩;have a:=ih p (by simpa using h);rw[vP];have ht:=NY (jh x);have hk:=VW (b:=jh x) a.bf (iz (jh x) 0 % 3);have hv:=fy (VV (jh x));have hm:iz (jh x) 0 % 3<=2:=by omega
  have a1:=a.kl;have a2:=a.bl;have a3:=a.ol;refine⟨?_,?_,?_,a.kf.db hk,a.bf.db (NZ ht),λd hd=>?_⟩;simp only[uM,ab3,xm];omega;simp only[uM,ab3];omega;simp only[uM,ab3,ab9,acz];omega
  ·rcases ab2.1 hd with hd |hd
   ·obtain⟨q1,q2⟩:=a.of d hd;exact⟨by omega,q2⟩
   ·simp at hd;subst hd;exact⟨by simp only[ab3,xm];omega,a.kf.db hk,ht⟩
theorem yk(l:List (List Nat)):(l6 l).length<=5/\∀d∈l6 l,d.kn.length<=10/\Ap 770 d.kn/\Be d.tm=true/\ax d.tm<=170:=by
 have hn:(l.take 5).length<=5:=by simp;omega
 have a:=nP _ (l.take 5) rfl;have a3:=a.ol;unfold l6;exact⟨by omega,λd hd=>⟨by have:=(a.of d hd).1;omega,(a.of d hd).2⟩⟩
theorem GO(l:List (List Nat)):(bH (l6 l)).length<=4/\∀y∈bH (l6 l),y∈qT:=by
 have iB:∀y∈bH (l6 l),y∈qT:=λy hy=>by
  simp only[bH,acO,decide_eq_true_eq]at hy;obtain⟨hy,hk⟩:=hy;obtain⟨t,ht,hp⟩:=bF.1 ((cq _ _).1 hy);obtain⟨d,hd,ht⟩:=acL.1 ht;obtain⟨_,h1,h2,_⟩:=(yk l).2 d hd
  have hf:Be t=true:=by
   rcases ab2.1 ht with h |h;exact(h1 t h).1;simp at h;rw[h];exact h2
  exact(I4 (gZ.1 hf).2 hp).1 hk
 refine⟨?_,iB⟩
 have he:bH (l6 l)=(fJ qT).filter (λy=>bJ (bH (l6 l)) y):=mM (gN (gp _)) (gN (gp _)) λy=>by
  constructor
  exact λh=>acO.2 ⟨(cq _ _).2 (iB y h),bX.2 h⟩;exact λh=>bX.1 (acO.1 h).2
 have h1:=acV (λy=>bJ (bH (l6 l)) y) (fJ qT);have h2:=qb qT;rw[tf]at h2;rw[he];omega
def fM(l:List Nat):List PV:=l.map λ(n:Nat)=>PV.int .u8 (n:Int)
def ij(l:List (List Nat)):List PV:=l.map λx=>.aa false (fM x)
def KA(l:List Nat):Prop:=∀n∈l,n<=255
@[simp] theorem nQ(l:List Nat):(fM l).length=l.length:=by simp[fM]
@[simp] theorem uO(l:List (List Nat)):(ij l).length=l.length:=by simp[ij]
@[simp] theorem XD(l:List Nat):ao (fM l)=true:=by induction l with |nil=>rfl |cons x l ih=>simpa[fM]using ih
@[simp] theorem XE(l:List Nat):aQ (fM l)=fM l:=by induction l with |nil=>rfl |cons x l ih=>simpa[fM]using ih
@[simp] theorem V0(l:List (List Nat)):ao (ij l)=true:=by induction l with |nil=>rfl |cons x l ih=>simpa[ij]using ih
@[simp] theorem V1(l:List (List Nat)):aQ (ij l)=ij l:=by induction l with |nil=>rfl |cons x l ih=>simpa[ij]using ih
theorem N9(a b:List Nat):fM (a++b)=fM a++fM b:=by simp[fM]
theorem Eb{l p q:List (List Nat)}{x:List Nat}(e:l=p++x::q):(ij l)[p.length]?=some (.aa false (fM x)):=by rw[ij,e];simp
theorem qf{l:List Nat}{i:Nat}(h:i<l.length):(fM l)[i]?=some (.int .u8 (iz l i:Int)):=by
 simp[fM,iz,acn,h]
theorem Cv{l:List Nat}(h:KA l)(i:Nat):iz l i<=255:=by
 unfold iz;rw[acn]
 cases e:l[i]? with
 |none=>simp
 |some n=>exact h n (acb e)
theorem Cw{l:List Nat}{i:Nat}(h:¬i<l.length):iz l i=0:=by
 simp[iz,acn,ach (Nat.not_lt.1 h)]
theorem yo{l:List Tm}{i:Nat}(h:i<l.length):(ae l)[i]?=some (enc (l.getD i fW)):=by
 rw[dm];simp[acn,h]
open Go.Proofs Go.ChangeShapes Go.WideShapes
set_option maxRecDepth 100000
set_option maxHeartbeats 2000000
theorem Uu{α:Type}:∀(l:List α),(l.map λ_=>1).sum=l.length
 |[]=>rfl
 |_::l=>by rw[acg,aeA,Uu l,ab9];omega
theorem EZ{α:Type}(f:α->Nat):∀{l:List α} {x:α},x∈l->f x<=(l.map f).sum
 |y::l,x,h=>by
  rw[acg,aeA];rcases ab5.1 h with rfl |h;omega;have:=EZ f h;omega
theorem E0{α:Type}(f:α->Nat)(hf:∀x,1<=f x):∀(l:List α),l.length<=(l.map f).sum
 |[]=>by simp
 |y::l=>by have:=E0 f hf l;have:=hf y;rw[acg,aeA,ab9];omega
instance:Inhabited {n:Nat // n<=255}:=⟨⟨0,by decide⟩⟩
instance:Inhabited {l:List Nat // KA l}:=⟨⟨[],by intro x h;cases h⟩⟩
theorem aa6:C.P.cellsOf 5=1:=by kernel_rfl
theorem ZJ:C.P.cellsOf 41=1:=by kernel_rfl
open Go.Proofs.YtimogkojklpdnaaGreatDoor in
theorem ac{H:Type}{ec:TypeId×Value->H}{w:World}{sp:Nat->Bool}{held:Bool}{n:Nat}{cs:List Value}{x:DataW H×List MemPlace}(h:DataW.trod ec C.P w 0 sp held n 41 cs=some x):
  ∃(c:Value) (l:List Nat),cs=[c]/\cu w QG c (.aa false (fM l))/\KA l/\l.length+1<=Rows.uptoBulk x.1:=by
 obtain⟨c,l,hc,h1,h2⟩:=yV (E:={n:Nat // n<=255}) (λe=>.int .u8 (e.1:Int)) (λ_=>1) (bB (T6.cY 41 _ rfl)) aa6 (by decide) (λ_=>rfl) (λn cs x hx=>by
  obtain⟨k,rfl,rfl,hw⟩:=DataW.trod_int (oP (T6.cY 5 _ rfl)) hx
  have hk:0<=k/\k<=255:=by
   simp only[Lit.wf,decide_eq_true_eq,ab4]at hw;have h1:IntKind.u8.min=0:=rfl;have h2:IntKind.u8.max=255:=rfl;omega
  obtain⟨m,rfl⟩:=adr hk.1;exact⟨⟨m,by omega⟩,rfl,λj hj=>(by obtain rfl:j=0:=(by omega);exact .int _ _),by simp[Rows.uptoBulk]⟩) h
 refine⟨c,l.map (·.1),hc,by simpa[fM]using h1,λx hx=>?_,?_⟩;obtain⟨y,_,rfl⟩:=aci.1 hx;exact y.2
 ·rw[Uu]at h2;simp only[acW];exact h2
open Go.Proofs.YtimogkojklpdnaaGreatDoor in
theorem SI{H:Type}{ec:TypeId×Value->H}{w:World}{sp:Nat->Bool}{held:Bool}{n:Nat}{cs:List Value}{x:DataW H×List MemPlace}(h:DataW.trod ec C.P w 0 sp held n 40 cs=some x):
  ∃(c:Value) (l:List (List Nat)),cs=[c]/\cu w QG c (.aa false (ij l))/\(∀y∈l,KA y/\y.length<Rows.uptoBulk x.1)/\l.length<Rows.uptoBulk x.1:=by
 obtain⟨c,l,hc,h1,h2⟩:=yV (E:={l:List Nat // KA l}) (λe=>.aa false (fM e.1)) (λe=>e.1.length+1) (bB (T6.cY 40 _ rfl)) ZJ (by decide) (λ_=>rfl) (λn cs x hx=>by
  obtain⟨c,l,rfl,a1,a2,a3⟩:=ac hx;exact⟨⟨l,a2⟩,rfl,λj hj=>(by obtain rfl:j=0:=(by omega);exact a1),a3⟩) h
 refine⟨c,l.map (·.1),hc,by simpa[ij,adY,Function.comp_def]using h1,λy hy=>?_,?_⟩
 ·obtain⟨z,hz,rfl⟩:=aci.1 hy;have:=EZ (λe:{l:List Nat // KA l}=>e.1.length+1) hz;exact⟨z.2,by omega⟩
 ·have:=E0 (λe:{l:List Nat // KA l}=>e.1.length+1) (λx=>by omega) l;simp only[acW];omega
open Go.Proofs.YtimogkojklpdnaaGreatDoor in
theorem Pa{H:Type}{ec:TypeId×Value->H}{w:World}{base:Nat}{sp:Nat->Bool}{v:Value}{d:DataW H}{p:List MemPlace}(gk:Value.okWide C.P w .any base 40 v)(h:DataW.Trod ec C.P w 0 sp true 40 v d p):
  ∃l:List (List Nat),cu w QG v (.aa false (ij l))/\(∀y∈l,KA y/\y.length<Rows.uptoBulk d)/\l.length<Rows.uptoBulk d:=by
 obtain⟨n,hn⟩:=h;obtain⟨a,len,cap,rfl⟩:=okWide_slice (bB (T6.cY 40 _ rfl)) gk;obtain⟨c,l,hc,h1,h2⟩:=SI hn;obtain rfl:Value.slice a len cap=c:=by simpa[Value.cells]using hc
 exact⟨l,h1,h2⟩
end Go.Pm
namespace Go.Pm
theorem pd:∀{S:List eE} {x:Tm},(∃b∈S,b.v=x/\j0 S x=b.t)\/((∀b∈S,b.v≠x)/\j0 S x=x)
 |[],x=>.inr ⟨λb h=>(by cases h),rfl⟩
 |b::S,x=>by
  rw[j0]
  by_cases h:aW b.v x=0
  ·rw[if_pos h];exact .inl ⟨b,by simp,cy h,rfl⟩
  ·rw[if_neg h];rcases pd (S:=S) (x:=x)with⟨c,h1,h2,h3⟩|⟨h1,h2⟩;exact .inl ⟨c,by simp[h1],h2,h3⟩
   ·refine .inr ⟨λc hc=>?_,h2⟩;rcases ab5.1 hc with rfl |hc
    ·rintro rfl;exact h (cc _)
    exact h1 c hc
theorem Ec{l:List fq}{y:Tm}:y∈bH l↔∃d∈l,∃t∈d.kn++[d.tm],y∈bL t:=by
 rw[<-Ed,cq];simp only[acL]
 constructor
 rintro⟨t,⟨d,hd,ht⟩,hy⟩;exact⟨d,hd,t,ht,hy⟩;rintro⟨d,hd,t,ht,hy⟩;exact⟨t,⟨d,hd,ht⟩,hy⟩
theorem j8{S:List eE}{t:Tm}(h:t.k≠1):(bj S t).k=t.k/\(bj S t).s=t.s/\(bj S t).o=t.o/\(bj S t).l=bz S t.l:=by
 obtain⟨k,s,o,l⟩:=t;have h:k≠1:=h;rw[bj,if_neg h];exact⟨rfl,rfl,rfl,rfl⟩
theorem tj{t:Tm}(h:t.l=[]):∀z∈pre t,z=t:=by
 obtain⟨k,s,o,l⟩:=t;obtain rfl:l=[]:=h
 intro z hz
 simpa[pre,cd]using hz
def Lvs(ts:List Tm):Prop:=∀z∈cd ts,z.k=1->z.l=[]
theorem nT{ts:List Tm}{t:Tm}(h:t∈ts):t∈cd ts:=bF.2 ⟨t,h,eZ t⟩
theorem nU{ts:List Tm}{z c:Tm}(hz:z∈cd ts)(hc:c∈z.l):c∈cd ts:=by
 obtain⟨t,ht,h⟩:=bF.1 hz;exact bF.2 ⟨t,ht,lJ t z h c (tn hc)⟩
theorem Je{S:List eE}(t:Tm):(∀z∈pre t,z.k=1->z.l=[])->∀z∈pre t,bj S z∈pre (bj S t):=by
 induction t using Tm.ind with
 |h k s o l ih=>
  intro hl z hz
  by_cases hk:k=1
  ·rw[tj (hl _ (eZ _) hk) z hz];exact eZ _
  ·rw[pre]at hz;rcases ab5.1 hz with rfl |hz;exact eZ _
   ·obtain⟨u,hu,hz⟩:=bF.1 hz;rw[bj,if_neg hk,pre,bI];refine acX _ (bF.2 ⟨bj S u,aci.2 ⟨u,hu,rfl⟩,ih u hu (λy hy=>hl y ?_) z hz⟩);rw[pre];exact acX _ (bF.2 ⟨u,hu,hy⟩)
theorem Jf{Q:List eE}(hQ:∀b∈Q,b.t.l=[])(t:Tm):(∀z∈pre t,z.k=1->z.l=[])->∀y∈pre (bj Q t),∃z∈pre t,y=bj Q z:=by
 induction t using Tm.ind with
 |h k s o l ih=>
  intro hl y hy
  by_cases hk:k=1
  ·have h0:=hl _ (eZ _) hk;refine⟨_,eZ _,tj ?_ y hy⟩;rw[bj,if_pos hk];rcases pd (S:=Q) (x:=.mk k s o l)with⟨b,h1,_,h3⟩|⟨_,h2⟩;rw[h3];exact hQ b h1;rw[h2];exact h0
  ·rw[bj,if_neg hk,pre,bI]at hy;rcases ab5.1 hy with rfl |hy;exact⟨_,eZ _,by rw[bj,if_neg hk,bI]⟩
   ·obtain⟨u',RB,hy⟩:=bF.1 hy;obtain⟨u,hu,rfl⟩:=aci.1 RB;have iB:∀z∈pre u,z∈pre (.mk k s o l):=λz hz=>by rw[pre];exact acX _ (bF.2 ⟨u,hu,hz⟩)
    obtain⟨z,hz,e⟩:=ih u hu (λz hz=>hl z (iB z hz)) y hy;exact⟨z,iB z hz,e⟩
structure Ee(Q:List eE)(ts:List Tm):Prop where
 lv:Lvs ts
 at_:∀b∈Q,b.t.k=2/\b.t.l=[]/\nV b.t=false
 fr:∀b∈Q,b.t∉cd ts
 inj:∀b∈Q,∀c∈Q,b.t=c.t->b.v=c.v
 bd:∀z∈cd ts,z.k=1->∃b∈Q,b.v=z
theorem Ee.var{Q:List eE}{ts:List Tm}(F:Ee Q ts){z:Tm}(hz:z∈cd ts)(hk:z.k=1):∃b∈Q,b.v=z/\bj Q z=b.t:=by
 rcases pd (S:=Q) (x:=z)with⟨b,h1,h2,h3⟩|⟨h1,_⟩;exact⟨b,h1,h2,by obtain⟨k,s,o,l⟩:=z;have hk:k=1:=hk;rw[bj,if_pos hk,h3]⟩
 ·obtain⟨b,hb,e⟩:=F.bd z hz hk;exact absurd e (h1 b hb)
theorem Ee.top{Q:List eE}{ts:List Tm}(F:Ee Q ts){z:Tm}(hz:z∈cd ts)(hk:z.k≠1){b:eE}(hb:b∈Q)(e:bj Q z=b.t):False:=by
 have h1:=(F.at_ b hb).2.1;rw[<-e,(j8 hk).2.2.2,bI,List.map_eq_nil_iff]at h1;obtain⟨k,s,o,l⟩:=z;obtain rfl:l=[]:=h1;have hk:k≠1:=hk;rw[bj,if_neg hk,bz]at e;exact F.fr b hb (e▸hz)
theorem Ef{f:Tm->Tm}:∀{l l':List Tm},(∀a∈l,∀b∈l',f a=f b->a=b)->l.map f=l'.map f->l=l'
 |[],[],_,_=>rfl
 |[],b::l',_,e=>by simp at e
 |a::l,[],_,e=>by simp at e
 |a::l,b::l',h,e=>by
  simp only[acg,adL]at e;rw[h a (by simp) b (by simp) e.1,Ef (λx hx y hy=>h x (by simp[hx]) y (by simp[hy])) e.2]
theorem Ee.eq{Q:List eE}{ts:List Tm}(F:Ee Q ts)(z:Tm):z∈cd ts->∀z'∈cd ts,bj Q z=bj Q z'->z=z':=by
 induction z using Tm.ind with
 |h k s o l ih=>
  intro hz z' ux e
  by_cases hk:k=1
  ·obtain⟨b,hb,hv,hp⟩:=F.var hz hk
   by_cases fZ:z'.k=1
   ·obtain⟨c,hc,xR,Wf⟩:=F.var ux fZ;rw[<-hv,<-xR];exact F.inj b hb c hc (by rw[<-hp,<-Wf,e])
   exact(F.top ux fZ hb (by rw[<-e,hp])).elim
  ·by_cases fZ:z'.k=1
   ·obtain⟨c,hc,xR,Wf⟩:=F.var ux fZ;exact(F.top hz hk hc (by rw[e,Wf])).elim
   ·obtain⟨k',s',o',l'⟩:=z';have fZ:k'≠1:=fZ;rw[bj,if_neg hk,bj,if_neg fZ,bI,bI]at e
    injection e with e1 e2 e3 e4
    subst e1 e2 e3
    congr 1
    exact Ef (λa ha b hb he=>ih a ha (nU hz ha) b (nU ux hb) he) e4
theorem jF{S:List eE}{z:Tm}(h:z.k≠1)(n:ByteArray):dg (bj S z) n=dg z n:=by
 obtain⟨h1,h2,_⟩:=j8 (S:=S) h;rw[dg,dg,h1,h2]
theorem Bk{S:List eE}{z:Tm}(h:z.k≠1):iX (bj S z)=(iX z).map (bj S):=by
 have h4:=(j8 (S:=S) h).2.2.2;rw[bI]at h4;unfold iX;rw[jF h,jF h,h4]
 split
 rfl
 ·split
  rw[List.map_take]
  rfl
theorem jG{S:List eE}{z:Tm}{i:Nat}(h:z.k≠1)(hi:i<z.l.length):eN (bj S z) i=bj S (eN z i):=by
 have h4:=(j8 (S:=S) h).2.2.2;rw[bI]at h4;simp[eN,h4,acn,hi]
theorem qX{z:Tm}{i:Nat}(hi:i<z.l.length):eN z i∈z.l:=by
 simp[eN,acn,hi]
theorem Jg{S:List eE}{z:Tm}(h:z.k≠1):nV (bj S z)=nV z:=by
 obtain⟨h1,h2,h3,h4⟩:=j8 (S:=S) h
 have h5:(bz S z.l).isEmpty=z.l.isEmpty:=by
  rw[bI]
  cases z.l <;>rfl
 unfold nV;rw[h1,h2,h3,h4,h5]
theorem Ee.k1{Q:List eE}{ts:List Tm}(F:Ee Q ts){z:Tm}(hz:z∈cd ts)(h:(bj Q z).k=3):z.k≠1:=λhk=>by
 obtain⟨b,hb,_,hp⟩:=F.var hz hk;rw[hp,(F.at_ b hb).1]at h;omega
theorem Of{Q S:List eE}{ts:List Tm}(F:Ee Q ts){z:Tm}(hz:z∈cd ts)(hk:jH (bj Q z)=0)(hS:gY (bj S z)=0):
  z.k≠1/\eN z 0∈z.l/\eN (bj Q z) 0=bj Q (eN z 0)/\eN (bj S z) 0=bj S (eN z 0)/\jH (bj S z)=0/\∃c∈pre z,ck (bj Q z)=bj Q c/\ck (bj S z)=bj S c:=by
 obtain⟨h1,h2⟩:=lL hk;rcases h2 with⟨h2,h3⟩|⟨h2,h4,h3⟩
 ·have uQ:=F.k1 hz (tq h2).1;obtain⟨a,b,e⟩:=ly h1 h2 yr.2.1;have hl:z.l.length=2:=by rw[<-dH Q,<-(j8 uQ).2.2.2,e];rfl
  rw[jF uQ]at h2;have hE:jH (bj S z)=0:=by rw[jH,if_neg (by omega),jF uQ,h2,if_pos rfl]
  refine⟨uQ,qX (by omega),jG uQ (by omega),jG uQ (by omega),hE,eN z 1,tn (qX (by omega)),by rw[h3,jG uQ (by omega)],?_⟩;rw[ck,if_neg (by omega),jF uQ,h2,if_pos rfl,jG uQ (by omega)]
 ·have uQ:=F.k1 hz (tq h2).1;obtain⟨a,b,e⟩:=ly h1 h2 yr.2.2.1;have hl:z.l.length=2:=by rw[<-dH Q,<-(j8 uQ).2.2.2,e];rfl
  have iB:=qX (z:=z) (i:=1) (by omega);have uo:gY (eN (bj Q z) 1)=0:=pf h1 (qX (by rw[(j8 uQ).2.2.2,dH];omega));rw[jG uQ (by omega)]at h3 h4 uo;have xT:=F.k1 (nU hz iB) (tq h4).1;obtain⟨c,e2⟩:=tu uo h4 yr.2.2.2.2;have dp:(eN z 1).l.length=1:=by rw[<-dH Q,<-(j8 xT).2.2.2,e2];rfl
  rw[jF uQ]at h2;rw[jF xT]at h4;have bO:=sf h2 l9.2.2.2.2.2
  have hE:jH (bj S z)=0:=by
   rw[jH,if_neg (by omega),jF uQ,jF uQ,bO,if_neg (by simp),h2,if_neg (by simp),jG uQ (by omega),jF xT,h4,if_neg (by simp)]
  refine⟨uQ,qX (by omega),jG uQ (by omega),jG uQ (by omega),hE,eN (eN z 1) 0,lJ z _ (tn iB) _ (tn (qX (by omega))),by rw[h3,jG xT (by omega)],?_⟩;rw[ck,if_neg (by omega),jF uQ,bO,if_neg (by simp),jG uQ (by omega),jG xT (by omega)]
theorem RC{Q S:List eE}{kn ex:List Tm}{tm:Tm}(F:Ee Q ((kn++ex)++[tm]))(U':xo (de (bz Q (kn++ex)++[bj Q tm])))(U:xo (de (bz S kn++[bj S tm])))
  (hx:∀x∈ex,x.k=1/\(x∈cd (kn++[tm])->oD (de (bz S kn++[bj S tm])) (fJ (bz S kn)) (bj S x))) {y:Tm} (h:oD (de (bz Q (kn++ex)++[bj Q tm])) (fJ (bz Q (kn++ex))) y):
  ∀z∈cd (kn++[tm]),y=bj Q z->oD (de (bz S kn++[bj S tm])) (fJ (bz S kn)) (bj S z):=by
 have yu:∀z∈cd (kn++[tm]),z∈cd ((kn++ex)++[tm]):=λz hz=>by
  obtain⟨t,ht,h⟩:=bF.1 hz;refine bF.2 ⟨t,?_,h⟩;simp only[ab2]at ht ⊢;rcases ht with h |h;exact .inl (.inl h);exact .inr h
 have zZ:∀{t:Tm},t∈(kn++ex)++[tm]->∀z∈pre t,z.k=1->z.l=[]:=λht z hz=>F.lv z (bF.2 ⟨_,ht,hz⟩)
 have hu:∀z∈cd (kn++[tm]),bj S z∈de (bz S kn++[bj S tm]):=λz hz=>by
  obtain⟨t,ht,h⟩:=bF.1 hz;refine(cq _ _).2 (bF.2 ⟨bj S t,?_,Je t (zZ ?_) z h⟩)
  ·rw[bI];simp only[ab2,aci,acv]at ht ⊢;rcases ht with h |h;exact .inl ⟨t,h,rfl⟩;exact .inr (by rw[h])
  ·simp only[ab2]at ht ⊢;rcases ht with h |h;exact .inl (.inl h);exact .inr h
 have hU':∀y∈de (bz Q (kn++ex)++[bj Q tm]),∃z∈cd ((kn++ex)++[tm]),y=bj Q z:=λy hy=>by
  obtain⟨t',RD,hy⟩:=bF.1 ((cq _ _).1 hy)
  obtain⟨t,ht,rfl⟩:∃t∈(kn++ex)++[tm],t'=bj Q t:=by
   rw[bI]at RD;rcases ab2.1 RD with h |h
   ·obtain⟨t,ht,rfl⟩:=aci.1 h;exact⟨t,ac0 _ ht,rfl⟩
   simp at h;exact⟨tm,by simp,h⟩
  obtain⟨z,hz,e⟩:=Jf (λb hb=>(F.at_ b hb).2.1) t (zZ ht) y hy;exact⟨z,bF.2 ⟨t,ht,hz⟩,e⟩
 have Dj:∀x∈fJ (bz Q (kn++ex)),x∈de (bz Q (kn++ex)++[bj Q tm]):=λx hx=>(cq _ _).2 (nT (ac0 _ ((cq _ _).1 hx)))
 have iB:∀z∈cd ((kn++ex)++[tm]),z.k≠1->z∈cd (kn++[tm]):=λz hz hk=>by
  obtain⟨t,ht,h⟩:=bF.1 hz;rcases ab2.1 ht with ht |ht
  ·rcases ab2.1 ht with ht |ht;exact bF.2 ⟨t,by simp[ht],h⟩
   ·have h1:=(hx t ht).1;have h2:=F.lv t (nT (by simp[ht])) h1;rw[tj h2 z h]at hk;exact absurd h1 hk
  exact bF.2 ⟨t,ael _ ht,h⟩
 induction h with
 | @base t h=>
  intro z hz e
  have h:=(cq _ _).1 h;rw[bI]at h;obtain⟨z0,h0,e0⟩:=aci.1 h;have hz0:z0=z:=F.eq z0 (nT (ac0 _ h0)) z (yu z hz) (by rw[e0,e]);subst hz0;rcases ab2.1 h0 with h1 |h1;exact .base ((cq _ _).2 (by rw[bI];exact aci.2 ⟨z0,h1,rfl⟩));exact(hx z0 h1).2 hz
 | @RE t h1 h2=>
  rintro z hz rfl
  by_cases hk:z.k=1
  ·obtain⟨b,hb,_,hp⟩:=F.var (yu z hz) hk;rw[hp,(F.at_ b hb).2.2]at h2
   cases h2
  ·rw[Jg hk]at h2;exact .RE (hu z hz) (by rw[Jg hk];exact h2)
 | @comp t h1 h2 _ ih=>
  rintro z hz rfl
  have h3:(bj Q z).k=3:=by
   simp only[rH,ab4,decide_eq_true_eq]at h2;exact h2.1
  have hk:=F.k1 (yu z hz) h3;obtain⟨q1,q2,_,q4⟩:=j8 (S:=Q) hk;obtain⟨r1,r2,_,r4⟩:=j8 (S:=S) hk;refine .comp (hu z hz) ?_ λx hx=>?_
  ·rw[rH,q1,q2]at h2;rw[rH,r1,r2];exact h2
  ·rw[r4,bI]at hx;obtain⟨c,hc,rfl⟩:=aci.1 hx;exact ih (bj Q c) (by rw[q4,bI];exact aci.2 ⟨c,hc,rfl⟩) c (nU hz hc) rfl
 | @part t x hd hx ih=>
  rintro z hz rfl;obtain⟨z',ux,rfl⟩:=hU' t (oD.mem U' Dj hd)
  have h3:(bj Q z').k=3:=by
   unfold iX at hx
   split at hx
   ·rename_i h;exact(tq h).1
   ·split at hx
    ·rename_i h;exact(tq h).1
    cases hx
  have hk:=F.k1 ux h3;have KK:=iB z' ux hk;rw[Bk hk]at hx;obtain⟨c,hc,e⟩:=aci.1 hx;have hcz:c=z:=F.eq c (nU ux (uR hc)) z (yu z hz) e;subst hcz;exact .part (ih z' KK rfl) (by rw[Bk hk];exact aci.2 ⟨c,hc,rfl⟩)
 | @«open»t hd hk Kl ih1 ih2=>
  intro z hz e
  obtain⟨z',ux,rfl⟩:=hU' t (oD.mem U' Dj hd)
  have h3:(bj Q z').k=3:=by
   rcases(lL hk).2 with⟨h,_⟩|⟨h,_⟩ <;>exact(tq h).1
  have KK:=iB z' ux (F.k1 ux h3);obtain⟨g1,g2,g3,g4,g5,c,g6,g7,g8⟩:=Of (S:=S) F ux hk (U.ok _ (hu z' KK))
  have hc:c∈cd (kn++[tm]):=by
   obtain⟨t,ht,h⟩:=bF.1 KK;exact bF.2 ⟨t,ht,lJ t z' h c g6⟩
  have hkz:eN z' 0=z:=F.eq _ (nU ux g2) z (yu z hz) (by rw[<-g3,e]);subst hkz;rw[<-g4];refine .open (ih1 z' KK rfl) g5 ?_;rw[g8];exact ih2 c hc g7
mutual
def BE:PV->PV->Bool
 | .int k n,.int k' n'=>decide (k=k')&&decide (n=n')
 | .bool a,.bool b=>a==b
 | .str a,.str b=>a.data.toList==b.data.toList
 | .agg cs,.agg ds=>CR cs ds
 | .cA cs,.cA ds=>CR cs ds
 | .aa f cs,.aa g ds=>(f==g)&&CR cs ds
 | .gS,.gS=>true
 | .eK,.eK=>true
 | .aG,.aG=>true
 |_,_=>false
def CR:List PV->List PV->Bool
 |[],[]=>true
 |c::cs,d::ds=>BE c d&&CR cs ds
 |_,_=>false
end
mutual
theorem Pg:∀{a b:PV},BE a b=true->a=b
 | .int k n,b,h=>by cases b <;>simp[BE]at h;rw[h.1,h.2]
 | .bool x,b,h=>by cases b <;>simp[BE]at h;rw[h]
 | .str x,b,h=>by
  cases b <;>simp[BE]at h
  rename_i y
  cases x;cases y
  simp at h;rw[h]
 | .agg cs,b,h=>by cases b <;>simp[BE]at h;rw[tO h]
 | .cA cs,b,h=>by cases b <;>simp[BE]at h;rw[tO h]
 | .aa f cs,b,h=>by cases b <;>simp[BE]at h;rw[h.1,tO h.2]
 | .gS,b,h=>by cases b <;>simp[BE]at h;rfl
 | .eK,b,h=>by cases b <;>simp[BE]at h;rfl
 | .aG,b,h=>by cases b <;>simp[BE]at h;rfl
 | .ak ..,b,h=>by simp[BE]at h
 | .ptr ..,b,h=>by simp[BE]at h
 | .eW _,b,h=>by simp[BE]at h
 | .cG _,b,h=>by simp[BE]at h
 | .fn ..,b,h=>by simp[BE]at h
 | .oE ..,b,h=>by simp[BE]at h
 | .undef,b,h=>by simp[BE]at h
 | .any,b,h=>by simp[BE]at h
theorem tO:∀{a b:List PV},CR a b=true->a=b
 |[],b,h=>by cases b <;>simp[CR]at h;rfl
 |c::cs,b,h=>by
  cases b with
  |nil=>simp[CR]at h
  |cons d ds=>
   simp only[CR,ab4]at h;rw[Pg h.1,tO h.2]
end
abbrev lQ:=List (FuncId×List PV×PV)
def ZM(m:lQ)(f:FuncId)(args:List PV):Option PV:=(m.find? λx=>Nat.beq x.1 f&&CR x.2.1 args).map (·.2.2)
def lR(m:lQ)(md:FuncId->Mode)(f:FuncId):Mode:=if m.any (λx=>Nat.beq x.1 f)=true then .ext (ZM m f)else md f
variable{P:Program}{md:FuncId->Mode}
def kX(P:Program)(md:FuncId->Mode)(m:lQ):Prop:=∀x∈m,md x.1=.pure/\aI ⟨P,md⟩ x.1 x.2.1 x.2.2
theorem BF:∀{m:lQ},kX P md m->∃n0,∀x∈m,md x.1=.pure/\∀n,n0<=n->∃r0 hc r1,fF ⟨P,md⟩ n x.1 x.2.1 []=some (r0,hc)/\AK hc r0=some r1/\cj r1=x.2.2
 |[],_=>⟨0,λx hx=>by cases hx⟩
 |y::m,h=>by
  obtain⟨n1,h1⟩:=BF (m:=m) λx hx=>h x (by simp[hx])
  obtain⟨hp,n2,h2⟩:=h y (by simp);refine⟨max n1 n2,λx hx=>?_⟩;rcases ab5.1 hx with rfl |hx;exact⟨hp,λn hn=>h2 n (by omega)⟩;exact⟨(h1 x hx).1,λn hn=>(h1 x hx).2 n (by omega)⟩
theorem JA{m:lQ}{n0:Nat}(hm:∀x∈m,md x.1=.pure/\∀n,n0<=n->∃r0 hc r1,fF ⟨P,md⟩ n x.1 x.2.1 []=some (r0,hc)/\AK hc r0=some r1/\cj r1=x.2.2):∀n,iO (fF ⟨P,lR m md⟩ n) (fF ⟨P,md⟩ (n+n0))
 |0=>λf args h x e=>by cases e
 |n+1=>by
  have ih:=JA hm n;rw[show n+1+n0=(n+n0)+1 by omega];refine E5 (P:=P) (md:=lR m md) (md':=md) (run:=fF ⟨P,lR m md⟩ n) (run':=fF ⟨P,md⟩ (n+n0)) ?_ (by omega)
  intro lv f args h x e
  by_cases hf:m.any (λx=>Nat.beq x.1 f)=true
  ·unfold dn at e;simp only[lR,if_pos hf]at e
   split at e
   ·rename_i hv
    obtain⟨r,hr,rfl⟩:=acQ.1 e;obtain⟨y,hy,rfl⟩:=acQ.1 hr;have RZ:=List.find?_some hy;have hy2:=List.mem_of_find?_eq_some hy;simp only[ab4]at RZ;obtain rfl:=acP RZ.1;have ha:=tO RZ.2;obtain⟨hp,hq⟩:=hm y hy2;obtain⟨r0,hc,r1,e1,e2,e3⟩:=hq (n+n0) (by omega);unfold dn;rw[show(⟨P,md⟩:cW).mode y.1=.pure from hp];rw[ha]at e1;simp only[dx,hv,if_true,e1,e2,e3]
   cases e
  ·have hmd:lR m md f=md f:=if_neg hf;unfold dn at e ⊢;simp only[hmd]at e
   cases hq:md f <;>simp only[hq]at e ⊢
   cases e
   exact np ih e;exact nq ih e;exact e;exact kz (λ_ _ _ x=>x) e;exact e
theorem aI.Yo{m:lQ}(hm:kX P md m){f:FuncId}{args:List PV}{r:PV}(a:aI ⟨P,lR m md⟩ f args r):aI ⟨P,md⟩ f args r:=by
 obtain⟨n0,hq⟩:=BF hm;obtain⟨n1,hn⟩:=a;refine⟨n1+n0,λn h1=>?_⟩;obtain⟨r0,hc,r1,e1,e2⟩:=hn (n - n0) (by omega);refine⟨r0,hc,r1,?_,e2⟩;have:=JA hq (n - n0) _ _ _ _ e1;rwa[show n - n0+n0=n by omega]at this
def Ph:Mode->Bool | .pure=>true |_=>false
theorem Lv{m:Mode}(h:Ph m=true):m=.pure:=by cases m <;>first |rfl |cases h
def mI(P:Program)(md:FuncId->Mode)(n:Nat)(rows:lQ):Bool:=rows.all λx=>match pR ⟨P,md⟩ n x.1 x.2.1 with
 |some r=>BE r x.2.2
 |none=>false
theorem lS{m rows:lQ}{n:Nat}(hm:kX P md m)(h1:mI P (lR m md) n rows=true)(h2:(rows.all λx=>Ph (md x.1))=true):kX P md (rows++m):=by
 intro x hx
 rcases ab2.1 hx with hx |hx
 ·refine⟨Lv (abX.1 h2 x hx),?_⟩;have h3:=abX.1 h1 x hx
  split at h3
  ·rename_i r hr
   rw[<-Pg h3];exact aI.Yo hm (aI.iS hr)
  cases h3
 exact hm x hx
end Go.Pm
