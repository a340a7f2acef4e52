/-
  A part of the library Pm (joined by program). Conditions: none.
-/
import Derived.Test.YtimogkojklpdnaaGreatDoorPyAA
import Derived.Test.YtimogkojklpdnaaGreatDoorPyAH
import Derived.Test.YtimogkojklpdnaaGreatDoorPyAE
import Derived.Test.YtimogkojklpdnaaGreatDoorPyAG
set_option linter.unusedVariables false
set_option linter.unusedSimpArgs false
set_option linter.unnecessarySimpa false
namespace Go.Pm
def eV(t:Tm)(n:ByteArray):Bool:=decide (t.k=3)&&gO t.s n
def fy(t:Tm)(i:Nat):Tm:=t.l.getD i eU
def iP(t:Tm):Bool:=every Bz t
def nG:ByteArray:=⟨#[103]⟩
def LS(s:List UInt8):Bool:=!s.isEmpty&&s.all λc=>pt c.toNat
def IB(s:List UInt8):Bool:=(s.take 2==[101,35])&&LS (s.drop 2)
def ti(t:Tm):Bool:=
 if t.k=3 then(gO t.s jx ||gO t.s tE)&&t.l.isEmpty
 else if t.k≠2 then false
 else if t.o=1\/t.o=5 then true
 else if t.o=4 then gO t.s nG ||IB t.s.toList
 else if t.o=0\/t.o=2\/t.o=3 then IB t.s.toList
 else false
def QP(s:ByteArray):Bool:=gO s j3 ||gO s jG ||gO s fK ||gO s H6 ||gO s mV ||gO s wB
def qx(t:Tm):Bool:=decide (t.k=3)&&QP t.s
def pg(t:Tm):Int:=if ky t≠0 then ky t else if eV t jG=true then 0 else if eV t fK=false then 10 else if eV (fy t 1) H6=false then 4 else 0
def oe(t:Tm):Tm:=if pg t≠0 then eU else if eV t jG=true then fy t 1 else fy (fy t 1) 0
def kj(t:Tm):List Tm:=if eV t j3=true then t.l else if eV t mV=true then t.l.take 1 else[]
inductive oq(u s:List Tm):Tm->Prop
 |base {t:Tm}:t∈s->oq u s t
 |Tg {t:Tm}:t∈u->ti t=true->oq u s t
 |comp {t:Tm}:t∈u->qx t=true->(∀x∈t.l,oq u s x)->oq u s t
 |part {t x:Tm}:oq u s t->x∈kj t->oq u s x
 |open {t:Tm}:oq u s t->pg t=0->oq u s (oe t)->oq u s (fy t 0)
def xn(s:List Tm)(u:Tm):Bool:=qx u&&u.l.all (cN s)
def uv(s:List Tm)(u t:Tm):Bool:=
 if eV t j3=true then decide (aU (fy t 0) u=0)||decide (aU (fy t 1) u=0)
 else if eV t mV=true then decide (aU (fy t 0) u=0)
 else if eV t jG ||eV t fK then decide (pg t=0)&&decide (aU (fy t 0) u=0)&&cN s (oe t)
 else false
def uq(s:List Tm)(u:Tm):Bool:=s.any (uv s u)
def mU(s:List Tm)(u:Tm):Bool:=cN s u ||ti u ||xn s u ||uq s u
open Classical in
noncomputable def yM(u s:List Tm):List Tm:=u.filter λt=>decide (oq u s t)
structure EX(u:List Tm):Prop where
 Bx:fO u
 kids:∀t∈u,∀x∈t.l,x∈u
 ok:∀t∈u,ky t=0
 fr:∀t∈u,iP t=true
theorem TI{s n:ByteArray}(h:gO s n=true):s=n:=GP (by simpa[gO]using h)
theorem rY{t:Tm}{n:ByteArray}(h:eV t n=true):t.k=3/\t.s=n:=by
 simp only[eV,Z9,decide_eq_true_eq]at h;exact⟨h.1,TI h.2⟩
theorem iJ:∀{l:List Tm},si l=0->∀t∈l,od t=0
 |[],_,t,h=>by cases h
 |u::l,e,t,h=>by
  rw[si]at e
  split at e
  ·rename_i hn;exact absurd e hn
  ·rcases Z'.1 h with rfl |h
   ·omega
   ·exact iJ e t h
theorem mS{t:Tm}:ky t=0↔valid t=0/\od t=0:=by
 unfold ky
 split
 ·constructor
  ·intro h;exact absurd h (by assumption)
  ·intro h;exact absurd h.1 (by assumption)
 ·constructor
  ·intro h;exact⟨by omega,h⟩
  ·exact λh=>h.2
theorem GQ{s:ByteArray}{o:Int}{l:List Tm}(h:od (.mk 3 s o l)=0):(cO s).k≠0/\(cO s).a<=l.length/\l.length<=(cO s).b/\fR s l=true/\si l=0:=by
 rw[od,if_neg (by simp)]at h
 split at h
 ·omega
 ·split at h
  ·omega
  ·split at h
   ·omega
   ·rename_i h1 h2 h3
    exact⟨h1,by omega,by omega,by simpa using h3,h⟩
theorem rZ{t x:Tm}(h:ky t=0)(hx:x∈t.l):ky x=0:=by
 obtain⟨h1,h2⟩:=mS.1 h;obtain⟨k,s,o,l⟩:=t;simp only[Tm.l]at hx;refine mS.2 ⟨HT h1 hx,?_⟩
 by_cases hk:k=3
 ·subst hk;exact iJ (GQ h2).2.2.2.2 x hx
 ·exfalso;have h3:=(oU (fX.1 h1).1).1;unfold node at h3;have hl:l≠[]:=by intro hh;rw[hh]at hx;cases hx
  have hp:0<l.length:=abE.2 hl
  (repeat' split at h3) <;>simp_all
  all_goals omega
theorem jH(t:Tm):∀x∈pre t,∀y∈pre x,y∈pre t:=by
 induction t using Tm.ind with
 |h k s o l ih=>
  intro x hx y hy
  rw[pre]at hx ⊢;rcases Z'.1 hx with rfl |hx
  ·rw[pre]at hy;exact hy
  ·obtain⟨u,hu,hx⟩:=bT.1 hx;exact abf _ (bT.2 ⟨u,hu,ih u hu x hx y hy⟩)
theorem rX{t x:Tm}(hx:x∈t.l):x∈pre t:=by
 obtain⟨k,s,o,l⟩:=t;rw[pre];exact abf _ (bT.2 ⟨x,hx,gf x⟩)
theorem Pc(t:Tm):ky t=0->∀x∈pre t,ky x=0:=by
 induction t using Tm.ind with
 |h k s o l ih=>
  intro h x hx
  rw[pre]at hx;rcases Z'.1 hx with rfl |hx
  ·exact h
  ·obtain⟨u,hu,hx⟩:=bT.1 hx;exact ih u hu (rZ h hu) x hx
theorem AK{t x:Tm}(h:iP t=true)(hx:x∈pre t):iP x=true:=by
 unfold iP at h ⊢;rw[sV,Z1]at h ⊢;exact λy hy=>h y (jH t x hx y hy)
theorem O1{t:Tm}(h:iP t=true)(hk:t.k=3):Bz t.s=true:=by
 unfold iP at h;rw[sV,Z1]at h;have:=h t (gf t);simpa[hk]using this
def fi(l:List Tm):List Tm:=jb (ch l)
theorem Ln{l:List Tm}(h:∀t∈l,ky t=0/\iP t=true):EX (fi l):=by
 have hm:∀y∈fi l,∃t∈l,y∈pre t:=λy hy=>bT.1 ((db _ _).1 hy)
 refine⟨j0 _,λt ht x hx=>?_,λt ht=>?_,λt ht=>?_⟩
 ·obtain⟨a,ha,hb⟩:=hm t ht;exact(db _ _).2 (bT.2 ⟨a,ha,jH a t hb x (rX hx)⟩)
 ·obtain⟨a,ha,hb⟩:=hm t ht;exact Pc a (h a ha).1 t hb
 ·obtain⟨a,ha,hb⟩:=hm t ht;exact AK (h a ha).2 hb
theorem C1{t:Tm}{n:ByteArray}(h:ky t=0)(hn:eV t n=true):(cO n).a<=t.l.length/\t.l.length<=(cO n).b:=by
 obtain⟨h1,h2⟩:=rY hn;obtain⟨k,s,o,l⟩:=t;simp only[Tm.k,Tm.s]at h1 h2;subst h1 h2;obtain⟨_,h3,h4,_⟩:=GQ (mS.1 h).2;exact⟨h3,h4⟩
theorem kD{t:Tm}{n:ByteArray}(h:ky t=0)(hn:eV t n=true)(h2:(cO n).a=2/\(cO n).b=2):∃a b,t.l=[a,b]:=by
 have h1:=C1 h hn;rw[h2.1,h2.2]at h1
 match hl:t.l with
 |[a,b]=>exact⟨a,b,rfl⟩
 |[]=>rw[hl]at h1;simp at h1
 |[_]=>rw[hl]at h1;simp at h1
 |_::_::_::_=>rw[hl]at h1;simp at h1;omega
theorem vt{t:Tm}{n:ByteArray}(h:ky t=0)(hn:eV t n=true)(h2:(cO n).a=1/\(cO n).b=1):∃a,t.l=[a]:=by
 have h1:=C1 h hn;rw[h2.1,h2.2]at h1
 match hl:t.l with
 |[a]=>exact⟨a,rfl⟩
 |[]=>rw[hl]at h1;simp at h1
 |_::_::_=>rw[hl]at h1;simp at h1;omega
theorem BB:((cO j3).a=2/\(cO j3).b=2)/\((cO jG).a=2/\(cO jG).b=2)/\((cO fK).a=2/\(cO fK).b=2)/\((cO mV).a=2/\(cO mV).b=2)/\((cO H6).a=1/\(cO H6).b=1):=by
 refine⟨⟨?_,?_⟩,⟨?_,?_⟩,⟨?_,?_⟩,⟨?_,?_⟩,⟨?_,?_⟩⟩ <;>kernel_rfl
theorem pj:gO mV j3=false/\gO jG j3=false/\gO jG mV=false/\gO fK j3=false/\gO fK mV=false/\gO fK jG=false:=by
 refine⟨?_,?_,?_,?_,?_,?_⟩ <;>kernel_rfl
theorem wR{t:Tm}{n m:ByteArray}(h:eV t n=true)(hn:gO n m=false):eV t m=false:=by
 obtain⟨h1,h2⟩:=rY h;simp[eV,h1,h2,hn]
theorem mN{t:Tm}(h:pg t=0):ky t=0/\((eV t jG=true/\oe t=fy t 1)\/(eV t fK=true/\eV (fy t 1) H6=true/\oe t=fy (fy t 1) 0)):=by
 have hv:oe t=if eV t jG=true then fy t 1 else fy (fy t 1) 0:=by rw[oe,if_neg (by omega)]
 unfold pg at h
 split at h
 ·rename_i h1;exact absurd h h1
 ·rename_i h1
  refine⟨by omega,?_⟩
  split at h
  ·rename_i h2;rw[if_pos h2]at hv;exact .inl ⟨h2,hv⟩
  ·rename_i h2
   rw[if_neg h2]at hv
   split at h
   ·omega
   ·split at h
    ·omega
    ·rename_i h3 h4;exact .inr ⟨by simpa using h3,by simpa using h4,hv⟩
theorem EX.key{u:List Tm}(U:EX u){t:Tm}(ht:t∈u)(h:pg t=0):oe t∈u/\fy t 0∈u/\fy t 0∈t.l:=by
 obtain⟨h1,h2⟩:=mN h;rcases h2 with⟨h2,h3⟩|⟨h2,h4,h3⟩
 ·obtain⟨a,b,e⟩:=kD h1 h2 BB.2.1;rw[h3];simp only[fy,e];exact⟨U.kids t ht _ (by rw[e];simp),U.kids t ht _ (by rw[e];simp),by simp⟩
 ·obtain⟨a,b,e⟩:=kD h1 h2 BB.2.2.1;rw[h3];have hb:b∈u:=U.kids t ht _ (by rw[e];simp);have hk:fy t 1=b:=by simp[fy,e]
  rw[hk]at h4 ⊢;obtain⟨c,e2⟩:=vt (U.ok b hb) h4 BB.2.2.2.2;refine⟨?_,?_,?_⟩
  ·simp only[fy,e2];exact U.kids b hb _ (by rw[e2];simp)
  ·simp only[fy,e];exact U.kids t ht _ (by rw[e];simp)
  ·simp[fy,e]
theorem tj{t x:Tm}(h:x∈kj t):x∈t.l:=by
 unfold kj at h
 split at h
 ·exact h
 ·split at h
  ·exact aaJ h
  ·cases h
theorem oq.mem{u s:List Tm}(U:EX u)(hs:∀x∈s,x∈u){t:Tm}(h:oq u s t):t∈u:=by
 induction h with
 |base h=>exact hs _ h
 |Tg h=>exact h
 |comp h=>exact h
 |part _ hx ih=>exact U.kids _ ih _ (tj hx)
 |«open»_ hk _ ih _=>exact(U.key ih hk).2.1
theorem oq.step{u s r:List Tm}(U:EX u)(hr:∀x∈r,x∈u/\oq u s x){t:Tm}(ht:t∈u)(h:mU r t=true):oq u s t:=by
 simp only[mU,aaq]at h;rcases h with((h |h)|h)|h
 ·exact(hr t (da.1 h)).2
 ·exact .Tg ht h
 ·simp only[xn,Z9,Z1]at h;exact .comp ht h.1 λx hx=>(hr x (da.1 (h.2 x hx))).2
 ·simp only[uq,aa8]at h;obtain⟨y,hy,h⟩:=h;obtain⟨hyu,X0⟩:=hr y hy;have fN:=U.ok y hyu;unfold uv at h
  split at h
  ·rename_i h1
   obtain⟨a,b,e⟩:=kD fN h1 BB.1;have hp:kj y=[a,b]:=by rw[kj,if_pos h1,e]
   simp only[fy,e,aaq,decide_eq_true_eq]at h;rcases h with h |h
   ·have:=dx h;simp at this;subst this;exact .part X0 (by rw[hp];simp)
   ·have:=dx h;simp at this;subst this;exact .part X0 (by rw[hp];simp)
  ·split at h
   ·rename_i h0 h1
    obtain⟨a,b,e⟩:=kD fN h1 BB.2.2.2.1;have hp:kj y=[a]:=by rw[kj,if_neg h0,if_pos h1,e];rfl
    simp only[fy,e,decide_eq_true_eq]at h;have:=dx h;simp at this;subst this;exact .part X0 (by rw[hp];simp)
   ·split at h
    ·simp only[Z9,decide_eq_true_eq]at h;obtain⟨⟨h1,h2⟩,h3⟩:=h;rw[<-dx h2];exact .open X0 h1 (hr _ (da.1 h3)).2
    ·cases h
theorem oq.fix{u s r:List Tm}(U:EX u)(hs:∀x∈s,x∈r)(hr:∀x∈r,x∈u)(hf:∀t∈u,mU r t=true->t∈r){t:Tm}(h:oq u s t):t∈r:=by
 induction h with
 |base h=>exact hs _ h
 |Tg h1 h2=>exact hf _ h1 (by simp[mU,h2])
 |comp h1 h2 _ ih=>exact hf _ h1 (by simp only[mU,xn,h2,abd,aaq,Z1];exact .inl (.inr λx hx=>da.2 (ih x hx)))
 | @part t x _ hx ih=>
  have L8:=hr _ ih;have fN:=U.ok _ L8;refine hf x (U.kids _ L8 _ (tj hx)) ?_;simp only[mU,aaq];refine .inr ?_;simp only[uq,aa8];refine⟨t,ih,?_⟩;unfold kj at hx;unfold uv
  split at hx
  ·rename_i h1
   obtain⟨a,b,e⟩:=kD fN h1 BB.1;rw[if_pos h1];rw[e]at hx;simp only[fy,e,aaq,decide_eq_true_eq];simp at hx;rcases hx with rfl |rfl
   ·exact .inl (by simp[dI])
   ·exact .inr (by simp[dI])
  ·split at hx
   ·rename_i h0 h1
    obtain⟨a,b,e⟩:=kD fN h1 BB.2.2.2.1;rw[if_neg h0,if_pos h1];rw[e]at hx;simp at hx;subst hx;simp[fy,e,dI]
   ·cases hx
 | @«open»t _ hk _ ih1 ih2=>
  have L8:=hr _ ih1;obtain⟨q1,q2,q3⟩:=U.key L8 hk;refine hf _ q2 ?_;simp only[mU,aaq];refine .inr ?_;simp only[uq,aa8];refine⟨t,ih1,?_⟩;unfold uv;have hh:=da.2 ih2;rcases(mN hk).2 with⟨h2,_⟩|⟨h2,_,_⟩
  ·rw[if_neg (by simp[wR h2 pj.2.1]),if_neg (by simp[wR h2 pj.2.2.1]),h2];simp[hk,hh,dI]
  ·rw[if_neg (by simp[wR h2 pj.2.2.2.1]),if_neg (by simp[wR h2 pj.2.2.2.2.1]),h2];simp[hk,hh,dI]
theorem iv{l:List Tm}{p:Tm->Bool}(h:fO l):fO (l.filter p):=List.Pairwise.filter p h
theorem O3{u s r:List Tm}(U:EX u)(hr:fO r)(h1:∀t∈r,t∈u/\oq u s t)(h2:∀t∈u,oq u s t->t∈r):r=yM u s:=by
 refine nF hr (iv U.Bx) λy=>?_;simp only[yM,aaM,decide_eq_true_eq];exact⟨h1 y,λh=>h2 y h.1 h.2⟩
theorem AV{u s:List Tm}{t:Tm}:t∈yM u s↔t∈u/\oq u s t:=by simp[yM]
def uS(t:Tm):Int:=if ky t≠0 then ky t else if bV t≠[]then 13 else 0
def lB:List Tm->Int
 |[]=>0
 |t::l=>if uS t≠0 then uS t else lB l
def gW(k:List Tm)(t:Tm):Int:=if 60<k.length then 3 else if lB (k++[t])≠0 then lB (k++[t])else if 200<(fi (k++[t])).length then 3 else 0
open Classical in
noncomputable def lP(k:List Tm)(t:Tm):Bool:=decide (gW k t=0)&&cN (yM (fi (k++[t])) (jb k)) t
theorem q9:∀{l:List Tm},lB l=0->∀t∈l,uS t=0
 |[],_,t,h=>by cases h
 |u::l,e,t,h=>by
  rw[lB]at e
  split at e
  ·rename_i hn;exact absurd e hn
  ·rcases Z'.1 h with rfl |h
   ·omega
   ·exact q9 e t h
theorem zH{t:Tm}(h:uS t=0):ky t=0/\bV t=[]:=by
 unfold uS at h
 split at h
 ·rename_i h1;exact absurd h h1
 ·split at h
  ·omega
  ·rename_i h1 h2;exact⟨by omega,by simpa using h2⟩
def QM(S:List c9)(x:Tm):Bool:=S.any λb=>decide (aU b.v x=0)
def bH(l:List eE):List Tm:=(fi (l.flatMap λd=>d.kn++[d.tm])).filter λt=>decide (t.k=1)
def uU(l:List eE)(S:List c9):Int:=
 if lN S≠0 then lN S
 else if(bH l).all (QM S)=false then 13
 else if S.any (λb=>decide (bV b.t≠[]))=true then 13
 else if S.any (λb=>decide (ky b.t≠0))=true then 10
 else 0
noncomputable def gh(S:List c9):List eE->Bool×Int
 |[]=>(true,0)
 |d::l=>if qU S d≠0 then(false,qU S d)else if gW (bG S d.kn) (bw S d.tm)≠0 then(false,gW (bG S d.kn) (bw S d.tm))else if lP (bG S d.kn) (bw S d.tm)=false then(false,0)else gh S l
noncomputable def jd(l:List eE)(S:List c9):Bool×Int:=if nL l≠0 then(false,nL l)else if uU l S≠0 then(false,uU l S)else gh S l
theorem Cs(l:List eE):jb ((l.flatMap λd=>d.kn++[d.tm]).flatMap bV)=bH l:=by
 refine nF (j0 _) (iv (j0 _)) λy=>?_;simp only[db,bH,fi,aaM,bT,decide_eq_true_eq,aaU]
 constructor
 ·rintro⟨t,ht,hy⟩;obtain⟨h1,h2⟩:=(oV t y).1 hy;exact⟨⟨t,ht,h1⟩,h2⟩
 ·rintro⟨⟨t,ht,h1⟩,h2⟩;exact⟨t,ht,(oV t y).2 ⟨h1,h2⟩⟩
theorem wE{k s o l}:iP (.mk k s o l)=true↔(k=3->Bz s=true)/\∀t∈l,iP t=true:=by
 have h:∀l:List Tm,iq Bz l=true↔∀t∈l,every Bz t=true:=by
  intro l
  induction l with
  |nil=>simp[iq]
  |cons t l ih=>simp[iq,ih]
 unfold iP;rw[every,Z9,h];simp only[aaq,decide_eq_true_eq]
 constructor
 ·rintro⟨h1,h2⟩;exact⟨λhk=>h1.resolve_left (by simpa using hk),h2⟩
 ·rintro⟨h1,h2⟩;exact⟨by by_cases hk:k=3;exact .inr (h1 hk);exact .inl hk,h2⟩
theorem CW:∀{S:List c9} {x:Tm},iP x=true->(∀b∈S,iP b.t=true)->iP (lO S x)=true
 |[],x,hx,_=>hx
 |b::S,x,hx,h=>by
  rw[lO]
  split
  ·exact h b (by simp)
  ·exact CW hx λc hc=>h c (by simp[hc])
theorem vu{S:List c9}(hS:∀b∈S,iP b.t=true)(t:Tm):iP t=true->iP (bw S t)=true:=by
 induction t using Tm.ind with
 |h k s o l ih=>
  intro h
  rw[bw]
  split
  ·exact CW h hS
  ·rw[wE]at h ⊢;refine⟨h.1,λt ht=>?_⟩;rw[bN]at ht;obtain⟨u,hu,rfl⟩:=aak.1 ht;exact ih u hu (h.2 u hu)
theorem zR{t:Tm}(h:eB t=0):iP t=true:=by
 have:=(wx h).2.2.1;unfold rQ at this;simp only[Z9]at this;exact this.2
def EE:Tm:=.mk 2 ⟨#[97]⟩ 1 []
def Qx:Tm:=.mk 2 ⟨#[98]⟩ 1 []
def lfN:Tm:=.mk 2 ⟨#[110,35,48]⟩ 2 []
def lfM:Tm:=.mk 2 ⟨#[109,35,49]⟩ 2 []
def lfK:Tm:=.mk 2 ⟨#[107,35,48]⟩ 3 []
def lfS:Tm:=.mk 3 Ch 0 [EE,Qx]
def lfP:Tm:=.mk 3 H6 0 [.mk 3 EJ 0 [Qx]]
def lfH:Tm:=.mk 2 ⟨#[104,105]⟩ 5 []
def KM:Tm:=.mk 3 H6 0 [.mk 3 EJ 0 [EE]]
def nf:List Tm:=[lfN,lfM,lfK,lfS,lfP,EE,lfH]
def vrX:Tm:=.mk 1 ⟨#[120]⟩ 2 []
def vrY:Tm:=.mk 1 ⟨#[121]⟩ 0 []
def vrZ:Tm:=.mk 1 ⟨#[122]⟩ 3 []
def vrW:Tm:=.mk 1 ⟨#[119]⟩ 2 []
def pY:List Tm:=[vrX,vrY,vrZ,vrW]
def fm(b:List Nat)(i:Nat):Nat:=b.getD i 0
def KO(b:List Nat)(l:List Tm)(at':Nat):Tm:=l.getD (fm b at' / 2 % l.length) eU
def gN(b:List Nat)(l:List Tm):Nat->Nat->Tm×Nat
 |0,i=>(KO b l i,i+1)
 |f+1,i=>
  if fm b i % 2=0 then(KO b l i,i+1)
  else if fm b i / 2 % 6=0 then(.mk 3 wB 0 [(gN b l f (i+1)).1],(gN b l f (i+1)).2)
  else if fm b i / 2 % 6<=2 then(.mk 3 jG 0 [(gN b l f (i+1)).1,(gN b l f (gN b l f (i+1)).2).1],(gN b l f (gN b l f (i+1)).2).2)
  else if fm b i / 2 % 6=3 then(.mk 3 fK 0 [(gN b l f (i+1)).1,KM],(gN b l f (gN b l f (i+1)).2).2)
  else(.mk 3 j3 0 [(gN b l f (i+1)).1,(gN b l f (gN b l f (i+1)).2).1],(gN b l f (gN b l f (i+1)).2).2)
def VU(y:Tm):Bool:=(decide (y.k≠1)||cN pY y)&&decide (y.s.toList.head?≠some 113)
def Ow(t:Tm):Bool:=(pre t).all VU
def yp(t:Tm):Bool:=iP t&&Ow t
theorem KP{k:Int}{s:ByteArray}{o:Int}{l:List Tm}(h:VU (.mk k s o l)=true)(hl:∀t∈l,Ow t=true):Ow (.mk k s o l)=true:=by
 unfold Ow;rw[pre,aaX,h,abd,Z1]
 intro y hy
 obtain⟨t,ht,hy⟩:=bT.1 hy;exact Z1.1 (hl t ht) y hy
theorem SF{t y:Tm}(h:Ow t=true)(hy:y∈pre t):Ow y=true:=by
 unfold Ow at *;rw[Z1]at *;exact λz hz=>h z (jH t y hy z hz)
theorem KQ{t y:Tm}(h:Ow t=true)(hy:y∈pre t):(y.k=1->y∈pY)/\y.s.toList.head?≠some 113:=by
 have:=Z1.1 h y hy;simp only[VU,Z9,aaq,decide_eq_true_eq]at this;exact⟨λhk=>da.1 (this.1.resolve_left (by simpa using hk)),this.2⟩
theorem ic{t:Tm}:yp t=true↔iP t=true/\Ow t=true:=by simp[yp]
def Qy(s:ByteArray):Bool:=Bz s&&decide (s.toList.head?≠some 113)
def yH(B:Nat)(l:List Tm):Prop:=∀t∈l,yp t=true/\ay t<=B
theorem yH.cC{B:Nat}{a b:List Tm}(x:yH B a)(y:yH B b):yH B (a++b):=λt ht=>(Z8.1 ht).elim (x t) (y t)
theorem yH.mono{B B':Nat}{a:List Tm}(x:yH B a)(h:B<=B'):yH B' a:=λt ht=>⟨(x t ht).1,by have:=(x t ht).2;omega⟩
theorem yH.getD{B i:Nat}{l:List Tm}(x:yH B l)(h:i<l.length):yp (l.getD i eU)=true/\ay (l.getD i eU)<=B:=by
 rw[aam,Z3 h];exact x _ (aay h)
def YQ(B:Nat)(l:List Tm):Bool:=l.all λt=>yp t&&decide (ay t<=B)
theorem wC{B:Nat}{l:List Tm}(h:YQ B l=true):yH B l:=λt ht=>by
 have:=Z1.1 h t ht;simpa using this
theorem td:yH 20 nf:=wC (by kernel_rfl)
theorem wD:yH 20 pY:=wC (by kernel_rfl)
theorem jc:nf.length=7:=rfl
theorem rS:pY.length=4:=rfl
theorem SG:yp KM=true/\ay KM<=20:=by
 have:=wC (B:=20) (l:=[KM]) (by kernel_rfl) KM (by simp);exact this
theorem VV:Qy wB=true/\Qy jG=true/\Qy fK=true/\Qy j3=true:=by
 refine⟨?_,?_,?_,?_⟩ <;>kernel_rfl
theorem YR:wB.size=4/\jG.size=3/\fK.size=4/\j3.size=4:=by
 refine⟨?_,?_,?_,?_⟩ <;>kernel_rfl
theorem Gm{s:ByteArray}{l:List Tm}(h:Qy s=true)(hl:∀t∈l,yp t=true):yp (.mk 3 s 0 l)=true:=by
 simp only[Qy,Z9]at h;refine ic.2 ⟨wE.2 ⟨λ_=>h.1,λt ht=>(ic.1 (hl t ht)).1⟩,KP ?_ λt ht=>(ic.1 (hl t ht)).2⟩;simp only[VU,Tm.k,Tm.s,Z9,aaq];exact⟨.inl rfl,h.2⟩
theorem Ox{s:ByteArray}{a:Tm}(h:Qy s=true)(ha:yp a=true):yp (.mk 3 s 0 [a])=true:=Gm h λt ht=>by simp at ht;rw[ht];exact ha
theorem AJ{s:ByteArray}{a b:Tm}(h:Qy s=true)(ha:yp a=true)(hb:yp b=true):yp (.mk 3 s 0 [a,b])=true:=Gm h λt ht=>by
 simp at ht;rcases ht with rfl |rfl
 ·exact ha
 ·exact hb
def KR(B:Nat):Nat->Nat
 |0=>B
 |f+1=>2 * KR B f+30
theorem Gn(B:Nat):∀f,B<=KR B f
 |0=>Z5 _
 |f+1=>by have:=Gn B f;simp only[KR];omega
theorem wF{b:List Nat}{l:List Tm}{B:Nat}(h0:0<l.length)(h:yH B l):∀f i,yp (gN b l f i).1=true/\ay (gN b l f i).1<=KR B f/\i<(gN b l f i).2/\(gN b l f i).2+1<=i+2^ (f+1)
 |0,i=>by
  obtain⟨h1,h2⟩:=h.getD (abT (fm b i / 2) h0);exact⟨h1,h2,by simp[gN],by simp[gN]⟩
 |f+1,i=>by
  obtain⟨h1,h2⟩:=h.getD (abT (fm b i / 2) h0);have h2:ay (KO b l i)<=B:=h2;obtain⟨a1,a2,a3,a4⟩:=wF h0 h f (i+1);obtain⟨b1,b2,b3,b4⟩:=wF h0 h f (gN b l f (i+1)).2;obtain⟨p1,p2⟩:=SG;obtain⟨f1,f2,f3,f4⟩:=VV;obtain⟨s1,s2,s3,s4⟩:=YR;have hp:2^ (f+1+1)=2^ (f+1)+2^ (f+1):=by rw[Nat.pow_succ];omega
  have Vh:1<=2^ (f+1):=Nat.one_le_two_pow;have hg:=Gn B f;unfold gN;generalize gN b l f (gN b l f (i+1)).2=Y at *;generalize gN b l f (i+1)=X at *;simp only[KR]
  split
  ·exact⟨h1,by simp only;omega,by simp,by simp only[hp];omega⟩
  ·split
   ·exact⟨Ox f1 a1,by simp only[ay,bF];omega,by simp only;omega,by simp only;omega⟩
   ·split
    ·exact⟨AJ f2 a1 b1,by simp only[ay,bF];omega,by simp only;omega,by simp only;omega⟩
    ·split
     ·exact⟨AJ f3 a1 p1,by simp only[ay,bF];omega,by simp only;omega,by simp only;omega⟩
     ·exact⟨AJ f4 a1 b1,by simp only[ay,bF];omega,by simp only;omega,by simp only;omega⟩
def iH(x:List Nat):List Nat:=x++[0,0]
def JH(b:List Nat)(bd:List Tm)(n:Nat):List Tm:=(List.range n).map λk=>(gN b (nf++bd) 2 (1+3 * k)).1
def SH(b:List Nat):Tm:=if fm b 0 / 3 % 3=0 then pY.getD (fm b 1 % 4) eU else(gN b (nf++pY) 2 7).1
structure NB where
 kn:List Tm
 bd:List Tm
 out:List eE
def tf(s:NB)(x:List Nat):NB:=
 ⟨s.kn++JH (iH x) s.bd (fm (iH x) 0 % 3),s.bd++bV (SH (iH x)),s.out++[⟨s.kn++JH (iH x) s.bd (fm (iH x) 0 % 3),SH (iH x)⟩]⟩
def cR(l:List (List Nat)):NB:=l.foldl tf ⟨[],[],[]⟩
def eN(l:List (List Nat)):List eE:=(cR (l.take 5)).out
theorem uf(l:List (List Nat))(x:List Nat):cR (l++[x])=tf (cR l) x:=by simp[cR]
theorem KT(b:List Nat)(bd:List Tm)(n:Nat):JH b bd (n+1)=JH b bd n++[(gN b (nf++bd) 2 (1+3 * n)).1]:=by simp[JH,List.range_succ]
theorem vj(b:List Nat)(bd:List Tm)(n:Nat):(JH b bd n).length=n:=by simp[JH]
theorem KU(b:List Nat):yp (SH b)=true/\ay (SH b)<=170:=by
 unfold SH
 split
 ·obtain⟨h1,h2⟩:=wD.getD (i:=fm b 1 % 4) (by rw[rS];omega);exact⟨h1,by omega⟩
 ·obtain⟨h1,h2,_⟩:=wF (b:=b) (l:=nf++pY) (B:=20) (by simp[jc];omega) (td.cC wD) 2 7;exact⟨h1,h2⟩
theorem KW{B:Nat}{t:Tm}(h:yp t=true/\ay t<=B):yH B (bV t):=λy hy=>by
 have hp:=((oV t y).1 hy).1;obtain⟨h1,h2⟩:=ic.1 h.1;exact⟨ic.2 ⟨AK h1 hp,SF h2 hp⟩,by have:=lf hy;omega⟩
theorem SI{b:List Nat}{bd:List Tm}(h:yH 170 bd)(n:Nat):yH 770 (JH b bd n):=λt ht=>by
 obtain⟨k,_,rfl⟩:=aak.1 ht;obtain⟨h1,h2,_⟩:=wF (b:=b) (l:=nf++bd) (B:=170) (by simp[jc];omega) ((td.mono (by omega)).cC h) 2 (1+3 * k);exact⟨h1,h2⟩
structure YS(n:Nat)(s:NB):Prop where
 kl:s.kn.length<=2 * n
 bl:s.bd.length<=170 * n
 ol:s.out.length=n
 kf:yH 770 s.kn
 bf:yH 170 s.bd
 of:∀d∈s.out,d.kn.length<=2 * n/\yH 770 d.kn/\yp d.tm=true/\ay d.tm<=170
theorem mJ(n:Nat):∀l:List (List Nat),l.length=n->YS n (cR l):=by
 induction n with
 |zero=>
  intro l h
  obtain rfl:=aaf h;exact⟨by simp[cR],by simp[cR],rfl,λ_ h=>(by cases h),λ_ h=>(by cases h),λ_ h=>(by cases h)⟩
 |succ n ih=>
  intro l h
  obtain⟨p,x,rfl⟩:∃p x,l=p++[x]:=⟨l.dropLast,l.getLast (by intro hh;rw[hh]at h;cases h),(List.dropLast_concat_getLast _).symm⟩;have a:=ih p (by simpa using h);rw[uf];have ht:=KU (iH x);have hk:=SI (b:=iH x) a.bf (fm (iH x) 0 % 3);have hv:=gz (SH (iH x));have hm:fm (iH x) 0 % 3<=2:=by omega
  have a1:=a.kl;have a2:=a.bl;have a3:=a.ol;refine⟨?_,?_,?_,a.kf.cC hk,a.bf.cC (KW ht),λd hd=>?_⟩
  ·simp only[tf,Z2,vj];omega
  ·simp only[tf,Z2];omega
  ·simp only[tf,Z2,Z4,aaE];omega
  ·rcases Z8.1 hd with hd |hd
   ·obtain⟨q1,q2⟩:=a.of d hd;exact⟨by omega,q2⟩
   ·simp at hd;subst hd;exact⟨by simp only[Z2,vj];omega,a.kf.cC hk,ht⟩
theorem wG(l:List (List Nat)):(eN l).length<=5/\∀d∈eN l,d.kn.length<=10/\yH 770 d.kn/\yp d.tm=true/\ay d.tm<=170:=by
 have hn:(l.take 5).length<=5:=by simp;omega
 have a:=mJ _ (l.take 5) rfl;have a3:=a.ol;unfold eN;exact⟨by omega,λd hd=>⟨by have:=(a.of d hd).1;omega,(a.of d hd).2⟩⟩
def EK(n:Nat)(o:Int):Tm:=.mk 2 ⟨#[101,35,UInt8.ofNat (48+n)]⟩ o []
def EL(v:Tm)(c:Nat):Tm:=if c % 3≠0/\lc v (nf.getD (c / 2 % 7) eU)=true then nf.getD (c / 2 % 7) eU else EK (c % 2) v.o
def li(b:List Nat):Nat->List Tm->List c9
 |_,[]=>[]
 |i,v::l=>⟨v,EL v (fm b i)⟩::li b (i+1) l
def Oy(vs:List Tm)(b:List Nat):List c9:=li b 0 vs
theorem zy(b:List Nat)(v:Tm):∀(i:Nat) (l:List Tm),li b i (l++[v])=li b i l++[⟨v,EL v (fm b (i+l.length))⟩]
 |i,[]=>by simp[li]
 |i,u::l=>by
  have ih:=zy b v (i+1) l;simp only[aau,li,ih,Z4,show i+1+l.length=i+(l.length+1) by omega]
theorem Oz(v:Tm)(c:Nat):yp (EL v c)=true/\ay (EL v c)<=20:=by
 unfold EL
 split
 ·exact td.getD (by rw[jc];omega)
 ·refine⟨ic.2 ⟨wE.2 ⟨λh=>(by cases h),λt ht=>(by cases ht)⟩,KP ?_ λt ht=>(by cases ht)⟩,?_⟩
  ·simp only[VU,Tm.k,Tm.s,Z9,aaq];refine⟨.inl rfl,decide_eq_true ?_⟩;rw[ByteArray.toList_eq];simp
  ·simp only[EK,ay,bF];show 1+3+0<=20;omega
theorem vn(b:List Nat):∀(i:Nat) (l:List Tm),(li b i l).length=l.length/\∀x∈li b i l,x.v∈l/\yp x.t=true/\ay x.t<=20
 |i,[]=>⟨rfl,λx h=>by cases h⟩
 |i,v::l=>by
  obtain⟨h1,h2⟩:=vn b (i+1) l;refine⟨by simp[li,h1],λx hx=>?_⟩;rw[li]at hx;rcases Z'.1 hx with rfl |hx
  ·exact⟨by simp,Oz _ _⟩
  ·obtain⟨q1,q2⟩:=h2 x hx;exact⟨by simp[q1],q2⟩
theorem lj(l:List (List Nat)):(bH (eN l)).length<=4/\∀y∈bH (eN l),y∈pY:=by
 have jr:∀y∈bH (eN l),y∈pY:=λy hy=>by
  simp only[bH,aaM,decide_eq_true_eq]at hy;obtain⟨hy,hk⟩:=hy;obtain⟨t,ht,hp⟩:=bT.1 ((db _ _).1 hy);obtain⟨d,hd,ht⟩:=aaU.1 ht;obtain⟨_,h1,h2,_⟩:=(wG l).2 d hd
  have hf:yp t=true:=by
   rcases Z8.1 ht with h |h
   ·exact(h1 t h).1
   ·simp at h;rw[h];exact h2
  exact(KQ (ic.1 hf).2 hp).1 hk
 refine⟨?_,jr⟩
 have he:bH (eN l)=(jb pY).filter (λy=>cN (bH (eN l)) y):=nF (iv (j0 _)) (iv (j0 _)) λy=>by
  constructor
  ·exact λh=>aaM.2 ⟨(db _ _).2 (jr y h),da.2 h⟩
  ·exact λh=>da.1 (aaM.1 h).2
 have h1:=aa4 (λy=>cN (bH (eN l)) y) (jb pY);have h2:=wu pY;rw[rS]at h2;rw[he];omega
def eO(l:List Nat):List PV:=l.map λ(n:Nat)=>PV.int .u8 (n:Int)
def gG(l:List (List Nat)):List PV:=l.map λx=>.aa false (eO x)
def DV(l:List Nat):Prop:=∀n∈l,n<=255
@[simp] theorem ll(l:List Nat):(eO l).length=l.length:=by simp[eO]
@[simp] theorem tg(l:List (List Nat)):(gG l).length=l.length:=by simp[gG]
@[simp] theorem UA(l:List Nat):ao (eO l)=true:=by induction l with |nil=>rfl |cons x l ih=>simpa[eO]using ih
@[simp] theorem UB(l:List Nat):aQ (eO l)=eO l:=by induction l with |nil=>rfl |cons x l ih=>simpa[eO]using ih
@[simp] theorem SM(l:List (List Nat)):ao (gG l)=true:=by induction l with |nil=>rfl |cons x l ih=>simpa[gG]using ih
@[simp] theorem SN(l:List (List Nat)):aQ (gG l)=gG l:=by induction l with |nil=>rfl |cons x l ih=>simpa[gG]using ih
theorem La(a b:List Nat):eO (a++b)=eO a++eO b:=by simp[eO]
theorem Ck{l p q:List (List Nat)}{x:List Nat}(e:l=p++x::q):(gG l)[p.length]?=some (.aa false (eO x)):=by rw[gG,e];simp
theorem mK{l:List Nat}{i:Nat}(h:i<l.length):(eO l)[i]?=some (.int .u8 (fm l i:Int)):=by
 simp[eO,fm,aam,h]
theorem wJ{l:List Nat}(h:DV l)(i:Nat):fm l i<=255:=by
 unfold fm;rw[aam]
 cases e:l[i]? with
 |none=>simp
 |some n=>exact h n (aae e)
theorem vp{l:List Nat}{i:Nat}(h:¬i<l.length):fm l i=0:=by
 simp[fm,aam,aag (Nat.not_lt.1 h)]
theorem rT{l:List Tm}{i:Nat}(h:i<l.length):(ae l)[i]?=some (enc (l.getD i eU)):=by
 rw[cZ];simp[aam,h]
open Go.Proofs Go.ChangeShapes Go.WideShapes
set_option maxRecDepth 100000
set_option maxHeartbeats 2000000
theorem QR{α:Type}:∀(l:List α),(l.map λ_=>1).sum=l.length
 |[]=>rfl
 |_::l=>by rw[aah,acu,QR l,Z4];omega
theorem C6{α:Type}(f:α->Nat):∀{l:List α} {x:α},x∈l->f x<=(l.map f).sum
 |y::l,x,h=>by
  rw[aah,acu];rcases Z'.1 h with rfl |h
  ·omega
  ·have:=C6 f h;omega
theorem C7{α:Type}(f:α->Nat)(hf:∀x,1<=f x):∀(l:List α),l.length<=(l.map f).sum
 |[]=>by simp
 |y::l=>by have:=C7 f hf l;have:=hf y;rw[aah,acu,Z4];omega
instance:Inhabited {n:Nat // n<=255}:=⟨⟨0,by decide⟩⟩
instance:Inhabited {l:List Nat // DV l}:=⟨⟨[],by intro x h;cases h⟩⟩
theorem Zj:C.P.cellsOf 5=1:=by kernel_rfl
theorem WO:C.P.cellsOf 41=1:=by kernel_rfl
open Go.Proofs.YtimogkojklpdnaaGreatDoor in
theorem C8{H:Type}{ec:TypeId×Value->H}{w:World}{sp:Nat->Bool}{held:Bool}{n:Nat}{cs:List Value}{x:DataW H×List MemPlace}(h:DataW.trod ec C.P w 0 sp held n 41 cs=some x):
  ∃(c:Value) (l:List Nat),cs=[c]/\cj w NP c (.aa false (eO l))/\DV l/\l.length+1<=Rows.uptoBulk x.1:=by
 obtain⟨c,l,hc,h1,h2⟩:=xz (E:={n:Nat // n<=255}) (λe=>.int .u8 (e.1:Int)) (λ_=>1) (bp (T6.cU 41 _ rfl)) Zj (by decide) (λ_=>rfl) (λn cs x hx=>by
  obtain⟨k,rfl,rfl,hw⟩:=DataW.trod_int (oF (T6.cU 5 _ rfl)) hx
  have hk:0<=k/\k<=255:=by
   simp only[Lit.wf,decide_eq_true_eq,Z9]at hw;have h1:IntKind.u8.min=0:=rfl;have h2:IntKind.u8.max=255:=rfl;omega
  obtain⟨m,rfl⟩:=abg hk.1;exact⟨⟨m,by omega⟩,rfl,λj hj=>(by obtain rfl:j=0:=(by omega);exact .int _ _),by simp[Rows.uptoBulk]⟩) h
 refine⟨c,l.map (·.1),hc,by simpa[eO]using h1,λx hx=>?_,?_⟩
 ·obtain⟨y,_,rfl⟩:=aak.1 hx;exact y.2
 ·rw[QR]at h2;simp only[aa6];exact h2
open Go.Proofs.YtimogkojklpdnaaGreatDoor in
theorem Pq{H:Type}{ec:TypeId×Value->H}{w:World}{sp:Nat->Bool}{held:Bool}{n:Nat}{cs:List Value}{x:DataW H×List MemPlace}(h:DataW.trod ec C.P w 0 sp held n 40 cs=some x):
  ∃(c:Value) (l:List (List Nat)),cs=[c]/\cj w NP c (.aa false (gG l))/\(∀y∈l,DV y/\y.length<Rows.uptoBulk x.1)/\l.length<Rows.uptoBulk x.1:=by
 obtain⟨c,l,hc,h1,h2⟩:=xz (E:={l:List Nat // DV l}) (λe=>.aa false (eO e.1)) (λe=>e.1.length+1) (bp (T6.cU 40 _ rfl)) WO (by decide) (λ_=>rfl) (λn cs x hx=>by
  obtain⟨c,l,rfl,a1,a2,a3⟩:=C8 hx;exact⟨⟨l,a2⟩,rfl,λj hj=>(by obtain rfl:j=0:=(by omega);exact a1),a3⟩) h
 refine⟨c,l.map (·.1),hc,by simpa[gG,ab4,Function.comp_def]using h1,λy hy=>?_,?_⟩
 ·obtain⟨z,hz,rfl⟩:=aak.1 hy;have:=C6 (λe:{l:List Nat // DV l}=>e.1.length+1) hz;exact⟨z.2,by omega⟩
 ·have:=C7 (λe:{l:List Nat // DV l}=>e.1.length+1) (λx=>by omega) l;simp only[aa6];omega
open Go.Proofs.YtimogkojklpdnaaGreatDoor in
theorem IT{H:Type}{ec:TypeId×Value->H}{w:World}{base:Nat}{sp:Nat->Bool}{v:Value}{d:DataW H}{p:List MemPlace}(fN:Value.okWide C.P w .any base 41 v)(h:DataW.Trod ec C.P w 0 sp true 41 v d p):
  ∃l:List Nat,cj w NP v (.aa false (eO l))/\DV l/\l.length+1<=Rows.uptoBulk d:=by
 obtain⟨n,hn⟩:=h;obtain⟨a,len,cap,rfl⟩:=okWide_slice (bp (T6.cU 41 _ rfl)) fN;obtain⟨c,l,hc,h1,h2⟩:=C8 hn;obtain rfl:Value.slice a len cap=c:=by simpa[Value.cells]using hc
 exact⟨l,h1,h2⟩
open Go.Proofs.YtimogkojklpdnaaGreatDoor in
theorem Mj{H:Type}{ec:TypeId×Value->H}{w:World}{base:Nat}{sp:Nat->Bool}{v:Value}{d:DataW H}{p:List MemPlace}(fN:Value.okWide C.P w .any base 40 v)(h:DataW.Trod ec C.P w 0 sp true 40 v d p):
  ∃l:List (List Nat),cj w NP v (.aa false (gG l))/\(∀y∈l,DV y/\y.length<Rows.uptoBulk d)/\l.length<Rows.uptoBulk d:=by
 obtain⟨n,hn⟩:=h;obtain⟨a,len,cap,rfl⟩:=okWide_slice (bp (T6.cU 40 _ rfl)) fN;obtain⟨c,l,hc,h1,h2⟩:=Pq hn;obtain rfl:Value.slice a len cap=c:=by simpa[Value.cells]using hc
 exact⟨l,h1,h2⟩
end Go.Pm
namespace Go.Pm
theorem AU:∀{S:List c9} {x:Tm},(∃b∈S,b.v=x/\lO S x=b.t)\/((∀b∈S,b.v≠x)/\lO S x=x)
 |[],x=>.inr ⟨λb h=>(by cases h),rfl⟩
 |b::S,x=>by
  rw[lO]
  by_cases h:aU b.v x=0
  ·rw[if_pos h];exact .inl ⟨b,by simp,dx h,rfl⟩
  ·rw[if_neg h];rcases AU (S:=S) (x:=x)with⟨c,h1,h2,h3⟩|⟨h1,h2⟩
   ·exact .inl ⟨c,by simp[h1],h2,h3⟩
   ·refine .inr ⟨λc hc=>?_,h2⟩;rcases Z'.1 hc with rfl |hc
    ·rintro rfl;exact h (dI _)
    ·exact h1 c hc
theorem Lg{l:List eE}{y:Tm}:y∈bH l↔∃d∈l,∃t∈d.kn++[d.tm],y∈bV t:=by
 rw[<-Cs,db];simp only[aaU]
 constructor
 ·rintro⟨t,⟨d,hd,ht⟩,hy⟩;exact⟨d,hd,t,ht,hy⟩
 ·rintro⟨d,hd,t,ht,hy⟩;exact⟨t,⟨d,hd,ht⟩,hy⟩
theorem lm{S:List c9}{t:Tm}(h:t.k≠1):(bw S t).k=t.k/\(bw S t).s=t.s/\(bw S t).o=t.o/\(bw S t).l=bG S t.l:=by
 obtain⟨k,s,o,l⟩:=t;have h:k≠1:=h;rw[bw,if_neg h];exact⟨rfl,rfl,rfl,rfl⟩
theorem wP{t:Tm}(h:t.l=[]):∀z∈pre t,z=t:=by
 obtain⟨k,s,o,l⟩:=t;obtain rfl:l=[]:=h
 intro z hz
 simpa[pre,ch]using hz
def Lvs(ts:List Tm):Prop:=∀z∈ch ts,z.k=1->z.l=[]
theorem mL{ts:List Tm}{t:Tm}(h:t∈ts):t∈ch ts:=bT.2 ⟨t,h,gf t⟩
theorem mM{ts:List Tm}{z c:Tm}(hz:z∈ch ts)(hc:c∈z.l):c∈ch ts:=by
 obtain⟨t,ht,h⟩:=bT.1 hz;exact bT.2 ⟨t,ht,jH t z h c (rX hc)⟩
theorem GA{S:List c9}(t:Tm):(∀z∈pre t,z.k=1->z.l=[])->∀z∈pre t,bw S z∈pre (bw S t):=by
 induction t using Tm.ind with
 |h k s o l ih=>
  intro hl z hz
  by_cases hk:k=1
  ·rw[wP (hl _ (gf _) hk) z hz];exact gf _
  ·rw[pre]at hz;rcases Z'.1 hz with rfl |hz
   ·exact gf _
   ·obtain⟨u,hu,hz⟩:=bT.1 hz;rw[bw,if_neg hk,pre,bN];refine abf _ (bT.2 ⟨bw S u,aak.2 ⟨u,hu,rfl⟩,ih u hu (λy hy=>hl y ?_) z hz⟩);rw[pre];exact abf _ (bT.2 ⟨u,hu,hy⟩)
theorem OK{Q:List c9}(hQ:∀b∈Q,b.t.l=[])(t:Tm):(∀z∈pre t,z.k=1->z.l=[])->∀y∈pre (bw Q t),∃z∈pre t,y=bw Q z:=by
 induction t using Tm.ind with
 |h k s o l ih=>
  intro hl y hy
  by_cases hk:k=1
  ·have h0:=hl _ (gf _) hk;refine⟨_,gf _,wP ?_ y hy⟩;rw[bw,if_pos hk];rcases AU (S:=Q) (x:=.mk k s o l)with⟨b,h1,_,h3⟩|⟨_,h2⟩
   ·rw[h3];exact hQ b h1
   ·rw[h2];exact h0
  ·rw[bw,if_neg hk,pre,bN]at hy;rcases Z'.1 hy with rfl |hy
   ·exact⟨_,gf _,by rw[bw,if_neg hk,bN]⟩
   ·obtain⟨u',OL,hy⟩:=bT.1 hy;obtain⟨u,hu,rfl⟩:=aak.1 OL;have jr:∀z∈pre u,z∈pre (.mk k s o l):=λz hz=>by rw[pre];exact abf _ (bT.2 ⟨u,hu,hz⟩)
    obtain⟨z,hz,e⟩:=ih u hu (λz hz=>hl z (jr z hz)) y hy;exact⟨z,jr z hz,e⟩
structure Lh(Q:List c9)(ts:List Tm):Prop where
 lv:Lvs ts
 at_:∀b∈Q,b.t.k=2/\b.t.l=[]/\ti b.t=false
 fr:∀b∈Q,b.t∉ch ts
 inj:∀b∈Q,∀c∈Q,b.t=c.t->b.v=c.v
 bd:∀z∈ch ts,z.k=1->∃b∈Q,b.v=z
theorem Lh.var{Q:List c9}{ts:List Tm}(F:Lh Q ts){z:Tm}(hz:z∈ch ts)(hk:z.k=1):∃b∈Q,b.v=z/\bw Q z=b.t:=by
 rcases AU (S:=Q) (x:=z)with⟨b,h1,h2,h3⟩|⟨h1,_⟩
 ·exact⟨b,h1,h2,by obtain⟨k,s,o,l⟩:=z;have hk:k=1:=hk;rw[bw,if_pos hk,h3]⟩
 ·obtain⟨b,hb,e⟩:=F.bd z hz hk;exact absurd e (h1 b hb)
theorem Lh.top{Q:List c9}{ts:List Tm}(F:Lh Q ts){z:Tm}(hz:z∈ch ts)(hk:z.k≠1){b:c9}(hb:b∈Q)(e:bw Q z=b.t):False:=by
 have h1:=(F.at_ b hb).2.1;rw[<-e,(lm hk).2.2.2,bN,List.map_eq_nil_iff]at h1;obtain⟨k,s,o,l⟩:=z;obtain rfl:l=[]:=h1;have hk:k≠1:=hk;rw[bw,if_neg hk,bG]at e;exact F.fr b hb (e▸hz)
theorem Cu{f:Tm->Tm}:∀{l l':List Tm},(∀a∈l,∀b∈l',f a=f b->a=b)->l.map f=l'.map f->l=l'
 |[],[],_,_=>rfl
 |[],b::l',_,e=>by simp at e
 |a::l,[],_,e=>by simp at e
 |a::l,b::l',h,e=>by
  simp only[aah,List.cons.injEq]at e;rw[h a (by simp) b (by simp) e.1,Cu (λx hx y hy=>h x (by simp[hx]) y (by simp[hy])) e.2]
theorem Lh.eq{Q:List c9}{ts:List Tm}(F:Lh Q ts)(z:Tm):z∈ch ts->∀z'∈ch ts,bw Q z=bw Q z'->z=z':=by
 induction z using Tm.ind with
 |h k s o l ih=>
  intro hz z' sM e
  by_cases hk:k=1
  ·obtain⟨b,hb,hv,hp⟩:=F.var hz hk
   by_cases fB:z'.k=1
   ·obtain⟨c,hc,BM,Tf⟩:=F.var sM fB;rw[<-hv,<-BM];exact F.inj b hb c hc (by rw[<-hp,<-Tf,e])
   ·exact(F.top sM fB hb (by rw[<-e,hp])).elim
  ·by_cases fB:z'.k=1
   ·obtain⟨c,hc,BM,Tf⟩:=F.var sM fB;exact(F.top hz hk hc (by rw[e,Tf])).elim
   ·obtain⟨k',s',o',l'⟩:=z';have fB:k'≠1:=fB;rw[bw,if_neg hk,bw,if_neg fB,bN,bN]at e
    injection e with e1 e2 e3 e4
    subst e1 e2 e3
    congr 1
    exact Cu (λa ha b hb he=>ih a ha (mM hz ha) b (mM sM hb) he) e4
theorem je{S:List c9}{z:Tm}(h:z.k≠1)(n:ByteArray):eV (bw S z) n=eV z n:=by
 obtain⟨h1,h2,_⟩:=lm (S:=S) h;rw[eV,eV,h1,h2]
theorem zE{S:List c9}{z:Tm}(h:z.k≠1):kj (bw S z)=(kj z).map (bw S):=by
 have h4:=(lm (S:=S) h).2.2.2;rw[bN]at h4;unfold kj;rw[je h,je h,h4]
 split
 ·rfl
 ·split
  ·rw[List.map_take]
  ·rfl
theorem jf{S:List c9}{z:Tm}{i:Nat}(h:z.k≠1)(hi:i<z.l.length):fy (bw S z) i=bw S (fy z i):=by
 have h4:=(lm (S:=S) h).2.2.2;rw[bN]at h4;simp[fy,h4,aam,hi]
theorem p9{z:Tm}{i:Nat}(hi:i<z.l.length):fy z i∈z.l:=by
 simp[fy,aam,hi]
theorem GB{S:List c9}{z:Tm}(h:z.k≠1):ti (bw S z)=ti z:=by
 obtain⟨h1,h2,h3,h4⟩:=lm (S:=S) h
 have h5:(bG S z.l).isEmpty=z.l.isEmpty:=by
  rw[bN]
  cases z.l <;>rfl
 unfold ti;rw[h1,h2,h3,h4,h5]
theorem oq.mono{u s u' s':List Tm}(hu:∀t∈u,t∈u')(hs:∀t∈s,oq u' s' t){t:Tm}(h:oq u s t):oq u' s' t:=by
 induction h with
 |base h=>exact hs _ h
 |Tg h1 h2=>exact .Tg (hu _ h1) h2
 |comp h1 h2 _ ih=>exact .comp (hu _ h1) h2 ih
 |part _ hx ih=>exact .part ih hx
 |«open»_ hk _ ih1 ih2=>exact .open ih1 hk ih2
theorem Lh.k1{Q:List c9}{ts:List Tm}(F:Lh Q ts){z:Tm}(hz:z∈ch ts)(h:(bw Q z).k=3):z.k≠1:=λhk=>by
 obtain⟨b,hb,_,hp⟩:=F.var hz hk;rw[hp,(F.at_ b hb).1]at h;omega
theorem Li{Q S:List c9}{ts:List Tm}(F:Lh Q ts){z:Tm}(hz:z∈ch ts)(hk:pg (bw Q z)=0)(hS:ky (bw S z)=0):
  z.k≠1/\fy z 0∈z.l/\fy (bw Q z) 0=bw Q (fy z 0)/\fy (bw S z) 0=bw S (fy z 0)/\pg (bw S z)=0/\∃c∈pre z,oe (bw Q z)=bw Q c/\oe (bw S z)=bw S c:=by
 obtain⟨h1,h2⟩:=mN hk;rcases h2 with⟨h2,h3⟩|⟨h2,h4,h3⟩
 ·have wQ:=F.k1 hz (rY h2).1;obtain⟨a,b,e⟩:=kD h1 h2 BB.2.1;have hl:z.l.length=2:=by rw[<-gy Q,<-(lm wQ).2.2.2,e];rfl
  rw[je wQ]at h2;have hE:pg (bw S z)=0:=by rw[pg,if_neg (by omega),je wQ,h2,if_pos rfl]
  refine⟨wQ,p9 (by omega),jf wQ (by omega),jf wQ (by omega),hE,fy z 1,rX (p9 (by omega)),by rw[h3,jf wQ (by omega)],?_⟩;rw[oe,if_neg (by omega),je wQ,h2,if_pos rfl,jf wQ (by omega)]
 ·have wQ:=F.k1 hz (rY h2).1;obtain⟨a,b,e⟩:=kD h1 h2 BB.2.2.1;have hl:z.l.length=2:=by rw[<-gy Q,<-(lm wQ).2.2.2,e];rfl
  have jr:=p9 (z:=z) (i:=1) (by omega);have qZ:ky (fy (bw Q z) 1)=0:=rZ h1 (p9 (by rw[(lm wQ).2.2.2,gy];omega));rw[jf wQ (by omega)]at h3 h4 qZ;have Qg:=F.k1 (mM hz jr) (rY h4).1;obtain⟨c,e2⟩:=vt qZ h4 BB.2.2.2.2;have cE:(fy z 1).l.length=1:=by rw[<-gy Q,<-(lm Qg).2.2.2,e2];rfl
  rw[je wQ]at h2;rw[je Qg]at h4;have bJ:=wR h2 pj.2.2.2.2.2
  have hE:pg (bw S z)=0:=by
   rw[pg,if_neg (by omega),je wQ,je wQ,bJ,if_neg (by simp),h2,if_neg (by simp),jf wQ (by omega),je Qg,h4,if_neg (by simp)]
  refine⟨wQ,p9 (by omega),jf wQ (by omega),jf wQ (by omega),hE,fy (fy z 1) 0,jH z _ (rX jr) _ (rX (p9 (by omega))),by rw[h3,jf Qg (by omega)],?_⟩;rw[oe,if_neg (by omega),je wQ,bJ,if_neg (by simp),jf wQ (by omega),jf Qg (by omega)]
theorem OM{Q S:List c9}{kn ex:List Tm}{tm:Tm}(F:Lh Q ((kn++ex)++[tm]))(U':EX (fi (bG Q (kn++ex)++[bw Q tm])))(U:EX (fi (bG S kn++[bw S tm])))
  (hx:∀x∈ex,x.k=1/\(x∈ch (kn++[tm])->oq (fi (bG S kn++[bw S tm])) (jb (bG S kn)) (bw S x))) {y:Tm} (h:oq (fi (bG Q (kn++ex)++[bw Q tm])) (jb (bG Q (kn++ex))) y):
  ∀z∈ch (kn++[tm]),y=bw Q z->oq (fi (bG S kn++[bw S tm])) (jb (bG S kn)) (bw S z):=by
 have q8:∀z∈ch (kn++[tm]),z∈ch ((kn++ex)++[tm]):=λz hz=>by
  obtain⟨t,ht,h⟩:=bT.1 hz;refine bT.2 ⟨t,?_,h⟩;simp only[Z8]at ht ⊢;rcases ht with h |h
  ·exact .inl (.inl h)
  ·exact .inr h
 have yJ:∀{t:Tm},t∈(kn++ex)++[tm]->∀z∈pre t,z.k=1->z.l=[]:=λht z hz=>F.lv z (bT.2 ⟨_,ht,hz⟩)
 have hu:∀z∈ch (kn++[tm]),bw S z∈fi (bG S kn++[bw S tm]):=λz hz=>by
  obtain⟨t,ht,h⟩:=bT.1 hz;refine(db _ _).2 (bT.2 ⟨bw S t,?_,GA t (yJ ?_) z h⟩)
  ·rw[bN];simp only[Z8,aak,aav]at ht ⊢;rcases ht with h |h
   ·exact .inl ⟨t,h,rfl⟩
   ·exact .inr (by rw[h])
  ·simp only[Z8]at ht ⊢;rcases ht with h |h
   ·exact .inl (.inl h)
   ·exact .inr h
 have hU':∀y∈fi (bG Q (kn++ex)++[bw Q tm]),∃z∈ch ((kn++ex)++[tm]),y=bw Q z:=λy hy=>by
  obtain⟨t',UG,hy⟩:=bT.1 ((db _ _).1 hy)
  obtain⟨t,ht,rfl⟩:∃t∈(kn++ex)++[tm],t'=bw Q t:=by
   rw[bN]at UG;rcases Z8.1 UG with h |h
   ·obtain⟨t,ht,rfl⟩:=aak.1 h;exact⟨t,aaH _ ht,rfl⟩
   ·simp at h;exact⟨tm,by simp,h⟩
  obtain⟨z,hz,e⟩:=OK (λb hb=>(F.at_ b hb).2.1) t (yJ ht) y hy;exact⟨z,bT.2 ⟨t,ht,hz⟩,e⟩
 have DQ:∀x∈jb (bG Q (kn++ex)),x∈fi (bG Q (kn++ex)++[bw Q tm]):=λx hx=>(db _ _).2 (mL (aaH _ ((db _ _).1 hx)))
 have jr:∀z∈ch ((kn++ex)++[tm]),z.k≠1->z∈ch (kn++[tm]):=λz hz hk=>by
  obtain⟨t,ht,h⟩:=bT.1 hz;rcases Z8.1 ht with ht |ht
  ·rcases Z8.1 ht with ht |ht
   ·exact bT.2 ⟨t,by simp[ht],h⟩
   ·have h1:=(hx t ht).1;have h2:=F.lv t (mL (by simp[ht])) h1;rw[wP h2 z h]at hk;exact absurd h1 hk
  ·exact bT.2 ⟨t,abK _ ht,h⟩
 induction h with
 | @base t h=>
  intro z hz e
  have h:=(db _ _).1 h;rw[bN]at h;obtain⟨z0,h0,e0⟩:=aak.1 h;have V0:z0=z:=F.eq z0 (mL (aaH _ h0)) z (q8 z hz) (by rw[e0,e]);subst V0;rcases Z8.1 h0 with h1 |h1
  ·exact .base ((db _ _).2 (by rw[bN];exact aak.2 ⟨z0,h1,rfl⟩))
  ·exact(hx z0 h1).2 hz
 | @Tg t h1 h2=>
  rintro z hz rfl
  by_cases hk:z.k=1
  ·obtain⟨b,hb,_,hp⟩:=F.var (q8 z hz) hk;rw[hp,(F.at_ b hb).2.2]at h2
   cases h2
  ·rw[GB hk]at h2;exact .Tg (hu z hz) (by rw[GB hk];exact h2)
 | @comp t h1 h2 _ ih=>
  rintro z hz rfl
  have h3:(bw Q z).k=3:=by
   simp only[qx,Z9,decide_eq_true_eq]at h2;exact h2.1
  have hk:=F.k1 (q8 z hz) h3;obtain⟨q1,q2,_,q4⟩:=lm (S:=Q) hk;obtain⟨r1,r2,_,r4⟩:=lm (S:=S) hk;refine .comp (hu z hz) ?_ λx hx=>?_
  ·rw[qx,q1,q2]at h2;rw[qx,r1,r2];exact h2
  ·rw[r4,bN]at hx;obtain⟨c,hc,rfl⟩:=aak.1 hx;exact ih (bw Q c) (by rw[q4,bN];exact aak.2 ⟨c,hc,rfl⟩) c (mM hz hc) rfl
 | @part t x hd hx ih=>
  rintro z hz rfl;obtain⟨z',sM,rfl⟩:=hU' t (oq.mem U' DQ hd)
  have h3:(bw Q z').k=3:=by
   unfold kj at hx
   split at hx
   ·rename_i h;exact(rY h).1
   ·split at hx
    ·rename_i h;exact(rY h).1
    ·cases hx
  have hk:=F.k1 sM h3;have zF:=jr z' sM hk;rw[zE hk]at hx;obtain⟨c,hc,e⟩:=aak.1 hx;have hcz:c=z:=F.eq c (mM sM (tj hc)) z (q8 z hz) e;subst hcz;exact .part (ih z' zF rfl) (by rw[zE hk];exact aak.2 ⟨c,hc,rfl⟩)
 | @«open»t hd hk HP ih1 ih2=>
  intro z hz e
  obtain⟨z',sM,rfl⟩:=hU' t (oq.mem U' DQ hd)
  have h3:(bw Q z').k=3:=by
   rcases(mN hk).2 with⟨h,_⟩|⟨h,_⟩ <;>exact(rY h).1
  have zF:=jr z' sM (F.k1 sM h3);obtain⟨g1,g2,g3,g4,g5,c,g6,g7,g8⟩:=Li (S:=S) F sM hk (U.ok _ (hu z' zF))
  have hc:c∈ch (kn++[tm]):=by
   obtain⟨t,ht,h⟩:=bT.1 zF;exact bT.2 ⟨t,ht,jH t z' h c g6⟩
  have hkz:fy z' 0=z:=F.eq _ (mM sM g2) z (q8 z hz) (by rw[<-g3,e]);subst hkz;rw[<-g4];refine .open (ih1 z' zF rfl) g5 ?_;rw[g8];exact ih2 c hc g7
mutual
def zX:PV->PV->Bool
 | .int k n,.int k' n'=>decide (k=k')&&decide (n=n')
 | .bool a,.bool b=>a==b
 | .str a,.str b=>a.data.toList==b.data.toList
 | .agg cs,.agg ds=>Ba cs ds
 | .cx cs,.cx ds=>Ba cs ds
 | .aa f cs,.aa g ds=>(f==g)&&Ba cs ds
 | .gm,.gm=>true
 | .ek,.ek=>true
 | .aG,.aG=>true
 |_,_=>false
def Ba:List PV->List PV->Bool
 |[],[]=>true
 |c::cs,d::ds=>zX c d&&Ba cs ds
 |_,_=>false
end
mutual
theorem Mp:∀{a b:PV},zX a b=true->a=b
 | .int k n,b,h=>by cases b <;>simp[zX]at h;rw[h.1,h.2]
 | .bool x,b,h=>by cases b <;>simp[zX]at h;rw[h]
 | .str x,b,h=>by
  cases b <;>simp[zX]at h
  rename_i y
  cases x;cases y
  simp at h;rw[h]
 | .agg cs,b,h=>by cases b <;>simp[zX]at h;rw[so h]
 | .cx cs,b,h=>by cases b <;>simp[zX]at h;rw[so h]
 | .aa f cs,b,h=>by cases b <;>simp[zX]at h;rw[h.1,so h.2]
 | .gm,b,h=>by cases b <;>simp[zX]at h;rfl
 | .ek,b,h=>by cases b <;>simp[zX]at h;rfl
 | .aG,b,h=>by cases b <;>simp[zX]at h;rfl
 | .ak ..,b,h=>by simp[zX]at h
 | .ptr ..,b,h=>by simp[zX]at h
 | .eH _,b,h=>by simp[zX]at h
 | .cB _,b,h=>by simp[zX]at h
 | .fn ..,b,h=>by simp[zX]at h
 | .ni ..,b,h=>by simp[zX]at h
 | .undef,b,h=>by simp[zX]at h
 | .any,b,h=>by simp[zX]at h
theorem so:∀{a b:List PV},Ba a b=true->a=b
 |[],b,h=>by cases b <;>simp[Ba]at h;rfl
 |c::cs,b,h=>by
  cases b with
  |nil=>simp[Ba]at h
  |cons d ds=>
   simp only[Ba,Z9]at h;rw[Mp h.1,so h.2]
end
abbrev kQ:=List (FuncId×List PV×PV)
def WS(m:kQ)(f:FuncId)(args:List PV):Option PV:=(m.find? λx=>Nat.beq x.1 f&&Ba x.2.1 args).map (·.2.2)
def kS(m:kQ)(md:FuncId->Mode)(f:FuncId):Mode:=if m.any (λx=>Nat.beq x.1 f)=true then .ext (WS m f)else md f
variable{P:Program}{md:FuncId->Mode}
def ka(P:Program)(md:FuncId->Mode)(m:kQ):Prop:=∀x∈m,md x.1=.pure/\aO ⟨P,md⟩ x.1 x.2.1 x.2.2
theorem zY:∀{m:kQ},ka P md m->∃n0,∀x∈m,md x.1=.pure/\∀n,n0<=n->∃r0 hc r1,fe ⟨P,md⟩ n x.1 x.2.1 []=some (r0,hc)/\yU hc r0=some r1/\cf r1=x.2.2
 |[],_=>⟨0,λx hx=>by cases hx⟩
 |y::m,h=>by
  obtain⟨n1,h1⟩:=zY (m:=m) λx hx=>h x (by simp[hx])
  obtain⟨hp,n2,h2⟩:=h y (by simp);refine⟨max n1 n2,λx hx=>?_⟩;rcases Z'.1 hx with rfl |hx
  ·exact⟨hp,λn hn=>h2 n (by omega)⟩
  ·exact⟨(h1 x hx).1,λn hn=>(h1 x hx).2 n (by omega)⟩
theorem GW{m:kQ}{n0:Nat}(hm:∀x∈m,md x.1=.pure/\∀n,n0<=n->∃r0 hc r1,fe ⟨P,md⟩ n x.1 x.2.1 []=some (r0,hc)/\yU hc r0=some r1/\cf r1=x.2.2):∀n,gZ (fe ⟨P,kS m md⟩ n) (fe ⟨P,md⟩ (n+n0))
 |0=>λf args h x e=>by cases e
 |n+1=>by
  have ih:=GW hm n;rw[show n+1+n0=(n+n0)+1 by omega];refine Dc (P:=P) (md:=kS m md) (md':=md) (run:=fe ⟨P,kS m md⟩ n) (run':=fe ⟨P,md⟩ (n+n0)) ?_ (by omega)
  intro lv f args h x e
  by_cases hf:m.any (λx=>Nat.beq x.1 f)=true
  ·unfold dg at e;simp only[kS,if_pos hf]at e
   split at e
   ·rename_i hv
    obtain⟨r,hr,rfl⟩:=aaP.1 e;obtain⟨y,hy,rfl⟩:=aaP.1 hr;have OV:=List.find?_some hy;have hy2:=List.mem_of_find?_eq_some hy;simp only[Z9]at OV;obtain rfl:=aaN OV.1;have ha:=so OV.2;obtain⟨hp,hq⟩:=hm y hy2;obtain⟨r0,hc,r1,e1,e2,e3⟩:=hq (n+n0) (by omega);unfold dg;rw[show(⟨P,md⟩:cP).mode y.1=.pure from hp];rw[ha]at e1;simp only[dD,hv,if_true,e1,e2,e3]
   ·cases e
  ·have hmd:kS m md f=md f:=if_neg hf;unfold dg at e ⊢;simp only[hmd]at e
   cases hq:md f <;>simp only[hq]at e ⊢
   ·cases e
   ·exact ml ih e
   ·exact mn ih e
   ·exact e
   ·exact jR (λ_ _ _ x=>x) e
   ·exact e
theorem aO.Va{m:kQ}(hm:ka P md m){f:FuncId}{args:List PV}{r:PV}(a:aO ⟨P,kS m md⟩ f args r):aO ⟨P,md⟩ f args r:=by
 obtain⟨n0,hq⟩:=zY hm;obtain⟨n1,hn⟩:=a;refine⟨n1+n0,λn h1=>?_⟩;obtain⟨r0,hc,r1,e1,e2⟩:=hn (n - n0) (by omega);refine⟨r0,hc,r1,?_,e2⟩;have:=GW hq (n - n0) _ _ _ _ e1;rwa[show n - n0+n0=n by omega]at this
def Mq:Mode->Bool | .pure=>true |_=>false
theorem IU{m:Mode}(h:Mq m=true):m=.pure:=by cases m <;>first |rfl |cases h
def lT(P:Program)(md:FuncId->Mode)(n:Nat)(rows:kQ):Bool:=rows.all λx=>match oC ⟨P,md⟩ n x.1 x.2.1 with
 |some r=>zX r x.2.2
 |none=>false
theorem kT{m rows:kQ}{n:Nat}(hm:ka P md m)(h1:lT P (kS m md) n rows=true)(h2:(rows.all λx=>Mq (md x.1))=true):ka P md (rows++m):=by
 intro x hx
 rcases Z8.1 hx with hx |hx
 ·refine⟨IU (Z1.1 h2 x hx),?_⟩;have h3:=Z1.1 h1 x hx
  split at h3
  ·rename_i r hr
   rw[<-Mp h3];exact aO.Va hm (aO.kb hr)
  ·cases h3
 ·exact hm x hx
end Go.Pm
