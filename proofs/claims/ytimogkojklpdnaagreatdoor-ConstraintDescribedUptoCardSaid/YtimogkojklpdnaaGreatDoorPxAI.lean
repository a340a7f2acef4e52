/-
  Pm, a part. Conditions: none.
-/
import Derived.Test.YtimogkojklpdnaaGreatDoorPxAH
set_option linter.unusedVariables false
set_option linter.unusedSimpArgs false
set_option linter.unnecessarySimpa false
namespace Go.Pm
def db(t:Tm)(n:ByteArray):Bool:=decide (t.k=3)&&eI t.s n
def fO(t:Tm)(i:Nat):Tm:=t.l.getD i dM
def iQ(t:Tm):Bool:=every ua t
def nG:ByteArray:=⟨#[103]⟩
def N1(s:List UInt8):Bool:=!s.isEmpty&&s.all λc=>qb c.toNat
def wu(s:List UInt8):Bool:=(s.take 2==[101,35])&&N1 (s.drop 2)
def wq(t:Tm):Bool:=
 if t.k=3 then(eI t.s hC ||eI t.s qc)&&t.l.isEmpty
 else if t.k≠2 then false
 else if t.o=1\/t.o=5 then true
 else if t.o=4 then eI t.s nG ||wu t.s.toList
 else if t.o=0\/t.o=2\/t.o=3 then wu t.s.toList
 else false
def tw(s:ByteArray):Bool:=eI s gd ||eI s iP ||eI s fC ||eI s FG ||eI s iF ||eI s x6
def yC(t:Tm):Bool:=decide (t.k=3)&&tw t.s
def mi(t:Tm):Int:=if gw t≠0 then gw t else if db t iP=true then 0 else if db t fC=false then 10 else if db (fO t 1) FG=false then 4 else 0
def cg(t:Tm):Tm:=if mi t≠0 then dM else if db t iP=true then fO t 1 else fO (fO t 1) 0
def mj(t:Tm):List Tm:=if db t gd=true then t.l else if db t iF=true then t.l.take 1 else[]
inductive sf(u s:List Tm):Tm->Prop
 |base {t:Tm}:t∈s->sf u s t
 |W1 {t:Tm}:t∈u->wq t=true->sf u s t
 |comp {t:Tm}:t∈u->yC t=true->(∀x∈t.l,sf u s x)->sf u s t
 |part {t x:Tm}:sf u s t->x∈mj t->sf u s x
 |open {t:Tm}:sf u s t->mi t=0->sf u s (cg t)->sf u s (fO t 0)
def mg(s:List Tm)(u:Tm):Bool:=yC u&&u.l.all (bF s)
def vO(s:List Tm)(u t:Tm):Bool:=
 if db t gd=true then decide (aT (fO t 0) u=0)||decide (aT (fO t 1) u=0)
 else if db t iF=true then decide (aT (fO t 0) u=0)
 else if db t iP ||db t fC then decide (mi t=0)&&decide (aT (fO t 0) u=0)&&bF s (cg t)
 else false
def vL(s:List Tm)(u:Tm):Bool:=s.any (vO s u)
def nV(s:List Tm)(u:Tm):Bool:=bF s u ||wq u ||mg s u ||vL s u
open Classical in
noncomputable def qe(u s:List Tm):List Tm:=u.filter λt=>decide (sf u s t)
structure Bn(u:List Tm):Prop where
 oT:fv u
 kids:∀t∈u,∀x∈t.l,x∈u
 ok:∀t∈u,gw t=0
 fr:∀t∈u,iQ t=true
theorem VP{s n:ByteArray}(h:eI s n=true):s=n:=xe (by simpa[eI]using h)
theorem N8{t:Tm}{n:ByteArray}(h:db t n=true):t.k=3/\t.s=n:=by
 simp only[db,abq,decide_eq_true_eq]at h;exact⟨h.1,VP h.2⟩
theorem gk:∀{l:List Tm},si l=0->∀t∈l,lI t=0
 |[],_,t,h=>by cases h
 |u::l,e,t,h=>by
  rw[si]at e
  split at e
  ·rename_i hn;exact absurd e hn
  ·rcases abu.1 h with rfl |h
   ·omega
   ·exact gk e t h
theorem iE{t:Tm}:gw t=0↔valid t=0/\lI t=0:=by
 unfold gw
 split
 ·constructor
  ·intro h;exact absurd h (by assumption)
  ·intro h;exact absurd h.1 (by assumption)
 ·constructor
  ·intro h;exact⟨by omega,h⟩
  ·exact λh=>h.2
theorem I3{s:ByteArray}{o:Int}{l:List Tm}(h:lI (.mk 3 s o l)=0):(bZ s).k≠0/\(bZ s).a<=l.length/\l.length<=(bZ s).b/\fB s l=true/\si l=0:=by
 rw[lI,if_neg (by simp)]at h
 split at h
 ·omega
 ·split at h
  ·omega
  ·split at h
   ·omega
   ·rename_i h1 h2 h3
    exact⟨h1,by omega,by omega,by simpa using h3,h⟩
theorem qR{t x:Tm}(h:gw t=0)(hx:x∈t.l):gw x=0:=by
 obtain⟨h1,h2⟩:=iE.1 h;obtain⟨k,s,o,l⟩:=t;simp only[Tm.l]at hx;refine iE.2 ⟨JX h1 hx,?_⟩
 by_cases hk:k=3
 ·subst hk;exact gk (I3 h2).2.2.2.2 x hx
 ·exfalso;have h3:=(lV (fq.1 h1).1).1;unfold node at h3;have hl:l≠[]:=by intro hh;rw[hh]at hx;cases hx
  have hp:0<l.length:=ac7.2 hl
  (repeat' split at h3) <;>simp_all
  all_goals omega
theorem uz(t:Tm):∀x∈pre t,∀y∈pre x,y∈pre t:=by
 induction t using Tm.ind with
 |h k s o l ih=>
  intro x hx y hy
  rw[pre]at hx ⊢;rcases abu.1 hx with rfl |hx
  ·rw[pre]at hy;exact hy
  ·obtain⟨u,hu,hx⟩:=fm.1 hx;exact adM _ (fm.2 ⟨u,hu,ih u hu x hx y hy⟩)
theorem Ru{t x:Tm}(hx:x∈t.l):x∈pre t:=by
 obtain⟨k,s,o,l⟩:=t;rw[pre];exact adM _ (fm.2 ⟨x,hx,pT x⟩)
theorem Rv(t:Tm):gw t=0->∀x∈pre t,gw x=0:=by
 induction t using Tm.ind with
 |h k s o l ih=>
  intro h x hx
  rw[pre]at hx;rcases abu.1 hx with rfl |hx
  ·exact h
  ·obtain⟨u,hu,hx⟩:=fm.1 hx;exact ih u hu (qR h hu) x hx
theorem tc{t x:Tm}(h:iQ t=true)(hx:x∈pre t):iQ x=true:=by
 unfold iQ at h ⊢;rw[uu,abk]at h ⊢;exact λy hy=>h y (uz t x hx y hy)
theorem IX{t:Tm}(h:iQ t=true)(hk:t.k=3):ua t.s=true:=by
 unfold iQ at h;rw[uu,abk]at h;have:=h t (pT t);simpa[hk]using this
def fQ(l:List Tm):List Tm:=gb (cQ l)
theorem Ob{l:List Tm}(h:∀t∈l,gw t=0/\iQ t=true):Bn (fQ l):=by
 have hm:∀y∈fQ l,∃t∈l,y∈pre t:=λy hy=>fm.1 ((eG _ _).1 hy)
 refine⟨jA _,λt ht x hx=>?_,λt ht=>?_,λt ht=>?_⟩
 ·obtain⟨a,ha,hb⟩:=hm t ht;exact(eG _ _).2 (fm.2 ⟨a,ha,uz a t hb x (Ru hx)⟩)
 ·obtain⟨a,ha,hb⟩:=hm t ht;exact Rv a (h a ha).1 t hb
 ·obtain⟨a,ha,hb⟩:=hm t ht;exact tc (h a ha).2 hb
theorem Et{t:Tm}{n:ByteArray}(h:gw t=0)(hn:db t n=true):(bZ n).a<=t.l.length/\t.l.length<=(bZ n).b:=by
 obtain⟨h1,h2⟩:=N8 hn;obtain⟨k,s,o,l⟩:=t;simp only[Tm.k,Tm.s]at h1 h2;subst h1 h2;obtain⟨_,h3,h4,_⟩:=I3 (iE.1 h).2;exact⟨h3,h4⟩
theorem o8{t:Tm}{n:ByteArray}(h:gw t=0)(hn:db t n=true)(h2:(bZ n).a=2/\(bZ n).b=2):∃a b,t.l=[a,b]:=by
 have h1:=Et h hn;rw[h2.1,h2.2]at h1
 match hl:t.l with
 |[a,b]=>exact⟨a,b,rfl⟩
 |[]=>rw[hl]at h1;simp at h1
 |[_]=>rw[hl]at h1;simp at h1
 |_::_::_::_=>rw[hl]at h1;simp at h1;omega
theorem xf{t:Tm}{n:ByteArray}(h:gw t=0)(hn:db t n=true)(h2:(bZ n).a=1/\(bZ n).b=1):∃a,t.l=[a]:=by
 have h1:=Et h hn;rw[h2.1,h2.2]at h1
 match hl:t.l with
 |[a]=>exact⟨a,rfl⟩
 |[]=>rw[hl]at h1;simp at h1
 |_::_::_=>rw[hl]at h1;simp at h1;omega
theorem Bt:((bZ gd).a=2/\(bZ gd).b=2)/\((bZ iP).a=2/\(bZ iP).b=2)/\((bZ fC).a=2/\(bZ fC).b=2)/\((bZ iF).a=2/\(bZ iF).b=2)/\((bZ FG).a=1/\(bZ FG).b=1):=by
 refine⟨⟨?_,?_⟩,⟨?_,?_⟩,⟨?_,?_⟩,⟨?_,?_⟩,⟨?_,?_⟩⟩ <;>kernel_rfl
theorem nW:eI iF gd=false/\eI iP gd=false/\eI iP iF=false/\eI fC gd=false/\eI fC iF=false/\eI fC iP=false:=by
 refine⟨?_,?_,?_,?_,?_,?_⟩ <;>kernel_rfl
theorem uN{t:Tm}{n m:ByteArray}(h:db t n=true)(hn:eI n m=false):db t m=false:=by
 obtain⟨h1,h2⟩:=N8 h;simp[db,h1,h2,hn]
theorem qT{t:Tm}(h:mi t=0):gw t=0/\((db t iP=true/\cg t=fO t 1)\/(db t fC=true/\db (fO t 1) FG=true/\cg t=fO (fO t 1) 0)):=by
 have hv:cg t=if db t iP=true then fO t 1 else fO (fO t 1) 0:=by rw[cg,if_neg (by omega)]
 unfold mi at h
 split at h
 ·rename_i h1;exact absurd h h1
 ·rename_i h1
  refine⟨by omega,?_⟩
  split at h
  ·rename_i h2;rw[if_pos h2]at hv;exact .inl ⟨h2,hv⟩
  ·rename_i h2
   rw[if_neg h2]at hv
   split at h
   ·omega
   ·split at h
    ·omega
    ·rename_i h3 h4;exact .inr ⟨by simpa using h3,by simpa using h4,hv⟩
theorem Bn.key{u:List Tm}(U:Bn u){t:Tm}(ht:t∈u)(h:mi t=0):cg t∈u/\fO t 0∈u/\fO t 0∈t.l:=by
 obtain⟨h1,h2⟩:=qT h;rcases h2 with⟨h2,h3⟩|⟨h2,h4,h3⟩
 ·obtain⟨a,b,e⟩:=o8 h1 h2 Bt.2.1;rw[h3];simp only[fO,e];exact⟨U.kids t ht _ (by rw[e];simp),U.kids t ht _ (by rw[e];simp),by simp⟩
 ·obtain⟨a,b,e⟩:=o8 h1 h2 Bt.2.2.1;rw[h3];have hb:b∈u:=U.kids t ht _ (by rw[e];simp);have hk:fO t 1=b:=by simp[fO,e]
  rw[hk]at h4 ⊢;obtain⟨c,e2⟩:=xf (U.ok b hb) h4 Bt.2.2.2.2;refine⟨?_,?_,?_⟩
  ·simp only[fO,e2];exact U.kids b hb _ (by rw[e2];simp)
  ·simp only[fO,e];exact U.kids t ht _ (by rw[e];simp)
  ·simp[fO,e]
theorem KF{t x:Tm}(h:x∈mj t):x∈t.l:=by
 unfold mj at h
 split at h
 ·exact h
 ·split at h
  ·exact ab3 h
  ·cases h
theorem sf.step{u s r:List Tm}(U:Bn u)(hr:∀x∈r,x∈u/\sf u s x){t:Tm}(ht:t∈u)(h:nV r t=true):sf u s t:=by
 simp only[nV,abN]at h;rcases h with((h |h)|h)|h
 ·exact(hr t (bU.1 h)).2
 ·exact .W1 ht h
 ·simp only[mg,abq,abk]at h;exact .comp ht h.1 λx hx=>(hr x (bU.1 (h.2 x hx))).2
 ·simp only[vL,aci]at h;obtain⟨y,hy,h⟩:=h;obtain⟨hyu,hyd⟩:=hr y hy;have ga:=U.ok y hyu;unfold vO at h
  split at h
  ·rename_i h1
   obtain⟨a,b,e⟩:=o8 ga h1 Bt.1;have hp:mj y=[a,b]:=by rw[mj,if_pos h1,e]
   simp only[fO,e,abN,decide_eq_true_eq]at h;rcases h with h |h
   ·have:=cP h;simp at this;subst this;exact .part hyd (by rw[hp];simp)
   ·have:=cP h;simp at this;subst this;exact .part hyd (by rw[hp];simp)
  ·split at h
   ·rename_i h0 h1
    obtain⟨a,b,e⟩:=o8 ga h1 Bt.2.2.2.1;have hp:mj y=[a]:=by rw[mj,if_neg h0,if_pos h1,e];rfl
    simp only[fO,e,decide_eq_true_eq]at h;have:=cP h;simp at this;subst this;exact .part hyd (by rw[hp];simp)
   ·split at h
    ·simp only[abq,decide_eq_true_eq]at h;obtain⟨⟨h1,h2⟩,h3⟩:=h;rw[<-cP h2];exact .open hyd h1 (hr _ (bU.1 h3)).2
    ·cases h
theorem sf.fix{u s r:List Tm}(U:Bn u)(hs:∀x∈s,x∈r)(hr:∀x∈r,x∈u)(hf:∀t∈u,nV r t=true->t∈r){t:Tm}(h:sf u s t):t∈r:=by
 induction h with
 |base h=>exact hs _ h
 |W1 h1 h2=>exact hf _ h1 (by simp[nV,h2])
 |comp h1 h2 _ ih=>exact hf _ h1 (by simp only[nV,mg,h2,acs,abN,abk];exact .inl (.inr λx hx=>bU.2 (ih x hx)))
 | @part t x _ hx ih=>
  have mS:=hr _ ih;have ga:=U.ok _ mS;refine hf x (U.kids _ mS _ (KF hx)) ?_;simp only[nV,abN];refine .inr ?_;simp only[vL,aci];refine⟨t,ih,?_⟩;unfold mj at hx;unfold vO
  split at hx
  ·rename_i h1
   obtain⟨a,b,e⟩:=o8 ga h1 Bt.1;rw[if_pos h1];rw[e]at hx;simp only[fO,e,abN,decide_eq_true_eq];simp at hx;rcases hx with rfl |rfl
   ·exact .inl (by simp[cq])
   ·exact .inr (by simp[cq])
  ·split at hx
   ·rename_i h0 h1
    obtain⟨a,b,e⟩:=o8 ga h1 Bt.2.2.2.1;rw[if_neg h0,if_pos h1];rw[e]at hx;simp at hx;subst hx;simp[fO,e,cq]
   ·cases hx
 | @«open»t _ hk _ ih1 ih2=>
  have mS:=hr _ ih1;obtain⟨q1,q2,q3⟩:=U.key mS hk;refine hf _ q2 ?_;simp only[nV,abN];refine .inr ?_;simp only[vL,aci];refine⟨t,ih1,?_⟩;unfold vO;have hh:=bU.2 ih2;rcases(qT hk).2 with⟨h2,_⟩|⟨h2,_,_⟩
  ·rw[if_neg (by simp[uN h2 nW.2.1]),if_neg (by simp[uN h2 nW.2.2.1]),h2];simp[hk,hh,cq]
  ·rw[if_neg (by simp[uN h2 nW.2.2.2.1]),if_neg (by simp[uN h2 nW.2.2.2.2.1]),h2];simp[hk,hh,cq]
theorem iR{l:List Tm}{p:Tm->Bool}(h:fv l):fv (l.filter p):=List.Pairwise.filter p h
theorem I0{u s r:List Tm}(U:Bn u)(hr:fv r)(h1:∀t∈r,t∈u/\sf u s t)(h2:∀t∈u,sf u s t->t∈r):r=qe u s:=by
 refine mL hr (iR U.oT) λy=>?_;simp only[qe,acf,decide_eq_true_eq];exact⟨h1 y,λh=>h2 y h.1 h.2⟩
theorem I2{u s:List Tm}{t:Tm}:t∈qe u s↔t∈u/\sf u s t:=by simp[qe]
def rq(t:Tm):Int:=if gw t≠0 then gw t else if bu t≠[]then 13 else 0
def jg:List Tm->Int
 |[]=>0
 |t::l=>if rq t≠0 then rq t else jg l
def fF(k:List Tm)(t:Tm):Int:=if 60<k.length then 3 else if jg (k++[t])≠0 then jg (k++[t])else if 200<(fQ (k++[t])).length then 3 else 0
open Classical in
noncomputable def nh(k:List Tm)(t:Tm):Bool:=decide (fF k t=0)&&bF (qe (fQ (k++[t])) (gb k)) t
theorem sg:∀{l:List Tm},jg l=0->∀t∈l,rq t=0
 |[],_,t,h=>by cases h
 |u::l,e,t,h=>by
  rw[jg]at e
  split at e
  ·rename_i hn;exact absurd e hn
  ·rcases abu.1 h with rfl |h
   ·omega
   ·exact sg e t h
theorem Bq{t:Tm}(h:rq t=0):gw t=0/\bu t=[]:=by
 unfold rq at h
 split at h
 ·rename_i h1;exact absurd h h1
 ·split at h
  ·omega
  ·rename_i h1 h2;exact⟨by omega,by simpa using h2⟩
def En(S:List dD)(x:Tm):Bool:=S.any λb=>decide (aT b.v x=0)
def dj(l:List fV):List Tm:=(fQ (l.flatMap λd=>d.kn++[d.tm])).filter λt=>decide (t.k=1)
def lc(l:List fV)(S:List dD):Int:=
 if iD S≠0 then iD S
 else if(dj l).all (En S)=false then 13
 else if S.any (λb=>decide (bu b.t≠[]))=true then 13
 else if S.any (λb=>decide (gw b.t≠0))=true then 10
 else 0
noncomputable def gf(S:List dD):List fV->Bool×Int
 |[]=>(true,0)
 |d::l=>if lA S d≠0 then(false,lA S d)else if fF (cc S d.kn) (da S d.tm)≠0 then(false,fF (cc S d.kn) (da S d.tm))else if nh (cc S d.kn) (da S d.tm)=false then(false,0)else gf S l
noncomputable def kL(l:List fV)(S:List dD):Bool×Int:=if nL l≠0 then(false,nL l)else if lc l S≠0 then(false,lc l S)else gf S l
theorem DZ(l:List fV):gb ((l.flatMap λd=>d.kn++[d.tm]).flatMap bu)=dj l:=by
 refine mL (jA _) (iR (jA _)) λy=>?_;simp only[eG,dj,fQ,acf,fm,decide_eq_true_eq,acp]
 constructor
 ·rintro⟨t,ht,hy⟩;obtain⟨h1,h2⟩:=(sX t y).1 hy;exact⟨⟨t,ht,h1⟩,h2⟩
 ·rintro⟨⟨t,ht,h1⟩,h2⟩;exact⟨t,ht,(sX t y).2 ⟨h1,h2⟩⟩
theorem r9{k s o l}:iQ (.mk k s o l)=true↔(k=3->ua s=true)/\∀t∈l,iQ t=true:=by
 have h:∀l:List Tm,gI ua l=true↔∀t∈l,every ua t=true:=by
  intro l
  induction l with
  |nil=>simp[gI]
  |cons t l ih=>simp[gI,ih]
 unfold iQ;rw[every,abq,h];simp only[abN,decide_eq_true_eq]
 constructor
 ·rintro⟨h1,h2⟩;exact⟨λhk=>h1.resolve_left (by simpa using hk),h2⟩
 ·rintro⟨h1,h2⟩;exact⟨by by_cases hk:k=3;exact .inr (h1 hk);exact .inl hk,h2⟩
theorem Eo:∀{S:List dD} {x:Tm},iQ x=true->(∀b∈S,iQ b.t=true)->iQ (ly S x)=true
 |[],x,hx,_=>hx
 |b::S,x,hx,h=>by
  rw[ly]
  split
  ·exact h b (by simp)
  ·exact Eo hx λc hc=>h c (by simp[hc])
theorem wZ{S:List dD}(hS:∀b∈S,iQ b.t=true)(t:Tm):iQ t=true->iQ (da S t)=true:=by
 induction t using Tm.ind with
 |h k s o l ih=>
  intro h
  rw[da]
  split
  ·exact Eo h hS
  ·rw[r9]at h ⊢;refine⟨h.1,λt ht=>?_⟩;rw[eN]at ht;obtain⟨u,hu,rfl⟩:=abZ.1 ht;exact ih u hu (h.2 u hu)
theorem qM{t:Tm}(h:cx t=0):iQ t=true:=by
 have:=(x0 h).2.2.1;unfold kK at this;simp only[abq]at this;exact this.2
def Gp:Tm:=.mk 2 ⟨#[97]⟩ 1 []
def Tw:Tm:=.mk 2 ⟨#[98]⟩ 1 []
def lfN:Tm:=.mk 2 ⟨#[110,35,48]⟩ 2 []
def lfM:Tm:=.mk 2 ⟨#[109,35,49]⟩ 2 []
def lfK:Tm:=.mk 2 ⟨#[107,35,48]⟩ 3 []
def lfS:Tm:=.mk 3 sZ 0 [Gp,Tw]
def lfP:Tm:=.mk 3 FG 0 [.mk 3 Ah 0 [Tw]]
def lfH:Tm:=.mk 2 ⟨#[104,105]⟩ 5 []
def Ni:Tm:=.mk 3 FG 0 [.mk 3 Ah 0 [Gp]]
def oq:List Tm:=[lfN,lfM,lfK,lfS,lfP,Gp,lfH]
def vrX:Tm:=.mk 1 ⟨#[120]⟩ 2 []
def vrY:Tm:=.mk 1 ⟨#[121]⟩ 0 []
def vrZ:Tm:=.mk 1 ⟨#[122]⟩ 3 []
def vrW:Tm:=.mk 1 ⟨#[119]⟩ 2 []
def vC:List Tm:=[vrX,vrY,vrZ,vrW]
def fG(b:List Nat)(i:Nat):Nat:=b.getD i 0
def Nj(b:List Nat)(l:List Tm)(at':Nat):Tm:=l.getD (fG b at' / 2 % l.length) dM
def iq(b:List Nat)(l:List Tm):Nat->Nat->Tm×Nat
 |0,i=>(Nj b l i,i+1)
 |f+1,i=>
  if fG b i % 2=0 then(Nj b l i,i+1)
  else if fG b i / 2 % 6=0 then(.mk 3 x6 0 [(iq b l f (i+1)).1],(iq b l f (i+1)).2)
  else if fG b i / 2 % 6<=2 then(.mk 3 iP 0 [(iq b l f (i+1)).1,(iq b l f (iq b l f (i+1)).2).1],(iq b l f (iq b l f (i+1)).2).2)
  else if fG b i / 2 % 6=3 then(.mk 3 fC 0 [(iq b l f (i+1)).1,Ni],(iq b l f (iq b l f (i+1)).2).2)
  else(.mk 3 gd 0 [(iq b l f (i+1)).1,(iq b l f (iq b l f (i+1)).2).1],(iq b l f (iq b l f (i+1)).2).2)
def Yf(y:Tm):Bool:=(decide (y.k≠1)||bF vC y)&&decide (y.s.toList.head?≠some 113)&& (decide (y.k≠2)||decide (y.s.size<=3))
def QJ(t:Tm):Bool:=(pre t).all Yf
def Ai(t:Tm):Bool:=iQ t&&QJ t
theorem Nk{k:Int}{s:ByteArray}{o:Int}{l:List Tm}(h:Yf (.mk k s o l)=true)(hl:∀t∈l,QJ t=true):QJ (.mk k s o l)=true:=by
 unfold QJ;rw[pre,ace,h,acs,abk]
 intro y hy
 obtain⟨t,ht,hy⟩:=fm.1 hy;exact abk.1 (hl t ht) y hy
theorem U8{t y:Tm}(h:QJ t=true)(hy:y∈pre t):QJ y=true:=by
 unfold QJ at *;rw[abk]at *;exact λz hz=>h z (uz t y hy z hz)
theorem Yg{t y:Tm}(h:QJ t=true)(hy:y∈pre t):(y.k=1->y∈vC)/\y.s.toList.head?≠some 113:=by
 have:=abk.1 h y hy;simp only[Yf,abq,abN,decide_eq_true_eq]at this;exact⟨λhk=>bU.1 (this.1.1.resolve_left (by simpa using hk)),this.1.2⟩
theorem mQ{t:Tm}:Ai t=true↔iQ t=true/\QJ t=true:=by simp[Ai]
def Tx(s:ByteArray):Bool:=ua s&&decide (s.toList.head?≠some 113)
def Aj(B:Nat)(l:List Tm):Prop:=∀t∈l,Ai t=true/\ax t<=B
theorem Aj.cB{B:Nat}{a b:List Tm}(x:Aj B a)(y:Aj B b):Aj B (a++b):=λt ht=>(abp.1 ht).elim (x t) (y t)
theorem Aj.mono{B B':Nat}{a:List Tm}(x:Aj B a)(h:B<=B'):Aj B' a:=λt ht=>⟨(x t ht).1,by have:=(x t ht).2;omega⟩
theorem Aj.getD{B i:Nat}{l:List Tm}(x:Aj B l)(h:i<l.length):Ai (l.getD i dM)=true/\ax (l.getD i dM)<=B:=by
 rw[abK,abo h];exact x _ (abV h)
def Z2(B:Nat)(l:List Tm):Bool:=l.all λt=>Ai t&&decide (ax t<=B)
theorem x7{B:Nat}{l:List Tm}(h:Z2 B l=true):Aj B l:=λt ht=>by
 have:=abk.1 h t ht;simpa using this
theorem uA:Aj 20 oq:=x7 (by kernel_rfl)
theorem x8:Aj 20 vC:=x7 (by kernel_rfl)
theorem jB:oq.length=7:=rfl
theorem s9:vC.length=4:=rfl
theorem U9:Ai Ni=true/\ax Ni<=20:=by
 have:=x7 (B:=20) (l:=[Ni]) (by kernel_rfl) Ni (by simp);exact this
theorem Yh:Tx x6=true/\Tx iP=true/\Tx fC=true/\Tx gd=true:=by
 refine⟨?_,?_,?_,?_⟩ <;>kernel_rfl
theorem Z3:x6.size=4/\iP.size=3/\fC.size=4/\gd.size=4:=by
 refine⟨?_,?_,?_,?_⟩ <;>kernel_rfl
theorem IE{s:ByteArray}{l:List Tm}(h:Tx s=true)(hl:∀t∈l,Ai t=true):Ai (.mk 3 s 0 l)=true:=by
 simp only[Tx,abq]at h;refine mQ.2 ⟨r9.2 ⟨λ_=>h.1,λt ht=>(mQ.1 (hl t ht)).1⟩,Nk ?_ λt ht=>(mQ.1 (hl t ht)).2⟩;simp only[Yf,Tm.k,Tm.s,abq,abN];exact⟨⟨.inl rfl,h.2⟩,.inl rfl⟩
theorem QK{s:ByteArray}{a:Tm}(h:Tx s=true)(ha:Ai a=true):Ai (.mk 3 s 0 [a])=true:=IE h λt ht=>by simp at ht;rw[ht];exact ha
theorem Cg{s:ByteArray}{a b:Tm}(h:Tx s=true)(ha:Ai a=true)(hb:Ai b=true):Ai (.mk 3 s 0 [a,b])=true:=IE h λt ht=>by
 simp at ht;rcases ht with rfl |rfl
 ·exact ha
 ·exact hb
def Nl(B:Nat):Nat->Nat
 |0=>B
 |f+1=>2 * Nl B f+30
theorem IF(B:Nat):∀f,B<=Nl B f
 |0=>abn _
 |f+1=>by have:=IF B f;simp only[Nl];omega
theorem x9{b:List Nat}{l:List Tm}{B:Nat}(h0:0<l.length)(h:Aj B l):∀f i,Ai (iq b l f i).1=true/\ax (iq b l f i).1<=Nl B f/\i<(iq b l f i).2/\(iq b l f i).2+1<=i+2^ (f+1)
 |0,i=>by
  obtain⟨h1,h2⟩:=h.getD (ado (fG b i / 2) h0);exact⟨h1,h2,by simp[iq],by simp[iq]⟩
 |f+1,i=>by
  obtain⟨h1,h2⟩:=h.getD (ado (fG b i / 2) h0);have h2:ax (Nj b l i)<=B:=h2;obtain⟨a1,a2,a3,a4⟩:=x9 h0 h f (i+1);obtain⟨b1,b2,b3,b4⟩:=x9 h0 h f (iq b l f (i+1)).2;obtain⟨p1,p2⟩:=U9;obtain⟨f1,f2,f3,f4⟩:=Yh;obtain⟨s1,s2,s3,s4⟩:=Z3;have hp:2^ (f+1+1)=2^ (f+1)+2^ (f+1):=by rw[Nat.pow_succ];omega
  have Dv:1<=2^ (f+1):=Nat.one_le_two_pow;have hg:=IF B f;unfold iq;generalize iq b l f (iq b l f (i+1)).2=Y at *;generalize iq b l f (i+1)=X at *;simp only[Nl]
  split
  ·exact⟨h1,by simp only;omega,by simp,by simp only[hp];omega⟩
  ·split
   ·exact⟨QK f1 a1,by simp only[ax,bp];omega,by simp only;omega,by simp only;omega⟩
   ·split
    ·exact⟨Cg f2 a1 b1,by simp only[ax,bp];omega,by simp only;omega,by simp only;omega⟩
    ·split
     ·exact⟨Cg f3 a1 p1,by simp only[ax,bp];omega,by simp only;omega,by simp only;omega⟩
     ·exact⟨Cg f4 a1 b1,by simp only[ax,bp];omega,by simp only;omega,by simp only;omega⟩
def iZ(x:List Nat):List Nat:=x++[0,0]
def LW(b:List Nat)(bd:List Tm)(n:Nat):List Tm:=(List.range n).map λk=>(iq b (oq++bd) 2 (1+3 * k)).1
def U'(b:List Nat):Tm:=if fG b 0 / 3 % 3=0 then vC.getD (fG b 1 % 4) dM else(iq b (oq++vC) 2 7).1
structure PM where
 kn:List Tm
 bd:List Tm
 out:List fV
def uB(s:PM)(x:List Nat):PM:=
 ⟨s.kn++LW (iZ x) s.bd (fG (iZ x) 0 % 3),s.bd++bu (U' (iZ x)),s.out++[⟨s.kn++LW (iZ x) s.bd (fG (iZ x) 0 % 3),U' (iZ x)⟩]⟩
def cV(l:List (List Nat)):PM:=l.foldl uB ⟨[],[],[]⟩
def eV(l:List (List Nat)):List fV:=(cV (l.take 5)).out
theorem vD(l:List (List Nat))(x:List Nat):cV (l++[x])=uB (cV l) x:=by simp[cV]
theorem Nn(b:List Nat)(bd:List Tm)(n:Nat):LW b bd (n+1)=LW b bd n++[(iq b (oq++bd) 2 (1+3 * n)).1]:=by simp[LW,List.range_succ]
theorem wX(b:List Nat)(bd:List Tm)(n:Nat):(LW b bd n).length=n:=by simp[LW]
theorem No(b:List Nat):Ai (U' b)=true/\ax (U' b)<=170:=by
 unfold U'
 split
 ·obtain⟨h1,h2⟩:=x8.getD (i:=fG b 1 % 4) (by rw[s9];omega);exact⟨h1,by omega⟩
 ·obtain⟨h1,h2,_⟩:=x9 (b:=b) (l:=oq++vC) (B:=20) (by simp[jB];omega) (uA.cB x8) 2 7;exact⟨h1,h2⟩
theorem Np{B:Nat}{t:Tm}(h:Ai t=true/\ax t<=B):Aj B (bu t):=λy hy=>by
 have hp:=((sX t y).1 hy).1;obtain⟨h1,h2⟩:=mQ.1 h.1;exact⟨mQ.2 ⟨tc h1 hp,U8 h2 hp⟩,by have:=jU hy;omega⟩
theorem Va{b:List Nat}{bd:List Tm}(h:Aj 170 bd)(n:Nat):Aj 770 (LW b bd n):=λt ht=>by
 obtain⟨k,_,rfl⟩:=abZ.1 ht;obtain⟨h1,h2,_⟩:=x9 (b:=b) (l:=oq++bd) (B:=170) (by simp[jB];omega) ((uA.mono (by omega)).cB h) 2 (1+3 * k);exact⟨h1,h2⟩
structure Z4(n:Nat)(s:PM):Prop where
 kl:s.kn.length<=2 * n
 bl:s.bd.length<=170 * n
 ol:s.out.length=n
 kf:Aj 770 s.kn
 bf:Aj 170 s.bd
 of:∀d∈s.out,d.kn.length<=2 * n/\Aj 770 d.kn/\Ai d.tm=true/\ax d.tm<=170
theorem nN(n:Nat):∀l:List (List Nat),l.length=n->Z4 n (cV l):=by
 induction n with
 |zero=>
  intro l h
  obtain rfl:=abA h;exact⟨by simp[cV],by simp[cV],rfl,λ_ h=>(by cases h),λ_ h=>(by cases h),λ_ h=>(by cases h)⟩
 |succ n ih=>
  intro l h
  obtain⟨p,x,rfl⟩:∃p x,l=p++[x]:=⟨l.dropLast,l.getLast (by intro hh;rw[hh]at h;cases h),(List.dropLast_concat_getLast _).symm⟩;have a:=ih p (by simpa using h);rw[vD];have ht:=No (iZ x);have hk:=Va (b:=iZ x) a.bf (fG (iZ x) 0 % 3);have hv:=eO (U' (iZ x));have hm:fG (iZ x) 0 % 3<=2:=by omega
  have a1:=a.kl;have a2:=a.bl;have a3:=a.ol;refine⟨?_,?_,?_,a.kf.cB hk,a.bf.cB (Np ht),λd hd=>?_⟩
  ·simp only[uB,abr,wX];omega
  ·simp only[uB,abr];omega
  ·simp only[uB,abr,abx,abX];omega
  ·rcases abp.1 hd with hd |hd
   ·obtain⟨q1,q2⟩:=a.of d hd;exact⟨by omega,q2⟩
   ·simp at hd;subst hd;exact⟨by simp only[abr,wX];omega,a.kf.cB hk,ht⟩
theorem DR(l:List (List Nat)):(eV l).length<=5/\∀d∈eV l,d.kn.length<=10/\Aj 770 d.kn/\Ai d.tm=true/\ax d.tm<=170:=by
 have hn:(l.take 5).length<=5:=by simp;omega
 have a:=nN _ (l.take 5) rfl;have a3:=a.ol;unfold eV;exact⟨by omega,λd hd=>⟨by have:=(a.of d hd).1;omega,(a.of d hd).2⟩⟩
def Gv(n:Nat)(o:Int):Tm:=.mk 2 ⟨#[101,35,UInt8.ofNat (48+n)]⟩ o []
def Gw(v:Tm)(c:Nat):Tm:=if c % 3≠0/\lq v (oq.getD (c / 2 % 7) dM)=true then oq.getD (c / 2 % 7) dM else Gv (c % 2) v.o
def lY(b:List Nat):Nat->List Tm->List dD
 |_,[]=>[]
 |i,v::l=>⟨v,Gw v (fG b i)⟩::lY b (i+1) l
def QL(vs:List Tm)(b:List Nat):List dD:=lY b 0 vs
theorem A9(b:List Nat)(v:Tm):∀(i:Nat) (l:List Tm),lY b i (l++[v])=lY b i l++[⟨v,Gw v (fG b (i+l.length))⟩]
 |i,[]=>by simp[lY]
 |i,u::l=>by
  have ih:=A9 b v (i+1) l;simp only[abH,lY,ih,abx,show i+1+l.length=i+(l.length+1) by omega]
theorem QM(v:Tm)(c:Nat):Ai (Gw v c)=true/\ax (Gw v c)<=20:=by
 unfold Gw
 split
 ·exact uA.getD (by rw[jB];omega)
 ·refine⟨mQ.2 ⟨r9.2 ⟨λh=>(by cases h),λt ht=>(by cases ht)⟩,Nk ?_ λt ht=>(by cases ht)⟩,?_⟩
  ·simp only[Yf,Tm.k,Tm.s,abq,abN];refine⟨⟨.inl rfl,decide_eq_true ?_⟩,.inr (decide_eq_true (show 3<=3 by omega))⟩;rw[ByteArray.toList_eq];simp
  ·simp only[Gv,ax,bp];show 1+3+0<=20;omega
theorem wY(b:List Nat):∀(i:Nat) (l:List Tm),(lY b i l).length=l.length/\∀x∈lY b i l,x.v∈l/\Ai x.t=true/\ax x.t<=20
 |i,[]=>⟨rfl,λx h=>by cases h⟩
 |i,v::l=>by
  obtain⟨h1,h2⟩:=wY b (i+1) l;refine⟨by simp[lY,h1],λx hx=>?_⟩;rw[lY]at hx;rcases abu.1 hx with rfl |hx
  ·exact⟨by simp,QM _ _⟩
  ·obtain⟨q1,q2⟩:=h2 x hx;exact⟨by simp[q1],q2⟩
theorem oX(l:List (List Nat)):(dj (eV l)).length<=4/\∀y∈dj (eV l),y∈vC:=by
 have jJ:∀y∈dj (eV l),y∈vC:=λy hy=>by
  simp only[dj,acf,decide_eq_true_eq]at hy;obtain⟨hy,hk⟩:=hy;obtain⟨t,ht,hp⟩:=fm.1 ((eG _ _).1 hy);obtain⟨d,hd,ht⟩:=acp.1 ht;obtain⟨_,h1,h2,_⟩:=(DR l).2 d hd
  have hf:Ai t=true:=by
   rcases abp.1 ht with h |h
   ·exact(h1 t h).1
   ·simp at h;rw[h];exact h2
  exact(Yg (mQ.1 hf).2 hp).1 hk
 refine⟨?_,jJ⟩
 have he:dj (eV l)=(gb vC).filter (λy=>bF (dj (eV l)) y):=mL (iR (jA _)) (iR (jA _)) λy=>by
  constructor
  ·exact λh=>acf.2 ⟨(eG _ _).2 (jJ y h),bU.2 h⟩
  ·exact λh=>bU.1 (acf.1 h).2
 have h1:=acm (λy=>bF (dj (eV l)) y) (gb vC);have h2:=pU vC;rw[s9]at h2;rw[he];omega
def eW(l:List Nat):List PV:=l.map λ(n:Nat)=>PV.int .u8 (n:Int)
def gZ(l:List (List Nat)):List PV:=l.map λx=>.aa false (eW x)
def FI(l:List Nat):Prop:=∀n∈l,n<=255
@[simp] theorem lZ(l:List Nat):(eW l).length=l.length:=by simp[eW]
@[simp] theorem uF(l:List (List Nat)):(gZ l).length=l.length:=by simp[gZ]
@[simp] theorem WQ(l:List Nat):ar (eW l)=true:=by induction l with |nil=>rfl |cons x l ih=>simpa[eW]using ih
@[simp] theorem WR(l:List Nat):aR (eW l)=eW l:=by induction l with |nil=>rfl |cons x l ih=>simpa[eW]using ih
@[simp] theorem Vg(l:List (List Nat)):ar (gZ l)=true:=by induction l with |nil=>rfl |cons x l ih=>simpa[gZ]using ih
@[simp] theorem Vh(l:List (List Nat)):aR (gZ l)=gZ l:=by induction l with |nil=>rfl |cons x l ih=>simpa[gZ]using ih
theorem NA(a b:List Nat):eW (a++b)=eW a++eW b:=by simp[eW]
theorem DV{l p q:List (List Nat)}{x:List Nat}(e:l=p++x::q):(gZ l)[p.length]?=some (.aa false (eW x)):=by rw[gZ,e];simp
theorem nP{l:List Nat}{i:Nat}(h:i<l.length):(eW l)[i]?=some (.int .u8 (fG l i:Int)):=by
 simp[eW,fG,abK,h]
theorem yh{l:List Nat}(h:FI l)(i:Nat):fG l i<=255:=by
 unfold fG;rw[abK]
 cases e:l[i]? with
 |none=>simp
 |some n=>exact h n (aby e)
theorem w9{l:List Nat}{i:Nat}(h:¬i<l.length):fG l i=0:=by
 simp[fG,abK,abC (Nat.not_lt.1 h)]
theorem te{l:List Tm}{i:Nat}(h:i<l.length):(ae l)[i]?=some (enc (l.getD i dM)):=by
 rw[c9];simp[abK,h]
open Go.Proofs Go.ChangeShapes Go.WideShapes
set_option maxRecDepth 100000
set_option maxHeartbeats 2000000
theorem TO{α:Type}:∀(l:List α),(l.map λ_=>1).sum=l.length
 |[]=>rfl
 |_::l=>by rw[abD,adU,TO l,abx];omega
theorem EF{α:Type}(f:α->Nat):∀{l:List α} {x:α},x∈l->f x<=(l.map f).sum
 |y::l,x,h=>by
  rw[abD,adU];rcases abu.1 h with rfl |h
  ·omega
  ·have:=EF f h;omega
theorem EG{α:Type}(f:α->Nat)(hf:∀x,1<=f x):∀(l:List α),l.length<=(l.map f).sum
 |[]=>by simp
 |y::l=>by have:=EG f hf l;have:=hf y;rw[abD,adU,abx];omega
instance:Inhabited {n:Nat // n<=255}:=⟨⟨0,by decide⟩⟩
instance:Inhabited {l:List Nat // FI l}:=⟨⟨[],by intro x h;cases h⟩⟩
theorem aat:C.P.cellsOf 5=1:=by kernel_rfl
theorem Y5:C.P.cellsOf 41=1:=by kernel_rfl
open Go.Proofs.YtimogkojklpdnaaGreatDoor in
theorem EH{H:Type}{ec:TypeId×Value->H}{w:World}{sp:Nat->Bool}{held:Bool}{n:Nat}{cs:List Value}{x:DataW H×List MemPlace}(h:DataW.trod ec C.P w 0 sp held n 41 cs=some x):
  ∃(c:Value) (l:List Nat),cs=[c]/\ch w P3 c (.aa false (eW l))/\FI l/\l.length+1<=Rows.uptoBulk x.1:=by
 obtain⟨c,l,hc,h1,h2⟩:=yN (E:={n:Nat // n<=255}) (λe=>.int .u8 (e.1:Int)) (λ_=>1) (bz (T6.cT 41 _ rfl)) aat (by decide) (λ_=>rfl) (λn cs x hx=>by
  obtain⟨k,rfl,rfl,hw⟩:=DataW.trod_int (pK (T6.cT 5 _ rfl)) hx
  have hk:0<=k/\k<=255:=by
   simp only[Lit.wf,decide_eq_true_eq,abq]at hw;have h1:IntKind.u8.min=0:=rfl;have h2:IntKind.u8.max=255:=rfl;omega
  obtain⟨m,rfl⟩:=acF hk.1;exact⟨⟨m,by omega⟩,rfl,λj hj=>(by obtain rfl:j=0:=(by omega);exact .int _ _),by simp[Rows.uptoBulk]⟩) h
 refine⟨c,l.map (·.1),hc,by simpa[eW]using h1,λx hx=>?_,?_⟩
 ·obtain⟨y,_,rfl⟩:=abZ.1 hx;exact y.2
 ·rw[TO]at h2;simp only[acy];exact h2
open Go.Proofs.YtimogkojklpdnaaGreatDoor in
theorem RO{H:Type}{ec:TypeId×Value->H}{w:World}{sp:Nat->Bool}{held:Bool}{n:Nat}{cs:List Value}{x:DataW H×List MemPlace}(h:DataW.trod ec C.P w 0 sp held n 40 cs=some x):
  ∃(c:Value) (l:List (List Nat)),cs=[c]/\ch w P3 c (.aa false (gZ l))/\(∀y∈l,FI y/\y.length<Rows.uptoBulk x.1)/\l.length<Rows.uptoBulk x.1:=by
 obtain⟨c,l,hc,h1,h2⟩:=yN (E:={l:List Nat // FI l}) (λe=>.aa false (eW e.1)) (λe=>e.1.length+1) (bz (T6.cT 40 _ rfl)) Y5 (by decide) (λ_=>rfl) (λn cs x hx=>by
  obtain⟨c,l,rfl,a1,a2,a3⟩:=EH hx;exact⟨⟨l,a2⟩,rfl,λj hj=>(by obtain rfl:j=0:=(by omega);exact a1),a3⟩) h
 refine⟨c,l.map (·.1),hc,by simpa[gZ,adh,Function.comp_def]using h1,λy hy=>?_,?_⟩
 ·obtain⟨z,hz,rfl⟩:=abZ.1 hy;have:=EF (λe:{l:List Nat // FI l}=>e.1.length+1) hz;exact⟨z.2,by omega⟩
 ·have:=EG (λe:{l:List Nat // FI l}=>e.1.length+1) (λx=>by omega) l;simp only[acy];omega
open Go.Proofs.YtimogkojklpdnaaGreatDoor in
theorem KI{H:Type}{ec:TypeId×Value->H}{w:World}{base:Nat}{sp:Nat->Bool}{v:Value}{d:DataW H}{p:List MemPlace}(ga:Value.okWide C.P w .any base 41 v)(h:DataW.Trod ec C.P w 0 sp true 41 v d p):
  ∃l:List Nat,ch w P3 v (.aa false (eW l))/\FI l/\l.length+1<=Rows.uptoBulk d:=by
 obtain⟨n,hn⟩:=h;obtain⟨a,len,cap,rfl⟩:=okWide_slice (bz (T6.cT 41 _ rfl)) ga;obtain⟨c,l,hc,h1,h2⟩:=EH hn;obtain rfl:Value.slice a len cap=c:=by simpa[Value.cells]using hc
 exact⟨l,h1,h2⟩
open Go.Proofs.YtimogkojklpdnaaGreatDoor in
theorem Ou{H:Type}{ec:TypeId×Value->H}{w:World}{base:Nat}{sp:Nat->Bool}{v:Value}{d:DataW H}{p:List MemPlace}(ga:Value.okWide C.P w .any base 40 v)(h:DataW.Trod ec C.P w 0 sp true 40 v d p):
  ∃l:List (List Nat),ch w P3 v (.aa false (gZ l))/\(∀y∈l,FI y/\y.length<Rows.uptoBulk d)/\l.length<Rows.uptoBulk d:=by
 obtain⟨n,hn⟩:=h;obtain⟨a,len,cap,rfl⟩:=okWide_slice (bz (T6.cT 40 _ rfl)) ga;obtain⟨c,l,hc,h1,h2⟩:=RO hn;obtain rfl:Value.slice a len cap=c:=by simpa[Value.cells]using hc
 exact⟨l,h1,h2⟩
end Go.Pm
namespace Go.Pm
set_option maxRecDepth 4000
theorem QP:∀(ids:List Nat) (h:ab),(∀id∈ids,∃o:aw,h[id]?=some o/\ar o.es=true/\(o.mu=.m\/o.mu=.f))->∃h',eZ h ids=some h'
 |[],h,_=>⟨h,rfl⟩
 |id::r,h,hh=>by
  obtain⟨o,h1,h2,h3⟩:=hh id (by simp);have hf:kg h id=some (h.set id {o with mu:=.f}):=by simp only[kg,h1];rw[if_pos ⟨h2,h3⟩]
  obtain⟨h',e⟩:=QP r (h.set id {o with mu:=.f}) λj hj=>by
   obtain⟨o',g1,g2,g3⟩:=hh j (by simp[hj])
   by_cases zX:id=j
   ·subst zX;exact⟨{o with mu:=.f},abl (ag h1),h2,.inr rfl⟩
   ·exact⟨o',by rw[abm zX];exact g1,g2,g3⟩
  exact⟨h',by simp only[eZ,hf,e]⟩
theorem aj.any{C:cR}{f:FuncId}{args args':List PV}{h:ab}{rv:PV}{Q:PV->ab->Prop}(hb:gz h args=some args')(yf:ar args=false)(xJ:∀id∈jK args,∃o:aw,h[id]?=some o/\ar o.es=true/\(o.mu=.m\/o.mu=.f))(a:aI C f (aR args') rv)(q:∀h',Q rv h')(hm:C.mode f=.pure:=by rfl):aj C 2 f args h Q:=by
 obtain⟨n0,hn⟩:=a;obtain⟨hf,ef⟩:=QP _ _ xJ;refine⟨rv,if(dO rv ||lC h (jK args))=true then h else hf,q _,n0,λn h1=>?_⟩;obtain⟨r0,hc,r1,e1,e3,e4⟩:=hn n h1;have zH:dO r1=dO rv:=by have:=ja r1;rw[e4]at this;exact this.symm
 unfold dg;rw[hm];simp only[dp,yf,abz,if_false,hb,e1,e3,zH,e4]
 split
 ·rfl
 ·simp[ef]
namespace bE
open Go.Proofs
attribute [local irreducible] aD az aL aJ Ev ah aj ay aY
@[simp] theorem Hh(l:List fV):dK 5 (cw l):=by
 unfold dK;rw[abk]
 intro v hv
 obtain⟨t,_,rfl⟩:=abZ.1 hv
 rfl
@[simp] theorem Hi(l:List dD):dK 8 (bD l):=by
 unfold dK;rw[abk]
 intro v hv
 obtain⟨t,_,rfl⟩:=abZ.1 hv
 rfl
theorem rF{sz:Nat}{es:List PV}(ho:dK sz es)(hn:es.length<1000000000)(H:ab):∃r H',bG sz [.aa false es] H=some (r,H')/\Out sz H' r es/\(HV H->ar es=true->HV H')/\(∀(j:Nat) (o:aw),H[j]?=some o->H'[j]?=some o):=by
 unfold bG
 cases es with
 |nil=>exact⟨.aa true [],H,rfl,.inl ⟨rfl,rfl⟩,λh _=>h,λ_ _ h=>h⟩
 |cons x r=>
  unfold dK at ho;simp only[List.isEmpty_cons,abz,if_false];rw[if_pos ⟨ho,hn⟩];exact⟨_,_,rfl,.inr ⟨H.length,0,rfl,by simp[newObj]⟩,λh hv=>h.cB (HV.one hv),λj o h=>by rw[newObj,abj (ag h)];exact h⟩
end bE
open Go.Proofs
def atR(r:List Int)(c:Nat):Int:=r.getD c 0
def J4(a b:List Int)(q:Int):List Int:=List.zipWith (λx y=>x - q * y) a b
def UG(x:Int):Bool:=decide (-1099511627776<=x/\x<=1099511627776)
def small(r:List Int):Bool:=r.all UG
theorem Nb{a b:List Int}{q:Int}(h:a.length=b.length):(J4 a b q).length=a.length:=by simp[J4,h]
structure Pr2 where
 d:Nat
 s:Nat
 a:List Int
 b:List Int
def Pr2.v(x:Pr2):PV:=.agg [.ak x.d 0 0 x.a.length,.ak x.s 0 0 x.b.length]
end Go.Pm
namespace Go.Pm
abbrev Row:=List Int×Bool
def k9(c:Nat)(R:Row):Bool:=!R.2&&decide (atR R.1 c≠0)
def J5(c:Nat)(S:List Row):Nat:=(S.filter (k9 c)).length
structure Ag(c:Nat)(S:List Row)(bi:Nat)(b:List Int):Prop where
 at_:S[bi]?=some (b,false)
 nz:atR b c≠0
 min:∀(i:Nat) (R:Row),S[i]?=some R->k9 c R=true->(atR b c).natAbs<=(atR R.1 c).natAbs
 fst:∀(i:Nat) (R:Row),S[i]?=some R->k9 c R=true->i<bi->(atR b c).natAbs<(atR R.1 c).natAbs
theorem Ag.isc{c:Nat}{S:List Row}{bi:Nat}{b:List Int}(h:Ag c S bi b):k9 c (b,false)=true:=by simp[Pm.k9,h.nz]
def Nc(c:Nat)(b:List Int)(R:Row):Row:=if k9 c R=true then(J4 R.1 b ((atR R.1 c).tdiv (atR b c)),R.2)else R
def vA(c:Nat)(b:List Int)(bi:Nat)(S:List Row):List Row:=S.mapIdx λi R=>if i=bi then R else Nc c b R
def XZ(S:List Row):Bool:=S.all λR=>small R.1
inductive Tt(c:Nat):Nat->List Row->Option (List Row×Int)->Prop
 |zero {S:List Row}:J5 c S=0->Tt c 0 S (some (S,-1))
 |one {S:List Row} {bi:Nat} {b:List Int}:Ag c S bi b->J5 c S=1->Tt c 0 S (some (S.set bi (b,true),bi))
 |Nd {S:List Row} {bi:Nat} {b:List Int}:Ag c S bi b->2<=J5 c S->XZ (vA c b bi S)=false->Tt c 0 S none
 |step {S:List Row} {bi n:Nat} {b:List Int} {QI:Option (List Row×Int)}:Ag c S bi b->2<=J5 c S->XZ (vA c b bi S)=true->Tt c n (vA c b bi S) QI->Tt c (n+1) S QI
theorem A8{c:Nat}{b:List Int}{bi:Nat}{S:List Row}{i:Nat}:(vA c b bi S)[i]?=(S[i]?).map λR=>if i=bi then R else Nc c b R:=by
 unfold vA;rw[List.getElem?_mapIdx]
inductive El(n:Nat):Nat->List Row->List Int->Option (List Row×List Int)->Prop
 |done{S:List Row} {P:List Int}:El n n S P (some (S,P))
 |Nd {c k:Nat} {S:List Row} {P:List Int}:c<n->Tt c k S none->El n c S P none
 |next {c k:Nat} {S S':List Row} {P:List Int} {i:Int} {QI:Option (List Row×List Int)}:c<n->Tt c k S (some (S',i))->El n (c+1) S' (P++[i]) QI->El n c S P QI
open Go.Proofs
set_option maxRecDepth 4000
structure Rw where
 r:Nat
 p:Nat
 c:Nat
 a:List Int
 b:List Int
 u:Bool
def Rw.m(R:Rw):Row:=(R.a++R.b,R.u)
def Rw.ids(R:Rw):List Nat:=[R.r,R.p,R.c]
def Rw.ptr(R:Rw):PV:=.ptr R.r 0 0 0
structure UH(h:ab)(R:Rw):Prop where
 er:h[R.r]?=some ⟨.m,0,3,[.agg [.ak R.p 0 0 R.a.length,.ak R.c 0 0 R.b.length,.bool R.u]]⟩
 ea:h[R.p]?=some ⟨.m,0,1,fS R.a⟩
 eb:h[R.c]?=some ⟨.m,0,1,fS R.b⟩
def bV:PV->List Nat
 | .ak i _ _ _=>[i]
 |_=>[]
structure Lay(h:ab)(x:Nat)(cv rv pv:PV)(n k:Nat)(Rs:List Rw)(P:List Int)(lg:Bool):Prop where
 hr:HR h
 ex:h[x]?=some ⟨.m,0,4,[.agg [cv,rv,pv,.bool lg]]⟩
 er:Out 1 h rv (Rs.map Rw.ptr)
 ep:Out 1 h pv (fS P)
 at_:∀R∈Rs,UH h R/\R.a.length=n/\R.b.length=k
 nd:(x::(bV rv++(bV pv++Rs.flatMap Rw.ids))).Nodup
theorem Gt{n:Nat}:∀{p:PV},cK n p=true->bq (λi=>decide (i<n)) p=true:=by
 have one:∀{p:PV},dY n p=true->bq (λi=>decide (i<n)) p=true:=by
  intro p h
  unfold dY at h
  split at h
  ·simpa[bq]using h
  ·simpa[bq]using h
  ·exact wW _ _ h
 intro p h
 unfold cK at h
 split at h
 ·rename_i cs
  rw[bq,gj,abk];exact λc hc=>one (abk.1 h c hc)
 ·exact one h
theorem HR.take{h:ab}(H:HR h){n:Nat}(hn:n<=h.length)(hb:((h.take n).all λo=>o.es.all (cK n))=true):HR (h.take n):=by
 intro o ho
 refine⟨(H o (ab3 ho)).1,?_⟩;rw[ab7,ac9 hn,gj,abk];exact λp hp=>Gt (abk.1 (abk.1 hb o ho) p hp)
theorem aj.sm{C:cR}{f:FuncId}{args:List PV}{H:ab}{P Q:PV->ab->Prop}(a:ay C f args H P)(hl:∀r h',P r h'->HR h'/\H.length<=h'.length)(q1:∀r h',P r h'->Q r h')(q2:∀r h',P r h'->HR (h'.take H.length)->Q r (h'.take H.length))(hm:C.mode f=.opened:=by rfl):aj C 2 f args H Q:=by
 refine aj.opened hm (a.mono λr k hr=>?_)
 split
 ·rename_i hc
  rw[abq]at hc;obtain⟨h1,h2⟩:=hl r k hr;exact q2 r k hr (h1.take h2 hc.2)
 ·exact q1 r k hr
theorem Out.of_eq{sz:Nat}{h h':ab}{v:PV}{es:List PV}(o:Out sz h v es)(he:∀i∈bV v,h'[i]?=h[i]?):Out sz h' v es:=by
 rcases o with o |⟨id,ep,rfl,e⟩
 ·exact .inl o
 ·exact .inr ⟨id,ep,rfl,by rw[he id (by simp[bV])];exact e⟩
def Lay.all(x:Nat)(rv pv:PV)(Rs:List Rw):List Nat:=x::(bV rv++(bV pv++Rs.flatMap Rw.ids))
theorem Out.ls{sz:Nat}{h:ab}{v:PV}{es:List PV}(o:Out sz h v es):∀i∈bV v,i<h.length:=by
 rcases o with⟨rfl,_⟩|⟨id,ep,rfl,e⟩
 ·simp[bV]
 ·intro i hi;simp[bV]at hi;subst hi;exact ag e
theorem UH.lt{h:ab}{R:Rw}(a:UH h R):∀i∈R.ids,i<h.length:=by
 intro i hi
 simp only[Rw.ids,abu,acB,or_false]at hi;rcases hi with rfl |rfl |rfl
 ·exact ag a.er
 ·exact ag a.ea
 ·exact ag a.eb
theorem Lay.lt{h:ab}{x:Nat}{cv rv pv:PV}{n k:Nat}{Rs:List Rw}{P:List Int}{lg:Bool}(L:Lay h x cv rv pv n k Rs P lg):∀i∈Lay.all x rv pv Rs,i<h.length:=by
 intro i hi
 simp only[Lay.all,abu,abp,acp]at hi;rcases hi with rfl |hi |hi |⟨R,hR,hi⟩
 ·exact ag L.ex
 ·exact L.er.ls i hi
 ·exact L.ep.ls i hi
 ·exact(L.at_ R hR).1.lt i hi
theorem DO(c:Nat)(p:List Row)(R:Row):J5 c (p++[R])=J5 c p+if k9 c R=true then 1 else 0:=by
 unfold J5;rw[ada,abr]
 congr 1
 by_cases h:k9 c R=true <;>simp[h]
theorem DP{c:Nat}{S:List Row}(h:J5 c S=0):∀R∈S,k9 c R=false:=by
 unfold J5 at h
 intro R hR
 cases hc:k9 c R with
 |false=>rfl
 |true=>
  have:R∈S.filter (k9 c):=acf.2 ⟨hR,hc⟩;rw[abA h]at this
  cases this
def BSt(c:Nat)(p:List Row)(best count:Int):Prop:=count=(J5 c p:Nat)/\((J5 c p=0/\best=-1)\/∃(bi:Nat) (b:List Int),best=bi/\Ag c p bi b)
theorem DQ{p:List Row}{R Q:Row}{i:Nat}(h:(p++[R])[i]?=some Q):p[i]?=some Q\/(i=p.length/\Q=R):=by
 rcases acV i p.length with h1 |h1 |h1
 ·rw[abj h1]at h;exact .inl h
 ·subst h1;simp at h;exact .inr ⟨rfl,h.symm⟩
 ·rw[abC (by simp;omega)]at h;cases h
theorem Ag.new{c:Nat}{p:List Row}{b:List Int}(hc:k9 c (b,false)=true)(h:∀Q∈p,k9 c Q=true->(atR b c).natAbs<(atR Q.1 c).natAbs):Ag c (p++[(b,false)]) p.length b where
 at_:=by simp
 nz:=by simpa[k9]using hc
 min i Q hQ hcQ:=by
  rcases DQ hQ with h1 |⟨rfl,rfl⟩
  ·exact Nat.le_of_lt (h Q (aby h1) hcQ)
  ·exact abn _
 fst i Q hQ hcQ hi:=by
  rcases DQ hQ with h1 |⟨rfl,rfl⟩
  ·exact h Q (aby h1) hcQ
  ·omega
theorem BSt.first{c:Nat}{p:List Row}{count:Int}{b:List Int}(h:BSt c p (-1) count)(hR:k9 c (b,false)=true):BSt c (p++[(b,false)]) p.length (count+1):=by
 obtain⟨h1,h2⟩:=h;rcases h2 with⟨a,_⟩|⟨bi,_,e,_⟩
 ·refine⟨by rw[DO,hR,if_pos rfl];omega,.inr ⟨_,b,rfl,Ag.new hR λQ hQ hc=>?_⟩⟩;rw[DP a Q hQ]at hc;cases hc
 ·omega
structure Rf where
 i:Nat
 e:Nat
 r:List Int
 u:Bool
def Rf.v(z:Rf):PV:=.ak z.i z.e 0 z.r.length
def Rf.m(z:Rf):Row:=(z.r,z.u)
def Rf.b(z:Rf):PV:=.bool z.u
def ID(l:List Nat):List PV:=l.map λ(i:Nat)=>.int .i64 i
@[simp] theorem WL(l:List Nat):(ID l).length=l.length:=by simp[ID]
@[simp] theorem UI(l:List Nat):ar (ID l)=true:=by induction l with |nil=>rfl |cons x l ih=>simpa[ID]using ih
structure RL(h:ab)(rv:PV)(iu eu w:Nat)(Z:List Rf):Prop where
 hr:HR h
 er:Out 1 h rv (Z.map Rf.v)
 eu:h[iu]?=some ⟨.m,eu,1,Z.map Rf.b⟩
 at_:∀z∈Z,h[z.i]?=some ⟨.m,z.e,1,fS z.r⟩/\z.r.length=w
def PL(c:Nat)(S:List Row):List Nat:=(List.range S.length).filter λi=>match S[i]? with |some R=>k9 c R |none=>false
theorem Nf(c:Nat)(p:List Row)(R:Row):PL c (p++[R])=PL c p++if k9 c R=true then[p.length]else[]:=by
 unfold PL;rw[abr,List.length_singleton,List.range_succ,ada]
 congr 1
 ·apply List.filter_congr
  intro i hi
  rw[abj (adD.1 hi)]
 ·by_cases h:k9 c R=true <;>simp[h]
theorem Ng{α:Type}{P:List α->Prop}(h0:P [])(hs:∀l a,P l->P (l++[a])):∀l,P l:=by
 intro l
 have:∀r:List α,P r.reverse:=by
  intro r
  induction r with
  |nil=>exact h0
  |cons a r ih=>rw[List.reverse_cons];exact hs _ _ ih
 simpa using this l.reverse
theorem QH(c:Nat):∀S:List Row,(PL c S).length=J5 c S:=by
 refine Ng (P:=λS=>(PL c S).length=J5 c S) rfl (λp R ih=>?_);rw[Nf,DO,abr,ih];by_cases h:k9 c R=true <;>simp[h]
theorem IC{c:Nat}{S:List Row}{i:Nat}:i∈PL c S↔∃R,S[i]?=some R/\k9 c R=true:=by
 unfold PL;rw[acf,adD]
 constructor
 ·rintro⟨h1,h2⟩;rw[abo h1]at h2;exact⟨_,abo h1,h2⟩
 ·rintro⟨R,h1,h2⟩;exact⟨ag h1,by rw[h1];exact h2⟩
theorem Out.bH{sz:Nat}{h:ab}{v:PV}{es:List PV}(o:Out sz h v es):Pm.bH v=true/\Pm.cells v=[v]:=by
 rcases o with⟨rfl,_⟩|⟨id,ep,rfl,_⟩ <;>exact⟨rfl,rfl⟩
theorem Out.bq{sz:Nat}{h:ab}{v:PV}{es:List PV}(o:Out sz h v es):Pm.bq (λi=>decide (i<h.length)) v=true:=by
 rcases o with⟨rfl,_⟩|⟨id,ep,rfl,e⟩
 ·rfl
 ·have:=ag e;simpa[Pm.bq]using this
theorem aj.fr{C:cR}{f:FuncId}{args:List PV}{H:ab}{P Q:PV->ab->Prop}(a:ay C f args H (λr h'=>HR h'/\H.length<=h'.length/\(∀j,j<H.length->h'[j]?=H[j]?)/\P r h'))(hP:∀r h',P r h'->dZ H.length r=true->P r (h'.take H.length))
  (q:∀r h',HR h'->H.length<=h'.length->(∀j,j<H.length->h'[j]?=H[j]?)->P r h'->Q r h') (hm:C.mode f=.opened:=by rfl):aj C 2 f args H Q:=by
 refine aj.opened hm (a.mono λr k hr=>?_);obtain⟨r1,r2,r3,r4⟩:=hr
 split
 ·rename_i hc
  rw[abq]at hc;exact q r _ (r1.take r2 hc.2) (by simp;omega) (λj hj=>by rw[abF,if_pos hj];exact r3 j hj) (hP r k r4 hc.1)
 ·exact q r k r1 r2 r3 r4
structure TB(H h:ab)(r6 iu w:Nat)(UJ:List Tm)(rv pv:PV)(Z:List Rf)(P:List Int):Prop where
 rl:RL h rv iu 0 w Z
 fr:∀j,j<H.length->h[j]?=H[j]?
 z0:h[H.length]?=some ⟨.m,0,3,[.agg [.aa true [],.aa true [],.aa true []]]⟩
 ex:h[r6]?=some ⟨.m,0,3,[.agg [.aa false (ae UJ),rv,pv]]⟩
 ep:Out 1 h pv (fS P)
 gt:∀i∈iu::(bV rv++bV pv),r6<i
 nd:(iu::(bV rv++bV pv)).Nodup
 zi:∀z∈Z,z.i∉iu::(bV rv++bV pv)/\r6<z.i
 h6:H.length<r6
theorem TB.lt{H h:ab}{r6 iu w:Nat}{UJ:List Tm}{rv pv:PV}{Z:List Rf}{P:List Int}(t:TB H h r6 iu w UJ rv pv Z P):∀i∈iu::(bV rv++bV pv),i<h.length:=by
 intro i hi
 simp only[abu,abp]at hi;rcases hi with rfl |hi |hi
 ·exact ag t.rl.eu
 ·exact t.rl.er.ls i hi
 ·exact t.ep.ls i hi
theorem LR.bV{H h':ab}{v r:PV}{sz:Nat}{es:List PV}(l:LR H v sz es r h'):∀i∈Pm.bV r,i∈Pm.bV v\/H.length<=i:=by
 rcases l.out with⟨rfl,_⟩|⟨id,ep,rfl,_⟩
 ·intro i hi;simp[Pm.bV]at hi
 ·intro i hi
  simp only[Pm.bV,abP]at hi;subst hi;rcases l.ref i ep _ rfl with⟨im,n',h⟩|h
  ·exact .inl (by rw[h];simp[Pm.bV])
  ·exact .inr h
end Go.Pm
namespace Go.Pm
set_option maxRecDepth 4000
theorem lF(ids:List Nat)(h:ab)(i:Nat):(cF ids h)[i]?=(h[i]?).map λo=>if ids.contains i then bS o else o:=by
 simp[cF,abB,adn,adR,Function.comp_def]
theorem nI(ids:List Nat)(h h':ab)(i:Nat):(ez ids h h')[i]?=(h'[i]?).map λo=>if ids.contains i then(match h[i]? with |some o'=>o'|none=>o)else o:=by
 simp[ez,abB,adn,adR,Function.comp_def]
 rfl
theorem DA{k k':ab}(hl:k.length<=k'.length)(hk:∀(j:Nat) (o:aw),k[j]?=some o->o.mu≠.m->k'[j]?=some o):nA k k'=k':=by
 apply acr
 intro i
 unfold nA;have hz:(List.zipWith (λo o'=>if o.mu=.m then o' else o) k k').length=k.length:=by simp;omega
 by_cases hi:i<k.length
 ·rw[abj (by omega),acP];have e1:k[i]?=some k[i]:=abo hi;have e2:k'[i]?=some k'[i]:=abo (by omega);have:=hk i _ e1;rw[e1,e2];rw[e2]at this
  by_cases hm:k[i].mu=.m
  ·simp[hm]
  ·simp[hm,abi (this hm)]
 ·rw[abt (by omega),hz,abS]
  congr 1;omega
theorem ug{ids:List Nat}{h k:ab}(hk:∀(j:Nat) (o:aw),k[j]?=some o->o.mu≠.l\/(ids.contains j=true/\j<h.length)\/h[j]?=some o):rN ids h k=true:=by
 unfold rN;rw[abk];rintro⟨o,j⟩ hm;have hg:=List.mem_zipIdx_iff_getElem?.1 hm;rcases hk j o hg with h1 |⟨h1,h2⟩|h1
 ·simp[h1]
 ·simp[List.contains_iff_mem.1 h1,h2]
 ·by_cases hl:o.mu=.l
  ·simp[h1,hl]
  ·simp[hl]
section
variable{C:cR}{run:iI}{ops:Array Oper}{b:List Nat}{h0:ab}{i:Nat}{L:Al}{ρ:Nat->PV}{h:ab}
theorem XD{d:Nat}{op:Op}{v:PV}{y:TypeId}{s:String}{a:Array Edge}(hh:cZ op=true)(hr:gX op=true)(hg:lM ops b h0 i (al L ρ) op=true)(e:aC C.P 1 op (al L ρ) h=some (v,h)):
  cY C run ops b h0 i ⟨some d,op,y,s,a,none⟩ ⟨al L ρ,h⟩=some ⟨al ((d,v)::L) ρ,h⟩:=by
 unfold cY;simp only[bA,hh,hr,hg,e,if_true,ab2,if_false,cj]
theorem kBs{d:Nat}{op:Op}{v:PV}{y:TypeId}{s:String}{a:Array Edge}(hh:cZ op=true)(hr:gX op=false)(hb:jN op=true)(e:aC C.P 1 op (al L ρ) h=some (v,h)):
  cY C run ops b h0 i ⟨some d,op,y,s,a,none⟩ ⟨al L ρ,h⟩=some ⟨al ((d,v)::L) ρ,h⟩:=by
 unfold cY;simp only[bA,hh,hr,hb,e,if_true,ab2,abz,if_false,cj]
theorem WE{d:Nat}{op:Op}{v:PV}{h':ab}{y:TypeId}{s:String}{a:Array Edge}(hh:cZ op=true)(hr:gX op=false)(hb:jN op=false)(hl:jr ops b i false=true)(e:au C run 2 op (al L ρ) h=some (v,h'))(hle:h.length<=h'.length)(hk:∀(j:Nat) (o:aw),h[j]?=some o->o.mu≠.m->h'[j]?=some o):
  cY C run ops b h0 i ⟨some d,op,y,s,a,none⟩ ⟨al L ρ,h⟩=some ⟨al ((d,v)::L) ρ,h'⟩:=by
 unfold cY;simp only[bA,hh,hr,hb,hl,e,hle,if_true,ab2,abz,if_false,cj,DA hle hk]
theorem kSt{op:Op}{v:PV}{h':ab}{y:TypeId}{s:String}{a:Array Edge}(hh:cZ op=true)(hr:gX op=false)(hb:jN op=false)(hl:jr ops b i false=true)(e:au C run 2 op (al L ρ) h=some (v,h'))(hle:h.length<=h'.length)(hk:∀(j:Nat) (o:aw),h[j]?=some o->o.mu≠.m->h'[j]?=some o):
  cY C run ops b h0 i ⟨none,op,y,s,a,none⟩ ⟨al L ρ,h⟩=some ⟨al L ρ,h'⟩:=by
 unfold cY;simp only[bA,hh,hr,hb,hl,e,hle,if_true,ab2,abz,if_false,cd,DA hle hk]
end
theorem MD{C:cR}(T:lQ C.P){ops:Array Oper}{L:Al}{H:ab}{d0 d1 d2 d3 d4 d5 p q ip gh:Nat}{tl el:TypeId}{c:Operand}{z v:PV}{us es:List PV}
  {y0 y1 y2 y3 y4 y5 y6 y7:TypeId} {s0 s1 s2 s3 s4 s5 s6 s7:String} {a0 a1 a2 a3 a4 a5 a6 a7:Array Edge}
  (h2:H[ip]?=some ⟨.m,0,1,[v]⟩) (ho:Out 4 H v es) (hv:∀i∈bV v,i≠ip) (hn:es.length<100000000) (Qq:us.length=4) (huo:us.all bH=true)
  (hp:lk L p=some (.ptr ip 0 0 0)) (hq:lk L q=some (.ptr H.length 0 0 0)) (hd:[p,q,d0,d1,d2,d3,d4,d5].Nodup)
  (vq:∀ρ,gO ops (before ops) (al L ρ)=[H.length])
  (JP:ops.toList=[⟨some d0,.load tl (.tmp p),y0,s0,a0,none⟩,⟨some d1,.load el (.tmp q),y1,s1,a1,none⟩,⟨some d2,.call ⟨.builtin .len,#[.tmp d0],#[tl]⟩,y2,s2,a2,none⟩,
   ⟨some d3,.buildSlice tl 1 #[(0,c)],y3,s3,a3,none⟩,⟨some d4,.call ⟨.builtin .append,#[.tmp d0,.tmp d3],#[tl,tl]⟩,y4,s4,a4,none⟩,⟨some d5,.indexAddr tl (.tmp d4) (.tmp d2),y5,s5,a5,none⟩,
   ⟨none,.store el (.tmp d5) (.tmp d1),y6,s6,a6,none⟩,⟨none,.store tl (.tmp p) (.tmp d4),y7,s7,a7,none⟩])
  (C6:lL ops (before ops) 0=true) (hr5:lL ops (before ops) 5=true) (z7:sinks ops (before ops)=some (.tmp d5,.tmp p))
  (c06:rM (before ops) 0 (ops.size - 2)=true) (c07:rM (before ops) 0 (ops.size - 1)=true) (c56:rM (before ops) 5 (ops.size - 2)=true)
  (di:jr ops (before ops) 2 false=true) (Qr:jr ops (before ops) 4 false=true) (hl6:jr ops (before ops) 6 false=true) (hl7:jr ops (before ops) 7 false=true)
  (hk:T.kd tl=some (.sl el)) (hs:T.ts el=some 4) (ha:T.ta el=some true) (LQ:T.ts tl=some 1) (Iv:T.ta tl=some false) (hb:T.tb el=some gh) (jo:gh<=1000) (hz:T.tz el=some z) (Qs:(cells z).length=4) (WG:(cells z).all bH=true)
  (AS:∀(ρ:Nat->PV) (h:ab),dB C.P 1 h tl 1 [(0,ev ρ c)]=some (.aa true [z],h)):
  ∃id ep,∃h':ab,(∀run ρ,js C run ops ⟨al L ρ,H++[⟨.m,0,4,[.agg us]⟩]⟩=some ⟨al ([(d5,.ptr id ep es.length 0),(d4,.ak id ep 0 (es.length+1)),(d3,.aa true [z]),(d2,.int .i64 es.length),(d1,.agg us),(d0,v)]++L) ρ,h'⟩)/\
   H.length+1<=h'.length/\id≠ip/\id≠H.length/\(id∈bV v\/H.length<id)/\h'[id]?=some ⟨.m,ep,4,es++[.agg us]⟩/\h'[ip]?=some ⟨.m,0,1,[.ak id ep 0 (es.length+1)]⟩/\
   ∀j,j≠id->j≠ip->h'[j]?=(H++[⟨.m,0,4,[.agg us]⟩])[j]?:=by
 have XE:=ag h2;simp only[List.nodup_cons,abu,acB,or_false,not_or,not_false_eq_true,List.nodup_nil,and_true]at hd;obtain⟨⟨e1,e2,e3,e4,e5,e6,e7⟩,⟨f2,f3,f4,f5,f6,f7⟩,⟨g3,g4,g5,g6,g7⟩,⟨i4,i5,i6,i7⟩,⟨j5,j6,j7⟩,⟨m6,m7⟩,l7⟩:=hd;have ap:∀ρ,al L ρ p=.ptr ip 0 0 0:=dC hp;have aq:∀ρ,al L ρ q=.ptr H.length 0 0 0:=dC hq;have hvc:=ho.bH
 let lb:aw:=⟨.l,0,4,[.agg us]⟩
 have XF:cF [H.length] (H++[⟨.m,0,4,[.agg us]⟩])=H++[lb]:=by
  apply acr
  intro i
  rw[lF]
  by_cases hi:i<H.length
  ·rw[abj hi,abj hi];have:([H.length].contains i)=false:=by simp;omega
   simp only[this,abz,if_false,adC]
  ·rw[abt (by omega),abt (by omega)]
   by_cases h0:i=H.length
   ·subst h0;simp[bS,lb]
   ·have:i - H.length≠0:=by omega
    obtain⟨m,hm⟩:∃m,i - H.length=m+1:=⟨i - H.length - 1,by omega⟩;rw[hm];simp
 obtain⟨id,ep,k4,mK,hk4,ZO,Um,XG,ZP,Un,ZQ⟩:∃id ep,∃k4:ab,bP C.P 2 (H++[lb]) tl tl v (.aa true [z])=some (.ak id ep 0 (es.length+1),k4)/\k4[id]?=some ⟨.m,ep,4,es++[z]⟩/\(H++[lb]).length<=k4.length/\id≠ip/\id≠H.length/\(id∈bV v\/H.length<id)/\(∀j,j≠id->k4[j]?=(H++[lb])[j]?)/\∀o,(H++[lb])[id]?=some o->o.mu=.m:=by
  have iK:dK (3+1) [z]:=by simp[dK,Qs,abk.1 WG];exact λx hx=>abk.1 WG x hx
  rcases ho with⟨rfl,rfl⟩|⟨id,ep,rfl,bW⟩
  ·refine⟨_,_,_,gF T (lv:=2) (by omega) hk hk hs hb hz jo Qs WG iK rfl (by simp),?_,?_,?_,?_,?_,?_,?_⟩
   ·simp
   ·simp
   ·simp;omega
   ·simp
   ·right;simp
   ·intro j hj
    by_cases vu:j<(H++[lb]).length
    ·rw[abj vu]
    ·rw[abC (by simp at hj vu ⊢;omega),abC (by omega)]
   ·intro o h;rw[abC (by omega)]at h;cases h
  ·have cG:=ag bW;have xQ:(H++[lb])[id]?=some ⟨.m,ep,4,es⟩:=by rw[abj cG];exact bW
   have:=lG T (h:=H++[lb]) (full:=true) (len:=es.length) (ys:=[z]) hk hk hs hb hz jo Qs WG iK rfl (by simp;omega) (bo xQ rfl (by simp)) rfl rfl (abn _);refine⟨id,ep+1,_,this,?_,?_,?_,?_,?_,?_,?_⟩
   ·rw[abl (by simp;omega)];simp
   ·simp
   ·exact hv id (by simp[bV])
   ·omega
   ·left;simp[bV]
   ·intro j hj;rw[abm (by omega)]
   ·intro o h;rw[xQ]at h;cases h;rfl
 have ZR:=ag hk4;have XH:k4[ip]?=some ⟨.m,0,1,[v]⟩:=by rw[Un ip (by omega),abj XE];exact h2
 let k6:ab:=k4.set id ⟨.m,ep,4,es++[.agg us]⟩
 let k7:ab:=k6.set ip ⟨.m,0,1,[.ak id ep 0 (es.length+1)]⟩
 have hk5:∀j,j≠id->j≠ip->k7[j]?=(H++[lb])[j]?:=λj h1 h2=>by
  show((k4.set id _).set ip _)[j]?=_;rw[abm (by omega),abm (by omega),Un j h1]
 have XI:k6[ip]?=some ⟨.m,0,1,[v]⟩:=by rw[abm (by omega)];exact XH
 have XJ:k7[ip]?=some ⟨.m,0,1,[.ak id ep 0 (es.length+1)]⟩:=abl (by show ip<(k4.set id _).length;rw[adL];exact ag XH);have XK:k7[id]?=some ⟨.m,ep,4,es++[.agg us]⟩:=by rw[abm (by omega)];exact abl ZR
 have aaW:k7.length=k4.length:=by simp[k7,k6]
 have wQ:(H++[lb]).length=H.length+1:=by simp
 have ME:(H++[lb])[H.length]?=some lb:=by simp
 have kk4:∀(j:Nat) (o:aw),(H++[lb])[j]?=some o->o.mu≠.m->k4[j]?=some o:=λj o h hm=>by
  by_cases hj:j=id
  ·subst hj;exact absurd (ZQ o h) hm
  ·rw[Un j hj];exact h
 have kk6:∀(j:Nat) (o:aw),k4[j]?=some o->o.mu≠.m->k6[j]?=some o:=λj o h hm=>by
  by_cases hj:j=id
  ·subst hj;rw[hk4]at h;cases h;exact absurd rfl hm
  ·rw[abm (by omega)];exact h
 have kk7:∀(j:Nat) (o:aw),k6[j]?=some o->o.mu≠.m->k7[j]?=some o:=λj o h hm=>by
  by_cases hj:j=ip
  ·subst hj;rw[XI]at h;cases h;exact absurd rfl hm
  ·rw[abm (by omega)];exact h
 have zM:rN [H.length] (H++[⟨.m,0,4,[.agg us]⟩]) k7=true:=ug λj o h=>by
  by_cases hj:j=id
  ·subst hj;rw[XK]at h;cases h;exact .inl (by simp)
  by_cases vu:j=ip
  ·subst vu;rw[XJ]at h;cases h;exact .inl (by simp)
  by_cases XL:j=H.length
  ·exact .inr (.inl ⟨by simp[XL],by simp;omega⟩)
  rw[hk5 j hj vu]at h;have cG:=ag h;rw[wQ]at cG;rw[abj (by omega)]at h;exact .inr (.inr (by rw[abj (by omega)];exact h))
 have kU:∀j,(ez [H.length] (H++[⟨.m,0,4,[.agg us]⟩]) k7)[j]?=if j=H.length then some ⟨.m,0,4,[.agg us]⟩else k7[j]?:=λj=>by
  rw[nI]
  by_cases hj:j=H.length
  ·subst hj;rw[hk5 _ (by omega) (by omega),ME,if_pos rfl];simp
  ·rw[if_neg hj];have:([H.length].contains j)=false:=by simp;omega
   simp only[this,abz,if_false,adC]
 refine⟨id,ep,ez [H.length] (H++[⟨.m,0,4,[.agg us]⟩]) k7,λrun ρ=>?_,?_,Um,XG,ZP,?_,?_,?_⟩
 rotate_left
 ·have:(ez [H.length] (H++[⟨.m,0,4,[.agg us]⟩]) k7).length=k7.length:=by simp[ez]
  omega
 ·rw[kU,if_neg XG];exact XK
 ·rw[kU,if_neg (by omega)];exact XJ
 ·intro j h1 h2
  rw[kU]
  by_cases hj:j=H.length
  ·subst hj;rw[if_pos rfl];simp
  ·rw[if_neg hj,hk5 j h1 h2]
   by_cases vu:j<H.length
   ·rw[abj vu,abj vu]
   ·rw[abC (by simp;omega),abC (by simp;omega)]
 unfold js;rw[vq,XF,JP];dsimp only
 have pc:∀{h:ab} {i:Nat} {mm:Mu} {e' n:Nat} {xs:List PV} {x:PV},h[i]?=some ⟨mm,e',n,xs⟩->mm≠.x->xs[0]?=some x->cN h (.ptr i e' 0 0)=some (cells x):=λ{h i mm e' n xs x} q1 q2 q3=>by
  simp[cN,getM,q1,q2,q3]
 have L0:iU C.P (H++[lb]) tl (.ptr ip 0 0 0)=some v:=by
  refine sQ T ?_;have:cN (H++[lb]) (.ptr ip 0 0 0)=some (cells v):=pc (mm:=.m) (by rw[abj XE];exact h2) (by simp) rfl;rw[hvc.2]at this;simp only[loadT,LQ,Iv,this]
 have L1:iU C.P (H++[lb]) el (.ptr H.length 0 0 0)=some (.agg us):=by
  refine sQ T ?_;have:cN (H++[lb]) (.ptr H.length 0 0 0)=some us:=pc (mm:=.l) (x:=.agg us) ME (by simp) rfl;simp only[loadT,hs,ha,this];rw[if_pos (by rw[Qq];rfl),abO (by omega)]
 have L2:pE C.P (H++[lb]) tl v=some (.int .i64 es.length):=by
  rcases ho with⟨rfl,rfl⟩|⟨id,ep,rfl,bW⟩
  ·simp only[pE,bz (T.cT _ _ hk)]
  ·have xQ:(H++[lb])[id]?=some ⟨.m,ep,4,es⟩:=by rw[abj (ag bW)];exact bW
   simp only[pE,bz (T.cT _ _ hk),bo xQ rfl (by simp)];rw[if_pos (by show 0+es.length<=es.length;omega)]
 have L5:cE C.P k4 tl (.ak id ep 0 (es.length+1)) (.int .i64 es.length)=some (.ptr id ep es.length 0):=by
  simp only[cE,bz (T.cT _ _ hk),T.dV _ _ hs,bo hk4 rfl (by simp)];rw[if_pos ⟨by omega,by omega,trivial,by simp⟩];simp
 have L6:hZ C.P k4 el (.ptr id ep es.length 0) (.agg us)=some k6:=by
  have hg:getM k4 id ep=some ⟨.m,ep,4,es++[z]⟩:=bo hk4 rfl (by simp);have cm:(es++[z])[es.length]?=some z:=by simp
  simp only[hZ,T.dV _ _ hs,hg,cm];rw[if_pos ⟨trivial,Qq,huo,by rw[Qs];omega⟩];have hr:eR 0 4 z (.agg us)=.agg us:=by unfold eR;rw[if_pos ⟨rfl,Qs.symm⟩]
  rw[hr];simp[k6]
 have L7:hZ C.P k6 tl (.ptr ip 0 0 0) (.ak id ep 0 (es.length+1))=some k7:=by
  have hg:getM k6 ip 0=some ⟨.m,0,1,[v]⟩:=bo XI rfl (by simp);have cm:([v]:List PV)[0]?=some v:=rfl;simp only[hZ,T.dV _ _ LQ,hg,cm];rw[if_pos ⟨trivial,rfl,rfl,by rw[hvc.2];simp⟩];have hr:eR 0 1 v (.ak id ep 0 (es.length+1))=.ak id ep 0 (es.length+1):=by unfold eR;rw[if_pos ⟨rfl,by rw[hvc.2];rfl⟩]
  rw[hr];simp[k7]
 have G0:lM ops (before ops) (H++[lb]) 0 (al L ρ) (.load tl (.tmp p))=true:=by
  simp only[lM,sG,ev,ap,C6,BX,z7,c06,c07,ady,adG,Bool.or_true]
 have G1:lM ops (before ops) (H++[lb]) 1 (al ((d0,v)::L) ρ) (.load el (.tmp q))=true:=by
  simp[lM,sG,ev,al,f2,aq,pF,lb]
 have ZS:(ops.toList.any λo=>o.dst==some p)=false:=by
  rw[JP];simp[acd e2,acd e3,acd e4,acd e5,acd e6,acd e7]
 have G5:lM ops (before ops) (H++[lb]) 5 (al ((d4,.ak id ep 0 (es.length+1))::(d3,.aa true [z])::(d2,.int .i64 es.length)::(d1,.agg us)::(d0,v)::L) ρ) (.indexAddr tl (.tmp d4) (.tmp d2))=true:=by
  have:FP ops (al ((d4,.ak id ep 0 (es.length+1))::(d3,.aa true [z])::(d2,.int .i64 es.length)::(d1,.agg us)::(d0,v)::L) ρ) (.tmp p) id=true:=by
   simp[FP,ZS,ev,al,e2,e3,e4,e5,e6,ap,acd Um]
  have h4:ev (al ((d4,.ak id ep 0 (es.length+1))::(d3,.aa true [z])::(d2,.int .i64 es.length)::(d1,.agg us)::(d0,v)::L) ρ) (.tmp d4)=.ak id ep 0 (es.length+1):=by simp[ev,al]
  simp only[lM,sG,h4,hr5,BX,z7,c56,ady,acs,this,Bool.or_true]
 have oQ:ck C run ops (before ops) (H++[lb]) 0 [⟨some d0,.load tl (.tmp p),y0,s0,a0,none⟩,⟨some d1,.load el (.tmp q),y1,s1,a1,none⟩,⟨some d2,.call ⟨.builtin .len,#[.tmp d0],#[tl]⟩,y2,s2,a2,none⟩,
   ⟨some d3,.buildSlice tl 1 #[(0,c)],y3,s3,a3,none⟩,⟨some d4,.call ⟨.builtin .append,#[.tmp d0,.tmp d3],#[tl,tl]⟩,y4,s4,a4,none⟩,⟨some d5,.indexAddr tl (.tmp d4) (.tmp d2),y5,s5,a5,none⟩,
   ⟨none,.store el (.tmp d5) (.tmp d1),y6,s6,a6,none⟩,⟨none,.store tl (.tmp p) (.tmp d4),y7,s7,a7,none⟩] ⟨al L ρ,H++[lb]⟩=some ⟨al ([(d5,.ptr id ep es.length 0),(d4,.ak id ep 0 (es.length+1)),(d3,.aa true [z]),(d2,.int .i64 es.length),(d1,.agg us),(d0,v)]++L) ρ,k7⟩:=by
  rw[ck,XD rfl rfl G0 (v:=v) (by simp only[aC,ev,ap,L0,Option.map_some])];dsimp only;rw[ck,XD rfl rfl G1 (v:=.agg us) (by simp only[aC,ev,al,f2,if_false,aq,L1,Option.map_some])];dsimp only;rw[ck,WE rfl rfl rfl di (v:=.int .i64 es.length) (h':=H++[lb]) (by simp[au,bt,ev,al,g3,L2]) (Nat.le_refl _) (λ_ _ h _=>h)];dsimp only;rw[ck,kBs rfl rfl rfl (v:=.aa true [z]) (by simp only[aC,List.map_cons,List.map_nil,AS])];dsimp only;rw[ck,WE rfl rfl rfl Qr (v:=.ak id ep 0 (es.length+1)) (h':=k4) (by simp[au,bt,ev,al,g3,g4,g5,mK]) ZO kk4];dsimp only;rw[ck,XD rfl rfl G5 (v:=.ptr id ep es.length 0) (by simp[aC,ev,al,j5,j6,L5])];dsimp only;rw[ck,kSt rfl rfl rfl hl6 (v:=.undef) (h':=k6) (by simp[au,aC,ev,al,i4,i5,i6,i7,L6]) (by simp[k6]) kk6];dsimp only;rw[ck,kSt rfl rfl rfl hl7 (v:=.undef) (h':=k7) (by simp[au,aC,ev,al,e2,e3,e4,e5,e6,e7,l7,ap,L7]) (by simp[k7]) kk7]
  rfl
 rw[oQ];dsimp only
 have My:rO ops (before ops) (al ([(d5,.ptr id ep es.length 0),(d4,.ak id ep 0 (es.length+1)),(d3,.aa true [z]),(d2,.int .i64 es.length),(d1,.agg us),(d0,v)]++L) ρ)=true:=by
  simp[rO,z7,ev,al,e2,e3,e4,e5,e6,e7,ap,Um]
 rw[if_pos ⟨zM,My⟩]
theorem XM{C:cR}(T:lQ C.P){tl:TypeId}{c:Operand}{z:PV}(x:z8 T tl 1 [(0,c)] [] (λ_ es=>es=[z]))(hv:ar [z]=true)(ρ:Nat->PV)(h:ab):dB C.P 1 h tl 1 [(0,ev ρ c)]=some (.aa true [z],h):=by
 obtain⟨sz,es,rfl,e⟩:=nJ T x;have:=e ρ h 1;rw[if_pos hv]at this;exact this
structure Apd(H:ab)(ip:Nat)(v:PV)(es us:List PV)(id ep:Nat)(h':ab):Prop where
 len:H.length+1<=h'.length
 idp:id≠ip
 idn:id≠H.length
 idv:id∈bV v\/H.length<id
 at':h'[id]?=some ⟨.m,ep,4,es++[.agg us]⟩
 var:h'[ip]?=some ⟨.m,0,1,[.ak id ep 0 (es.length+1)]⟩
 fr:∀j,j≠id->j≠ip->h'[j]?=(H++[⟨.m,0,4,[.agg us]⟩])[j]?
theorem Tj.apd{C:cR}{T:lQ C.P}{ops:Array Oper}{L:Al}{H:ab}{Q:Al->ab->Prop}{d0 d1 d2 d3 d4 d5 p q ip gh:Nat}{tl el:TypeId}{c:Operand}{z v:PV}{us es:List PV}
  {y0 y1 y2 y3 y4 y5 y6 y7:TypeId} {s0 s1 s2 s3 s4 s5 s6 s7:String} {a0 a1 a2 a3 a4 a5 a6 a7:Array Edge}
  (h2:H[ip]?=some ⟨.m,0,1,[v]⟩) (ho:Out 4 H v es) (hv:∀i∈bV v,i≠ip) (hn:es.length<100000000)
  (kk:∀id ep h',Apd H ip v es us id ep h'->Rn (Q ([(d5,.ptr id ep es.length 0),(d4,.ak id ep 0 (es.length+1)),(d3,.aa true [z]),(d2,.int .i64 es.length),(d1,.agg us),(d0,v)]++L) h'))
  (JP:ops.toList=[⟨some d0,.load tl (.tmp p),y0,s0,a0,none⟩,⟨some d1,.load el (.tmp q),y1,s1,a1,none⟩,⟨some d2,.call ⟨.builtin .len,#[.tmp d0],#[tl]⟩,y2,s2,a2,none⟩,
   ⟨some d3,.buildSlice tl 1 #[(0,c)],y3,s3,a3,none⟩,⟨some d4,.call ⟨.builtin .append,#[.tmp d0,.tmp d3],#[tl,tl]⟩,y4,s4,a4,none⟩,⟨some d5,.indexAddr tl (.tmp d4) (.tmp d2),y5,s5,a5,none⟩,
   ⟨none,.store el (.tmp d5) (.tmp d1),y6,s6,a6,none⟩,⟨none,.store tl (.tmp p) (.tmp d4),y7,s7,a7,none⟩]:=by rfl)
  (Qq:us.length=4:=by rfl) (huo:us.all bH=true:=by rfl)
  (hp:lk L p=some (.ptr ip 0 0 0):=by rfl) (hq:lk L q=some (.ptr H.length 0 0 0):=by rfl) (hd:[p,q,d0,d1,d2,d3,d4,d5].Nodup:=by decide)
  (vq:∀ρ,gO ops (before ops) (al L ρ)=[H.length]:=by intro _;rfl)
  (C6:lL ops (before ops) 0=true:=by rfl) (hr5:lL ops (before ops) 5=true:=by rfl) (z7:sinks ops (before ops)=some (.tmp d5,.tmp p):=by rfl)
  (c06:rM (before ops) 0 (ops.size - 2)=true:=by rfl) (c07:rM (before ops) 0 (ops.size - 1)=true:=by rfl) (c56:rM (before ops) 5 (ops.size - 2)=true:=by rfl)
  (di:jr ops (before ops) 2 false=true:=by rfl) (Qr:jr ops (before ops) 4 false=true:=by rfl) (hl6:jr ops (before ops) 6 false=true:=by rfl) (hl7:jr ops (before ops) 7 false=true:=by rfl)
  (hk:T.kd tl=some (.sl el):=by rfl) (hs:T.ts el=some 4:=by rfl) (ha:T.ta el=some true:=by rfl) (LQ:T.ts tl=some 1:=by rfl) (Iv:T.ta tl=some false:=by rfl) (hb:T.tb el=some gh:=by rfl) (jo:gh<=1000:=by decide) (hz:T.tz el=some z:=by rfl) (Qs:(cells z).length=4:=by rfl) (WG:(cells z).all bH=true:=by rfl)
  (hx:z8 T tl 1 [(0,c)] [] (λ_ es=>es=[z]):=by exact rfl) (hxv:ar [z]=true:=by rfl) (ZT:sH ops=true:=by rfl):Tj T ops L (H++[⟨.m,0,4,[.agg us]⟩]) Q:=by
 obtain⟨id,ep,h',e,q1,q2,q3,q4,q5,q6,q7⟩:=MD T h2 ho hv hn Qq huo hp hq hd vq JP C6 hr5 z7 c06 c07 c56 di Qr hl6 hl7 hk hs ha LQ Iv hb jo hz Qs WG (XM T hx hxv);exact .calm _ h' e (kk id ep h' ⟨q1,q2,q3,q4,q5,q6,q7⟩) ZT
theorem Tl{C:cR}(T:lQ C.P){H:ab}{st xt el rk:TypeId}{sz gh:Nat}{z v:PV}{full:Bool}{es ys:List PV}(hk:T.kd st=some (.sl el))(gv:T.kd xt=some (.sl rk))(hs:T.ts el=some (sz+1))(hb:T.tb el=some gh)(hz:T.tz el=some z)(jo:gh<=1000)(hl:(cells z).length=sz+1)(ho:(cells z).all bH=true)
  (o:Out (sz+1) H v es) (hy:dK (sz+1) ys) (hn:es.length+ys.length<1000000000) (iK:ar es=true) (pB:ar ys=true) (hH:HV H):
  ∃r H',bP C.P 2 H st xt v (.aa full ys)=some (r,H')/\Out (sz+1) H' r (es++ys)/\HV H'/\H.length<=H'.length/\(∀(j:Nat) (o:aw),H[j]?=some o->o.mu≠.m->H'[j]?=some o)/\∀(j:Nat) (o:aw),H'[j]?=some o->o.mu≠.l\/H[j]?=some o:=by
 by_cases bN:ys=[]
 ·subst bN;refine⟨v,H,?_,by simpa using o,hH,abn _,λ_ _ h _=>h,λ_ _ h=>.inr h⟩;unfold dK at hy;unfold bP;rw[bz (T.cT _ _ hk)];simp only[T.dV _ _ hs,T.rU _ _ hb,T.nt _ _ hz,cC,bz (T.cT _ _ gv),cu];rw[if_pos ⟨by omega,by omega,⟨hl,ho⟩,hy⟩];rcases o with⟨rfl,_⟩|⟨id,ep,rfl,e⟩
  ·simp
  ·simp only[bo e rfl (by simp:Mu.m≠Mu.x)];rw[if_pos ⟨by simp,trivial⟩];simp
 ·have Cb:ys.isEmpty=false:=by cases ys with |nil=>exact absurd rfl bN |cons=>rfl
  rcases o with⟨rfl,rfl⟩|⟨id,ep,rfl,e⟩
  ·refine⟨_,_,gF T (h:=H) (lv:=2) (full:=full) (by omega) hk gv hs hb hz jo hl ho hy Cb (by simpa using hn),.inr ⟨H.length,0,by simp,by simp⟩,hH.cB (HV.one pB),by simp,λj o h _=>by rw[abj (ag h)];exact h,λj o h=>?_⟩
   by_cases hj:j<H.length
   ·rw[abj hj]at h;exact .inr h
   ·have cG:=ag h;simp at cG;have:j=H.length:=by omega
    subst this;simp at h;subst h;exact .inl (by simp)
  ·have cG:=ag e;have:=lG T (h:=H) (full:=full) (len:=es.length) hk gv hs hb hz jo hl ho hy Cb hn (bo e rfl (by simp)) rfl rfl (abn _);rw[ack]at this;refine⟨_,_,this,.inr ⟨id,ep+1,by simp,abl cG⟩,hH.set id (by simp) (by simp[bB]at iK pB ⊢;exact⟨iK,pB⟩),by simp,λj o h hm=>?_,λj o h=>?_⟩
   ·by_cases hj:j=id
    ·subst hj;rw[e]at h;cases h;exact absurd rfl hm
    ·rw[abm (by omega)];exact h
   ·by_cases hj:j=id
    ·subst hj;rw[abl cG]at h;cases h;exact .inl (by simp)
    ·rw[abm (by omega)]at h;exact .inr h
section
variable{C:cR}(T:lQ C.P){run:iI}{ops:Array Oper}{b:List Nat}{h0:ab}{i:Nat}{L:Al}{ρ:Nat->PV}{h:ab}
theorem zN{o:Oper}{r:List Oper}{s s':St}(e:cY C run ops b h0 i o s=some s'):ck C run ops b h0 i (o::r) s=ck C run ops b h0 (i+1) r s':=by rw[ck,e]
theorem kP{d:Nat}{op:Op}{v:PV}{y:TypeId}{s:String}{a:Array Edge}(hs:xT T op L (λx=>x=v)):cY C run ops b h0 i ⟨some d,op,y,s,a,none⟩ ⟨al L ρ,h⟩=some ⟨al ((d,v)::L) ρ,h⟩:=by
 obtain⟨hh,v',e,rfl⟩:=qF T hs;unfold cY;simp only[bA,hh,if_true,e,cj]
theorem kR{d:Nat}{op:Op}{v:PV}{y:TypeId}{s:String}{a:Array Edge}(hs:vv T op L h (λx=>x=v))(hg:sG op (al L ρ)=none)(hr:gX op=true:=by rfl):cY C run ops b h0 i ⟨some d,op,y,s,a,none⟩ ⟨al L ρ,h⟩=some ⟨al ((d,v)::L) ρ,h⟩:=by
 obtain⟨hh,v',e,rfl⟩:=lH T hs;refine XD hh hr (by simp only[lM,hg]) ?_;have:=e run 1 ρ
 cases op <;>first |exact this |(cases hr)
end
theorem Uo{C:cR}(T:lQ C.P){L:Al}{ρ:Nat->PV}{M:ab}{t:TypeId}{n:Nat}{ps:Array (Nat×Operand)}{vs:List PV}(x:z8 T t n ps.toList L (λ_ es=>es=vs))(hv:ar vs=true):aC C.P 1 (.buildSlice t n ps) (al L ρ) M=some (.aa true vs,M):=by
 obtain⟨sz,es,rfl,e⟩:=nJ T x;have:=e ρ M 1;rw[if_pos hv]at this;simpa only[aC]using this
theorem F8{C:cR}{ops:Array Oper}{L L':Al}{H h':ab}(vq:∀ρ,gO ops (before ops) (al L ρ)=[])(z7:sinks ops (before ops)=none)(zM:∀(j:Nat) (o:aw),h'[j]?=some o->o.mu≠.l\/H[j]?=some o)
  (oQ:∀run ρ,ck C run ops (before ops) H 0 ops.toList ⟨al L ρ,H⟩=some ⟨al L' ρ,h'⟩):∀run ρ,js C run ops ⟨al L ρ,H⟩=some ⟨al L' ρ,h'⟩:=by
 intro run ρ
 have h1:∀x:ab,cF [] x=x:=λx=>by
  apply acr
  intro i
  rw[lF];simp
 have h2:ez [] H h'=h':=by
  apply acr
  intro i
  rw[nI];simp
 unfold js;rw[vq,h1,oQ];dsimp only
 have hn:rN [] H h'=true:=ug λj o h=>by
  rcases zM j o h with h |h
  ·exact .inl h
  ·exact .inr (.inr h)
 rw[if_pos ⟨hn,by simp only[rO,z7]⟩,h2]
structure QO(ids:List Nat)(h h':ab):Prop where
 len:h'.length=h.length
 same:∀j,j∉ids->h'[j]?=h[j]?
 pj:∀(j:Nat) (o:aw),h[j]?=some o->∃mu:Mu,h'[j]?=some ⟨mu,o.ep,o.bM,o.es⟩/\(mu=o.mu\/mu=.f)
theorem QO.refl(ids:List Nat)(h:ab):QO ids h h:=⟨rfl,λ_ _=>rfl,λj o e=>⟨o.mu,e,.inl rfl⟩⟩
theorem QO.hr{ids:List Nat}{h h':ab}(z:QO ids h h')(H:HR h):HR h':=by
 intro o ho
 obtain⟨j,hj,rfl⟩:=adO ho;have FC:j<h.length:=by rw[<-z.len];exact hj
 obtain⟨mu,e,hm⟩:=z.pj j h[j] (abo FC);rw[abo hj]at e;have e:=abi e;obtain⟨h1,h2⟩:=H h[j] (abV FC);rw[e,z.len];refine⟨?_,h2⟩;rcases hm with rfl |rfl
 ·exact h1
 ·simp
theorem ye:∀{ids:List Nat} {h h':ab},eZ h ids=some h'->QO ids h h'
 |[],h,h',e=>by
  simp only[eZ,abU]at e;subst e;exact .refl _ _
 |id::r,h,h',e=>by
  unfold eZ at e
  split at e
  ·rename_i h1 e1
   have a:=ye e;unfold kg at e1
   split at e1
   ·rename_i o ho
    split at e1
    ·obtain rfl:=abi e1;refine⟨by rw[a.len,adL],λj hj=>?_,λj o' hj=>?_⟩
     ·rw[abu,not_or]at hj;rw[a.same j hj.2,abm (λhh=>hj.1 hh.symm)]
     ·by_cases zX:id=j
      ·subst zX;obtain rfl:=abi (ho.symm.trans hj);obtain⟨mu,q1,q2⟩:=a.pj id _ (abl (ag ho));exact⟨mu,q1,.inr (by rcases q2 with rfl |rfl <;>rfl)⟩
      ·exact a.pj j o' (by rw[abm zX];exact hj)
    ·cases e1
   ·cases e1
  ·cases e
theorem aj.Z5{C:cR}{f:FuncId}{args args':List PV}{h:ab}{rv:PV}{Q:PV->ab->Prop}(hb:gz h args=some args')(yf:ar args=false)(xJ:∀id∈jK args,∃o:aw,h[id]?=some o/\ar o.es=true/\(o.mu=.m\/o.mu=.f))(a:aI C f (aR args') rv)(q:∀h',QO (jK args) h h'->Q rv h')(hm:C.mode f=.pure:=by rfl):aj C 2 f args h Q:=by
 obtain⟨n0,hn⟩:=a;obtain⟨hf,ef⟩:=QP _ _ xJ;refine⟨rv,if(dO rv ||lC h (jK args))=true then h else hf,q _ ?_,n0,λn h1=>?_⟩
 ·split
  ·exact .refl _ _
  ·exact ye ef
 obtain⟨r0,hc,r1,e1,e3,e4⟩:=hn n h1;have zH:dO r1=dO rv:=by have:=ja r1;rw[e4]at this;exact this.symm
 unfold dg;rw[hm];simp only[dp,yf,abz,if_false,hb,e1,e3,zH,e4]
 split
 ·rfl
 ·simp[ef]
inductive Am(h:ab):List Nat->List PV->List fV->Prop
 |nil:Am h [] [] []
 |snoc {ids:List Nat} {es:List PV} {ds:List fV} {w:PV} {d:fV}:Am h ids es ds->Out 4 h w (ae d.kn)->Am h (ids++bV w) (es++[.agg [w,.int .i64 d.tm.k,.str d.tm.s,.int .i64 d.tm.o,.aa false (ae d.tm.l)]]) (ds++[d])
theorem Am.len{h:ab}{ids:List Nat}{es:List PV}{ds:List fV}(n:Am h ids es ds):es.length=ds.length:=by
 induction n with
 |nil=>rfl
 |snoc _ _ ih=>simp[ih]
theorem Am.of_eq{h h':ab}{ids:List Nat}{es:List PV}{ds:List fV}(n:Am h ids es ds):(∀i∈ids,h'[i]?=h[i]?)->Am h' ids es ds:=by
 induction n with
 |nil=>exact λ_=>.nil
 |snoc _ o ih=>exact λhe=>.snoc (ih λi hi=>he i (by simp[hi])) (o.of_eq λi hi=>he i (by simp[hi]))
theorem Am.lt{h:ab}{ids:List Nat}{es:List PV}{ds:List fV}(n:Am h ids es ds):∀i∈ids,i<h.length:=by
 induction n with
 |nil=>intro i hi;cases hi
 |snoc _ o ih=>
  intro i hi
  rcases abp.1 hi with hi |hi
  ·exact ih i hi
  ·exact o.ls i hi
theorem Am.TA{h:ab}{ids:List Nat}{es:List PV}{ds:List fV}(n:Am h ids es ds):bw (λi=>decide (i<h.length)) es=true:=by
 induction n with
 |nil=>rfl
 |snoc _ o ih=>
  rw[gj,acj,<-gj,ih];simp[bq,bw,o.bq]
theorem Am.ok{h:ab}{ids:List Nat}{es:List PV}{ds:List fV}(n:Am h ids es ds):∀e∈es,(cells e).length=5:=by
 induction n with
 |nil=>intro e he;cases he
 |snoc _ o ih=>
  intro e he
  rcases abp.1 he with he |he
  ·exact ih e he
  ·simp at he;rw[he];rfl
theorem Ba{f:PV->Option PV}:∀{a b a' b':List PV},gA f a=some a'->gA f b=some b'->gA f (a++b)=some (a'++b')
 |[],b,a',b',h1,h2=>by
  simp only[gA,abU]at h1;subst h1;exact h2
 |c::a,b,a',b',h1,h2=>by
  simp only[gA]at h1
  split at h1
  ·rename_i c' r' e1 e2
   obtain rfl:=abi h1;simp[gA,e1,Ba e2 h2]
  ·cases h1
theorem TC{n:Nat}{h:ab}{id ep len:Nat}{o:aw}{r:List PV}(hg:getM h id ep=some o)(hl:len<=o.es.length)(hm:o.mu=.m\/o.mu=.f)(hr:gA (qC n h) (o.es.take len)=some r):qC (n+1) h (.ak id ep 0 len)=some (.aa false r):=by
 rw[qC];simp only[hg];rw[if_pos ⟨by omega,hm⟩,acv,hr]
 rfl
theorem Ns{n:Nat}{h:ab}{cs r:List PV}(hr:gA (qC n h) cs=some r):qC (n+1) h (.agg cs)=some (.agg r):=by
 rw[qC,hr]
 rfl
theorem fX{f:PV->Option PV}{c c':PV}{r r':List PV}(h1:f c=some c')(h2:gA f r=some r'):gA f (c::r)=some (c'::r'):=by
 simp only[gA,h1,h2]
theorem Bb{n:Nat}{h:ab}{k:IntKind}{i:Int}:qC n h (.int k i)=some (.int k i):=by cases n <;>rfl
theorem Nt{n:Nat}{h:ab}{s:ByteArray}:qC n h (.str s)=some (.str s):=by cases n <;>rfl
theorem IG{n:Nat}{h:ab}{f:Bool}{es:List PV}:qC n h (.aa f es)=some (.aa f es):=by cases n <;>rfl
theorem QQ(n:Nat)(h:ab)(t:Tm):qC (n+1) h (enc t)=some (enc t):=by
 rw[ao];exact Ns (fX Bb (fX Nt (fX Bb (fX IG rfl))))
theorem DT(n:Nat)(h:ab):∀l:List Tm,gA (qC (n+1) h) (ae l)=some (ae l)
 |[]=>rfl
 |t::l=>by rw[ae];exact fX (QQ n h t) (DT n h l)
theorem Vd{n:Nat}{h:ab}{w:PV}{d:fV}(o:Out 4 h w (ae d.kn)):∃r,qC (n+3) h (.agg [w,.int .i64 d.tm.k,.str d.tm.s,.int .i64 d.tm.o,.aa false (ae d.tm.l)])=some r/\b9 r=sV d:=by
 rcases o with⟨rfl,e⟩|⟨id,ep,rfl,e⟩
 ·exact⟨.agg [.aa true [],.int .i64 d.tm.k,.str d.tm.s,.int .i64 d.tm.o,.aa false (ae d.tm.l)],Ns (fX IG (fX Bb (fX Nt (fX Bb (fX IG rfl))))),by simp[b9,aR,aZ,kZ,e]⟩
 ·refine⟨.agg [.aa false (ae d.kn),.int .i64 d.tm.k,.str d.tm.s,.int .i64 d.tm.o,.aa false (ae d.tm.l)],?_,by simp[b9,aR,aZ,kZ]⟩;have hg:=bo e rfl (by simp);have hm:=DT n h d.kn;have h1:qC (n+2) h (.ak id ep 0 (ae d.kn).length)=some (.aa false (ae d.kn)):=TC hg (abn _) (.inl rfl) (by rw[ack];exact hm);exact Ns (fX h1 (fX Bb (fX Nt (fX Bb (fX IG rfl)))))
theorem Am.qC{h:ab}{ids:List Nat}{es:List PV}{ds:List fV}(n:Am h ids es ds)(k:Nat):∃fA,gA (qC (k+3) h) es=some fA/\aR fA=cw ds:=by
 induction n with
 |nil=>exact⟨[],rfl,rfl⟩
 |snoc _ o ih=>
  obtain⟨a,h1,h2⟩:=ih;obtain⟨r,h3,h4⟩:=Vd (n:=k) o;refine⟨a++[r],Ba h1 (by simp[gA,h3]),?_⟩;rw[cI,ab6,<-cI,h2];simp[cw,h4]
theorem Am.Z6{h:ab}{ids:List Nat}{es:List PV}{ds:List fV}(n:Am h ids es ds):ar es=true->aR es=cw ds:=by
 induction n with
 |nil=>exact λ_=>rfl
 | @snoc ids es ds w d _ o ih=>
  intro hv
  rw[bB,acj,abq,<-bB,<-bB]at hv;rw[cI,ab6,<-cI,ih hv.1]
  have hw:aW w=true:=by
   have:=hv.2;simp[ar,aW]at this;exact this
  rcases o with⟨rfl,e⟩|⟨id,ep,rfl,e⟩
  ·simp[b9,aR,aZ,cw,kZ,e]
  ·simp[aW]at hw
theorem Am.ret{h:ab}{v:PV}{ids:List Nat}{es:List PV}{ds:List fV}(o:Out 5 h v es)(n:Am h ids es ds):∃r1,AG h (aO [v])=some r1/\b9 r1=.aa false (cw ds):=by
 show∃r1,AG h v=some r1/\b9 r1=.aa false (cw ds);rcases o with⟨rfl,rfl⟩|⟨id,ep,rfl,e⟩
 ·have:=n.len;obtain rfl:=abA (show ds.length=0 by simpa using this.symm);exact⟨_,rfl,rfl⟩
 ·have hg:=bo e rfl (by simp)
  by_cases hv:ar es=true
  ·refine⟨.aa false es,?_,by simp[b9,n.Z6 hv]⟩;simp[AG,rb,ke,oB,hg,hv]
  ·obtain⟨fA,h1,h2⟩:=n.qC 4;refine⟨.aa false fA,?_,by simp[b9,h2]⟩;have h3:rb h (.ak id ep 0 es.length)=none:=by simp[rb,ke,oB,hg,hv]
   simp only[AG,h3];exact TC hg (abn _) (.inl rfl) (by rw[ack];exact h1)
structure J7(H:ab)(v:PV)(sz:Nat)(es ys:List PV)(r:PV)(H':ab):Prop where
 out:Out sz H' r (es++ys)
 cs:(H'=H/\r=v/\ys=[])\/(H'=H++[⟨.m,0,sz,ys⟩]/\r=.ak H.length 0 0 ys.length/\es=[])\/∃id ep,v=.ak id ep 0 es.length/\H[id]?=some ⟨.m,ep,sz,es⟩/\H'=H.set id ⟨.m,ep+1,sz,es++ys⟩/\r=.ak id (ep+1) 0 (es.length+ys.length)
section
variable{H H':ab}{v r:PV}{sz:Nat}{es ys:List PV}
theorem J7.len(a:J7 H v sz es ys r H'):H.length<=H'.length:=by
 rcases a.cs with⟨rfl,_⟩|⟨rfl,_⟩|⟨id,ep,_,_,rfl,_⟩ <;>simp
theorem J7.fr(a:J7 H v sz es ys r H')(j:Nat)(hj:j<H.length)(hv:j∉bV v):H'[j]?=H[j]?:=by
 rcases a.cs with⟨rfl,_⟩|⟨rfl,_⟩|⟨id,ep,rfl,_,rfl,_⟩
 ·rfl
 ·exact abj hj
 ·exact abm (λh=>hv (by simp[bV,h]))
theorem J7.bV(a:J7 H v sz es ys r H'):∀i∈Pm.bV r,i∈Pm.bV v\/H.length<=i:=by
 intro i hi
 rcases a.cs with⟨_,rfl,_⟩|⟨_,rfl,_⟩|⟨id,ep,rfl,_,_,rfl⟩
 ·exact .inl hi
 ·simp[Pm.bV]at hi;exact .inr (by omega)
 ·exact .inl (by simpa[Pm.bV]using hi)
theorem J7.hr(a:J7 H v sz es ys r H')(hR:HR H)(Gz:bw (λi=>decide (i<H.length)) (es++ys)=true):HR H':=by
 rcases a.cs with⟨rfl,_⟩|⟨rfl,_,rfl⟩|⟨id,ep,_,_,rfl,_⟩
 ·exact hR
 ·exact hR.wk (by simp) (dW (f:=λi=>decide (i<H.length)) (λi hi=>by have:=of_decide_eq_true hi;exact decide_eq_true (by omega)) _ (by simpa using Gz))
 ·exact hR.set id (by simp) Gz
theorem J7.aU(a:J7 H v sz es ys r H'):∀(j:Nat) (o:aw),H[j]?=some o->o.mu≠.m->H'[j]?=some o:=by
 intro j o h hm
 rcases a.cs with⟨rfl,_⟩|⟨rfl,_⟩|⟨id,ep,_,e,rfl,_⟩
 ·exact h
 ·rw[abj (ag h)];exact h
 ·by_cases hj:id=j
  ·subst hj;rw[e]at h;cases h;exact absurd rfl hm
  ·rw[abm hj];exact h
theorem J7.Nu(a:J7 H v sz es ys r H'):∀(j:Nat) (o:aw),H'[j]?=some o->o.mu≠.l\/H[j]?=some o:=by
 intro j o h
 rcases a.cs with⟨rfl,_⟩|⟨rfl,_⟩|⟨id,ep,_,e,rfl,_⟩
 ·exact .inr h
 ·by_cases hj:j<H.length
  ·rw[abj hj]at h;exact .inr h
  ·have cG:=ag h;simp at cG;obtain rfl:j=H.length:=by omega
   simp at h;subst h;exact .inl (by simp)
 ·by_cases hj:id=j
  ·subst hj;rw[abl (ag e)]at h;cases h;exact .inl (by simp)
  ·rw[abm hj]at h;exact .inr h
end
theorem GA{C:cR}(T:lQ C.P){H:ab}{st xt el rk:TypeId}{sz gh:Nat}{z v u:PV}{es ys:List PV}(hk:T.kd st=some (.sl el))(gv:T.kd xt=some (.sl rk))(hs:T.ts el=some (sz+1))(hb:T.tb el=some gh)(hz:T.tz el=some z)(jo:gh<=1000)(hl:(cells z).length=sz+1)(ho:(cells z).all bH=true)
  (o:Out (sz+1) H v es) (hu:cu H u=some ys) (Ve:∀i∈bV v,i∉bV u) (hy:dK (sz+1) ys) (hn:es.length+ys.length<1000000000):∃r H',bP C.P 2 H st xt v u=some (r,H')/\J7 H v (sz+1) es ys r H':=by
 unfold dK at hy
 have hA:bP C.P 2 H st xt v u=match(generalizing:=false) v with
   | .aa full es=>if ys.isEmpty then some (v,H)else if full=true/\1<=2/\roomy (es.length+ys.length) gh=true/\es.all (λv=>decide ((cells v).length=sz+1)&& (cells v).all bH)=true then some (.ak H.length 0 0 (es.length+ys.length),newObj H (sz+1) (es++ys))else none
   | .ak id ep off len=>match getM H id ep with
    |some o=>if off+len<=o.es.length/\sz+1=o.bM then
      if ys.isEmpty then some (v,H)
      else if off=0/\2<=2/\o.mu=.m/\iH id u=true/\len+ys.length<=o.es.length then some (.ak id ep 0 (len+ys.length),H.set id {o with es:=o.es.take len++ys++o.es.drop (len+ys.length)})
      else if off=0/\2<=2/\o.mu=.m/\roomy (len+ys.length) gh=true then some (.ak id (ep+1) 0 (len+ys.length),H.set id {o with ep:=ep+1,es:=o.es.take len++ys})else none
     else none
    |none=>none
   |_=>none:=by
  unfold bP;rw[bz (T.cT _ _ hk)];simp only[T.dV _ _ hs,T.rU _ _ hb,T.nt _ _ hz,cC,bz (T.cT _ _ gv),hu];rw[if_pos ⟨by omega,by omega,⟨hl,ho⟩,hy⟩]
  rfl
 rw[hA]
 by_cases bN:ys=[]
 ·subst bN;rcases o with⟨rfl,rfl⟩|⟨id,ep,rfl,e⟩
  ·exact⟨_,_,rfl,.inl ⟨rfl,rfl⟩,.inl ⟨rfl,rfl,rfl⟩⟩
  ·refine⟨.ak id ep 0 es.length,H,?_,.inr ⟨id,ep,by simp,by simpa using e⟩,.inl ⟨rfl,rfl,rfl⟩⟩;simp[bo e rfl (by simp:Mu.m≠Mu.x)]
 ·have Cb:ys.isEmpty=false:=by cases ys with |nil=>exact absurd rfl bN |cons=>rfl
  rcases o with⟨rfl,rfl⟩|⟨id,ep,rfl,e⟩
  ·refine⟨.ak H.length 0 0 ys.length,H++[⟨.m,0,sz+1,ys⟩],?_,.inr ⟨H.length,0,by simp,by simp⟩,.inr (.inl ⟨rfl,rfl,rfl⟩)⟩;have hr:roomy ys.length gh=true:=jv (by simpa using hn) jo
   simp[Cb,hr,newObj]
  ·refine⟨.ak id (ep+1) 0 (es.length+ys.length),H.set id ⟨.m,ep+1,sz+1,es++ys⟩,?_,.inr ⟨id,ep+1,by simp,abl (ag e)⟩,.inr (.inr ⟨id,ep,rfl,e,rfl,rfl⟩)⟩;have hr:roomy (es.length+ys.length) gh=true:=jv hn jo
   have My:iH id u=false:=by
    have:=Ve id (by simp[bV])
    cases u <;>simp_all[iH,bV]
    omega
   simp[bo e rfl (by simp:Mu.m≠Mu.x),Cb,hr,My]
theorem Nv{C:cR}(T:lQ C.P){lv:Nat}(FH:1<=lv){H:ab}{st xt el rk:TypeId}{sz gh:Nat}{z u:PV}{es ys:List PV}(hk:T.kd st=some (.sl el))(gv:T.kd xt=some (.sl rk))(hs:T.ts el=some (sz+1))(hb:T.tb el=some gh)(hz:T.tz el=some z)(jo:gh<=1000)(hl:(cells z).length=sz+1)(ho:(cells z).all bH=true)
  (hu:cu H u=some ys) (iK:dK (sz+1) es) (hy:dK (sz+1) ys) (hn:es.length+ys.length<1000000000):∃r J,bP C.P lv H st xt (.aa true es) u=some (r,H++J)/\Ls (sz+1) (H++J) r (es++ys)/\(J=[]\/J=[⟨.m,0,sz+1,es++ys⟩])/\(∀i∈bV r,H.length<=i)/\(es=[]->Out (sz+1) (H++J) r ys):=by
 unfold dK at hy iK
 have hA:bP C.P lv H st xt (.aa true es) u=if ys.isEmpty then some (.aa true es,H)else if true=true/\1<=lv/\roomy (es.length+ys.length) gh=true/\es.all (λv=>decide ((cells v).length=sz+1)&& (cells v).all bH)=true then some (.ak H.length 0 0 (es.length+ys.length),newObj H (sz+1) (es++ys))else none:=by
  unfold bP;rw[bz (T.cT _ _ hk)];simp only[T.dV _ _ hs,T.rU _ _ hb,T.nt _ _ hz,cC,bz (T.cT _ _ gv),hu];rw[if_pos ⟨by omega,by omega,⟨hl,ho⟩,hy⟩]
 rw[hA]
 by_cases bN:ys=[]
 ·subst bN;exact⟨.aa true es,[],by simp,.inr ⟨true,by simp⟩,.inl rfl,by simp[bV],λh=>.inl ⟨by rw[h],rfl⟩⟩
 ·have Cb:ys.isEmpty=false:=by cases ys with |nil=>exact absurd rfl bN |cons=>rfl
  have hr:roomy (es.length+ys.length) gh=true:=jv hn jo
  refine⟨.ak H.length 0 0 (es.length+ys.length),[⟨.m,0,sz+1,es++ys⟩],by rw[Cb,if_neg (by simp),if_pos ⟨rfl,by omega,hr,iK⟩];rfl,.inl (.inr ⟨H.length,0,by simp,by simp⟩),.inr rfl,by simp[bV],λh=>.inr ⟨H.length,0,by simp[h],by simp[h]⟩⟩
theorem QR{C:cR}{ops:Array Oper}{L L':Al}{H h':ab}{c:Nat}(vq:∀ρ,gO ops (before ops) (al L ρ)=[c])(z7:sinks ops (before ops)=none)(hc:c<H.length)(zM:∀(j:Nat) (o:aw),h'[j]?=some o->o.mu≠.l\/(cF [c] H)[j]?=some o)
  (oQ:∀run ρ,ck C run ops (before ops) (cF [c] H) 0 ops.toList ⟨al L ρ,cF [c] H⟩=some ⟨al L' ρ,h'⟩):∀run ρ,js C run ops ⟨al L ρ,H⟩=some ⟨al L' ρ,ez [c] H h'⟩:=by
 intro run ρ
 unfold js;rw[vq,oQ];dsimp only
 have hn:rN [c] H h'=true:=ug λj o h=>by
  rcases zM j o h with h |h
  ·exact .inl h
  ·by_cases hj:j=c
   ·subst hj;exact .inr (.inl ⟨by simp,hc⟩)
   ·rw[lF]at h;have:([c].contains j)=false:=by simp;exact hj
    simp only[this,abz,if_false,adC]at h;exact .inr (.inr h)
 rw[if_pos ⟨hn,by simp only[rO,z7]⟩]
theorem Vf{H:ab}{c j:Nat}(h:j≠c):(cF [c] H)[j]?=H[j]?:=by
 rw[lF];have:([c].contains j)=false:=by simp;exact h
 simp only[this,abz,if_false,adC]
theorem Nw{H:ab}{c ep sz:Nat}{es:List PV}(h:H[c]?=some ⟨.m,ep,sz,es⟩):(cF [c] H)[c]?=some ⟨.l,ep,sz,es⟩:=by
 rw[lF,h];simp[bS]
theorem Ck{H:ab}{c:Nat}:(cF [c] H).length=H.length:=by simp[cF]
theorem GB{H h:ab}{c j:Nat}(hj:j≠c):(ez [c] H h)[j]?=h[j]?:=by
 rw[nI];have:([c].contains j)=false:=by simp;exact hj
 simp only[this,abz,if_false,adC]
theorem Ny{H h:ab}{c:Nat}{o:aw}(h0:H[c]?=some o)(hc:c<h.length):(ez [c] H h)[c]?=some o:=by
 rw[nI,h0,abo hc];simp
theorem IH{H h:ab}{c:Nat}:(ez [c] H h).length=h.length:=by simp[ez]
theorem HR.QS{H:ab}{c:Nat}(hR:HR H):HR (cF [c] H):=by
 intro o ho
 obtain⟨j,hj,rfl⟩:=adO ho;have vu:j<H.length:=by rw[<-Ck (c:=c)];exact hj
 have e:=lF [c] H j;rw[abo hj,abo vu]at e;simp only[abw,abU]at e;obtain⟨h1,h2⟩:=hR _ (abV vu);rw[e,Ck]
 split
 ·unfold bS
  split
  ·exact⟨by simp,h2⟩
  ·exact⟨h1,h2⟩
 ·exact⟨h1,h2⟩
theorem HR.QT{H h:ab}{c:Nat}(hR:HR h)(hR0:HR H)(hle:H.length<=h.length):HR (ez [c] H h):=by
 intro o ho
 obtain⟨j,hj,rfl⟩:=adO ho;have vu:j<h.length:=by rw[<-IH (H:=H) (c:=c)];exact hj
 rw[IH]
 by_cases XN:j=c
 ·subst XN
  by_cases h0:j<H.length
  ·have e:=Ny (h:=h) (abo h0) vu;rw[abo hj]at e;rw[abi e];obtain⟨h1,h2⟩:=hR0 _ (abV h0);exact⟨h1,dW (λi hi=>by have:=of_decide_eq_true hi;exact decide_eq_true (by omega)) _ h2⟩
  ·have e:=nI [j] H h j;rw[abo hj,abo vu,abC (Nat.not_lt.1 h0)]at e;simp at e;rw[e];exact hR _ (abV vu)
 ·have e:=GB (H:=H) (h:=h) XN;rw[abo hj,abo vu]at e;rw[abi e];exact hR _ (abV vu)
theorem kLd{C:cR}(T:lQ C.P){run:iI}{ops:Array Oper}{b:List Nat}{h0:ab}{i:Nat}{L:Al}{ρ:Nat->PV}{h:ab}{d x c:Nat}{o:aw}{t:TypeId}{v:PV}{y:TypeId}{s:String}{a:Array Edge}
  (hx:lk L x=some (.ptr c 0 0 0)) (hc:h0[c]?=some o) (hm:o.mu≠.m) (hs:vv T (.load t (.tmp x)) L h (λy=>y=v)):cY C run ops b h0 i ⟨some d,.load t (.tmp x),y,s,a,none⟩ ⟨al L ρ,h⟩=some ⟨al ((d,v)::L) ρ,h⟩:=by
 obtain⟨hh,v',e,rfl⟩:=lH T hs;have hp:al L ρ x=.ptr c 0 0 0:=dC hx ρ;refine XD hh rfl ?_ (by have:=e run 1 ρ;exact this);have:sG (.load t (.tmp x)) (al L ρ)=some c:=by simp only[sG,ev,hp]
 simp only[lM,this,pF,hc];simp[hm]
theorem Yl{C:cR}(T:lQ C.P){run:iI}{L:Al}{ρ:Nat->PV}{M G3:ab}{t:TypeId}{n z:Nat}{ps:Array (Nat×Operand)}{vs:List PV}{u:PV}(x:z8 T t n ps.toList L (λsz es=>es=vs/\sz=z))(h:(ar vs=true/\u=.aa true vs/\G3=M)\/(ar vs=false/\u=.ak M.length 0 0 n/\G3=newObj M z vs)):au C run 2 (.buildSlice t n ps) (al L ρ) M=some (u,G3):=by
 obtain⟨sz,es,⟨rfl,rfl⟩,e⟩:=nJ T x;have:=e ρ M 2;rcases h with⟨hv,rfl,rfl⟩|⟨hv,rfl,rfl⟩
 ·rw[hv,if_pos rfl]at this;simpa only[au,aC]using this
 ·rw[hv,if_neg (by simp),if_pos (by omega)]at this;simpa only[au,aC]using this
mutual
def Bz:PV->PV->Bool
 | .int k n,.int k' n'=>decide (k=k')&&decide (n=n')
 | .bool a,.bool b=>a==b
 | .str a,.str b=>a.data.toList==b.data.toList
 | .agg cs,.agg ds=>CC cs ds
 | .ct cs,.ct ds=>CC cs ds
 | .aa f cs,.aa g ds=>(f==g)&&CC cs ds
 | .gN,.gN=>true
 | .eE,.eE=>true
 | .aG,.aG=>true
 |_,_=>false
def CC:List PV->List PV->Bool
 |[],[]=>true
 |c::cs,d::ds=>Bz c d&&CC cs ds
 |_,_=>false
end
mutual
theorem OA:∀{a b:PV},Bz a b=true->a=b
 | .int k n,b,h=>by cases b <;>simp[Bz]at h;rw[h.1,h.2]
 | .bool x,b,h=>by cases b <;>simp[Bz]at h;rw[h]
 | .str x,b,h=>by
  cases b <;>simp[Bz]at h
  rename_i y
  cases x;cases y
  simp at h;rw[h]
 | .agg cs,b,h=>by cases b <;>simp[Bz]at h;rw[tD h]
 | .ct cs,b,h=>by cases b <;>simp[Bz]at h;rw[tD h]
 | .aa f cs,b,h=>by cases b <;>simp[Bz]at h;rw[h.1,tD h.2]
 | .gN,b,h=>by cases b <;>simp[Bz]at h;rfl
 | .eE,b,h=>by cases b <;>simp[Bz]at h;rfl
 | .aG,b,h=>by cases b <;>simp[Bz]at h;rfl
 | .ak ..,b,h=>by simp[Bz]at h
 | .ptr ..,b,h=>by simp[Bz]at h
 | .eQ _,b,h=>by simp[Bz]at h
 | .cD _,b,h=>by simp[Bz]at h
 | .fn ..,b,h=>by simp[Bz]at h
 | .ou ..,b,h=>by simp[Bz]at h
 | .undef,b,h=>by simp[Bz]at h
 | .any,b,h=>by simp[Bz]at h
theorem tD:∀{a b:List PV},CC a b=true->a=b
 |[],b,h=>by cases b <;>simp[CC]at h;rfl
 |c::cs,b,h=>by
  cases b with
  |nil=>simp[CC]at h
  |cons d ds=>
   simp only[CC,abq]at h;rw[OA h.1,tD h.2]
end
abbrev lN:=List (FuncId×List PV×PV)
def Y8(m:lN)(f:FuncId)(args:List PV):Option PV:=(m.find? λx=>Nat.beq x.1 f&&CC x.2.1 args).map (·.2.2)
def lO(m:lN)(md:FuncId->Mode)(f:FuncId):Mode:=if m.any (λx=>Nat.beq x.1 f)=true then .ext (Y8 m f)else md f
variable{P:Program}{md:FuncId->Mode}
def kW(P:Program)(md:FuncId->Mode)(m:lN):Prop:=∀x∈m,md x.1=.pure/\aI ⟨P,md⟩ x.1 x.2.1 x.2.2
theorem BA:∀{m:lN},kW P md m->∃n0,∀x∈m,md x.1=.pure/\∀n,n0<=n->∃r0 hc r1,fo ⟨P,md⟩ n x.1 x.2.1 []=some (r0,hc)/\AG hc r0=some r1/\b9 r1=x.2.2
 |[],_=>⟨0,λx hx=>by cases hx⟩
 |y::m,h=>by
  obtain⟨n1,h1⟩:=BA (m:=m) λx hx=>h x (by simp[hx])
  obtain⟨hp,n2,h2⟩:=h y (by simp);refine⟨max n1 n2,λx hx=>?_⟩;rcases abu.1 hx with rfl |hx
  ·exact⟨hp,λn hn=>h2 n (by omega)⟩
  ·exact⟨(h1 x hx).1,λn hn=>(h1 x hx).2 n (by omega)⟩
theorem I8{m:lN}{n0:Nat}(hm:∀x∈m,md x.1=.pure/\∀n,n0<=n->∃r0 hc r1,fo ⟨P,md⟩ n x.1 x.2.1 []=some (r0,hc)/\AG hc r0=some r1/\b9 r1=x.2.2):∀n,iG (fo ⟨P,lO m md⟩ n) (fo ⟨P,md⟩ (n+n0))
 |0=>λf args h x e=>by cases e
 |n+1=>by
  have ih:=I8 hm n;rw[show n+1+n0=(n+n0)+1 by omega];refine EM (P:=P) (md:=lO m md) (md':=md) (run:=fo ⟨P,lO m md⟩ n) (run':=fo ⟨P,md⟩ (n+n0)) ?_ (by omega)
  intro lv f args h x e
  by_cases hf:m.any (λx=>Nat.beq x.1 f)=true
  ·unfold dg at e;simp only[lO,if_pos hf]at e
   split at e
   ·rename_i hv
    obtain⟨r,hr,rfl⟩:=aca.1 e;obtain⟨y,hy,rfl⟩:=aca.1 hr;have Q8:=List.find?_some hy;have hy2:=List.mem_of_find?_eq_some hy;simp only[abq]at Q8;obtain rfl:=ab8 Q8.1;have ha:=tD Q8.2;obtain⟨hp,hq⟩:=hm y hy2;obtain⟨r0,hc,r1,e1,e2,e3⟩:=hq (n+n0) (by omega);unfold dg;rw[show(⟨P,md⟩:cR).mode y.1=.pure from hp];rw[ha]at e1;simp only[dp,hv,if_true,e1,e2,e3]
   ·cases e
  ·have hmd:lO m md f=md f:=if_neg hf;unfold dg at e ⊢;simp only[hmd]at e
   cases hq:md f <;>simp only[hq]at e ⊢
   ·cases e
   ·exact np ih e
   ·exact nq ih e
   ·exact e
   ·exact ko (λ_ _ _ x=>x) e
   ·exact e
theorem aI.Xu{m:lN}(hm:kW P md m){f:FuncId}{args:List PV}{r:PV}(a:aI ⟨P,lO m md⟩ f args r):aI ⟨P,md⟩ f args r:=by
 obtain⟨n0,hq⟩:=BA hm;obtain⟨n1,hn⟩:=a;refine⟨n1+n0,λn h1=>?_⟩;obtain⟨r0,hc,r1,e1,e2⟩:=hn (n - n0) (by omega);refine⟨r0,hc,r1,?_,e2⟩;have:=I8 hq (n - n0) _ _ _ _ e1;rwa[show n - n0+n0=n by omega]at this
def OB:Mode->Bool | .pure=>true |_=>false
theorem KK{m:Mode}(h:OB m=true):m=.pure:=by cases m <;>first |rfl |cases h
def mG(P:Program)(md:FuncId->Mode)(n:Nat)(rows:lN):Bool:=rows.all λx=>match pH ⟨P,md⟩ n x.1 x.2.1 with
 |some r=>Bz r x.2.2
 |none=>false
theorem lP{m rows:lN}{n:Nat}(hm:kW P md m)(h1:mG P (lO m md) n rows=true)(h2:(rows.all λx=>OB (md x.1))=true):kW P md (rows++m):=by
 intro x hx
 rcases abp.1 hx with hx |hx
 ·refine⟨KK (abk.1 h2 x hx),?_⟩;have h3:=abk.1 h1 x hx
  split at h3
  ·rename_i r hr
   rw[<-OA h3];exact aI.Xu hm (aI.oF hr)
  ·cases h3
 ·exact hm x hx
end Go.Pm
