/-
  Pm, a part. Conditions: none.
-/
import Derived.Test.YtimogkojklpdnaaGreatDoorPyAH
set_option linter.unusedVariables false
set_option linter.unusedSimpArgs false
set_option linter.unnecessarySimpa false
set_option linter.unusedSectionVars false
namespace Go.Pm
def fv(t:Tm)(n:ByteArray):Bool:=decide (t.k=3)&&fu t.s n
def ic(t:Tm)(i:Nat):Tm:=t.l.getD i fL
def kV(t:Tm):Bool:=every ue t
def nG:ByteArray:=⟨#[103]⟩
def NT(s:List UInt8):Bool:=!s.isEmpty&&s.all λc=>pS c.toNat
def J3(s:List UInt8):Bool:=(s.take 2==[101,35])&&NT (s.drop 2)
def xq(t:Tm):Bool:=
 if t.k=3 then(fu t.s iT ||fu t.s rE)&&t.l.isEmpty
 else if t.k≠2 then false
 else if t.o=1\/t.o=5 then true
 else if t.o=4 then fu t.s nG ||J3 t.s.toList
 else if t.o=0\/t.o=2\/t.o=3 then J3 t.s.toList
 else false
def TD(s:ByteArray):Bool:=fu s ky ||fu s jT ||fu s gb ||fu s JD ||fu s nB ||fu s xw
def x3(t:Tm):Bool:=decide (t.k=3)&&TD t.s
def x4(t:Tm):Int:=if jc t≠0 then jc t else if fv t jT=true then 0 else if fv t gb=false then 10 else if fv (ic t 1) JD=false then 4 else 0
def s9(t:Tm):Tm:=if x4 t≠0 then fL else if fv t jT=true then ic t 1 else ic (ic t 1) 0
def pV(t:Tm):List Tm:=if fv t ky=true then t.l else if fv t nB=true then t.l.take 1 else[]
inductive zg(u s:List Tm):Tm->Prop
 |base {t:Tm}:t∈s->zg u s t
 |pub {t:Tm}:t∈u->xq t=true->zg u s t
 |comp {t:Tm}:t∈u->x3 t=true->(∀x∈t.l,zg u s x)->zg u s t
 |part {t x:Tm}:zg u s t->x∈pV t->zg u s x
 |open {t:Tm}:zg u s t->x4 t=0->zg u s (s9 t)->zg u s (ic t 0)
def xY(s:List Tm)(u:Tm):Bool:=x3 u&&u.l.all (cm s)
def u9(s:List Tm)(u t:Tm):Bool:=
 if fv t ky=true then decide (aW (ic t 0) u=0)||decide (aW (ic t 1) u=0)
 else if fv t nB=true then decide (aW (ic t 0) u=0)
 else if fv t jT ||fv t gb then decide (x4 t=0)&&decide (aW (ic t 0) u=0)&&cm s (s9 t)
 else false
def u5(s:List Tm)(u:Tm):Bool:=s.any (u9 s u)
def nA(s:List Tm)(u:Tm):Bool:=cm s u ||xq u ||xY s u ||u5 s u
open Classical in
noncomputable def zA(u s:List Tm):List Tm:=u.filter λt=>decide (zg u s t)
structure N0(u:List Tm):Prop where
 CD:fZ u
 kids:∀t∈u,∀x∈t.l,x∈u
 ok:∀t∈u,jc t=0
 fr:∀t∈u,kV t=true
theorem VI{s n:ByteArray}(h:fu s n=true):s=n:=vU (by simpa[fu]using h)
theorem NX{t:Tm}{n:ByteArray}(h:fv t n=true):t.k=3/\t.s=n:=by
 simp only[fv,abb,decide_eq_true_eq]at h;exact⟨h.1,VI h.2⟩
theorem fk:∀{l:List Tm},qO l=0->∀t∈l,j8 t=0
 |[],_,t,h=>by cases h
 |u::l,e,t,h=>by
  rw[qO]at e
  split at e
  ·rename_i hn;exact absurd e hn
  ·rcases abc.1 h with rfl |h
   ·omega
   ·exact fk e t h
theorem iy{t:Tm}:jc t=0↔valid t=0/\j8 t=0:=by
 unfold jc
 split
 ·constructor
  ·intro h;exact absurd h (by assumption)
  ·intro h;exact absurd h.1 (by assumption)
 ·constructor
  ·intro h;exact⟨by omega,h⟩
  ·exact λh=>h.2
theorem BP{s:ByteArray}{o:Int}{l:List Tm}(h:j8 (.mk 3 s o l)=0):(bX s).k≠0/\(bX s).a<=l.length/\l.length<=(bX s).b/\eV s l=true/\qO l=0:=by
 rw[j8,if_neg (by simp)]at h
 split at h
 omega
 ·split at h
  ·omega
  ·split at h
   ·omega
   ·rename_i h1 h2 h3
    exact⟨h1,by omega,by omega,by simpa using h3,h⟩
theorem v8{t x:Tm}(h:jc t=0)(hx:x∈t.l):jc x=0:=by
 obtain⟨h1,h2⟩:=iy.1 h;obtain⟨k,s,o,l⟩:=t;simp only[Tm.l]at hx;refine iy.2 ⟨Jt h1 hx,?_⟩
 by_cases hk:k=3
 ·subst hk;exact fk (BP h2).2.2.2.2 x hx
 ·exfalso;have h3:=(pF (fw.1 h1).1).1;unfold node at h3;have hl:l≠[]:=by intro hh;rw[hh]at hx;cases hx
  have hp:0<l.length:=acT.2 hl
  (repeat' split at h3) <;>simp_all
  all_goals omega
theorem ud(t:Tm):∀x∈pre t,∀y∈pre x,y∈pre t:=by
 induction t using Tm.ind with
 |h k s o l ih=>
  intro x hx y hy
  rw[pre]at hx ⊢;rcases abc.1 hx with rfl |hx;rw[pre]at hy;exact hy
  ·obtain⟨u,hu,hx⟩:=dR.1 hx;exact acC _ (dR.2 ⟨u,hu,ih u hu x hx y hy⟩)
theorem Rj{t x:Tm}(hx:x∈t.l):x∈pre t:=by
 obtain⟨k,s,o,l⟩:=t;rw[pre];exact acC _ (dR.2 ⟨x,hx,ko x⟩)
theorem Rk(t:Tm):jc t=0->∀x∈pre t,jc x=0:=by
 induction t using Tm.ind with
 |h k s o l ih=>
  intro h x hx
  rw[pre]at hx;rcases abc.1 hx with rfl |hx;exact h
  ·obtain⟨u,hu,hx⟩:=dR.1 hx;exact ih u hu (v8 h hu) x hx
theorem BI{t x:Tm}(h:kV t=true)(hx:x∈pre t):kV x=true:=by
 unfold kV at h ⊢;rw[tY,aa4]at h ⊢;exact λy hy=>h y (ud t x hx y hy)
theorem QY{t:Tm}(h:kV t=true)(hk:t.k=3):ue t.s=true:=by
 unfold kV at h;rw[tY,aa4]at h;have:=h t (ko t);simpa[hk]using this
def jQ(l:List Tm):List Tm:=jd (cV l)
theorem VE{l:List Tm}(h:∀t∈l,jc t=0/\kV t=true):N0 (jQ l):=by
 have hm:∀y∈jQ l,∃t∈l,y∈pre t:=λy hy=>dR.1 ((fq _ _).1 hy)
 refine⟨jo _,λt ht x hx=>?_,λt ht=>?_,λt ht=>?_⟩
 ·obtain⟨a,ha,hb⟩:=hm t ht;exact(fq _ _).2 (dR.2 ⟨a,ha,ud a t hb x (Rj hx)⟩)
 ·obtain⟨a,ha,hb⟩:=hm t ht;exact Rk a (h a ha).1 t hb
 ·obtain⟨a,ha,hb⟩:=hm t ht;exact BI (h a ha).2 hb
theorem DZ{t:Tm}{n:ByteArray}(h:jc t=0)(hn:fv t n=true):(bX n).a<=t.l.length/\t.l.length<=(bX n).b:=by
 obtain⟨h1,h2⟩:=NX hn;obtain⟨k,s,o,l⟩:=t;simp only[Tm.k,Tm.s]at h1 h2;subst h1 h2;obtain⟨_,h3,h4,_⟩:=BP (iy.1 h).2;exact⟨h3,h4⟩
theorem oA{t:Tm}{n:ByteArray}(h:jc t=0)(hn:fv t n=true)(h2:(bX n).a=2/\(bX n).b=2):∃a b,t.l=[a,b]:=by
 have h1:=DZ h hn;rw[h2.1,h2.2]at h1
 match hl:t.l with
 |[a,b]=>exact⟨a,b,rfl⟩
 |[]=>rw[hl]at h1;simp at h1
 |[_]=>rw[hl]at h1;simp at h1
 |_::_::_::_=>rw[hl]at h1;simp at h1;omega
theorem BZ{t:Tm}{n:ByteArray}(h:jc t=0)(hn:fv t n=true)(h2:(bX n).a=1/\(bX n).b=1):∃a,t.l=[a]:=by
 have h1:=DZ h hn;rw[h2.1,h2.2]at h1
 match hl:t.l with
 |[a]=>exact⟨a,rfl⟩
 |[]=>rw[hl]at h1;simp at h1
 |_::_::_=>rw[hl]at h1;simp at h1;omega
theorem GC:((bX ky).a=2/\(bX ky).b=2)/\((bX jT).a=2/\(bX jT).b=2)/\((bX gb).a=2/\(bX gb).b=2)/\((bX nB).a=2/\(bX nB).b=2)/\((bX JD).a=1/\(bX JD).b=1):=by
 refine⟨⟨?_,?_⟩,⟨?_,?_⟩,⟨?_,?_⟩,⟨?_,?_⟩,⟨?_,?_⟩⟩ <;>kernel_rfl
theorem tc:fu nB ky=false/\fu jT ky=false/\fu jT nB=false/\fu gb ky=false/\fu gb nB=false/\fu gb jT=false:=by
 refine⟨?_,?_,?_,?_,?_,?_⟩ <;>kernel_rfl
theorem B0{t:Tm}{n m:ByteArray}(h:fv t n=true)(hn:fu n m=false):fv t m=false:=by
 obtain⟨h1,h2⟩:=NX h;simp[fv,h1,h2,hn]
theorem uq{t:Tm}(h:x4 t=0):jc t=0/\((fv t jT=true/\s9 t=ic t 1)\/(fv t gb=true/\fv (ic t 1) JD=true/\s9 t=ic (ic t 1) 0)):=by
 have hv:s9 t=if fv t jT=true then ic t 1 else ic (ic t 1) 0:=by rw[s9,if_neg (by omega)]
 unfold x4 at h
 split at h
 ·rename_i h1;exact absurd h h1
 ·rename_i h1
  refine⟨by omega,?_⟩
  split at h
  ·rename_i h2;rw[if_pos h2]at hv;exact .inl ⟨h2,hv⟩
  ·rename_i h2
   rw[if_neg h2]at hv
   split at h
   omega
   ·split at h
    ·omega
    ·rename_i h3 h4;exact .inr ⟨by simpa using h3,by simpa using h4,hv⟩
theorem N0.key{u:List Tm}(U:N0 u){t:Tm}(ht:t∈u)(h:x4 t=0):s9 t∈u/\ic t 0∈u/\ic t 0∈t.l:=by
 obtain⟨h1,h2⟩:=uq h;rcases h2 with⟨h2,h3⟩|⟨h2,h4,h3⟩
 ·obtain⟨a,b,e⟩:=oA h1 h2 GC.2.1;rw[h3];simp only[ic,e];exact⟨U.kids t ht _ (by rw[e];simp),U.kids t ht _ (by rw[e];simp),by simp⟩
 ·obtain⟨a,b,e⟩:=oA h1 h2 GC.2.2.1;rw[h3];have hb:b∈u:=U.kids t ht _ (by rw[e];simp);have hk:ic t 1=b:=by simp[ic,e]
  rw[hk]at h4 ⊢;obtain⟨c,e2⟩:=BZ (U.ok b hb) h4 GC.2.2.2.2;refine⟨?_,?_,?_⟩;simp only[ic,e2];exact U.kids b hb _ (by rw[e2];simp);simp only[ic,e];exact U.kids t ht _ (by rw[e];simp);simp[ic,e]
theorem Ki{t x:Tm}(h:x∈pV t):x∈t.l:=by
 unfold pV at h
 split at h
 exact h
 ·split at h
  ·exact abP h
  ·cases h
theorem zg.step{u s r:List Tm}(U:N0 u)(hr:∀x∈r,x∈u/\zg u s x){t:Tm}(ht:t∈u)(h:nA r t=true):zg u s t:=by
 simp only[nA,abA]at h;rcases h with((h |h)|h)|h;exact(hr t (dq.1 h)).2;exact .pub ht h
 ·simp only[xY,abb,aa4]at h;exact .comp ht h.1 λx hx=>(hr x (dq.1 (h.2 x hx))).2
 ·simp only[u5,ab3]at h;obtain⟨y,hy,h⟩:=h;obtain⟨hyu,hyd⟩:=hr y hy;have gh:=U.ok y hyu;unfold u9 at h
  split at h
  ·rename_i h1
   obtain⟨a,b,e⟩:=oA gh h1 GC.1;have hp:pV y=[a,b]:=by rw[pV,if_pos h1,e]
   simp only[ic,e,abA,decide_eq_true_eq]at h;rcases h with h |h;have:=dm h;simp at this;subst this;exact .part hyd (by rw[hp];simp);have:=dm h;simp at this;subst this;exact .part hyd (by rw[hp];simp)
  ·split at h
   ·rename_i h0 h1
    obtain⟨a,b,e⟩:=oA gh h1 GC.2.2.2.1;have hp:pV y=[a]:=by rw[pV,if_neg h0,if_pos h1,e];rfl
    simp only[ic,e,decide_eq_true_eq]at h;have:=dm h;simp at this;subst this;exact .part hyd (by rw[hp];simp)
   ·split at h
    ·simp only[abb,decide_eq_true_eq]at h;obtain⟨⟨h1,h2⟩,h3⟩:=h;rw[<-dm h2];exact .open hyd h1 (hr _ (dq.1 h3)).2
    ·cases h
theorem zg.fix{u s r:List Tm}(U:N0 u)(hs:∀x∈s,x∈r)(hr:∀x∈r,x∈u)(hf:∀t∈u,nA r t=true->t∈r){t:Tm}(h:zg u s t):t∈r:=by
 induction h with
 |base h=>exact hs _ h
 |pub h1 h2=>exact hf _ h1 (by simp[nA,h2])
 |comp h1 h2 _ ih=>exact hf _ h1 (by simp only[nA,xY,h2,aco,abA,aa4];exact .inl (.inr λx hx=>dq.2 (ih x hx)))
 | @part t x _ hx ih=>
  have N4:=hr _ ih;have gh:=U.ok _ N4;refine hf x (U.kids _ N4 _ (Ki hx)) ?_;simp only[nA,abA];refine .inr ?_;simp only[u5,ab3];refine⟨t,ih,?_⟩;unfold pV at hx;unfold u9
  split at hx
  ·rename_i h1
   obtain⟨a,b,e⟩:=oA gh h1 GC.1;rw[if_pos h1];rw[e]at hx;simp only[ic,e,abA,decide_eq_true_eq];simp at hx;rcases hx with rfl |rfl;exact .inl (by simp[cH]);exact .inr (by simp[cH])
  ·split at hx
   ·rename_i h0 h1
    obtain⟨a,b,e⟩:=oA gh h1 GC.2.2.2.1;rw[if_neg h0,if_pos h1];rw[e]at hx;simp at hx;subst hx;simp[ic,e,cH]
   ·cases hx
 | @«open»t _ hk _ ih1 ih2=>
  have N4:=hr _ ih1;obtain⟨q1,q2,q3⟩:=U.key N4 hk;refine hf _ q2 ?_;simp only[nA,abA];refine .inr ?_;simp only[u5,ab3];refine⟨t,ih1,?_⟩;unfold u9;have hh:=dq.2 ih2;rcases(uq hk).2 with⟨h2,_⟩|⟨h2,_,_⟩
  ·rw[if_neg (by simp[B0 h2 tc.2.1]),if_neg (by simp[B0 h2 tc.2.2.1]),h2];simp[hk,hh,cH]
  ·rw[if_neg (by simp[B0 h2 tc.2.2.2.1]),if_neg (by simp[B0 h2 tc.2.2.2.2.1]),h2];simp[hk,hh,cH]
theorem gH{l:List Tm}{p:Tm->Bool}(h:fZ l):fZ (l.filter p):=List.Pairwise.filter p h
theorem Q7{u s r:List Tm}(U:N0 u)(hr:fZ r)(h1:∀t∈r,t∈u/\zg u s t)(h2:∀t∈u,zg u s t->t∈r):r=zA u s:=by
 refine oa hr (gH U.CD) λy=>?_;simp only[zA,abV,decide_eq_true_eq];exact⟨h1 y,λh=>h2 y h.1 h.2⟩
theorem H4{u s:List Tm}{t:Tm}:t∈zA u s↔t∈u/\zg u s t:=by simp[zA]
def sG(t:Tm):Int:=if jc t≠0 then jc t else if bz t≠[]then 13 else 0
def jD:List Tm->Int
 |[]=>0
 |t::l=>if sG t≠0 then sG t else jD l
def jR(k:List Tm)(t:Tm):Int:=if 60<k.length then 3 else if jD (k++[t])≠0 then jD (k++[t])else if 200<(jQ (k++[t])).length then 3 else 0
open Classical in
noncomputable def sF(k:List Tm)(t:Tm):Bool:=decide (jR k t=0)&&cm (zA (jQ (k++[t])) (jd k)) t
theorem xZ:∀{l:List Tm},jD l=0->∀t∈l,sG t=0
 |[],_,t,h=>by cases h
 |u::l,e,t,h=>by
  rw[jD]at e
  split at e
  ·rename_i hn;exact absurd e hn
  ·rcases abc.1 h with rfl |h
   ·omega
   ·exact xZ e t h
theorem Kb{t:Tm}(h:sG t=0):jc t=0/\bz t=[]:=by
 unfold sG at h
 split at h
 ·rename_i h1;exact absurd h h1
 ·split at h
  ·omega
  ·rename_i h1 h2;exact⟨by omega,by simpa using h2⟩
def QB(S:List dp)(x:Tm):Bool:=S.any λb=>decide (aW b.v x=0)
def bQ(l:List cW):List Tm:=(jQ (l.flatMap λd=>d.kn++[d.tm])).filter λt=>decide (t.k=1)
def sH(l:List cW)(S:List dp):Int:=
 if lY S≠0 then lY S
 else if(bQ l).all (QB S)=false then 13
 else if S.any (λb=>decide (bz b.t≠[]))=true then 13
 else if S.any (λb=>decide (jc b.t≠0))=true then 10
 else 0
noncomputable def jq(S:List dp):List cW->Bool×Int
 |[]=>(true,0)
 |d::l=>if ru S d≠0 then(false,ru S d)else if jR (b9 S d.kn) (cx S d.tm)≠0 then(false,jR (b9 S d.kn) (cx S d.tm))else if sF (b9 S d.kn) (cx S d.tm)=false then(false,0)else jq S l
noncomputable def ot(l:List cW)(S:List dp):Bool×Int:=if iv l≠0 then(false,iv l)else if sH l S≠0 then(false,sH l S)else jq S l
theorem NA(l:List cW):jd ((l.flatMap λd=>d.kn++[d.tm]).flatMap bz)=bQ l:=by
 refine oa (jo _) (gH (jo _)) λy=>?_;simp only[fq,bQ,jQ,abV,dR,decide_eq_true_eq,abY]
 constructor
 ·rintro⟨t,ht,hy⟩;obtain⟨h1,h2⟩:=(kq t y).1 hy;exact⟨⟨t,ht,h1⟩,h2⟩
 ·rintro⟨⟨t,ht,h1⟩,h2⟩;exact⟨t,ht,(kq t y).2 ⟨h1,h2⟩⟩
theorem BG{k s o l}:kV (.mk k s o l)=true↔(k=3->ue s=true)/\∀t∈l,kV t=true:=by
 have h:∀l:List Tm,gG ue l=true↔∀t∈l,every ue t=true:=by
  intro l
  induction l with
  |nil=>simp[gG]
  |cons t l ih=>simp[gG,ih]
 unfold kV;rw[every,abb,h];simp only[abA,decide_eq_true_eq]
 constructor
 ·rintro⟨h1,h2⟩;exact⟨λhk=>h1.resolve_left (by simpa using hk),h2⟩
 ·rintro⟨h1,h2⟩;exact⟨by by_cases hk:k=3;exact .inr (h1 hk);exact .inl hk,h2⟩
theorem DV:∀{S:List dp} {x:Tm},kV x=true->(∀b∈S,kV b.t=true)->kV (lE S x)=true
 |[],x,hx,_=>hx
 |b::S,x,hx,h=>by
  rw[lE]
  split
  exact h b (by simp);exact DV hx λc hc=>h c (by simp[hc])
theorem It{S:List dp}(hS:∀b∈S,kV b.t=true)(t:Tm):kV t=true->kV (cx S t)=true:=by
 induction t using Tm.ind with
 |h k s o l ih=>
  intro h
  rw[cx]
  split
  exact DV h hS
  ·rw[BG]at h ⊢;refine⟨h.1,λt ht=>?_⟩;rw[eC]at ht;obtain⟨u,hu,rfl⟩:=abB.1 ht;exact ih u hu (h.2 u hu)
theorem AH{t:Tm}(h:cq t=0):kV t=true:=by
 have:=(lF h).2.2.1;unfold km at this;simp only[abb]at this;exact this.2
def FZ:Tm:=.mk 2 ⟨#[97]⟩ 1 []
def Tp:Tm:=.mk 2 ⟨#[98]⟩ 1 []
def lfN:Tm:=.mk 2 ⟨#[110,35,48]⟩ 2 []
def lfM:Tm:=.mk 2 ⟨#[109,35,49]⟩ 2 []
def lfK:Tm:=.mk 2 ⟨#[107,35,48]⟩ 3 []
def lfS:Tm:=.mk 3 sJ 0 [FZ,Tp]
def lfP:Tm:=.mk 3 JD 0 [.mk 3 zx 0 [Tp]]
def lfH:Tm:=.mk 2 ⟨#[104,105]⟩ 5 []
def Na:Tm:=.mk 3 JD 0 [.mk 3 zx 0 [FZ]]
def tI:List Tm:=[lfN,lfM,lfK,lfS,lfP,FZ,lfH]
def vrX:Tm:=.mk 1 ⟨#[120]⟩ 2 []
def vrY:Tm:=.mk 1 ⟨#[121]⟩ 0 []
def vrZ:Tm:=.mk 1 ⟨#[122]⟩ 3 []
def vrW:Tm:=.mk 1 ⟨#[119]⟩ 2 []
def rB:List Tm:=[vrX,vrY,vrZ,vrW]
def gr(b:List Nat)(i:Nat):Nat:=b.getD i 0
def Nb(b:List Nat)(l:List Tm)(at':Nat):Tm:=l.getD (gr b at' / 2 % l.length) fL
def ia(b:List Nat)(l:List Tm):Nat->Nat->Tm×Nat
 |0,i=>(Nb b l i,i+1)
 |f+1,i=>
  if gr b i % 2=0 then(Nb b l i,i+1)
  else if gr b i / 2 % 6=0 then(.mk 3 xw 0 [(ia b l f (i+1)).1],(ia b l f (i+1)).2)
  else if gr b i / 2 % 6<=2 then(.mk 3 jT 0 [(ia b l f (i+1)).1,(ia b l f (ia b l f (i+1)).2).1],(ia b l f (ia b l f (i+1)).2).2)
  else if gr b i / 2 % 6=3 then(.mk 3 gb 0 [(ia b l f (i+1)).1,Na],(ia b l f (ia b l f (i+1)).2).2)
  else(.mk 3 ky 0 [(ia b l f (i+1)).1,(ia b l f (ia b l f (i+1)).2).1],(ia b l f (ia b l f (i+1)).2).2)
def okN(y:Tm):Bool:=(decide (y.k≠1)||cm rB y)&&decide (y.s.toList.head?≠some 113)&& (decide (y.k≠2)||decide (y.s.size<=3))
def QH(t:Tm):Bool:=(pre t).all okN
def Aw(t:Tm):Bool:=kV t&&QH t
theorem U9{k:Int}{s:ByteArray}{o:Int}{l:List Tm}(h:okN (.mk k s o l)=true)(hl:∀t∈l,QH t=true):QH (.mk k s o l)=true:=by
 unfold QH;rw[pre,abZ,h,aco,aa4]
 intro y hy
 obtain⟨t,ht,hy⟩:=dR.1 hy;exact aa4.1 (hl t ht) y hy
theorem U'{t y:Tm}(h:QH t=true)(hy:y∈pre t):QH y=true:=by
 unfold QH at *;rw[aa4]at *;exact λz hz=>h z (ud t y hy z hz)
theorem Yg{t y:Tm}(h:QH t=true)(hy:y∈pre t):(y.k=1->y∈rB)/\y.s.toList.head?≠some 113:=by
 have:=aa4.1 h y hy;simp only[okN,abb,abA,decide_eq_true_eq]at this;exact⟨λhk=>dq.1 (this.1.1.resolve_left (by simpa using hk)),this.1.2⟩
theorem qx{t:Tm}:Aw t=true↔kV t=true/\QH t=true:=by simp[Aw]
def Tq(s:ByteArray):Bool:=ue s&&decide (s.toList.head?≠some 113)
def zy(B:Nat)(l:List Tm):Prop:=∀t∈l,Aw t=true/\az t<=B
theorem zy.c8{B:Nat}{a b:List Tm}(x:zy B a)(y:zy B b):zy B (a++b):=λt ht=>(aa9.1 ht).elim (x t) (y t)
theorem zy.mono{B B':Nat}{a:List Tm}(x:zy B a)(h:B<=B'):zy B' a:=λt ht=>⟨(x t ht).1,by have:=(x t ht).2;omega⟩
theorem zy.getD{B i:Nat}{l:List Tm}(x:zy B l)(h:i<l.length):Aw (l.getD i fL)=true/\az (l.getD i fL)<=B:=by
 rw[abt,aa6 h];exact x _ (abF h)
def ZU(B:Nat)(l:List Tm):Bool:=l.all λt=>Aw t&&decide (az t<=B)
theorem xy{B:Nat}{l:List Tm}(h:ZU B l=true):zy B l:=λt ht=>by
 have:=aa4.1 h t ht;simpa using this
theorem BF:zy 20 tI:=xy (by kernel_rfl)
theorem xz:zy 20 rB:=xy (by kernel_rfl)
theorem mq:tI.length=7:=rfl
theorem sL:rB.length=4:=rfl
theorem Va:Aw Na=true/\az Na<=20:=by
 have:=xy (B:=20) (l:=[Na]) (by kernel_rfl) Na (by simp);exact this
theorem Yh:Tq xw=true/\Tq jT=true/\Tq gb=true/\Tq ky=true:=by
 refine⟨?_,?_,?_,?_⟩ <;>kernel_rfl
theorem ZV:xw.size=4/\jT.size=3/\gb.size=4/\ky.size=4:=by
 refine⟨?_,?_,?_,?_⟩ <;>kernel_rfl
theorem H6{s:ByteArray}{l:List Tm}(h:Tq s=true)(hl:∀t∈l,Aw t=true):Aw (.mk 3 s 0 l)=true:=by
 simp only[Tq,abb]at h;refine qx.2 ⟨BG.2 ⟨λ_=>h.1,λt ht=>(qx.1 (hl t ht)).1⟩,U9 ?_ λt ht=>(qx.1 (hl t ht)).2⟩;simp only[okN,Tm.k,Tm.s,abb,abA];exact⟨⟨.inl rfl,h.2⟩,.inl rfl⟩
theorem QI{s:ByteArray}{a:Tm}(h:Tq s=true)(ha:Aw a=true):Aw (.mk 3 s 0 [a])=true:=H6 h λt ht=>by simp at ht;rw[ht];exact ha
theorem BH{s:ByteArray}{a b:Tm}(h:Tq s=true)(ha:Aw a=true)(hb:Aw b=true):Aw (.mk 3 s 0 [a,b])=true:=H6 h λt ht=>by
 simp at ht;rcases ht with rfl |rfl;exact ha;exact hb
def Nc(B:Nat):Nat->Nat
 |0=>B
 |f+1=>2 * Nc B f+30
theorem H8(B:Nat):∀f,B<=Nc B f
 |0=>aa5 _
 |f+1=>by have:=H8 B f;simp only[Nc];omega
theorem xA{b:List Nat}{l:List Tm}{B:Nat}(h0:0<l.length)(h:zy B l):∀f i,Aw (ia b l f i).1=true/\az (ia b l f i).1<=Nc B f/\i<(ia b l f i).2/\(ia b l f i).2+1<=i+2^ (f+1)
 |0,i=>by
  obtain⟨h1,h2⟩:=h.getD (adz (gr b i / 2) h0);exact⟨h1,h2,by simp[ia],by simp[ia]⟩
 |f+1,i=>by
  obtain⟨h1,h2⟩:=h.getD (adz (gr b i / 2) h0);have h2:az (Nb b l i)<=B:=h2;obtain⟨a1,a2,a3,a4⟩:=xA h0 h f (i+1);obtain⟨b1,b2,b3,b4⟩:=xA h0 h f (ia b l f (i+1)).2;obtain⟨p1,p2⟩:=Va;obtain⟨f1,f2,f3,f4⟩:=Yh;obtain⟨s1,s2,s3,s4⟩:=ZV;have hp:2^ (f+1+1)=2^ (f+1)+2^ (f+1):=by rw[Nat.pow_succ];omega
  have Uf:1<=2^ (f+1):=Nat.one_le_two_pow;have hg:=H8 B f;unfold ia;generalize ia b l f (ia b l f (i+1)).2=gF at *;generalize ia b l f (i+1)=X at *;simp only[Nc]
  split
  exact⟨h1,by simp only;omega,by simp,by simp only[hp];omega⟩
  ·split
   ·exact⟨QI f1 a1,by simp only[az,bF];omega,by simp only;omega,by simp only;omega⟩
   ·split
    ·exact⟨BH f2 a1 b1,by simp only[az,bF];omega,by simp only;omega,by simp only;omega⟩
    ·split
     ·exact⟨BH f3 a1 p1,by simp only[az,bF];omega,by simp only;omega,by simp only;omega⟩
     ·exact⟨BH f4 a1 b1,by simp only[az,bF];omega,by simp only;omega,by simp only;omega⟩
def iR(x:List Nat):List Nat:=x++[0,0]
def Ln(b:List Nat)(bd:List Tm)(n:Nat):List Tm:=(List.range n).map λk=>(ia b (tI++bd) 2 (1+3 * k)).1
def Vb(b:List Nat):Tm:=if gr b 0 / 3 % 3=0 then rB.getD (gr b 1 % 4) fL else(ia b (tI++rB) 2 7).1
structure Px where
 kn:List Tm
 bd:List Tm
 out:List cW
def uf(s:Px)(x:List Nat):Px:=
 ⟨s.kn++Ln (iR x) s.bd (gr (iR x) 0 % 3),s.bd++bz (Vb (iR x)),s.out++[⟨s.kn++Ln (iR x) s.bd (gr (iR x) 0 % 3),Vb (iR x)⟩]⟩
def cP(l:List (List Nat)):Px:=l.foldl uf ⟨[],[],[]⟩
def fM(l:List (List Nat)):List cW:=(cP (l.take 5)).out
theorem uS(l:List (List Nat))(x:List Nat):cP (l++[x])=uf (cP l) x:=by simp[cP]
theorem Nd(b:List Nat)(bd:List Tm)(n:Nat):Ln b bd (n+1)=Ln b bd n++[(ia b (tI++bd) 2 (1+3 * n)).1]:=by simp[Ln,List.range_succ]
theorem vY(b:List Nat)(bd:List Tm)(n:Nat):(Ln b bd n).length=n:=by simp[Ln]
theorem Nf(b:List Nat):Aw (Vb b)=true/\az (Vb b)<=170:=by
 unfold Vb
 split
 ·obtain⟨h1,h2⟩:=xz.getD (i:=gr b 1 % 4) (by rw[sL];omega);exact⟨h1,by omega⟩
 ·obtain⟨h1,h2,_⟩:=xA (b:=b) (l:=tI++rB) (B:=20) (by simp[mq];omega) (BF.c8 xz) 2 7;exact⟨h1,h2⟩
theorem Ng{B:Nat}{t:Tm}(h:Aw t=true/\az t<=B):zy B (bz t):=λy hy=>by
 have hp:=((kq t y).1 hy).1;obtain⟨h1,h2⟩:=qx.1 h.1;exact⟨qx.2 ⟨BI h1 hp,U' h2 hp⟩,by have:=jP hy;omega⟩
theorem Vc{b:List Nat}{bd:List Tm}(h:zy 170 bd)(n:Nat):zy 770 (Ln b bd n):=λt ht=>by
 obtain⟨k,_,rfl⟩:=abB.1 ht;obtain⟨h1,h2,_⟩:=xA (b:=b) (l:=tI++bd) (B:=170) (by simp[mq];omega) ((BF.mono (by omega)).c8 h) 2 (1+3 * k);exact⟨h1,h2⟩
structure ZW(n:Nat)(s:Px):Prop where
 kl:s.kn.length<=2 * n
 bl:s.bd.length<=170 * n
 ol:s.out.length=n
 kf:zy 770 s.kn
 bf:zy 170 s.bd
 of:∀d∈s.out,d.kn.length<=2 * n/\zy 770 d.kn/\Aw d.tm=true/\az d.tm<=170
theorem nm(n:Nat):∀l:List (List Nat),l.length=n->ZW n (cP l):=by
 induction n with
 |zero=>
  intro l h
  obtain rfl:=abj h;exact⟨by simp[cP],by simp[cP],rfl,λ_ h=>(by cases h),λ_ h=>(by cases h),λ_ h=>(by cases h)⟩
 |succ n ih=>
  intro l h
  obtain⟨p,x,rfl⟩:∃p x,l=p++[x]:=⟨l.dropLast,l.getLast (by intro hh;rw[hh]at h;cases h),(List.dropLast_concat_getLast _).symm⟩;have a:=ih p (by simpa using h);rw[uS];have ht:=Nf (iR x);have hk:=Vc (b:=iR x) a.bf (gr (iR x) 0 % 3);have hv:=fj (Vb (iR x));have hm:gr (iR x) 0 % 3<=2:=by omega
  have a1:=a.kl;have a2:=a.bl;have a3:=a.ol;refine⟨?_,?_,?_,a.kf.c8 hk,a.bf.c8 (Ng ht),λd hd=>?_⟩;simp only[uf,aba,vY];omega;simp only[uf,aba];omega;simp only[uf,aba,abg,abH];omega
  ·rcases aa9.1 hd with hd |hd
   ·obtain⟨q1,q2⟩:=a.of d hd;exact⟨by omega,q2⟩
   ·simp at hd;subst hd;exact⟨by simp only[aba,vY];omega,a.kf.c8 hk,ht⟩
theorem xB(l:List (List Nat)):(fM l).length<=5/\∀d∈fM l,d.kn.length<=10/\zy 770 d.kn/\Aw d.tm=true/\az d.tm<=170:=by
 have hn:(l.take 5).length<=5:=by simp;omega
 have a:=nm _ (l.take 5) rfl;have a3:=a.ol;unfold fM;exact⟨by omega,λd hd=>⟨by have:=(a.of d hd).1;omega,(a.of d hd).2⟩⟩
def pK(n:Nat)(o:Int):Tm:=.mk 2 ⟨#[101,35,UInt8.ofNat (48+n)]⟩ o []
def ZX(v:Tm)(c:Nat):Tm:=if c % 3≠0/\xk v (tI.getD (c / 2 % 7) fL)=true then tI.getD (c / 2 % 7) fL else pK (c % 2) v.o
def Yi(b:List Nat):Nat->List Tm->List dp
 |_,[]=>[]
 |i,v::l=>⟨v,ZX v (gr b i)⟩::Yi b (i+1) l
def ZY(vs:List Tm)(b:List Nat):List dp:=Yi b 0 vs
theorem F'(l:List (List Nat)):(bQ (fM l)).length<=4/\∀y∈bQ (fM l),y∈rB:=by
 have kF:∀y∈bQ (fM l),y∈rB:=λy hy=>by
  simp only[bQ,abV,decide_eq_true_eq]at hy;obtain⟨hy,hk⟩:=hy;obtain⟨t,ht,hp⟩:=dR.1 ((fq _ _).1 hy);obtain⟨d,hd,ht⟩:=abY.1 ht;obtain⟨_,h1,h2,_⟩:=(xB l).2 d hd
  have hf:Aw t=true:=by
   rcases aa9.1 ht with h |h;exact(h1 t h).1;simp at h;rw[h];exact h2
  exact(Yg (qx.1 hf).2 hp).1 hk
 refine⟨?_,kF⟩
 have he:bQ (fM l)=(jd rB).filter (λy=>cm (bQ (fM l)) y):=oa (gH (jo _)) (gH (jo _)) λy=>by
  constructor
  exact λh=>abV.2 ⟨(fq _ _).2 (kF y h),dq.2 h⟩;exact λh=>dq.1 (abV.1 h).2
 have h1:=acm (λy=>cm (bQ (fM l)) y) (jd rB);have h2:=sw rB;rw[sL]at h2;rw[he];omega
def eN(l:List Nat):List PV:=l.map λ(n:Nat)=>PV.int .u8 (n:Int)
def dZ(l:List (List Nat)):List PV:=l.map λx=>.aa false (eN x)
def JG(l:List Nat):Prop:=∀n∈l,n<=255
@[simp] theorem lH(l:List Nat):(eN l).length=l.length:=by simp[eN]
@[simp] theorem qz(l:List (List Nat)):(dZ l).length=l.length:=by simp[dZ]
@[simp] theorem WL(l:List Nat):ao (eN l)=true:=by induction l with |nil=>rfl |cons x l ih=>simpa[eN]using ih
@[simp] theorem WM(l:List Nat):aU (eN l)=eN l:=by induction l with |nil=>rfl |cons x l ih=>simpa[eN]using ih
@[simp] theorem Vg(l:List (List Nat)):ao (dZ l)=true:=by induction l with |nil=>rfl |cons x l ih=>simpa[dZ]using ih
@[simp] theorem Vh(l:List (List Nat)):aU (dZ l)=dZ l:=by induction l with |nil=>rfl |cons x l ih=>simpa[dZ]using ih
theorem Nn(a b:List Nat):eN (a++b)=eN a++eN b:=by simp[eN]
theorem DB{l p q:List (List Nat)}{x:List Nat}(e:l=p++x::q):(dZ l)[p.length]?=some (.aa false (eN x)):=by rw[dZ,e];simp
theorem np{l:List Nat}{i:Nat}(h:i<l.length):(eN l)[i]?=some (.int .u8 (gr l i:Int)):=by
 simp[eN,gr,abt,h]
theorem BK{l:List Nat}(h:JG l)(i:Nat):gr l i<=255:=by
 unfold gr;rw[abt]
 cases e:l[i]? with
 |none=>simp
 |some n=>exact h n (abh e)
theorem BL{l:List Nat}{i:Nat}(h:¬i<l.length):gr l i=0:=by
 simp[gr,abt,abl (Nat.not_lt.1 h)]
theorem xF{l:List Tm}{i:Nat}(h:i<l.length):(ae l)[i]?=some (enc (l.getD i fL)):=by
 rw[de];simp[abt,h]
open Go.Proofs Go.ChangeShapes Go.WideShapes
set_option maxRecDepth 100000
set_option maxHeartbeats 2000000
theorem TH{α:Type}:∀(l:List α),(l.map λ_=>1).sum=l.length
 |[]=>rfl
 |_::l=>by rw[abk,adq,TH l,abg];omega
theorem yf{α:Type}(f:α->Nat):∀{l:List α} {x:α},x∈l->f x<=(l.map f).sum
 |y::l,x,h=>by
  rw[abk,adq];rcases abc.1 h with rfl |h;omega;have:=yf f h;omega
theorem yg{α:Type}(f:α->Nat)(hf:∀x,1<=f x):∀(l:List α),l.length<=(l.map f).sum
 |[]=>by simp
 |y::l=>by have:=yg f hf l;have:=hf y;rw[abk,adq,abg];omega
instance:Inhabited {n:Nat // n<=255}:=⟨⟨0,by decide⟩⟩
instance:Inhabited {l:List Nat // JG l}:=⟨⟨[],by intro x h;cases h⟩⟩
theorem aam:C.P.cellsOf 5=1:=by kernel_rfl
theorem YZ:C.P.cellsOf 41=1:=by kernel_rfl
open Go.Proofs.YtimogkojklpdnaaGreatDoor in
theorem Oj{H:Type}{ec:TypeId×Value->H}{w:World}{sp:Nat->Bool}{held:Bool}{n:Nat}{cs:List Value}{x:DataW H×List MemPlace}(h:DataW.trod ec C.P w 0 sp held n 41 cs=some x):
  ∃(c:Value) (l:List Nat),cs=[c]/\bZ w Lp c (.aa false (eN l))/\JG l/\l.length+1<=Rows.uptoBulk x.1:=by
 obtain⟨c,l,hc,h1,h2⟩:=rG (E:={n:Nat // n<=255}) (λe=>.int .u8 (e.1:Int)) (λ_=>1) (bp (T6.cQ 41 _ rfl)) aam (by decide) (λ_=>rfl) (λn cs x hx=>by
  obtain⟨k,rfl,rfl,hw⟩:=DataW.trod_int (pp (T6.cQ 5 _ rfl)) hx
  have hk:0<=k/\k<=255:=by
   simp only[Lit.wf,decide_eq_true_eq,abb]at hw;have h1:IntKind.u8.min=0:=rfl;have h2:IntKind.u8.max=255:=rfl;omega
  obtain⟨m,rfl⟩:=acq hk.1;exact⟨⟨m,by omega⟩,rfl,λj hj=>(by obtain rfl:j=0:=(by omega);exact .int _ _),by simp[Rows.uptoBulk]⟩) h
 refine⟨c,l.map (·.1),hc,by simpa[eN]using h1,λx hx=>?_,?_⟩;obtain⟨y,_,rfl⟩:=abB.1 hx;exact y.2
 ·rw[TH]at h2;simp only[ace];exact h2
open Go.Proofs.YtimogkojklpdnaaGreatDoor in
theorem RF{H:Type}{ec:TypeId×Value->H}{w:World}{sp:Nat->Bool}{held:Bool}{n:Nat}{cs:List Value}{x:DataW H×List MemPlace}(h:DataW.trod ec C.P w 0 sp held n 40 cs=some x):
  ∃(c:Value) (l:List (List Nat)),cs=[c]/\bZ w Lp c (.aa false (dZ l))/\(∀y∈l,JG y/\y.length<Rows.uptoBulk x.1)/\l.length<Rows.uptoBulk x.1:=by
 obtain⟨c,l,hc,h1,h2⟩:=rG (E:={l:List Nat // JG l}) (λe=>.aa false (eN e.1)) (λe=>e.1.length+1) (bp (T6.cQ 40 _ rfl)) YZ (by decide) (λ_=>rfl) (λn cs x hx=>by
  obtain⟨c,l,rfl,a1,a2,a3⟩:=Oj hx;exact⟨⟨l,a2⟩,rfl,λj hj=>(by obtain rfl:j=0:=(by omega);exact a1),a3⟩) h
 refine⟨c,l.map (·.1),hc,by simpa[dZ,adf,Function.comp_def]using h1,λy hy=>?_,?_⟩
 ·obtain⟨z,hz,rfl⟩:=abB.1 hy;have:=yf (λe:{l:List Nat // JG l}=>e.1.length+1) hz;exact⟨z.2,by omega⟩
 ·have:=yg (λe:{l:List Nat // JG l}=>e.1.length+1) (λx=>by omega) l;simp only[ace];omega
open Go.Proofs.YtimogkojklpdnaaGreatDoor in
theorem Ol{H:Type}{ec:TypeId×Value->H}{w:World}{base:Nat}{sp:Nat->Bool}{v:Value}{d:DataW H}{p:List MemPlace}(gh:Value.okWide C.P w .any base 40 v)(h:DataW.Trod ec C.P w 0 sp true 40 v d p):
  ∃l:List (List Nat),bZ w Lp v (.aa false (dZ l))/\(∀y∈l,JG y/\y.length<Rows.uptoBulk d)/\l.length<Rows.uptoBulk d:=by
 obtain⟨n,hn⟩:=h;obtain⟨a,len,cap,rfl⟩:=okWide_slice (bp (T6.cQ 40 _ rfl)) gh;obtain⟨c,l,hc,h1,h2⟩:=RF hn;obtain rfl:Value.slice a len cap=c:=by simpa[Value.cells]using hc
 exact⟨l,h1,h2⟩
end Go.Pm
namespace Go.Pm
set_option maxRecDepth 4000
theorem Pz:∀(ids:List Nat) (h:ab),(∀id∈ids,∃o:au,h[id]?=some o/\ao o.es=true/\(o.mu=.m\/o.mu=.f))->∃h',fG h ids=some h'
 |[],h,_=>⟨h,rfl⟩
 |id::r,h,hh=>by
  obtain⟨o,h1,h2,h3⟩:=hh id (by simp);have hf:kU h id=some (h.set id {o with mu:=.f}):=by simp only[kU,h1];rw[if_pos ⟨h2,h3⟩]
  obtain⟨h',e⟩:=Pz r (h.set id {o with mu:=.f}) λj hj=>by
   obtain⟨o',g1,g2,g3⟩:=hh j (by simp[hj])
   by_cases zl:id=j
   ·subst zl;exact⟨{o with mu:=.f},aa7 (ag h1),h2,.inr rfl⟩
   exact⟨o',by rw[aa8 zl];exact g1,g2,g3⟩
  exact⟨h',by simp only[fG,hf,e]⟩
namespace bh
open Go.Proofs
attribute [local irreducible] aD ay aJ aG Ev ah ai ax aZ
@[simp] theorem yb(l:List cW):dj 5 (aQ l):=by
 unfold dj;rw[aa4]
 intro v hv
 obtain⟨t,_,rfl⟩:=abB.1 hv
 rfl
@[simp] theorem VU(l:List dp):dj 8 (bO l):=by
 unfold dj;rw[aa4]
 intro v hv
 obtain⟨t,_,rfl⟩:=abB.1 hv
 rfl
end bh
open Go.Proofs
def atR(r:List Int)(c:Nat):Int:=r.getD c 0
def Jz(a b:List Int)(q:Int):List Int:=List.zipWith (λx y=>x - q * y) a b
def UF(x:Int):Bool:=decide (-1099511627776<=x/\x<=1099511627776)
def small(r:List Int):Bool:=r.all UF
theorem MJ{a b:List Int}{q:Int}(h:a.length=b.length):(Jz a b q).length=a.length:=by simp[Jz,h]
structure Pr2 where
 d:Nat
 s:Nat
 a:List Int
 b:List Int
def Pr2.v(x:Pr2):PV:=.agg [.aj x.d 0 0 x.a.length,.aj x.s 0 0 x.b.length]
end Go.Pm
namespace Go.Pm
abbrev Row:=List Int×Bool
def kN(c:Nat)(R:Row):Bool:=!R.2&&decide (atR R.1 c≠0)
def JA(c:Nat)(S:List Row):Nat:=(S.filter (kN c)).length
structure zw(c:Nat)(S:List Row)(bi:Nat)(b:List Int):Prop where
 at_:S[bi]?=some (b,false)
 nz:atR b c≠0
 min:∀(i:Nat) (R:Row),S[i]?=some R->kN c R=true->(atR b c).natAbs<=(atR R.1 c).natAbs
 fst:∀(i:Nat) (R:Row),S[i]?=some R->kN c R=true->i<bi->(atR b c).natAbs<(atR R.1 c).natAbs
theorem zw.isc{c:Nat}{S:List Row}{bi:Nat}{b:List Int}(h:zw c S bi b):kN c (b,false)=true:=by simp[Pm.kN,h.nz]
def MK(c:Nat)(b:List Int)(R:Row):Row:=if kN c R=true then(Jz R.1 b ((atR R.1 c).tdiv (atR b c)),R.2)else R
def uQ(c:Nat)(b:List Int)(bi:Nat)(S:List Row):List Row:=S.mapIdx λi R=>if i=bi then R else MK c b R
def XR(S:List Row):Bool:=S.all λR=>small R.1
inductive Ti(c:Nat):Nat->List Row->Option (List Row×Int)->Prop
 |zero {S:List Row}:JA c S=0->Ti c 0 S (some (S,-1))
 |one {S:List Row} {bi:Nat} {b:List Int}:zw c S bi b->JA c S=1->Ti c 0 S (some (S.set bi (b,true),bi))
 |ML {S:List Row} {bi:Nat} {b:List Int}:zw c S bi b->2<=JA c S->XR (uQ c b bi S)=false->Ti c 0 S none
 |step {S:List Row} {bi n:Nat} {b:List Int} {Qv:Option (List Row×Int)}:zw c S bi b->2<=JA c S->XR (uQ c b bi S)=true->Ti c n (uQ c b bi S) Qv->Ti c (n+1) S Qv
theorem Am{c:Nat}{b:List Int}{bi:Nat}{S:List Row}{i:Nat}:(uQ c b bi S)[i]?=(S[i]?).map λR=>if i=bi then R else MK c b R:=by
 unfold uQ;rw[List.getElem?_mapIdx]
inductive El(n:Nat):Nat->List Row->List Int->Option (List Row×List Int)->Prop
 |done{S:List Row} {P:List Int}:El n n S P (some (S,P))
 |ML {c k:Nat} {S:List Row} {P:List Int}:c<n->Ti c k S none->El n c S P none
 |next {c k:Nat} {S S':List Row} {P:List Int} {i:Int} {Qv:Option (List Row×List Int)}:c<n->Ti c k S (some (S',i))->El n (c+1) S' (P++[i]) Qv->El n c S P Qv
open Go.Proofs
set_option maxRecDepth 4000
structure Rw where
 r:Nat
 p:Nat
 c:Nat
 a:List Int
 b:List Int
 u:Bool
def Rw.m(R:Rw):Row:=(R.a++R.b,R.u)
def Rw.ids(R:Rw):List Nat:=[R.r,R.p,R.c]
def Rw.ptr(R:Rw):PV:=.ptr R.r 0 0 0
structure UG(h:ab)(R:Rw):Prop where
 er:h[R.r]?=some ⟨.m,0,3,[.agg [.aj R.p 0 0 R.a.length,.aj R.c 0 0 R.b.length,.bool R.u]]⟩
 ea:h[R.p]?=some ⟨.m,0,1,fO R.a⟩
 eb:h[R.c]?=some ⟨.m,0,1,fO R.b⟩
def cg:PV->List Nat
 | .aj i _ _ _=>[i]
 |_=>[]
structure Lay(h:ab)(x:Nat)(cv rv pv:PV)(n k:Nat)(Rs:List Rw)(P:List Int)(lg:Bool):Prop where
 hr:HR h
 ex:h[x]?=some ⟨.m,0,4,[.agg [cv,rv,pv,.bool lg]]⟩
 er:Out 1 h rv (Rs.map Rw.ptr)
 ep:Out 1 h pv (fO P)
 at_:∀R∈Rs,UG h R/\R.a.length=n/\R.b.length=k
 nd:(x::(cg rv++(cg pv++Rs.flatMap Rw.ids))).Nodup
theorem F1{n:Nat}:∀{p:PV},cS n p=true->bw (λi=>decide (i<n)) p=true:=by
 have one:∀{p:PV},eK n p=true->bw (λi=>decide (i<n)) p=true:=by
  intro p h
  unfold eK at h
  split at h
  simpa[bw]using h;simpa[bw]using h;exact sy _ _ h
 intro p h
 unfold cS at h
 split at h
 ·rename_i cs
  rw[bw,gj,aa4];exact λc hc=>one (aa4.1 h c hc)
 exact one h
theorem HR.take{h:ab}(H:HR h){n:Nat}(hn:n<=h.length)(hb:((h.take n).all λo=>o.es.all (cS n))=true):HR (h.take n):=by
 intro o ho
 refine⟨(H o (abP ho)).1,?_⟩;rw[ab7,acW hn,gj,aa4];exact λp hp=>F1 (aa4.1 (aa4.1 hb o ho) p hp)
theorem ai.sm{C:cG}{f:FuncId}{args:List PV}{H:ab}{P Q:PV->ab->Prop}(a:ax C f args H P)(hl:∀r h',P r h'->HR h'/\H.length<=h'.length)(q1:∀r h',P r h'->Q r h')(q2:∀r h',P r h'->HR (h'.take H.length)->Q r (h'.take H.length))(hm:C.mode f=.opened:=by rfl):ai C 2 f args H Q:=by
 refine ai.opened hm (a.mono λr k hr=>?_)
 split
 ·rename_i hc
  rw[abb]at hc;obtain⟨h1,h2⟩:=hl r k hr;exact q2 r k hr (h1.take h2 hc.2)
 exact q1 r k hr
theorem Out.of_eq{sz:Nat}{h h':ab}{v:PV}{es:List PV}(o:Out sz h v es)(he:∀i∈cg v,h'[i]?=h[i]?):Out sz h' v es:=by
 rcases o with o |⟨id,ep,rfl,e⟩;exact .inl o;exact .inr ⟨id,ep,rfl,by rw[he id (by simp[cg])];exact e⟩
def Lay.all(x:Nat)(rv pv:PV)(Rs:List Rw):List Nat:=x::(cg rv++(cg pv++Rs.flatMap Rw.ids))
theorem Out.oU{sz:Nat}{h:ab}{v:PV}{es:List PV}(o:Out sz h v es):∀i∈cg v,i<h.length:=by
 rcases o with⟨rfl,_⟩|⟨id,ep,rfl,e⟩;simp[cg]
 intro i hi;simp[cg]at hi;subst hi;exact ag e
theorem UG.lt{h:ab}{R:Rw}(a:UG h R):∀i∈R.ids,i<h.length:=by
 intro i hi
 simp only[Rw.ids,abc,acn,or_false]at hi;rcases hi with rfl |rfl |rfl;exact ag a.er;exact ag a.ea;exact ag a.eb
theorem Lay.lt{h:ab}{x:Nat}{cv rv pv:PV}{n k:Nat}{Rs:List Rw}{P:List Int}{lg:Bool}(L:Lay h x cv rv pv n k Rs P lg):∀i∈Lay.all x rv pv Rs,i<h.length:=by
 intro i hi
 simp only[Lay.all,abc,aa9,abY]at hi;rcases hi with rfl |hi |hi |⟨R,hR,hi⟩;exact ag L.ex;exact L.er.oU i hi;exact L.ep.oU i hi;exact(L.at_ R hR).1.lt i hi
theorem Dn(c:Nat)(p:List Row)(R:Row):JA c (p++[R])=JA c p+if kN c R=true then 1 else 0:=by
 unfold JA;rw[acw,aba]
 congr 1
 by_cases h:kN c R=true <;>simp[h]
theorem Dp{c:Nat}{S:List Row}(h:JA c S=0):∀R∈S,kN c R=false:=by
 unfold JA at h
 intro R hR
 cases hc:kN c R with
 |false=>rfl
 |true=>
  have:R∈S.filter (kN c):=abV.2 ⟨hR,hc⟩;rw[abj h]at this
  cases this
def BSt(c:Nat)(p:List Row)(best count:Int):Prop:=count=(JA c p:Nat)/\((JA c p=0/\best=-1)\/∃(bi:Nat) (b:List Int),best=bi/\zw c p bi b)
theorem Dq{p:List Row}{R Q:Row}{i:Nat}(h:(p++[R])[i]?=some Q):p[i]?=some Q\/(i=p.length/\Q=R):=by
 rcases acE i p.length with h1 |h1 |h1;rw[aa3 h1]at h;exact .inl h;subst h1;simp at h;exact .inr ⟨rfl,h.symm⟩;rw[abl (by simp;omega)]at h;cases h
theorem zw.new{c:Nat}{p:List Row}{b:List Int}(hc:kN c (b,false)=true)(h:∀Q∈p,kN c Q=true->(atR b c).natAbs<(atR Q.1 c).natAbs):zw c (p++[(b,false)]) p.length b where
 at_:=by simp
 nz:=by simpa[kN]using hc
 min i Q hQ hcQ:=by
  rcases Dq hQ with h1 |⟨rfl,rfl⟩;exact Nat.le_of_lt (h Q (abh h1) hcQ);exact aa5 _
 fst i Q hQ hcQ hi:=by
  rcases Dq hQ with h1 |⟨rfl,rfl⟩;exact h Q (abh h1) hcQ;omega
theorem BSt.first{c:Nat}{p:List Row}{count:Int}{b:List Int}(h:BSt c p (-1) count)(hR:kN c (b,false)=true):BSt c (p++[(b,false)]) p.length (count+1):=by
 obtain⟨h1,h2⟩:=h;rcases h2 with⟨a,_⟩|⟨bi,_,e,_⟩
 ·refine⟨by rw[Dn,hR,if_pos rfl];omega,.inr ⟨_,b,rfl,zw.new hR λQ hQ hc=>?_⟩⟩;rw[Dp a Q hQ]at hc;cases hc
 omega
structure Rf where
 i:Nat
 e:Nat
 r:List Int
 u:Bool
def Rf.v(z:Rf):PV:=.aj z.i z.e 0 z.r.length
def Rf.m(z:Rf):Row:=(z.r,z.u)
def Rf.b(z:Rf):PV:=.bool z.u
def HW(l:List Nat):List PV:=l.map λ(i:Nat)=>.int .i64 i
@[simp] theorem WH(l:List Nat):(HW l).length=l.length:=by simp[HW]
@[simp] theorem UH(l:List Nat):ao (HW l)=true:=by induction l with |nil=>rfl |cons x l ih=>simpa[HW]using ih
structure RL(h:ab)(rv:PV)(iu eu w:Nat)(kj:List Rf):Prop where
 hr:HR h
 er:Out 1 h rv (kj.map Rf.v)
 eu:h[iu]?=some ⟨.m,eu,1,kj.map Rf.b⟩
 at_:∀z∈kj,h[z.i]?=some ⟨.m,z.e,1,fO z.r⟩/\z.r.length=w
def Pv(c:Nat)(S:List Row):List Nat:=(List.range S.length).filter λi=>match S[i]? with |some R=>kN c R |none=>false
theorem MM(c:Nat)(p:List Row)(R:Row):Pv c (p++[R])=Pv c p++if kN c R=true then[p.length]else[]:=by
 unfold Pv;rw[aba,List.length_singleton,List.range_succ,acw]
 congr 1
 ·apply List.filter_congr
  intro i hi
  rw[aa3 (adj.1 hi)]
 ·by_cases h:kN c R=true <;>simp[h]
theorem MN{α:Type}{P:List α->Prop}(h0:P [])(hs:∀l a,P l->P (l++[a])):∀l,P l:=by
 intro l
 have:∀r:List α,P r.reverse:=by
  intro r
  induction r with
  |nil=>exact h0
  |cons a r ih=>rw[List.reverse_cons];exact hs _ _ ih
 simpa using this l.reverse
theorem Qu(c:Nat):∀S:List Row,(Pv c S).length=JA c S:=by
 refine MN (P:=λS=>(Pv c S).length=JA c S) rfl (λp R ih=>?_);rw[MM,Dn,aba,ih];by_cases h:kN c R=true <;>simp[h]
theorem HU{c:Nat}{S:List Row}{i:Nat}:i∈Pv c S↔∃R,S[i]?=some R/\kN c R=true:=by
 unfold Pv;rw[abV,adj]
 constructor
 ·rintro⟨h1,h2⟩;rw[aa6 h1]at h2;exact⟨_,aa6 h1,h2⟩
 ·rintro⟨R,h1,h2⟩;exact⟨ag h1,by rw[h1];exact h2⟩
theorem Out.bC{sz:Nat}{h:ab}{v:PV}{es:List PV}(o:Out sz h v es):Pm.bC v=true/\Pm.cells v=[v]:=by
 rcases o with⟨rfl,_⟩|⟨id,ep,rfl,_⟩ <;>exact⟨rfl,rfl⟩
theorem Out.bw{sz:Nat}{h:ab}{v:PV}{es:List PV}(o:Out sz h v es):Pm.bw (λi=>decide (i<h.length)) v=true:=by
 rcases o with⟨rfl,_⟩|⟨id,ep,rfl,e⟩
 rfl
 have:=ag e;simpa[Pm.bw]using this
theorem ai.fr{C:cG}{f:FuncId}{args:List PV}{H:ab}{P Q:PV->ab->Prop}(a:ax C f args H (λr h'=>HR h'/\H.length<=h'.length/\(∀j,j<H.length->h'[j]?=H[j]?)/\P r h'))(hP:∀r h',P r h'->eL H.length r=true->P r (h'.take H.length))
  (q:∀r h',HR h'->H.length<=h'.length->(∀j,j<H.length->h'[j]?=H[j]?)->P r h'->Q r h') (hm:C.mode f=.opened:=by rfl):ai C 2 f args H Q:=by
 refine ai.opened hm (a.mono λr k hr=>?_);obtain⟨r1,r2,r3,r4⟩:=hr
 split
 ·rename_i hc
  rw[abb]at hc;exact q r _ (r1.take r2 hc.2) (by simp;omega) (λj hj=>by rw[abn,if_pos hj];exact r3 j hj) (hP r k r4 hc.1)
 exact q r k r1 r2 r3 r4
structure TB(H h:ab)(r6 iu w:Nat)(UI:List Tm)(rv pv:PV)(kj:List Rf)(P:List Int):Prop where
 rl:RL h rv iu 0 w kj
 fr:∀j,j<H.length->h[j]?=H[j]?
 z0:h[H.length]?=some ⟨.m,0,3,[.agg [.aa true [],.aa true [],.aa true []]]⟩
 ex:h[r6]?=some ⟨.m,0,3,[.agg [.aa false (ae UI),rv,pv]]⟩
 ep:Out 1 h pv (fO P)
 gt:∀i∈iu::(cg rv++cg pv),r6<i
 nd:(iu::(cg rv++cg pv)).Nodup
 zi:∀z∈kj,z.i∉iu::(cg rv++cg pv)/\r6<z.i
 h6:H.length<r6
theorem TB.lt{H h:ab}{r6 iu w:Nat}{UI:List Tm}{rv pv:PV}{kj:List Rf}{P:List Int}(t:TB H h r6 iu w UI rv pv kj P):∀i∈iu::(cg rv++cg pv),i<h.length:=by
 intro i hi
 simp only[abc,aa9]at hi;rcases hi with rfl |hi |hi;exact ag t.rl.eu;exact t.rl.er.oU i hi;exact t.ep.oU i hi
theorem LR.cg{H h':ab}{v r:PV}{sz:Nat}{es:List PV}(l:LR H v sz es r h'):∀i∈Pm.cg r,i∈Pm.cg v\/H.length<=i:=by
 rcases l.out with⟨rfl,_⟩|⟨id,ep,rfl,_⟩
 intro i hi;simp[Pm.cg]at hi
 ·intro i hi
  simp only[Pm.cg,abC]at hi;subst hi;rcases l.ref i ep _ rfl with⟨h9,n',h⟩|h;exact .inl (by rw[h];simp[Pm.cg]);exact .inr h
end Go.Pm
namespace Go.Pm
set_option maxRecDepth 4000
theorem k9(ids:List Nat)(h:ab)(i:Nat):(cE ids h)[i]?=(h[i]?).map λo=>if ids.contains i then bI o else o:=by
 simp[cE,abm,ac2,adF,Function.comp_def]
theorem mY(ids:List Nat)(h h':ab)(i:Nat):(dW ids h h')[i]?=(h'[i]?).map λo=>if ids.contains i then(match h[i]? with |some o'=>o'|none=>o)else o:=by
 simp[dW,abm,ac2,adF,Function.comp_def]
 rfl
theorem C7{k k':ab}(hl:k.length<=k'.length)(hk:∀(j:Nat) (o:au),k[j]?=some o->o.mu≠.m->k'[j]?=some o):mP k k'=k':=by
 apply ab8
 intro i
 unfold mP;have hz:(List.zipWith (λo o'=>if o.mu=.m then o' else o) k k').length=k.length:=by simp;omega
 by_cases hi:i<k.length
 ·rw[aa3 (by omega),acv];have e1:k[i]?=some k[i]:=aa6 hi;have e2:k'[i]?=some k'[i]:=aa6 (by omega);have:=hk i _ e1;rw[e1,e2];rw[e2]at this
  by_cases hm:k[i].mu=.m
  simp[hm];simp[hm,aa2 (this hm)]
 ·rw[abd (by omega),hz,abI]
  congr 1;omega
theorem tP{ids:List Nat}{h k:ab}(hk:∀(j:Nat) (o:au),k[j]?=some o->o.mu≠.l\/(ids.contains j=true/\j<h.length)\/h[j]?=some o):q9 ids h k=true:=by
 unfold q9;rw[aa4];rintro⟨o,j⟩ hm;have hg:=List.mem_zipIdx_iff_getElem?.1 hm;rcases hk j o hg with h1 |⟨h1,h2⟩|h1;simp[h1];simp[List.contains_iff_mem.1 h1,h2]
 ·by_cases hl:o.mu=.l
  ·simp[h1,hl]
  ·simp[hl]
section
variable{C:cG}{run:gW}{ops:Array Oper}{b:List Nat}{h0:ab}{i:Nat}{L:Al}{Y:Nat->PV}{h:ab}
theorem Wx{d:Nat}{op:Op}{v:PV}{y:TypeId}{s:String}{a:Array Edge}(hh:c9 op=true)(hr:gU op=true)(hg:kG ops b h0 i (al L Y) op=true)(e:aC C.P 1 op (al L Y) h=some (v,h)):
  cT C run ops b h0 i ⟨some d,op,y,s,a,none⟩ ⟨al L Y,h⟩=some ⟨al ((d,v)::L) Y,h⟩:=by
 unfold cT;simp only[bu,hh,hr,hg,e,if_true,abL,if_false,b8]
theorem Xu{d:Nat}{op:Op}{v:PV}{y:TypeId}{s:String}{a:Array Edge}(hh:c9 op=true)(hr:gU op=false)(hb:jF op=true)(e:aC C.P 1 op (al L Y) h=some (v,h)):
  cT C run ops b h0 i ⟨some d,op,y,s,a,none⟩ ⟨al L Y,h⟩=some ⟨al ((d,v)::L) Y,h⟩:=by
 unfold cT;simp only[bu,hh,hr,hb,e,if_true,abL,abi,if_false,b8]
theorem SX{d:Nat}{op:Op}{v:PV}{h':ab}{y:TypeId}{s:String}{a:Array Edge}(hh:c9 op=true)(hr:gU op=false)(hb:jF op=false)(hl:jf ops b i false=true)(e:ar C run 2 op (al L Y) h=some (v,h'))(hle:h.length<=h'.length)(hk:∀(j:Nat) (o:au),h[j]?=some o->o.mu≠.m->h'[j]?=some o):
  cT C run ops b h0 i ⟨some d,op,y,s,a,none⟩ ⟨al L Y,h⟩=some ⟨al ((d,v)::L) Y,h'⟩:=by
 unfold cT;simp only[bu,hh,hr,hb,hl,e,hle,if_true,abL,abi,if_false,b8,C7 hle hk]
theorem kSt{op:Op}{v:PV}{h':ab}{y:TypeId}{s:String}{a:Array Edge}(hh:c9 op=true)(hr:gU op=false)(hb:jF op=false)(hl:jf ops b i false=true)(e:ar C run 2 op (al L Y) h=some (v,h'))(hle:h.length<=h'.length)(hk:∀(j:Nat) (o:au),h[j]?=some o->o.mu≠.m->h'[j]?=some o):
  cT C run ops b h0 i ⟨none,op,y,s,a,none⟩ ⟨al L Y,h⟩=some ⟨al L Y,h'⟩:=by
 unfold cT;simp only[bu,hh,hr,hb,hl,e,hle,if_true,abL,abi,if_false,bY,C7 hle hk]
end
theorem LY{C:cG}(T:kJ C.P){ops:Array Oper}{L:Al}{H:ab}{d0 d1 d2 d3 d4 d5 p q ip fY:Nat}{tl el:TypeId}{c:Operand}{z v:PV}{us es:List PV}
  {y0 y1 y2 y3 y4 y5 y6 y7:TypeId} {s0 s1 s2 s3 s4 s5 s6 s7:String} {a0 a1 a2 a3 a4 a5 a6 a7:Array Edge}
  (h2:H[ip]?=some ⟨.m,0,1,[v]⟩) (ho:Out 4 H v es) (hv:∀i∈cg v,i≠ip) (hn:es.length<100000000) (P9:us.length=4) (huo:us.all bC=true)
  (hp:lk L p=some (.ptr ip 0 0 0)) (hq:lk L q=some (.ptr H.length 0 0 0)) (hd:[p,q,d0,d1,d2,d3,d4,d5].Nodup)
  (tO:∀Y,gM ops (before ops) (al L Y)=[H.length])
  (Ja:ops.toList=[⟨some d0,.load tl (.tmp p),y0,s0,a0,none⟩,⟨some d1,.load el (.tmp q),y1,s1,a1,none⟩,⟨some d2,.call ⟨.builtin .len,#[.tmp d0],#[tl]⟩,y2,s2,a2,none⟩,
   ⟨some d3,.buildSlice tl 1 #[(0,c)],y3,s3,a3,none⟩,⟨some d4,.call ⟨.builtin .append,#[.tmp d0,.tmp d3],#[tl,tl]⟩,y4,s4,a4,none⟩,⟨some d5,.indexAddr tl (.tmp d4) (.tmp d2),y5,s5,a5,none⟩,
   ⟨none,.store el (.tmp d5) (.tmp d1),y6,s6,a6,none⟩,⟨none,.store tl (.tmp p) (.tmp d4),y7,s7,a7,none⟩])
  (HG:ll ops (before ops) 0=true) (hr5:ll ops (before ops) 5=true) (zo:sinks ops (before ops)=some (.tmp d5,.tmp p))
  (c06:q8 (before ops) 0 (ops.size - 2)=true) (c07:q8 (before ops) 0 (ops.size - 1)=true) (c56:q8 (before ops) 5 (ops.size - 2)=true)
  (dO:jf ops (before ops) 2 false=true) (Qa:jf ops (before ops) 4 false=true) (hl6:jf ops (before ops) 6 false=true) (hl7:jf ops (before ops) 7 false=true)
  (hk:T.kd tl=some (.sl el)) (hs:T.ts el=some 4) (ha:T.ta el=some true) (Jb:T.ts tl=some 1) (HI:T.ta tl=some false) (hb:T.tb el=some fY) (jb:fY<=1000) (hz:T.tz el=some z) (Qb:(cells z).length=4) (Wy:(cells z).all bC=true)
  (C1:∀(Y:Nat->PV) (h:ab),dE C.P 1 h tl 1 [(0,ev Y c)]=some (.aa true [z],h)):
  ∃id ep,∃h':ab,(∀run Y,jg C run ops ⟨al L Y,H++[⟨.m,0,4,[.agg us]⟩]⟩=some ⟨al ([(d5,.ptr id ep es.length 0),(d4,.aj id ep 0 (es.length+1)),(d3,.aa true [z]),(d2,.int .i64 es.length),(d1,.agg us),(d0,v)]++L) Y,h'⟩)/\
   H.length+1<=h'.length/\id≠ip/\id≠H.length/\(id∈cg v\/H.length<id)/\h'[id]?=some ⟨.m,ep,4,es++[.agg us]⟩/\h'[ip]?=some ⟨.m,0,1,[.aj id ep 0 (es.length+1)]⟩/\
   ∀j,j≠id->j≠ip->h'[j]?=(H++[⟨.m,0,4,[.agg us]⟩])[j]?:=by
 have hip:=ag h2;simp only[List.nodup_cons,abc,acn,or_false,not_or,not_false_eq_true,List.nodup_nil,and_true]at hd;obtain⟨⟨e1,e2,e3,e4,e5,e6,e7⟩,⟨f2,f3,f4,f5,f6,f7⟩,⟨g3,g4,g5,g6,g7⟩,⟨i4,i5,i6,i7⟩,⟨j5,j6,j7⟩,⟨m6,m7⟩,l7⟩:=hd;have ap:∀Y,al L Y p=.ptr ip 0 0 0:=dn hp;have aq:∀Y,al L Y q=.ptr H.length 0 0 0:=dn hq;have hvc:=ho.bC
 let lb:au:=⟨.l,0,4,[.agg us]⟩
 have Xv:cE [H.length] (H++[⟨.m,0,4,[.agg us]⟩])=H++[lb]:=by
  apply ab8
  intro i
  rw[k9]
  by_cases hi:i<H.length
  ·rw[aa3 hi,aa3 hi];have:([H.length].contains i)=false:=by simp;omega
   simp only[this,abi,if_false,adi]
  ·rw[abd (by omega),abd (by omega)]
   by_cases h0:i=H.length
   subst h0;simp[bI,lb]
   ·have:i - H.length≠0:=by omega
    obtain⟨m,hm⟩:∃m,i - H.length=m+1:=⟨i - H.length - 1,by omega⟩;rw[hm];simp
 obtain⟨id,ep,k4,lW,hk4,ZD,Ui,Xw,ZE,Uj,ZF⟩:∃id ep,∃k4:ab,bJ C.P 2 (H++[lb]) tl tl v (.aa true [z])=some (.aj id ep 0 (es.length+1),k4)/\k4[id]?=some ⟨.m,ep,4,es++[z]⟩/\(H++[lb]).length<=k4.length/\id≠ip/\id≠H.length/\(id∈cg v\/H.length<id)/\(∀j,j≠id->k4[j]?=(H++[lb])[j]?)/\∀o,(H++[lb])[id]?=some o->o.mu=.m:=by
  have gK:dj (3+1) [z]:=by simp[dj,Qb,aa4.1 Wy];exact λx hx=>aa4.1 Wy x hx
  rcases ho with⟨rfl,rfl⟩|⟨id,ep,rfl,hid⟩
  ·refine⟨_,_,_,gE T (lv:=2) (by omega) hk hk hs hb hz jb Qb Wy gK rfl (by simp),?_,?_,?_,?_,?_,?_,?_⟩
   ·simp
   ·simp
   ·simp;omega
   ·simp
   ·right;simp
   ·intro j hj
    by_cases uL:j<(H++[lb]).length
    rw[aa3 uL];rw[abl (by simp at hj uL ⊢;omega),abl (by omega)]
   ·intro o h;rw[abl (by omega)]at h;cases h
  ·have cL:=ag hid;have rp:(H++[lb])[id]?=some ⟨.m,ep,4,es⟩:=by rw[aa3 cL];exact hid
   have:=lc T (h:=H++[lb]) (full:=true) (len:=es.length) (ys:=[z]) hk hk hs hb hz jb Qb Wy gK rfl (by simp;omega) (bm rp rfl (by simp)) rfl rfl (aa5 _);refine⟨id,ep+1,_,this,?_,?_,?_,?_,?_,?_,?_⟩;rw[aa7 (by simp;omega)];simp;simp;exact hv id (by simp[cg]);omega
   ·left;simp[cg]
   intro j hj;rw[aa8 (by omega)]
   intro o h;rw[rp]at h;cases h;rfl
 have ZG:=ag hk4;have Xx:k4[ip]?=some ⟨.m,0,1,[v]⟩:=by rw[Uj ip (by omega),aa3 hip];exact h2
 let k6:ab:=k4.set id ⟨.m,ep,4,es++[.agg us]⟩
 let k7:ab:=k6.set ip ⟨.m,0,1,[.aj id ep 0 (es.length+1)]⟩
 have hk5:∀j,j≠id->j≠ip->k7[j]?=(H++[lb])[j]?:=λj h1 h2=>by
  show((k4.set id _).set ip _)[j]?=_;rw[aa8 (by omega),aa8 (by omega),Uj j h1]
 have Xy:k6[ip]?=some ⟨.m,0,1,[v]⟩:=by rw[aa8 (by omega)];exact Xx
 have Xz:k7[ip]?=some ⟨.m,0,1,[.aj id ep 0 (es.length+1)]⟩:=aa7 (by show ip<(k4.set id _).length;rw[adx];exact ag Xx);have XA:k7[id]?=some ⟨.m,ep,4,es++[.agg us]⟩:=by rw[aa8 (by omega)];exact aa7 ZG
 have aaI:k7.length=k4.length:=by simp[k7,k6]
 have yY:(H++[lb]).length=H.length+1:=by simp
 have LZ:(H++[lb])[H.length]?=some lb:=by simp
 have kk4:∀(j:Nat) (o:au),(H++[lb])[j]?=some o->o.mu≠.m->k4[j]?=some o:=λj o h hm=>by
  by_cases hj:j=id
  subst hj;exact absurd (ZF o h) hm;rw[Uj j hj];exact h
 have kk6:∀(j:Nat) (o:au),k4[j]?=some o->o.mu≠.m->k6[j]?=some o:=λj o h hm=>by
  by_cases hj:j=id
  subst hj;rw[hk4]at h;cases h;exact absurd rfl hm;rw[aa8 (by omega)];exact h
 have kk7:∀(j:Nat) (o:au),k6[j]?=some o->o.mu≠.m->k7[j]?=some o:=λj o h hm=>by
  by_cases hj:j=ip
  subst hj;rw[Xy]at h;cases h;exact absurd rfl hm;rw[aa8 (by omega)];exact h
 have y9:q9 [H.length] (H++[⟨.m,0,4,[.agg us]⟩]) k7=true:=tP λj o h=>by
  by_cases hj:j=id
  subst hj;rw[XA]at h;cases h;exact .inl (by simp)
  by_cases uL:j=ip
  subst uL;rw[Xz]at h;cases h;exact .inl (by simp)
  by_cases XB:j=H.length
  exact .inr (.inl ⟨by simp[XB],by simp;omega⟩);rw[hk5 j hj uL]at h;have cL:=ag h;rw[yY]at cL;rw[aa3 (by omega)]at h;exact .inr (.inr (by rw[aa3 (by omega)];exact h))
 have lz:∀j,(dW [H.length] (H++[⟨.m,0,4,[.agg us]⟩]) k7)[j]?=if j=H.length then some ⟨.m,0,4,[.agg us]⟩else k7[j]?:=λj=>by
  rw[mY]
  by_cases hj:j=H.length
  ·subst hj;rw[hk5 _ (by omega) (by omega),LZ,if_pos rfl];simp
  ·rw[if_neg hj];have:([H.length].contains j)=false:=by simp;omega
   simp only[this,abi,if_false,adi]
 refine⟨id,ep,dW [H.length] (H++[⟨.m,0,4,[.agg us]⟩]) k7,λrun Y=>?_,?_,Ui,Xw,ZE,?_,?_,?_⟩
 rotate_left
 ·have:(dW [H.length] (H++[⟨.m,0,4,[.agg us]⟩]) k7).length=k7.length:=by simp[dW]
  omega
 rw[lz,if_neg Xw];exact XA;rw[lz,if_neg (by omega)];exact Xz
 ·intro j h1 h2
  rw[lz]
  by_cases hj:j=H.length
  subst hj;rw[if_pos rfl];simp
  ·rw[if_neg hj,hk5 j h1 h2]
   by_cases uL:j<H.length
   rw[aa3 uL,aa3 uL];rw[abl (by simp;omega),abl (by simp;omega)]
 unfold jg;rw[tO,Xv,Ja];dsimp only
 have pc:∀{h:ab} {i:Nat} {mm:Mu} {e' n:Nat} {xs:List PV} {x:PV},h[i]?=some ⟨mm,e',n,xs⟩->mm≠.x->xs[0]?=some x->cR h (.ptr i e' 0 0)=some (cells x):=λ{h i mm e' n xs x} q1 q2 q3=>by
  simp[cR,getM,q1,q2,q3]
 have L0:iK C.P (H++[lb]) tl (.ptr ip 0 0 0)=some v:=by
  refine si T ?_;have:cR (H++[lb]) (.ptr ip 0 0 0)=some (cells v):=pc (mm:=.m) (by rw[aa3 hip];exact h2) (by simp) rfl;rw[hvc.2]at this;simp only[loadT,Jb,HI,this]
 have L1:iK C.P (H++[lb]) el (.ptr H.length 0 0 0)=some (.agg us):=by
  refine si T ?_;have:cR (H++[lb]) (.ptr H.length 0 0 0)=some us:=pc (mm:=.l) (x:=.agg us) LZ (by simp) rfl;simp only[loadT,hs,ha,this];rw[if_pos (by rw[P9];rfl),abo (by omega)]
 have L2:pe C.P (H++[lb]) tl v=some (.int .i64 es.length):=by
  rcases ho with⟨rfl,rfl⟩|⟨id,ep,rfl,hid⟩;simp only[pe,bp (T.cQ _ _ hk)]
  ·have rp:(H++[lb])[id]?=some ⟨.m,ep,4,es⟩:=by rw[aa3 (ag hid)];exact hid
   simp only[pe,bp (T.cQ _ _ hk),bm rp rfl (by simp)];rw[if_pos (by show 0+es.length<=es.length;omega)]
 have L5:cF C.P k4 tl (.aj id ep 0 (es.length+1)) (.int .i64 es.length)=some (.ptr id ep es.length 0):=by
  simp only[cF,bp (T.cQ _ _ hk),T.eA _ _ hs,bm hk4 rfl (by simp)];rw[if_pos ⟨by omega,by omega,trivial,by simp⟩];simp
 have L6:gV C.P k4 el (.ptr id ep es.length 0) (.agg us)=some k6:=by
  have hg:getM k4 id ep=some ⟨.m,ep,4,es++[z]⟩:=bm hk4 rfl (by simp);have cC:(es++[z])[es.length]?=some z:=by simp
  simp only[gV,T.eA _ _ hs,hg,cC];rw[if_pos ⟨trivial,P9,huo,by rw[Qb];omega⟩];have hr:eZ 0 4 z (.agg us)=.agg us:=by unfold eZ;rw[if_pos ⟨rfl,Qb.symm⟩]
  rw[hr];simp[k6]
 have L7:gV C.P k6 tl (.ptr ip 0 0 0) (.aj id ep 0 (es.length+1))=some k7:=by
  have hg:getM k6 ip 0=some ⟨.m,0,1,[v]⟩:=bm Xy rfl (by simp);have cC:([v]:List PV)[0]?=some v:=rfl;simp only[gV,T.eA _ _ Jb,hg,cC];rw[if_pos ⟨trivial,rfl,rfl,by rw[hvc.2];simp⟩];have hr:eZ 0 1 v (.aj id ep 0 (es.length+1))=.aj id ep 0 (es.length+1):=by unfold eZ;rw[if_pos ⟨rfl,by rw[hvc.2];rfl⟩]
  rw[hr];simp[k7]
 have G0:kG ops (before ops) (H++[lb]) 0 (al L Y) (.load tl (.tmp p))=true:=by
  simp only[kG,qJ,ev,ap,HG,Bn,zo,c06,c07,ade,adp,Bool.or_true]
 have G1:kG ops (before ops) (H++[lb]) 1 (al ((d0,v)::L) Y) (.load el (.tmp q))=true:=by
  simp[kG,qJ,ev,al,f2,aq,nQ,lb]
 have ZH:(ops.toList.any λo=>o.dst==some p)=false:=by
  rw[Ja];simp[abW e2,abW e3,abW e4,abW e5,abW e6,abW e7]
 have G5:kG ops (before ops) (H++[lb]) 5 (al ((d4,.aj id ep 0 (es.length+1))::(d3,.aa true [z])::(d2,.int .i64 es.length)::(d1,.agg us)::(d0,v)::L) Y) (.indexAddr tl (.tmp d4) (.tmp d2))=true:=by
  have:E8 ops (al ((d4,.aj id ep 0 (es.length+1))::(d3,.aa true [z])::(d2,.int .i64 es.length)::(d1,.agg us)::(d0,v)::L) Y) (.tmp p) id=true:=by
   simp[E8,ZH,ev,al,e2,e3,e4,e5,e6,ap,abW Ui]
  have h4:ev (al ((d4,.aj id ep 0 (es.length+1))::(d3,.aa true [z])::(d2,.int .i64 es.length)::(d1,.agg us)::(d0,v)::L) Y) (.tmp d4)=.aj id ep 0 (es.length+1):=by simp[ev,al]
  simp only[kG,qJ,h4,hr5,Bn,zo,c56,ade,aco,this,Bool.or_true]
 have qn:ch C run ops (before ops) (H++[lb]) 0 [⟨some d0,.load tl (.tmp p),y0,s0,a0,none⟩,⟨some d1,.load el (.tmp q),y1,s1,a1,none⟩,⟨some d2,.call ⟨.builtin .len,#[.tmp d0],#[tl]⟩,y2,s2,a2,none⟩,
   ⟨some d3,.buildSlice tl 1 #[(0,c)],y3,s3,a3,none⟩,⟨some d4,.call ⟨.builtin .append,#[.tmp d0,.tmp d3],#[tl,tl]⟩,y4,s4,a4,none⟩,⟨some d5,.indexAddr tl (.tmp d4) (.tmp d2),y5,s5,a5,none⟩,
   ⟨none,.store el (.tmp d5) (.tmp d1),y6,s6,a6,none⟩,⟨none,.store tl (.tmp p) (.tmp d4),y7,s7,a7,none⟩] ⟨al L Y,H++[lb]⟩=some ⟨al ([(d5,.ptr id ep es.length 0),(d4,.aj id ep 0 (es.length+1)),(d3,.aa true [z]),(d2,.int .i64 es.length),(d1,.agg us),(d0,v)]++L) Y,k7⟩:=by
  rw[ch,Wx rfl rfl G0 (v:=v) (by simp only[aC,ev,ap,L0,Option.map_some])];dsimp only;rw[ch,Wx rfl rfl G1 (v:=.agg us) (by simp only[aC,ev,al,f2,if_false,aq,L1,Option.map_some])];dsimp only;rw[ch,SX rfl rfl rfl dO (v:=.int .i64 es.length) (h':=H++[lb]) (by simp[ar,br,ev,al,g3,L2]) (Nat.le_refl _) (λ_ _ h _=>h)];dsimp only;rw[ch,Xu rfl rfl rfl (v:=.aa true [z]) (by simp only[aC,List.map_cons,List.map_nil,C1])];dsimp only;rw[ch,SX rfl rfl rfl Qa (v:=.aj id ep 0 (es.length+1)) (h':=k4) (by simp[ar,br,ev,al,g3,g4,g5,lW]) ZD kk4];dsimp only;rw[ch,Wx rfl rfl G5 (v:=.ptr id ep es.length 0) (by simp[aC,ev,al,j5,j6,L5])];dsimp only;rw[ch,kSt rfl rfl rfl hl6 (v:=.undef) (h':=k6) (by simp[ar,aC,ev,al,i4,i5,i6,i7,L6]) (by simp[k6]) kk6];dsimp only;rw[ch,kSt rfl rfl rfl hl7 (v:=.undef) (h':=k7) (by simp[ar,aC,ev,al,e2,e3,e4,e5,e6,e7,l7,ap,L7]) (by simp[k7]) kk7]
  rfl
 rw[qn];dsimp only
 have P6:ra ops (before ops) (al ([(d5,.ptr id ep es.length 0),(d4,.aj id ep 0 (es.length+1)),(d3,.aa true [z]),(d2,.int .i64 es.length),(d1,.agg us),(d0,v)]++L) Y)=true:=by
  simp[ra,zo,ev,al,e2,e3,e4,e5,e6,e7,ap,Ui]
 rw[if_pos ⟨y9,P6⟩]
theorem XC{C:cG}(T:kJ C.P){tl:TypeId}{c:Operand}{z:PV}(x:zp T tl 1 [(0,c)] [] (λ_ es=>es=[z]))(hv:ao [z]=true)(Y:Nat->PV)(h:ab):dE C.P 1 h tl 1 [(0,ev Y c)]=some (.aa true [z],h):=by
 obtain⟨sz,es,rfl,e⟩:=mZ T x;have:=e Y h 1;rw[if_pos hv]at this;exact this
structure Apd(H:ab)(ip:Nat)(v:PV)(es us:List PV)(id ep:Nat)(h':ab):Prop where
 len:H.length+1<=h'.length
 idp:id≠ip
 idn:id≠H.length
 idv:id∈cg v\/H.length<id
 at':h'[id]?=some ⟨.m,ep,4,es++[.agg us]⟩
 var:h'[ip]?=some ⟨.m,0,1,[.aj id ep 0 (es.length+1)]⟩
 fr:∀j,j≠id->j≠ip->h'[j]?=(H++[⟨.m,0,4,[.agg us]⟩])[j]?
theorem SY.apd{C:cG}{T:kJ C.P}{ops:Array Oper}{L:Al}{H:ab}{Q:Al->ab->Prop}{d0 d1 d2 d3 d4 d5 p q ip fY:Nat}{tl el:TypeId}{c:Operand}{z v:PV}{us es:List PV}
  {y0 y1 y2 y3 y4 y5 y6 y7:TypeId} {s0 s1 s2 s3 s4 s5 s6 s7:String} {a0 a1 a2 a3 a4 a5 a6 a7:Array Edge}
  (h2:H[ip]?=some ⟨.m,0,1,[v]⟩) (ho:Out 4 H v es) (hv:∀i∈cg v,i≠ip) (hn:es.length<100000000)
  (kk:∀id ep h',Apd H ip v es us id ep h'->Rn (Q ([(d5,.ptr id ep es.length 0),(d4,.aj id ep 0 (es.length+1)),(d3,.aa true [z]),(d2,.int .i64 es.length),(d1,.agg us),(d0,v)]++L) h'))
  (Ja:ops.toList=[⟨some d0,.load tl (.tmp p),y0,s0,a0,none⟩,⟨some d1,.load el (.tmp q),y1,s1,a1,none⟩,⟨some d2,.call ⟨.builtin .len,#[.tmp d0],#[tl]⟩,y2,s2,a2,none⟩,
   ⟨some d3,.buildSlice tl 1 #[(0,c)],y3,s3,a3,none⟩,⟨some d4,.call ⟨.builtin .append,#[.tmp d0,.tmp d3],#[tl,tl]⟩,y4,s4,a4,none⟩,⟨some d5,.indexAddr tl (.tmp d4) (.tmp d2),y5,s5,a5,none⟩,
   ⟨none,.store el (.tmp d5) (.tmp d1),y6,s6,a6,none⟩,⟨none,.store tl (.tmp p) (.tmp d4),y7,s7,a7,none⟩]:=by rfl)
  (P9:us.length=4:=by rfl) (huo:us.all bC=true:=by rfl)
  (hp:lk L p=some (.ptr ip 0 0 0):=by rfl) (hq:lk L q=some (.ptr H.length 0 0 0):=by rfl) (hd:[p,q,d0,d1,d2,d3,d4,d5].Nodup:=by decide)
  (tO:∀Y,gM ops (before ops) (al L Y)=[H.length]:=by intro _;rfl)
  (HG:ll ops (before ops) 0=true:=by rfl) (hr5:ll ops (before ops) 5=true:=by rfl) (zo:sinks ops (before ops)=some (.tmp d5,.tmp p):=by rfl)
  (c06:q8 (before ops) 0 (ops.size - 2)=true:=by rfl) (c07:q8 (before ops) 0 (ops.size - 1)=true:=by rfl) (c56:q8 (before ops) 5 (ops.size - 2)=true:=by rfl)
  (dO:jf ops (before ops) 2 false=true:=by rfl) (Qa:jf ops (before ops) 4 false=true:=by rfl) (hl6:jf ops (before ops) 6 false=true:=by rfl) (hl7:jf ops (before ops) 7 false=true:=by rfl)
  (hk:T.kd tl=some (.sl el):=by rfl) (hs:T.ts el=some 4:=by rfl) (ha:T.ta el=some true:=by rfl) (Jb:T.ts tl=some 1:=by rfl) (HI:T.ta tl=some false:=by rfl) (hb:T.tb el=some fY:=by rfl) (jb:fY<=1000:=by decide) (hz:T.tz el=some z:=by rfl) (Qb:(cells z).length=4:=by rfl) (Wy:(cells z).all bC=true:=by rfl)
  (hx:zp T tl 1 [(0,c)] [] (λ_ es=>es=[z]):=by exact rfl) (hxv:ao [z]=true:=by rfl) (ZI:rY ops=true:=by rfl):SY T ops L (H++[⟨.m,0,4,[.agg us]⟩]) Q:=by
 obtain⟨id,ep,h',e,q1,q2,q3,q4,q5,q6,q7⟩:=LY T h2 ho hv hn P9 huo hp hq hd tO Ja HG hr5 zo c06 c07 c56 dO Qa hl6 hl7 hk hs ha Jb HI hb jb hz Qb Wy (XC T hx hxv);exact .calm _ h' e (kk id ep h' ⟨q1,q2,q3,q4,q5,q6,q7⟩) ZI
theorem SZ{C:cG}(T:kJ C.P){H:ab}{st xt el oQ:TypeId}{sz fY:Nat}{z v:PV}{full:Bool}{es ys:List PV}(hk:T.kd st=some (.sl el))(gf:T.kd xt=some (.sl oQ))(hs:T.ts el=some (sz+1))(hb:T.tb el=some fY)(hz:T.tz el=some z)(jb:fY<=1000)(hl:(cells z).length=sz+1)(ho:(cells z).all bC=true)
  (o:Out (sz+1) H v es) (hy:dj (sz+1) ys) (hn:es.length+ys.length<1000000000) (gK:ao es=true) (oY:ao ys=true) (hH:HV H):
  ∃r H',bJ C.P 2 H st xt v (.aa full ys)=some (r,H')/\Out (sz+1) H' r (es++ys)/\HV H'/\H.length<=H'.length/\(∀(j:Nat) (o:au),H[j]?=some o->o.mu≠.m->H'[j]?=some o)/\∀(j:Nat) (o:au),H'[j]?=some o->o.mu≠.l\/H[j]?=some o:=by
 by_cases bN:ys=[]
 ·subst bN;refine⟨v,H,?_,by simpa using o,hH,aa5 _,λ_ _ h _=>h,λ_ _ h=>.inr h⟩;unfold dj at hy;unfold bJ;rw[bp (T.cQ _ _ hk)];simp only[T.eA _ _ hs,T.rS _ _ hb,T.mM _ _ hz,cA,bp (T.cQ _ _ gf),cf];rw[if_pos ⟨by omega,by omega,⟨hl,ho⟩,hy⟩];rcases o with⟨rfl,_⟩|⟨id,ep,rfl,e⟩;simp
  ·simp only[bm e rfl (by simp:Mu.m≠Mu.x)];rw[if_pos ⟨by simp,trivial⟩];simp
 ·have wZ:ys.isEmpty=false:=by cases ys with |nil=>exact absurd rfl bN |cons=>rfl
  rcases o with⟨rfl,rfl⟩|⟨id,ep,rfl,e⟩
  ·refine⟨_,_,gE T (h:=H) (lv:=2) (full:=full) (by omega) hk gf hs hb hz jb hl ho hy wZ (by simpa using hn),.inr ⟨H.length,0,by simp,by simp⟩,hH.c8 (HV.one oY),by simp,λj o h _=>by rw[aa3 (ag h)];exact h,λj o h=>?_⟩
   by_cases hj:j<H.length
   rw[aa3 hj]at h;exact .inr h
   ·have cL:=ag h;simp at cL;have:j=H.length:=by omega
    subst this;simp at h;subst h;exact .inl (by simp)
  ·have cL:=ag e;have:=lc T (h:=H) (full:=full) (len:=es.length) hk gf hs hb hz jb hl ho hy wZ hn (bm e rfl (by simp)) rfl rfl (aa5 _);rw[ab2]at this;refine⟨_,_,this,.inr ⟨id,ep+1,by simp,aa7 cL⟩,hH.set id (by simp) (by simp[bj]at gK oY ⊢;exact⟨gK,oY⟩),by simp,λj o h hm=>?_,λj o h=>?_⟩
   ·by_cases hj:j=id
    ·subst hj;rw[e]at h;cases h;exact absurd rfl hm
    ·rw[aa8 (by omega)];exact h
   ·by_cases hj:j=id
    ·subst hj;rw[aa7 cL]at h;cases h;exact .inl (by simp)
    ·rw[aa8 (by omega)]at h;exact .inr h
section
variable{C:cG}(T:kJ C.P){run:gW}{ops:Array Oper}{b:List Nat}{h0:ab}{i:Nat}{L:Al}{Y:Nat->PV}{h:ab}
theorem rT{o:Oper}{r:List Oper}{s s':St}(e:cT C run ops b h0 i o s=some s'):ch C run ops b h0 i (o::r) s=ch C run ops b h0 (i+1) r s':=by rw[ch,e]
theorem kP{d:Nat}{op:Op}{v:PV}{y:TypeId}{s:String}{a:Array Edge}(hs:xa T op L (λx=>x=v)):cT C run ops b h0 i ⟨some d,op,y,s,a,none⟩ ⟨al L Y,h⟩=some ⟨al ((d,v)::L) Y,h⟩:=by
 obtain⟨hh,v',e,rfl⟩:=qo T hs;unfold cT;simp only[bu,hh,if_true,e,b8]
theorem kR{d:Nat}{op:Op}{v:PV}{y:TypeId}{s:String}{a:Array Edge}(hs:so T op L h (λx=>x=v))(hg:qJ op (al L Y)=none)(hr:gU op=true:=by rfl):cT C run ops b h0 i ⟨some d,op,y,s,a,none⟩ ⟨al L Y,h⟩=some ⟨al ((d,v)::L) Y,h⟩:=by
 obtain⟨hh,v',e,rfl⟩:=jN T hs;refine Wx hh hr (by simp only[kG,hg]) ?_;have:=e run 1 Y
 cases op <;>first |exact this |(cases hr)
end
theorem Qf{C:cG}(T:kJ C.P){L:Al}{Y:Nat->PV}{M:ab}{t:TypeId}{n:Nat}{ps:Array (Nat×Operand)}{vs:List PV}(x:zp T t n ps.toList L (λ_ es=>es=vs))(hv:ao vs=true):aC C.P 1 (.buildSlice t n ps) (al L Y) M=some (.aa true vs,M):=by
 obtain⟨sz,es,rfl,e⟩:=mZ T x;have:=e Y M 1;rw[if_pos hv]at this;simpa only[aC]using this
theorem Fv{C:cG}{ops:Array Oper}{L L':Al}{H h':ab}(tO:∀Y,gM ops (before ops) (al L Y)=[])(zo:sinks ops (before ops)=none)(y9:∀(j:Nat) (o:au),h'[j]?=some o->o.mu≠.l\/H[j]?=some o)
  (qn:∀run Y,ch C run ops (before ops) H 0 ops.toList ⟨al L Y,H⟩=some ⟨al L' Y,h'⟩):∀run Y,jg C run ops ⟨al L Y,H⟩=some ⟨al L' Y,h'⟩:=by
 intro run Y
 have h1:∀x:ab,cE [] x=x:=λx=>by
  apply ab8
  intro i
  rw[k9];simp
 have h2:dW [] H h'=h':=by
  apply ab8
  intro i
  rw[mY];simp
 unfold jg;rw[tO,h1,qn];dsimp only
 have hn:q9 [] H h'=true:=tP λj o h=>by
  rcases y9 j o h with h |h;exact .inl h;exact .inr (.inr h)
 rw[if_pos ⟨hn,by simp only[ra,zo]⟩,h2]
structure Py(ids:List Nat)(h h':ab):Prop where
 len:h'.length=h.length
 same:∀j,j∉ids->h'[j]?=h[j]?
 nL:∀(j:Nat) (o:au),h[j]?=some o->∃mu:Mu,h'[j]?=some ⟨mu,o.ep,o.bA,o.es⟩/\(mu=o.mu\/mu=.f)
theorem Py.refl(ids:List Nat)(h:ab):Py ids h h:=⟨rfl,λ_ _=>rfl,λj o e=>⟨o.mu,e,.inl rfl⟩⟩
theorem Py.hr{ids:List Nat}{h h':ab}(z:Py ids h h')(H:HR h):HR h':=by
 intro o ho
 obtain⟨j,hj,rfl⟩:=adC ho;have E2:j<h.length:=by rw[<-z.len];exact hj
 obtain⟨mu,e,hm⟩:=z.nL j h[j] (aa6 E2);rw[aa6 hj]at e;have e:=aa2 e;obtain⟨h1,h2⟩:=H h[j] (abF E2);rw[e,z.len];refine⟨?_,h2⟩;rcases hm with rfl |rfl;exact h1;simp
theorem xC:∀{ids:List Nat} {h h':ab},fG h ids=some h'->Py ids h h'
 |[],h,h',e=>by
  simp only[fG,abw]at e;subst e;exact .refl _ _
 |id::r,h,h',e=>by
  unfold fG at e
  split at e
  ·rename_i h1 e1
   have a:=xC e;unfold kU at e1
   split at e1
   ·rename_i o ho
    split at e1
    ·obtain rfl:=aa2 e1;refine⟨by rw[a.len,adx],λj hj=>?_,λj o' hj=>?_⟩
     ·rw[abc,not_or]at hj;rw[a.same j hj.2,aa8 (λhh=>hj.1 hh.symm)]
     ·by_cases zl:id=j
      ·subst zl;obtain rfl:=aa2 (ho.symm.trans hj);obtain⟨mu,q1,q2⟩:=a.nL id _ (aa7 (ag ho));exact⟨mu,q1,.inr (by rcases q2 with rfl |rfl <;>rfl)⟩
      ·exact a.nL j o' (by rw[aa8 zl];exact hj)
    cases e1
   cases e1
  cases e
theorem ai.Yj{C:cG}{f:FuncId}{args args':List PV}{h:ab}{rv:PV}{Q:PV->ab->Prop}(hb:ie h args=some args')(Tr:ao args=false)(Fh:∀id∈jA args,∃o:au,h[id]?=some o/\ao o.es=true/\(o.mu=.m\/o.mu=.f))(a:aL C f (aU args') rv)(q:∀h',Py (jA args) h h'->Q rv h')(hm:C.mode f=.pure:=by rfl):ai C 2 f args h Q:=by
 obtain⟨n0,hn⟩:=a;obtain⟨hf,ef⟩:=Pz _ _ Fh;refine⟨rv,if(eT rv ||ql h (jA args))=true then h else hf,q _ ?_,n0,λn h1=>?_⟩
 ·split
  ·exact .refl _ _
  ·exact xC ef
 obtain⟨r0,hc,r1,e1,e3,e4⟩:=hn n h1;have Cz:eT r1=eT rv:=by have:=li r1;rw[e4]at this;exact this.symm
 unfold di;rw[hm];simp only[dV,Tr,abi,if_false,hb,e1,e3,Cz,e4]
 split
 rfl
 simp[ef]
inductive vZ(h:ab):List Nat->List PV->List cW->Prop
 |nil:vZ h [] [] []
 |snoc {ids:List Nat} {es:List PV} {ds:List cW} {w:PV} {d:cW}:vZ h ids es ds->Out 4 h w (ae d.kn)->vZ h (ids++cg w) (es++[.agg [w,.int .i64 d.tm.k,.str d.tm.s,.int .i64 d.tm.o,.aa false (ae d.tm.l)]]) (ds++[d])
theorem vZ.len{h:ab}{ids:List Nat}{es:List PV}{ds:List cW}(n:vZ h ids es ds):es.length=ds.length:=by
 induction n with
 |nil=>rfl
 |snoc _ _ ih=>simp[ih]
theorem vZ.of_eq{h h':ab}{ids:List Nat}{es:List PV}{ds:List cW}(n:vZ h ids es ds):(∀i∈ids,h'[i]?=h[i]?)->vZ h' ids es ds:=by
 induction n with
 |nil=>exact λ_=>.nil
 |snoc _ o ih=>exact λhe=>.snoc (ih λi hi=>he i (by simp[hi])) (o.of_eq λi hi=>he i (by simp[hi]))
theorem vZ.lt{h:ab}{ids:List Nat}{es:List PV}{ds:List cW}(n:vZ h ids es ds):∀i∈ids,i<h.length:=by
 induction n with
 |nil=>intro i hi;cases hi
 |snoc _ o ih=>
  intro i hi
  rcases aa9.1 hi with hi |hi;exact ih i hi;exact o.oU i hi
theorem vZ.PA{h:ab}{ids:List Nat}{es:List PV}{ds:List cW}(n:vZ h ids es ds):bL (λi=>decide (i<h.length)) es=true:=by
 induction n with
 |nil=>rfl
 |snoc _ o ih=>
  rw[gj,ab5,<-gj,ih];simp[bw,bL,o.bw]
theorem vZ.ok{h:ab}{ids:List Nat}{es:List PV}{ds:List cW}(n:vZ h ids es ds):∀e∈es,(cells e).length=5:=by
 induction n with
 |nil=>intro e he;cases he
 |snoc _ o ih=>
  intro e he
  rcases aa9.1 he with he |he;exact ih e he;simp at he;rw[he];rfl
theorem Ax{f:PV->Option PV}:∀{a b a' b':List PV},gv f a=some a'->gv f b=some b'->gv f (a++b)=some (a'++b')
 |[],b,a',b',h1,h2=>by
  simp only[gv,abw]at h1;subst h1;exact h2
 |c::a,b,a',b',h1,h2=>by
  simp only[gv]at h1
  split at h1
  ·rename_i c' r' e1 e2
   obtain rfl:=aa2 h1;simp[gv,e1,Ax e2 h2]
  cases h1
theorem Ts{n:Nat}{h:ab}{id ep len:Nat}{o:au}{r:List PV}(hg:getM h id ep=some o)(hl:len<=o.es.length)(hm:o.mu=.m\/o.mu=.f)(hr:gv (qk n h) (o.es.take len)=some r):qk (n+1) h (.aj id ep 0 len)=some (.aa false r):=by
 rw[qk];simp only[hg];rw[if_pos ⟨by omega,hm⟩,acb,hr]
 rfl
theorem Nh{n:Nat}{h:ab}{cs r:List PV}(hr:gv (qk n h) cs=some r):qk (n+1) h (.agg cs)=some (.agg r):=by
 rw[qk,hr]
 rfl
theorem fU{f:PV->Option PV}{c c':PV}{r r':List PV}(h1:f c=some c')(h2:gv f r=some r'):gv f (c::r)=some (c'::r'):=by
 simp only[gv,h1,h2]
theorem Ay{n:Nat}{h:ab}{k:IntKind}{i:Int}:qk n h (.int k i)=some (.int k i):=by cases n <;>rfl
theorem Ni{n:Nat}{h:ab}{s:ByteArray}:qk n h (.str s)=some (.str s):=by cases n <;>rfl
theorem H9{n:Nat}{h:ab}{f:Bool}{es:List PV}:qk n h (.aa f es)=some (.aa f es):=by cases n <;>rfl
theorem QJ(n:Nat)(h:ab)(t:Tm):qk (n+1) h (enc t)=some (enc t):=by
 rw[aw];exact Nh (fU Ay (fU Ni (fU Ay (fU H9 rfl))))
theorem DA(n:Nat)(h:ab):∀l:List Tm,gv (qk (n+1) h) (ae l)=some (ae l)
 |[]=>rfl
 |t::l=>by rw[ae];exact fU (QJ n h t) (DA n h l)
theorem Vd{n:Nat}{h:ab}{w:PV}{d:cW}(o:Out 4 h w (ae d.kn)):∃r,qk (n+3) h (.agg [w,.int .i64 d.tm.k,.str d.tm.s,.int .i64 d.tm.o,.aa false (ae d.tm.l)])=some r/\bW r=jz d:=by
 rcases o with⟨rfl,e⟩|⟨id,ep,rfl,e⟩;exact⟨.agg [.aa true [],.int .i64 d.tm.k,.str d.tm.s,.int .i64 d.tm.o,.aa false (ae d.tm.l)],Nh (fU H9 (fU Ay (fU Ni (fU Ay (fU H9 rfl))))),by simp[bW,aU,bg,oh,e]⟩
 ·refine⟨.agg [.aa false (ae d.kn),.int .i64 d.tm.k,.str d.tm.s,.int .i64 d.tm.o,.aa false (ae d.tm.l)],?_,by simp[bW,aU,bg,oh]⟩;have hg:=bm e rfl (by simp);have hm:=DA n h d.kn;have h1:qk (n+2) h (.aj id ep 0 (ae d.kn).length)=some (.aa false (ae d.kn)):=Ts hg (aa5 _) (.inl rfl) (by rw[ab2];exact hm);exact Nh (fU h1 (fU Ay (fU Ni (fU Ay (fU H9 rfl)))))
theorem vZ.qk{h:ab}{ids:List Nat}{es:List PV}{ds:List cW}(n:vZ h ids es ds)(k:Nat):∃es',gv (qk (k+3) h) es=some es'/\aU es'=aQ ds:=by
 induction n with
 |nil=>exact⟨[],rfl,rfl⟩
 |snoc _ o ih=>
  obtain⟨a,h1,h2⟩:=ih;obtain⟨r,h3,h4⟩:=Vd (n:=k) o;refine⟨a++[r],Ax h1 (by simp[gv,h3]),?_⟩;rw[cJ,abT,<-cJ,h2];simp[aQ,h4]
theorem vZ.ZZ{h:ab}{ids:List Nat}{es:List PV}{ds:List cW}(n:vZ h ids es ds):ao es=true->aU es=aQ ds:=by
 induction n with
 |nil=>exact λ_=>rfl
 | @snoc ids es ds w d _ o ih=>
  intro hv
  rw[bj,ab5,abb,<-bj,<-bj]at hv;rw[cJ,abT,<-cJ,ih hv.1]
  have hw:aV w=true:=by
   have:=hv.2;simp[ao,aV]at this;exact this
  rcases o with⟨rfl,e⟩|⟨id,ep,rfl,e⟩;simp[bW,aU,bg,aQ,oh,e];simp[aV]at hw
theorem vZ.ret{h:ab}{v:PV}{ids:List Nat}{es:List PV}{ds:List cW}(o:Out 5 h v es)(n:vZ h ids es ds):∃r1,Bm h (aT [v])=some r1/\bW r1=.aa false (aQ ds):=by
 show∃r1,Bm h v=some r1/\bW r1=.aa false (aQ ds);rcases o with⟨rfl,rfl⟩|⟨id,ep,rfl,e⟩
 ·have:=n.len;obtain rfl:=abj (show ds.length=0 by simpa using this.symm);exact⟨_,rfl,rfl⟩
 ·have hg:=bm e rfl (by simp)
  by_cases hv:ao es=true
  ·refine⟨.aa false es,?_,by simp[bW,n.ZZ hv]⟩;simp[Bm,rb,kY,oE,hg,hv]
  ·obtain⟨es',h1,h2⟩:=n.qk 4;refine⟨.aa false es',?_,by simp[bW,h2]⟩;have h3:rb h (.aj id ep 0 es.length)=none:=by simp[rb,kY,oE,hg,hv]
   simp only[Bm,h3];exact Ts hg (aa5 _) (.inl rfl) (by rw[ab2];exact h1)
structure JE(H:ab)(v:PV)(sz:Nat)(es ys:List PV)(r:PV)(H':ab):Prop where
 out:Out sz H' r (es++ys)
 cs:(H'=H/\r=v/\ys=[])\/(H'=H++[⟨.m,0,sz,ys⟩]/\r=.aj H.length 0 0 ys.length/\es=[])\/∃id ep,v=.aj id ep 0 es.length/\H[id]?=some ⟨.m,ep,sz,es⟩/\H'=H.set id ⟨.m,ep+1,sz,es++ys⟩/\r=.aj id (ep+1) 0 (es.length+ys.length)
section
variable{H H':ab}{v r:PV}{sz:Nat}{es ys:List PV}
theorem JE.len(a:JE H v sz es ys r H'):H.length<=H'.length:=by
 rcases a.cs with⟨rfl,_⟩|⟨rfl,_⟩|⟨id,ep,_,_,rfl,_⟩ <;>simp
theorem JE.fr(a:JE H v sz es ys r H')(j:Nat)(hj:j<H.length)(hv:j∉cg v):H'[j]?=H[j]?:=by
 rcases a.cs with⟨rfl,_⟩|⟨rfl,_⟩|⟨id,ep,rfl,_,rfl,_⟩
 rfl
 exact aa3 hj;exact aa8 (λh=>hv (by simp[cg,h]))
theorem JE.cg(a:JE H v sz es ys r H'):∀i∈Pm.cg r,i∈Pm.cg v\/H.length<=i:=by
 intro i hi
 rcases a.cs with⟨_,rfl,_⟩|⟨_,rfl,_⟩|⟨id,ep,rfl,_,_,rfl⟩;exact .inl hi;simp[Pm.cg]at hi;exact .inr (by omega);exact .inl (by simpa[Pm.cg]using hi)
theorem JE.hr(a:JE H v sz es ys r H')(hR:HR H)(Ga:bL (λi=>decide (i<H.length)) (es++ys)=true):HR H':=by
 rcases a.cs with⟨rfl,_⟩|⟨rfl,_,rfl⟩|⟨id,ep,_,_,rfl,_⟩;exact hR;exact hR.Nj (by simp) (eQ (f:=λi=>decide (i<H.length)) (λi hi=>by have:=of_decide_eq_true hi;exact decide_eq_true (by omega)) _ (by simpa using Ga));exact hR.set id (by simp) Ga
theorem JE.aR(a:JE H v sz es ys r H'):∀(j:Nat) (o:au),H[j]?=some o->o.mu≠.m->H'[j]?=some o:=by
 intro j o h hm
 rcases a.cs with⟨rfl,_⟩|⟨rfl,_⟩|⟨id,ep,_,e,rfl,_⟩;exact h;rw[aa3 (ag h)];exact h
 ·by_cases hj:id=j
  ·subst hj;rw[e]at h;cases h;exact absurd rfl hm
  ·rw[aa8 hj];exact h
theorem JE.FM(a:JE H v sz es ys r H'):∀(j:Nat) (o:au),H'[j]?=some o->o.mu≠.l\/H[j]?=some o:=by
 intro j o h
 rcases a.cs with⟨rfl,_⟩|⟨rfl,_⟩|⟨id,ep,_,e,rfl,_⟩;exact .inr h
 ·by_cases hj:j<H.length
  ·rw[aa3 hj]at h;exact .inr h
  ·have cL:=ag h;simp at cL;obtain rfl:j=H.length:=by omega
   simp at h;subst h;exact .inl (by simp)
 ·by_cases hj:id=j
  ·subst hj;rw[aa7 (ag e)]at h;cases h;exact .inl (by simp)
  ·rw[aa8 hj]at h;exact .inr h
end
theorem Bz{C:cG}(T:kJ C.P){H:ab}{st xt el oQ:TypeId}{sz fY:Nat}{z v u:PV}{es ys:List PV}(hk:T.kd st=some (.sl el))(gf:T.kd xt=some (.sl oQ))(hs:T.ts el=some (sz+1))(hb:T.tb el=some fY)(hz:T.tz el=some z)(jb:fY<=1000)(hl:(cells z).length=sz+1)(ho:(cells z).all bC=true)
  (o:Out (sz+1) H v es) (hu:cf H u=some ys) (Ve:∀i∈cg v,i∉cg u) (hy:dj (sz+1) ys) (hn:es.length+ys.length<1000000000):∃r H',bJ C.P 2 H st xt v u=some (r,H')/\JE H v (sz+1) es ys r H':=by
 unfold dj at hy
 have hA:bJ C.P 2 H st xt v u=match(generalizing:=false) v with
   | .aa full es=>if ys.isEmpty then some (v,H)else if full=true/\1<=2/\roomy (es.length+ys.length) fY=true/\es.all (λv=>decide ((cells v).length=sz+1)&& (cells v).all bC)=true then some (.aj H.length 0 0 (es.length+ys.length),newObj H (sz+1) (es++ys))else none
   | .aj id ep off len=>match getM H id ep with
    |some o=>if off+len<=o.es.length/\sz+1=o.bA then
      if ys.isEmpty then some (v,H)
      else if off=0/\2<=2/\o.mu=.m/\j3 id u=true/\len+ys.length<=o.es.length then some (.aj id ep 0 (len+ys.length),H.set id {o with es:=o.es.take len++ys++o.es.drop (len+ys.length)})
      else if off=0/\2<=2/\o.mu=.m/\roomy (len+ys.length) fY=true then some (.aj id (ep+1) 0 (len+ys.length),H.set id {o with ep:=ep+1,es:=o.es.take len++ys})else none
     else none
    |none=>none
   |_=>none:=by
  unfold bJ;rw[bp (T.cQ _ _ hk)];simp only[T.eA _ _ hs,T.rS _ _ hb,T.mM _ _ hz,cA,bp (T.cQ _ _ gf),hu];rw[if_pos ⟨by omega,by omega,⟨hl,ho⟩,hy⟩]
  rfl
 rw[hA]
 by_cases bN:ys=[]
 ·subst bN;rcases o with⟨rfl,rfl⟩|⟨id,ep,rfl,e⟩;exact⟨_,_,rfl,.inl ⟨rfl,rfl⟩,.inl ⟨rfl,rfl,rfl⟩⟩
  ·refine⟨.aj id ep 0 es.length,H,?_,.inr ⟨id,ep,by simp,by simpa using e⟩,.inl ⟨rfl,rfl,rfl⟩⟩;simp[bm e rfl (by simp:Mu.m≠Mu.x)]
 ·have wZ:ys.isEmpty=false:=by cases ys with |nil=>exact absurd rfl bN |cons=>rfl
  rcases o with⟨rfl,rfl⟩|⟨id,ep,rfl,e⟩
  ·refine⟨.aj H.length 0 0 ys.length,H++[⟨.m,0,sz+1,ys⟩],?_,.inr ⟨H.length,0,by simp,by simp⟩,.inr (.inl ⟨rfl,rfl,rfl⟩)⟩;have hr:roomy ys.length fY=true:=im (by simpa using hn) jb
   simp[wZ,hr,newObj]
  ·refine⟨.aj id (ep+1) 0 (es.length+ys.length),H.set id ⟨.m,ep+1,sz+1,es++ys⟩,?_,.inr ⟨id,ep+1,by simp,aa7 (ag e)⟩,.inr (.inr ⟨id,ep,rfl,e,rfl,rfl⟩)⟩;have hr:roomy (es.length+ys.length) fY=true:=im hn jb
   have P6:j3 id u=false:=by
    have:=Ve id (by simp[cg])
    cases u <;>simp_all[j3,cg]
    omega
   simp[bm e rfl (by simp:Mu.m≠Mu.x),wZ,hr,P6]
theorem FK{C:cG}(T:kJ C.P){lv:Nat}(E5:1<=lv){H:ab}{st xt el oQ:TypeId}{sz fY:Nat}{z u:PV}{es ys:List PV}(hk:T.kd st=some (.sl el))(gf:T.kd xt=some (.sl oQ))(hs:T.ts el=some (sz+1))(hb:T.tb el=some fY)(hz:T.tz el=some z)(jb:fY<=1000)(hl:(cells z).length=sz+1)(ho:(cells z).all bC=true)
  (hu:cf H u=some ys) (gK:dj (sz+1) es) (hy:dj (sz+1) ys) (hn:es.length+ys.length<1000000000):∃r J,bJ C.P lv H st xt (.aa true es) u=some (r,H++J)/\Ls (sz+1) (H++J) r (es++ys)/\(J=[]\/J=[⟨.m,0,sz+1,es++ys⟩])/\(∀i∈cg r,H.length<=i)/\(es=[]->Out (sz+1) (H++J) r ys):=by
 unfold dj at hy gK
 have hA:bJ C.P lv H st xt (.aa true es) u=if ys.isEmpty then some (.aa true es,H)else if true=true/\1<=lv/\roomy (es.length+ys.length) fY=true/\es.all (λv=>decide ((cells v).length=sz+1)&& (cells v).all bC)=true then some (.aj H.length 0 0 (es.length+ys.length),newObj H (sz+1) (es++ys))else none:=by
  unfold bJ;rw[bp (T.cQ _ _ hk)];simp only[T.eA _ _ hs,T.rS _ _ hb,T.mM _ _ hz,cA,bp (T.cQ _ _ gf),hu];rw[if_pos ⟨by omega,by omega,⟨hl,ho⟩,hy⟩]
 rw[hA]
 by_cases bN:ys=[]
 ·subst bN;exact⟨.aa true es,[],by simp,.inr ⟨true,by simp⟩,.inl rfl,by simp[cg],λh=>.inl ⟨by rw[h],rfl⟩⟩
 ·have wZ:ys.isEmpty=false:=by cases ys with |nil=>exact absurd rfl bN |cons=>rfl
  have hr:roomy (es.length+ys.length) fY=true:=im hn jb
  refine⟨.aj H.length 0 0 (es.length+ys.length),[⟨.m,0,sz+1,es++ys⟩],by rw[wZ,if_neg (by simp),if_pos ⟨rfl,by omega,hr,gK⟩];rfl,.inl (.inr ⟨H.length,0,by simp,by simp⟩),.inr rfl,by simp[cg],λh=>.inr ⟨H.length,0,by simp[h],by simp[h]⟩⟩
theorem HQ{C:cG}{ops:Array Oper}{L L':Al}{H h':ab}{c:Nat}(tO:∀Y,gM ops (before ops) (al L Y)=[c])(zo:sinks ops (before ops)=none)(hc:c<H.length)(y9:∀(j:Nat) (o:au),h'[j]?=some o->o.mu≠.l\/(cE [c] H)[j]?=some o)
  (qn:∀run Y,ch C run ops (before ops) (cE [c] H) 0 ops.toList ⟨al L Y,cE [c] H⟩=some ⟨al L' Y,h'⟩):∀run Y,jg C run ops ⟨al L Y,H⟩=some ⟨al L' Y,dW [c] H h'⟩:=by
 intro run Y
 unfold jg;rw[tO,qn];dsimp only
 have hn:q9 [c] H h'=true:=tP λj o h=>by
  rcases y9 j o h with h |h;exact .inl h
  ·by_cases hj:j=c
   ·subst hj;exact .inr (.inl ⟨by simp,hc⟩)
   ·rw[k9]at h;have:([c].contains j)=false:=by simp;exact hj
    simp only[this,abi,if_false,adi]at h;exact .inr (.inr h)
 rw[if_pos ⟨hn,by simp only[ra,zo]⟩]
theorem Vf{H:ab}{c j:Nat}(h:j≠c):(cE [c] H)[j]?=H[j]?:=by
 rw[k9];have:([c].contains j)=false:=by simp;exact h
 simp only[this,abi,if_false,adi]
theorem Nk{H:ab}{c ep sz:Nat}{es:List PV}(h:H[c]?=some ⟨.m,ep,sz,es⟩):(cE [c] H)[c]?=some ⟨.l,ep,sz,es⟩:=by
 rw[k9,h];simp[bI]
theorem BJ{H:ab}{c:Nat}:(cE [c] H).length=H.length:=by simp[cE]
theorem BA{H h:ab}{c j:Nat}(hj:j≠c):(dW [c] H h)[j]?=h[j]?:=by
 rw[mY];have:([c].contains j)=false:=by simp;exact hj
 simp only[this,abi,if_false,adi]
theorem Nl{H h:ab}{c:Nat}{o:au}(h0:H[c]?=some o)(hc:c<h.length):(dW [c] H h)[c]?=some o:=by
 rw[mY,h0,aa6 hc];simp
theorem Ia{H h:ab}{c:Nat}:(dW [c] H h).length=h.length:=by simp[dW]
theorem HR.QK{H:ab}{c:Nat}(hR:HR H):HR (cE [c] H):=by
 intro o ho
 obtain⟨j,hj,rfl⟩:=adC ho;have uL:j<H.length:=by rw[<-BJ (c:=c)];exact hj
 have e:=k9 [c] H j;rw[aa6 hj,aa6 uL]at e;simp only[abf,abw]at e;obtain⟨h1,h2⟩:=hR _ (abF uL);rw[e,BJ]
 split
 ·unfold bI
  split
  exact⟨by simp,h2⟩;exact⟨h1,h2⟩
 exact⟨h1,h2⟩
theorem HR.QL{H h:ab}{c:Nat}(hR:HR h)(hR0:HR H)(hle:H.length<=h.length):HR (dW [c] H h):=by
 intro o ho
 obtain⟨j,hj,rfl⟩:=adC ho;have uL:j<h.length:=by rw[<-Ia (H:=H) (c:=c)];exact hj
 rw[Ia]
 by_cases XD:j=c
 ·subst XD
  by_cases h0:j<H.length
  ·have e:=Nl (h:=h) (aa6 h0) uL;rw[aa6 hj]at e;rw[aa2 e];obtain⟨h1,h2⟩:=hR0 _ (abF h0);exact⟨h1,eQ (λi hi=>by have:=of_decide_eq_true hi;exact decide_eq_true (by omega)) _ h2⟩
  ·have e:=mY [j] H h j;rw[aa6 hj,aa6 uL,abl (Nat.not_lt.1 h0)]at e;simp at e;rw[e];exact hR _ (abF uL)
 ·have e:=BA (H:=H) (h:=h) XD;rw[aa6 hj,aa6 uL]at e;rw[aa2 e];exact hR _ (abF uL)
theorem kLd{C:cG}(T:kJ C.P){run:gW}{ops:Array Oper}{b:List Nat}{h0:ab}{i:Nat}{L:Al}{Y:Nat->PV}{h:ab}{d x c:Nat}{o:au}{t:TypeId}{v:PV}{y:TypeId}{s:String}{a:Array Edge}
  (hx:lk L x=some (.ptr c 0 0 0)) (hc:h0[c]?=some o) (hm:o.mu≠.m) (hs:so T (.load t (.tmp x)) L h (λy=>y=v)):cT C run ops b h0 i ⟨some d,.load t (.tmp x),y,s,a,none⟩ ⟨al L Y,h⟩=some ⟨al ((d,v)::L) Y,h⟩:=by
 obtain⟨hh,v',e,rfl⟩:=jN T hs;have hp:al L Y x=.ptr c 0 0 0:=dn hx Y;refine Wx hh rfl ?_ (by have:=e run 1 Y;exact this);have:qJ (.load t (.tmp x)) (al L Y)=some c:=by simp only[qJ,ev,hp]
 simp only[kG,this,nQ,hc];simp[hm]
theorem Yk{C:cG}(T:kJ C.P){run:gW}{L:Al}{Y:Nat->PV}{M G3:ab}{t:TypeId}{n z:Nat}{ps:Array (Nat×Operand)}{vs:List PV}{u:PV}(x:zp T t n ps.toList L (λsz es=>es=vs/\sz=z))(h:(ao vs=true/\u=.aa true vs/\G3=M)\/(ao vs=false/\u=.aj M.length 0 0 n/\G3=newObj M z vs)):ar C run 2 (.buildSlice t n ps) (al L Y) M=some (u,G3):=by
 obtain⟨sz,es,⟨rfl,rfl⟩,e⟩:=mZ T x;have:=e Y M 2;rcases h with⟨hv,rfl,rfl⟩|⟨hv,rfl,rfl⟩
 ·rw[hv,if_pos rfl]at this;simpa only[ar,aC]using this
 ·rw[hv,if_neg (by simp),if_pos (by omega)]at this;simpa only[ar,aC]using this
mutual
def AT:PV->PV->Bool
 | .int k n,.int k' n'=>decide (k=k')&&decide (n=n')
 | .bool a,.bool b=>a==b
 | .str a,.str b=>a.data.toList==b.data.toList
 | .agg cs,.agg ds=>Cb cs ds
 | .cy cs,.cy ds=>Cb cs ds
 | .aa f cs,.aa g ds=>(f==g)&&Cb cs ds
 | .gL,.gL=>true
 | .eJ,.eJ=>true
 | .aI,.aI=>true
 |_,_=>false
def Cb:List PV->List PV->Bool
 |[],[]=>true
 |c::cs,d::ds=>AT c d&&Cb cs ds
 |_,_=>false
end
mutual
theorem Ow:∀{a b:PV},AT a b=true->a=b
 | .int k n,b,h=>by cases b <;>simp[AT]at h;rw[h.1,h.2]
 | .bool x,b,h=>by cases b <;>simp[AT]at h;rw[h]
 | .str x,b,h=>by
  cases b <;>simp[AT]at h
  rename_i y
  cases x;cases y
  simp at h;rw[h]
 | .agg cs,b,h=>by cases b <;>simp[AT]at h;rw[tf h]
 | .cy cs,b,h=>by cases b <;>simp[AT]at h;rw[tf h]
 | .aa f cs,b,h=>by cases b <;>simp[AT]at h;rw[h.1,tf h.2]
 | .gL,b,h=>by cases b <;>simp[AT]at h;rfl
 | .eJ,b,h=>by cases b <;>simp[AT]at h;rfl
 | .aI,b,h=>by cases b <;>simp[AT]at h;rfl
 | .aj ..,b,h=>by simp[AT]at h
 | .ptr ..,b,h=>by simp[AT]at h
 | .eg _,b,h=>by simp[AT]at h
 | .cM _,b,h=>by simp[AT]at h
 | .fn ..,b,h=>by simp[AT]at h
 | .nK ..,b,h=>by simp[AT]at h
 | .undef,b,h=>by simp[AT]at h
 | .any,b,h=>by simp[AT]at h
theorem tf:∀{a b:List PV},Cb a b=true->a=b
 |[],b,h=>by cases b <;>simp[Cb]at h;rfl
 |c::cs,b,h=>by
  cases b with
  |nil=>simp[Cb]at h
  |cons d ds=>
   simp only[Cb,abb]at h;rw[Ow h.1,tf h.2]
end
abbrev lm:=List (FuncId×List PV×PV)
def gX(m:lm)(f:FuncId)(args:List PV):Option PV:=(m.find? λx=>Nat.beq x.1 f&&Cb x.2.1 args).map (·.2.2)
def lq(m:lm)(md:FuncId->Mode)(f:FuncId):Mode:=if m.any (λx=>Nat.beq x.1 f)=true then .ext (gX m f)else md f
variable{P:Program}{md:FuncId->Mode}
def kH(P:Program)(md:FuncId->Mode)(m:lm):Prop:=∀x∈m,md x.1=.pure/\aL ⟨P,md⟩ x.1 x.2.1 x.2.2
theorem AU:∀{m:lm},kH P md m->∃n0,∀x∈m,md x.1=.pure/\∀n,n0<=n->∃r0 hc r1,fa ⟨P,md⟩ n x.1 x.2.1 []=some (r0,hc)/\Bm hc r0=some r1/\bW r1=x.2.2
 |[],_=>⟨0,λx hx=>by cases hx⟩
 |y::m,h=>by
  obtain⟨n1,h1⟩:=AU (m:=m) λx hx=>h x (by simp[hx])
  obtain⟨hp,n2,h2⟩:=h y (by simp);refine⟨max n1 n2,λx hx=>?_⟩;rcases abc.1 hx with rfl |hx;exact⟨hp,λn hn=>h2 n (by omega)⟩;exact⟨(h1 x hx).1,λn hn=>(h1 x hx).2 n (by omega)⟩
theorem IC{m:lm}{n0:Nat}(hm:∀x∈m,md x.1=.pure/\∀n,n0<=n->∃r0 hc r1,fa ⟨P,md⟩ n x.1 x.2.1 []=some (r0,hc)/\Bm hc r0=some r1/\bW r1=x.2.2):∀n,iA (fa ⟨P,lq m md⟩ n) (fa ⟨P,md⟩ (n+n0))
 |0=>λf args h x e=>by cases e
 |n+1=>by
  have ih:=IC hm n;rw[show n+1+n0=(n+n0)+1 by omega];refine Ed (P:=P) (md:=lq m md) (md':=md) (run:=fa ⟨P,lq m md⟩ n) (run':=fa ⟨P,md⟩ (n+n0)) ?_ (by omega)
  intro lv f args h x e
  by_cases hf:m.any (λx=>Nat.beq x.1 f)=true
  ·unfold di at e;simp only[lq,if_pos hf]at e
   split at e
   ·rename_i hv
    obtain⟨r,hr,rfl⟩:=abS.1 e;obtain⟨y,hy,rfl⟩:=abS.1 hr;have QS:=List.find?_some hy;have hy2:=List.mem_of_find?_eq_some hy;simp only[abb]at QS;obtain rfl:=abR QS.1;have ha:=tf QS.2;obtain⟨hp,hq⟩:=hm y hy2;obtain⟨r0,hc,r1,e1,e2,e3⟩:=hq (n+n0) (by omega);unfold di;rw[show(⟨P,md⟩:cG).mode y.1=.pure from hp];rw[ha]at e1;simp only[dV,hv,if_true,e1,e2,e3]
   cases e
  ·have hmd:lq m md f=md f:=if_neg hf;unfold di at e ⊢;simp only[hmd]at e
   cases hq:md f <;>simp only[hq]at e ⊢
   cases e
   exact mJ ih e;exact mK ih e;exact e;exact j' (λ_ _ _ x=>x) e;exact e
theorem aL.Xl{m:lm}(hm:kH P md m){f:FuncId}{args:List PV}{r:PV}(a:aL ⟨P,lq m md⟩ f args r):aL ⟨P,md⟩ f args r:=by
 obtain⟨n0,hq⟩:=AU hm;obtain⟨n1,hn⟩:=a;refine⟨n1+n0,λn h1=>?_⟩;obtain⟨r0,hc,r1,e1,e2⟩:=hn (n - n0) (by omega);refine⟨r0,hc,r1,?_,e2⟩;have:=IC hq (n - n0) _ _ _ _ e1;rwa[show n - n0+n0=n by omega]at this
def Ox:Mode->Bool | .pure=>true |_=>false
theorem Kt{m:Mode}(h:Ox m=true):m=.pure:=by cases m <;>first |rfl |cases h
def ma(P:Program)(md:FuncId->Mode)(n:Nat)(rows:lm):Bool:=rows.all λx=>match pg ⟨P,md⟩ n x.1 x.2.1 with
 |some r=>AT r x.2.2
 |none=>false
theorem ls{m rows:lm}{n:Nat}(hm:kH P md m)(h1:ma P (lq m md) n rows=true)(h2:(rows.all λx=>Ox (md x.1))=true):kH P md (rows++m):=by
 intro x hx
 rcases aa9.1 hx with hx |hx
 ·refine⟨Kt (aa4.1 h2 x hx),?_⟩;have h3:=aa4.1 h1 x hx
  split at h3
  ·rename_i r hr
   rw[<-Ow h3];exact aL.Xl hm (aL.iE hr)
  cases h3
 exact hm x hx
end Go.Pm
