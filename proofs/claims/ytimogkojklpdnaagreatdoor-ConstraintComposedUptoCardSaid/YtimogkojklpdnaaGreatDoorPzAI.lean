/-
  A part of the library Pm (joined by program). Conditions: none.
-/
import Derived.Test.YtimogkojklpdnaaGreatDoorPzAA
import Derived.Test.YtimogkojklpdnaaGreatDoorPzAH
import Derived.Test.YtimogkojklpdnaaGreatDoorPzAE
import Derived.Test.YtimogkojklpdnaaGreatDoorPzAG
set_option linter.unusedVariables false
set_option linter.unusedSimpArgs false
set_option linter.unnecessarySimpa false
namespace Go.Pm
def eU(t:Tm)(n:ByteArray):Bool:=decide (t.k=3)&&gI t.s n
def gJ(t:Tm)(i:Nat):Tm:=t.l.getD i eL
def ko(t:Tm):Bool:=every AV t
def nG:ByteArray:=⟨#[103]⟩
def KO(s:List UInt8):Bool:=!s.isEmpty&&s.all λc=>oR c.toNat
def HC(s:List UInt8):Bool:=(s.take 2==[101,35])&&KO (s.drop 2)
def Et(t:Tm):Bool:=
 if t.k=3 then(gI t.s jj ||gI t.s sG)&&t.l.isEmpty
 else if t.k≠2 then false
 else if t.o=1\/t.o=5 then true
 else if t.o=4 then gI t.s nG ||HC t.s.toList
 else if t.o=0\/t.o=2\/t.o=3 then HC t.s.toList
 else false
def PY(s:ByteArray):Bool:=gI s jP ||gI s jt ||gI s fH ||gI s He ||gI s mJ ||gI s vP
def wz(t:Tm):Bool:=decide (t.k=3)&&PY t.s
def wA(t:Tm):Int:=if km t≠0 then km t else if eU t jt=true then 0 else if eU t fH=false then 10 else if eU (gJ t 1) He=false then 4 else 0
def rD(t:Tm):Tm:=if wA t≠0 then eL else if eU t jt=true then gJ t 1 else gJ (gJ t 1) 0
def oU(t:Tm):List Tm:=if eU t jP=true then t.l else if eU t mJ=true then t.l.take 1 else[]
inductive xN(u s:List Tm):Tm->Prop
 |base {t:Tm}:t∈s->xN u s t
 |pub {t:Tm}:t∈u->Et t=true->xN u s t
 |comp {t:Tm}:t∈u->wz t=true->(∀x∈t.l,xN u s x)->xN u s t
 |part {t x:Tm}:xN u s t->x∈oU t->xN u s x
 |open {t:Tm}:xN u s t->wA t=0->xN u s (rD t)->xN u s (gJ t 0)
def wx(s:List Tm)(u:Tm):Bool:=wz u&&u.l.all (cI s)
def tL(s:List Tm)(u t:Tm):Bool:=
 if eU t jP=true then decide (aT (gJ t 0) u=0)||decide (aT (gJ t 1) u=0)
 else if eU t mJ=true then decide (aT (gJ t 0) u=0)
 else if eU t jt ||eU t fH then decide (wA t=0)&&decide (aT (gJ t 0) u=0)&&cI s (rD t)
 else false
def tI(s:List Tm)(u:Tm):Bool:=s.any (tL s u)
def mI(s:List Tm)(u:Tm):Bool:=cI s u ||Et u ||wx s u ||tI s u
open Classical in
noncomputable def ya(u s:List Tm):List Tm:=u.filter λt=>decide (xN u s t)
structure KY(u:List Tm):Prop where
 AU:fK u
 kids:∀t∈u,∀x∈t.l,x∈u
 ok:∀t∈u,km t=0
 fr:∀t∈u,ko t=true
theorem SA{s n:ByteArray}(h:gI s n=true):s=n:=F6 (by simpa[gI]using h)
theorem KU{t:Tm}{n:ByteArray}(h:eU t n=true):t.k=3/\t.s=n:=by
 simp only[eU,ZD,decide_eq_true_eq]at h;exact⟨h.1,SA h.2⟩
theorem iE:∀{l:List Tm},rE l=0->∀t∈l,nP t=0
 |[],_,t,h=>by cases h
 |u::l,e,t,h=>by
  rw[rE]at e
  split at e
  ·rename_i hn;exact absurd e hn
  ·rcases ZF.1 h with rfl |h
   ·omega
   ·exact iE e t h
theorem mG{t:Tm}:km t=0↔valid t=0/\nP t=0:=by
 unfold km
 split
 ·constructor
  ·intro h;exact absurd h (by assumption)
  ·intro h;exact absurd h.1 (by assumption)
 ·constructor
  ·intro h;exact⟨by omega,h⟩
  ·exact λh=>h.2
theorem F7{s:ByteArray}{o:Int}{l:List Tm}(h:nP (.mk 3 s o l)=0):(cJ s).k≠0/\(cJ s).a<=l.length/\l.length<=(cJ s).b/\fN s l=true/\rE l=0:=by
 rw[nP,if_neg (by simp)]at h
 split at h
 ·omega
 ·split at h
  ·omega
  ·split at h
   ·omega
   ·rename_i h1 h2 h3
    exact⟨h1,by omega,by omega,by simpa using h3,h⟩
theorem uJ{t x:Tm}(h:km t=0)(hx:x∈t.l):km x=0:=by
 obtain⟨h1,h2⟩:=mG.1 h;obtain⟨k,s,o,l⟩:=t;simp only[Tm.l]at hx;refine mG.2 ⟨G7 h1 hx,?_⟩
 by_cases hk:k=3
 ·subst hk;exact iE (F7 h2).2.2.2.2 x hx
 ·exfalso;have h3:=(oD (fV.1 h1).1).1;unfold node at h3;have hl:l≠[]:=by intro hh;rw[hh]at hx;cases hx
  have hp:0<l.length:=aa8.2 hl
  (repeat' split at h3) <;>simp_all
  all_goals omega
theorem ss(t:Tm):∀x∈pre t,∀y∈pre x,y∈pre t:=by
 induction t using Tm.ind with
 |h k s o l ih=>
  intro x hx y hy
  rw[pre]at hx ⊢;rcases ZF.1 hx with rfl |hx
  ·rw[pre]at hy;exact hy
  ·obtain⟨u,hu,hx⟩:=eT.1 hx;exact aa4 _ (eT.2 ⟨u,hu,ih u hu x hx y hy⟩)
theorem Oh{t x:Tm}(hx:x∈t.l):x∈pre t:=by
 obtain⟨k,s,o,l⟩:=t;rw[pre];exact aa4 _ (eT.2 ⟨x,hx,oC x⟩)
theorem Oi(t:Tm):km t=0->∀x∈pre t,km x=0:=by
 induction t using Tm.ind with
 |h k s o l ih=>
  intro h x hx
  rw[pre]at hx;rcases ZF.1 hx with rfl |hx
  ·exact h
  ·obtain⟨u,hu,hx⟩:=eT.1 hx;exact ih u hu (uJ h hu) x hx
theorem zY{t x:Tm}(h:ko t=true)(hx:x∈pre t):ko x=true:=by
 unfold ko at h ⊢;rw[sf,Zw]at h ⊢;exact λy hy=>h y (ss t x hx y hy)
theorem N4{t:Tm}(h:ko t=true)(hk:t.k=3):AV t.s=true:=by
 unfold ko at h;rw[sf,Zw]at h;have:=h t (oC t);simpa[hk]using this
def jW(l:List Tm):List Tm:=kS (cZ l)
theorem Sv{l:List Tm}(h:∀t∈l,km t=0/\ko t=true):KY (jW l):=by
 have hm:∀y∈jW l,∃t∈l,y∈pre t:=λy hy=>eT.1 ((gX _ _).1 hy)
 refine⟨jO _,λt ht x hx=>?_,λt ht=>?_,λt ht=>?_⟩
 ·obtain⟨a,ha,hb⟩:=hm t ht;exact(gX _ _).2 (eT.2 ⟨a,ha,ss a t hb x (Oh hx)⟩)
 ·obtain⟨a,ha,hb⟩:=hm t ht;exact Oi a (h a ha).1 t hb
 ·obtain⟨a,ha,hb⟩:=hm t ht;exact zY (h a ha).2 hb
theorem Ci{t:Tm}{n:ByteArray}(h:km t=0)(hn:eU t n=true):(cJ n).a<=t.l.length/\t.l.length<=(cJ n).b:=by
 obtain⟨h1,h2⟩:=KU hn;obtain⟨k,s,o,l⟩:=t;simp only[Tm.k,Tm.s]at h1 h2;subst h1 h2;obtain⟨_,h3,h4,_⟩:=F7 (mG.1 h).2;exact⟨h3,h4⟩
theorem nC{t:Tm}{n:ByteArray}(h:km t=0)(hn:eU t n=true)(h2:(cJ n).a=2/\(cJ n).b=2):∃a b,t.l=[a,b]:=by
 have h1:=Ci h hn;rw[h2.1,h2.2]at h1
 match hl:t.l with
 |[a,b]=>exact⟨a,b,rfl⟩
 |[]=>rw[hl]at h1;simp at h1
 |[_]=>rw[hl]at h1;simp at h1
 |_::_::_::_=>rw[hl]at h1;simp at h1;omega
theorem Au{t:Tm}{n:ByteArray}(h:km t=0)(hn:eU t n=true)(h2:(cJ n).a=1/\(cJ n).b=1):∃a,t.l=[a]:=by
 have h1:=Ci h hn;rw[h2.1,h2.2]at h1
 match hl:t.l with
 |[a]=>exact⟨a,rfl⟩
 |[]=>rw[hl]at h1;simp at h1
 |_::_::_=>rw[hl]at h1;simp at h1;omega
theorem EE:((cJ jP).a=2/\(cJ jP).b=2)/\((cJ jt).a=2/\(cJ jt).b=2)/\((cJ fH).a=2/\(cJ fH).b=2)/\((cJ mJ).a=2/\(cJ mJ).b=2)/\((cJ He).a=1/\(cJ He).b=1):=by
 refine⟨⟨?_,?_⟩,⟨?_,?_⟩,⟨?_,?_⟩,⟨?_,?_⟩,⟨?_,?_⟩⟩ <;>kernel_rfl
theorem rF:gI mJ jP=false/\gI jt jP=false/\gI jt mJ=false/\gI fH jP=false/\gI fH mJ=false/\gI fH jt=false:=by
 refine⟨?_,?_,?_,?_,?_,?_⟩ <;>kernel_rfl
theorem Aw{t:Tm}{n m:ByteArray}(h:eU t n=true)(hn:gI n m=false):eU t m=false:=by
 obtain⟨h1,h2⟩:=KU h;simp[eU,h1,h2,hn]
theorem sH{t:Tm}(h:wA t=0):km t=0/\((eU t jt=true/\rD t=gJ t 1)\/(eU t fH=true/\eU (gJ t 1) He=true/\rD t=gJ (gJ t 1) 0)):=by
 have hv:rD t=if eU t jt=true then gJ t 1 else gJ (gJ t 1) 0:=by rw[rD,if_neg (by omega)]
 unfold wA at h
 split at h
 ·rename_i h1;exact absurd h h1
 ·rename_i h1
  refine⟨by omega,?_⟩
  split at h
  ·rename_i h2;rw[if_pos h2]at hv;exact .inl ⟨h2,hv⟩
  ·rename_i h2
   rw[if_neg h2]at hv
   split at h
   ·omega
   ·split at h
    ·omega
    ·rename_i h3 h4;exact .inr ⟨by simpa using h3,by simpa using h4,hv⟩
theorem KY.key{u:List Tm}(U:KY u){t:Tm}(ht:t∈u)(h:wA t=0):rD t∈u/\gJ t 0∈u/\gJ t 0∈t.l:=by
 obtain⟨h1,h2⟩:=sH h;rcases h2 with⟨h2,h3⟩|⟨h2,h4,h3⟩
 ·obtain⟨a,b,e⟩:=nC h1 h2 EE.2.1;rw[h3];simp only[gJ,e];exact⟨U.kids t ht _ (by rw[e];simp),U.kids t ht _ (by rw[e];simp),by simp⟩
 ·obtain⟨a,b,e⟩:=nC h1 h2 EE.2.2.1;rw[h3];have hb:b∈u:=U.kids t ht _ (by rw[e];simp);have hk:gJ t 1=b:=by simp[gJ,e]
  rw[hk]at h4 ⊢;obtain⟨c,e2⟩:=Au (U.ok b hb) h4 EE.2.2.2.2;refine⟨?_,?_,?_⟩
  ·simp only[gJ,e2];exact U.kids b hb _ (by rw[e2];simp)
  ·simp only[gJ,e];exact U.kids t ht _ (by rw[e];simp)
  ·simp[gJ,e]
theorem HT{t x:Tm}(h:x∈oU t):x∈t.l:=by
 unfold oU at h
 split at h
 ·exact h
 ·split at h
  ·exact aae h
  ·cases h
theorem xN.step{u s r:List Tm}(U:KY u)(hr:∀x∈r,x∈u/\xN u s x){t:Tm}(ht:t∈u)(h:mI r t=true):xN u s t:=by
 simp only[mI,ZU]at h;rcases h with((h |h)|h)|h
 ·exact(hr t (dI.1 h)).2
 ·exact .pub ht h
 ·simp only[wx,ZD,Zw]at h;exact .comp ht h.1 λx hx=>(hr x (dI.1 (h.2 x hx))).2
 ·simp only[tI,aau]at h;obtain⟨y,hy,h⟩:=h;obtain⟨hyu,WT⟩:=hr y hy;have fQ:=U.ok y hyu;unfold tL at h
  split at h
  ·rename_i h1
   obtain⟨a,b,e⟩:=nC fQ h1 EE.1;have hp:oU y=[a,b]:=by rw[oU,if_pos h1,e]
   simp only[gJ,e,ZU,decide_eq_true_eq]at h;rcases h with h |h
   ·have:=dn h;simp at this;subst this;exact .part WT (by rw[hp];simp)
   ·have:=dn h;simp at this;subst this;exact .part WT (by rw[hp];simp)
  ·split at h
   ·rename_i h0 h1
    obtain⟨a,b,e⟩:=nC fQ h1 EE.2.2.2.1;have hp:oU y=[a]:=by rw[oU,if_neg h0,if_pos h1,e];rfl
    simp only[gJ,e,decide_eq_true_eq]at h;have:=dn h;simp at this;subst this;exact .part WT (by rw[hp];simp)
   ·split at h
    ·simp only[ZD,decide_eq_true_eq]at h;obtain⟨⟨h1,h2⟩,h3⟩:=h;rw[<-dn h2];exact .open WT h1 (hr _ (dI.1 h3)).2
    ·cases h
theorem xN.fix{u s r:List Tm}(U:KY u)(hs:∀x∈s,x∈r)(hr:∀x∈r,x∈u)(hf:∀t∈u,mI r t=true->t∈r){t:Tm}(h:xN u s t):t∈r:=by
 induction h with
 |base h=>exact hs _ h
 |pub h1 h2=>exact hf _ h1 (by simp[mI,h2])
 |comp h1 h2 _ ih=>exact hf _ h1 (by simp only[mI,wx,h2,aaE,ZU,Zw];exact .inl (.inr λx hx=>dI.2 (ih x hx)))
 | @part t x _ hx ih=>
  have K6:=hr _ ih;have fQ:=U.ok _ K6;refine hf x (U.kids _ K6 _ (HT hx)) ?_;simp only[mI,ZU];refine .inr ?_;simp only[tI,aau];refine⟨t,ih,?_⟩;unfold oU at hx;unfold tL
  split at hx
  ·rename_i h1
   obtain⟨a,b,e⟩:=nC fQ h1 EE.1;rw[if_pos h1];rw[e]at hx;simp only[gJ,e,ZU,decide_eq_true_eq];simp at hx;rcases hx with rfl |rfl
   ·exact .inl (by simp[cX])
   ·exact .inr (by simp[cX])
  ·split at hx
   ·rename_i h0 h1
    obtain⟨a,b,e⟩:=nC fQ h1 EE.2.2.2.1;rw[if_neg h0,if_pos h1];rw[e]at hx;simp at hx;subst hx;simp[gJ,e,cX]
   ·cases hx
 | @«open»t _ hk _ ih1 ih2=>
  have K6:=hr _ ih1;obtain⟨q1,q2,q3⟩:=U.key K6 hk;refine hf _ q2 ?_;simp only[mI,ZU];refine .inr ?_;simp only[tI,aau];refine⟨t,ih1,?_⟩;unfold tL;have hh:=dI.2 ih2;rcases(sH hk).2 with⟨h2,_⟩|⟨h2,_,_⟩
  ·rw[if_neg (by simp[Aw h2 rF.2.1]),if_neg (by simp[Aw h2 rF.2.2.1]),h2];simp[hk,hh,cX]
  ·rw[if_neg (by simp[Aw h2 rF.2.2.2.1]),if_neg (by simp[Aw h2 rF.2.2.2.2.1]),h2];simp[hk,hh,cX]
theorem ig{l:List Tm}{p:Tm->Bool}(h:fK l):fK (l.filter p):=List.Pairwise.filter p h
theorem N6{u s r:List Tm}(U:KY u)(hr:fK r)(h1:∀t∈r,t∈u/\xN u s t)(h2:∀t∈u,xN u s t->t∈r):r=ya u s:=by
 refine nk hr (ig U.AU) λy=>?_;simp only[ya,aao,decide_eq_true_eq];exact⟨h1 y,λh=>h2 y h.1 h.2⟩
theorem N7{u s:List Tm}{t:Tm}:t∈ya u s↔t∈u/\xN u s t:=by simp[ya]
def ui(t:Tm):Int:=if km t≠0 then km t else if bF t≠[]then 13 else 0
def k9:List Tm->Int
 |[]=>0
 |t::l=>if ui t≠0 then ui t else k9 l
def lc(k:List Tm)(t:Tm):Int:=if 60<k.length then 3 else if k9 (k++[t])≠0 then k9 (k++[t])else if 200<(jW (k++[t])).length then 3 else 0
open Classical in
noncomputable def uk(k:List Tm)(t:Tm):Bool:=decide (lc k t=0)&&cI (ya (jW (k++[t])) (kS k)) t
theorem wy:∀{l:List Tm},k9 l=0->∀t∈l,ui t=0
 |[],_,t,h=>by cases h
 |u::l,e,t,h=>by
  rw[k9]at e
  split at e
  ·rename_i hn;exact absurd e hn
  ·rcases ZF.1 h with rfl |h
   ·omega
   ·exact wy e t h
theorem HN{t:Tm}(h:ui t=0):km t=0/\bF t=[]:=by
 unfold ui at h
 split at h
 ·rename_i h1;exact absurd h h1
 ·split at h
  ·omega
  ·rename_i h1 h2;exact⟨by omega,by simpa using h2⟩
def Kt(S:List cY)(x:Tm):Bool:=S.any λb=>decide (aT b.v x=0)
def dL(l:List fg):List Tm:=(jW (l.flatMap λd=>d.kn++[d.tm])).filter λt=>decide (t.k=1)
def qE(l:List fg)(S:List cY):Int:=
 if j9 S≠0 then j9 S
 else if(dL l).all (Kt S)=false then 13
 else if S.any (λb=>decide (bF b.t≠[]))=true then 13
 else if S.any (λb=>decide (km b.t≠0))=true then 10
 else 0
noncomputable def iD(S:List cY):List fg->Bool×Int
 |[]=>(true,0)
 |d::l=>if jg S d≠0 then(false,jg S d)else if lc (cj S d.kn) (cF S d.tm)≠0 then(false,lc (cj S d.kn) (cF S d.tm))else if uk (cj S d.kn) (cF S d.tm)=false then(false,0)else iD S l
noncomputable def l6(l:List fg)(S:List cY):Bool×Int:=if nr l≠0 then(false,nr l)else if qE l S≠0 then(false,qE l S)else iD S l
theorem BN(l:List fg):kS ((l.flatMap λd=>d.kn++[d.tm]).flatMap bF)=dL l:=by
 refine nk (jO _) (ig (jO _)) λy=>?_;simp only[gX,dL,jW,aao,eT,decide_eq_true_eq,aaz]
 constructor
 ·rintro⟨t,ht,hy⟩;obtain⟨h1,h2⟩:=(fG t y).1 hy;exact⟨⟨t,ht,h1⟩,h2⟩
 ·rintro⟨⟨t,ht,h1⟩,h2⟩;exact⟨t,ht,(fG t y).2 ⟨h1,h2⟩⟩
theorem vS{k s o l}:ko (.mk k s o l)=true↔(k=3->AV s=true)/\∀t∈l,ko t=true:=by
 have h:∀l:List Tm,ic AV l=true↔∀t∈l,every AV t=true:=by
  intro l
  induction l with
  |nil=>simp[ic]
  |cons t l ih=>simp[ic,ih]
 unfold ko;rw[every,ZD,h];simp only[ZU,decide_eq_true_eq]
 constructor
 ·rintro⟨h1,h2⟩;exact⟨λhk=>h1.resolve_left (by simpa using hk),h2⟩
 ·rintro⟨h1,h2⟩;exact⟨by by_cases hk:k=3;exact .inr (h1 hk);exact .inl hk,h2⟩
theorem Ce:∀{S:List cY} {x:Tm},ko x=true->(∀b∈S,ko b.t=true)->ko (kQ S x)=true
 |[],x,hx,_=>hx
 |b::S,x,hx,h=>by
  rw[kQ]
  split
  ·exact h b (by simp)
  ·exact Ce hx λc hc=>h c (by simp[hc])
theorem F5{S:List cY}(hS:∀b∈S,ko b.t=true)(t:Tm):ko t=true->ko (cF S t)=true:=by
 induction t using Tm.ind with
 |h k s o l ih=>
  intro h
  rw[cF]
  split
  ·exact Ce h hS
  ·rw[vS]at h ⊢;refine⟨h.1,λt ht=>?_⟩;rw[cQ]at ht;obtain⟨u,hu,rfl⟩:=Z0.1 ht;exact ih u hu (h.2 u hu)
theorem yZ{t:Tm}(h:eg t=0):ko t=true:=by
 have:=(nt h).2.2.1;unfold ri at this;simp only[ZD]at this;exact this.2
def DY:Tm:=.mk 2 ⟨#[97]⟩ 1 []
def PJ:Tm:=.mk 2 ⟨#[98]⟩ 1 []
def lfN:Tm:=.mk 2 ⟨#[110,35,48]⟩ 2 []
def lfM:Tm:=.mk 2 ⟨#[109,35,49]⟩ 2 []
def lfK:Tm:=.mk 2 ⟨#[107,35,48]⟩ 3 []
def lfS:Tm:=.mk 3 BC 0 [DY,PJ]
def lfP:Tm:=.mk 3 He 0 [.mk 3 D5 0 [PJ]]
def lfH:Tm:=.mk 2 ⟨#[104,105]⟩ 5 []
def J0:Tm:=.mk 3 He 0 [.mk 3 D5 0 [DY]]
def lZ:List Tm:=[lfN,lfM,lfK,lfS,lfP,DY,lfH]
def vrX:Tm:=.mk 1 ⟨#[120]⟩ 2 []
def vrY:Tm:=.mk 1 ⟨#[121]⟩ 0 []
def vrZ:Tm:=.mk 1 ⟨#[122]⟩ 3 []
def vrW:Tm:=.mk 1 ⟨#[119]⟩ 2 []
def tv:List Tm:=[vrX,vrY,vrZ,vrW]
def fi(b:List Nat)(i:Nat):Nat:=b.getD i 0
def J3(b:List Nat)(l:List Tm)(at':Nat):Tm:=l.getD (fi b at' / 2 % l.length) eL
def gH(b:List Nat)(l:List Tm):Nat->Nat->Tm×Nat
 |0,i=>(J3 b l i,i+1)
 |f+1,i=>
  if fi b i % 2=0 then(J3 b l i,i+1)
  else if fi b i / 2 % 6=0 then(.mk 3 vP 0 [(gH b l f (i+1)).1],(gH b l f (i+1)).2)
  else if fi b i / 2 % 6<=2 then(.mk 3 jt 0 [(gH b l f (i+1)).1,(gH b l f (gH b l f (i+1)).2).1],(gH b l f (gH b l f (i+1)).2).2)
  else if fi b i / 2 % 6=3 then(.mk 3 fH 0 [(gH b l f (i+1)).1,J0],(gH b l f (gH b l f (i+1)).2).2)
  else(.mk 3 jP 0 [(gH b l f (i+1)).1,(gH b l f (gH b l f (i+1)).2).1],(gH b l f (gH b l f (i+1)).2).2)
def UZ(y:Tm):Bool:=(decide (y.k≠1)||cI tv y)&&decide (y.s.toList.head?≠some 113)
def NG(t:Tm):Bool:=(pre t).all UZ
def x5(t:Tm):Bool:=ko t&&NG t
theorem J4{k:Int}{s:ByteArray}{o:Int}{l:List Tm}(h:UZ (.mk k s o l)=true)(hl:∀t∈l,NG t=true):NG (.mk k s o l)=true:=by
 unfold NG;rw[pre,aaq,h,aaE,Zw]
 intro y hy
 obtain⟨t,ht,hy⟩:=eT.1 hy;exact Zw.1 (hl t ht) y hy
theorem Ry{t y:Tm}(h:NG t=true)(hy:y∈pre t):NG y=true:=by
 unfold NG at *;rw[Zw]at *;exact λz hz=>h z (ss t y hy z hz)
theorem U0{t y:Tm}(h:NG t=true)(hy:y∈pre t):(y.k=1->y∈tv)/\y.s.toList.head?≠some 113:=by
 have:=Zw.1 h y hy;simp only[UZ,ZD,ZU,decide_eq_true_eq]at this;exact⟨λhk=>dI.1 (this.1.resolve_left (by simpa using hk)),this.2⟩
theorem lL{t:Tm}:x5 t=true↔ko t=true/\NG t=true:=by simp[x5]
def PK(s:ByteArray):Bool:=AV s&&decide (s.toList.head?≠some 113)
def x6(B:Nat)(l:List Tm):Prop:=∀t∈l,x5 t=true/\ax t<=B
theorem x6.ct{B:Nat}{a b:List Tm}(x:x6 B a)(y:x6 B b):x6 B (a++b):=λt ht=>(ZE.1 ht).elim (x t) (y t)
theorem x6.mono{B B':Nat}{a:List Tm}(x:x6 B a)(h:B<=B'):x6 B' a:=λt ht=>⟨(x t ht).1,by have:=(x t ht).2;omega⟩
theorem x6.getD{B i:Nat}{l:List Tm}(x:x6 B l)(h:i<l.length):x5 (l.getD i eL)=true/\ax (l.getD i eL)<=B:=by
 rw[ZR,Zy h];exact x _ (Z2 h)
def XY(B:Nat)(l:List Tm):Bool:=l.all λt=>x5 t&&decide (ax t<=B)
theorem vQ{B:Nat}{l:List Tm}(h:XY B l=true):x6 B l:=λt ht=>by
 have:=Zw.1 h t ht;simpa using this
theorem su:x6 20 lZ:=vQ (by kernel_rfl)
theorem vR:x6 20 tv:=vQ (by kernel_rfl)
theorem gY:lZ.length=7:=rfl
theorem rk:tv.length=4:=rfl
theorem Rz:x5 J0=true/\ax J0<=20:=by
 have:=vQ (B:=20) (l:=[J0]) (by kernel_rfl) J0 (by simp);exact this
theorem U1:PK vP=true/\PK jt=true/\PK fH=true/\PK jP=true:=by
 refine⟨?_,?_,?_,?_⟩ <;>kernel_rfl
theorem XZ:vP.size=4/\jt.size=3/\fH.size=4/\jP.size=4:=by
 refine⟨?_,?_,?_,?_⟩ <;>kernel_rfl
theorem FJ{s:ByteArray}{l:List Tm}(h:PK s=true)(hl:∀t∈l,x5 t=true):x5 (.mk 3 s 0 l)=true:=by
 simp only[PK,ZD]at h;refine lL.2 ⟨vS.2 ⟨λ_=>h.1,λt ht=>(lL.1 (hl t ht)).1⟩,J4 ?_ λt ht=>(lL.1 (hl t ht)).2⟩;simp only[UZ,Tm.k,Tm.s,ZD,ZU];exact⟨.inl rfl,h.2⟩
theorem NH{s:ByteArray}{a:Tm}(h:PK s=true)(ha:x5 a=true):x5 (.mk 3 s 0 [a])=true:=FJ h λt ht=>by simp at ht;rw[ht];exact ha
theorem zX{s:ByteArray}{a b:Tm}(h:PK s=true)(ha:x5 a=true)(hb:x5 b=true):x5 (.mk 3 s 0 [a,b])=true:=FJ h λt ht=>by
 simp at ht;rcases ht with rfl |rfl
 ·exact ha
 ·exact hb
def J5(B:Nat):Nat->Nat
 |0=>B
 |f+1=>2 * J5 B f+30
theorem FK(B:Nat):∀f,B<=J5 B f
 |0=>Zz _
 |f+1=>by have:=FK B f;simp only[J5];omega
theorem vT{b:List Nat}{l:List Tm}{B:Nat}(h0:0<l.length)(h:x6 B l):∀f i,x5 (gH b l f i).1=true/\ax (gH b l f i).1<=J5 B f/\i<(gH b l f i).2/\(gH b l f i).2+1<=i+2^ (f+1)
 |0,i=>by
  obtain⟨h1,h2⟩:=h.getD (abm (fi b i / 2) h0);exact⟨h1,h2,by simp[gH],by simp[gH]⟩
 |f+1,i=>by
  obtain⟨h1,h2⟩:=h.getD (abm (fi b i / 2) h0);have h2:ax (J3 b l i)<=B:=h2;obtain⟨a1,a2,a3,a4⟩:=vT h0 h f (i+1);obtain⟨b1,b2,b3,b4⟩:=vT h0 h f (gH b l f (i+1)).2;obtain⟨p1,p2⟩:=Rz;obtain⟨f1,f2,f3,f4⟩:=U1;obtain⟨s1,s2,s3,s4⟩:=XZ;have hp:2^ (f+1+1)=2^ (f+1)+2^ (f+1):=by rw[Nat.pow_succ];omega
  have Un:1<=2^ (f+1):=Nat.one_le_two_pow;have hg:=FK B f;unfold gH;generalize gH b l f (gH b l f (i+1)).2=Y at *;generalize gH b l f (i+1)=X at *;simp only[J5]
  split
  ·exact⟨h1,by simp only;omega,by simp,by simp only[hp];omega⟩
  ·split
   ·exact⟨NH f1 a1,by simp only[ax,bz];omega,by simp only;omega,by simp only;omega⟩
   ·split
    ·exact⟨zX f2 a1 b1,by simp only[ax,bz];omega,by simp only;omega,by simp only;omega⟩
    ·split
     ·exact⟨zX f3 a1 p1,by simp only[ax,bz];omega,by simp only;omega,by simp only;omega⟩
     ·exact⟨zX f4 a1 b1,by simp only[ax,bz];omega,by simp only;omega,by simp only;omega⟩
def iA(x:List Nat):List Nat:=x++[0,0]
def I2(b:List Nat)(bd:List Tm)(n:Nat):List Tm:=(List.range n).map λk=>(gH b (lZ++bd) 2 (1+3 * k)).1
def RA(b:List Nat):Tm:=if fi b 0 / 3 % 3=0 then tv.getD (fi b 1 % 4) eL else(gH b (lZ++tv) 2 7).1
structure MC where
 kn:List Tm
 bd:List Tm
 out:List fg
def sw(s:MC)(x:List Nat):MC:=
 ⟨s.kn++I2 (iA x) s.bd (fi (iA x) 0 % 3),s.bd++bF (RA (iA x)),s.out++[⟨s.kn++I2 (iA x) s.bd (fi (iA x) 0 % 3),RA (iA x)⟩]⟩
def cM(l:List (List Nat)):MC:=l.foldl sw ⟨[],[],[]⟩
def ez(l:List (List Nat)):List fg:=(cM (l.take 5)).out
theorem tw(l:List (List Nat))(x:List Nat):cM (l++[x])=sw (cM l) x:=by simp[cM]
theorem J6(b:List Nat)(bd:List Tm)(n:Nat):I2 b bd (n+1)=I2 b bd n++[(gH b (lZ++bd) 2 (1+3 * n)).1]:=by simp[I2,List.range_succ]
theorem uE(b:List Nat)(bd:List Tm)(n:Nat):(I2 b bd n).length=n:=by simp[I2]
theorem J7(b:List Nat):x5 (RA b)=true/\ax (RA b)<=170:=by
 unfold RA
 split
 ·obtain⟨h1,h2⟩:=vR.getD (i:=fi b 1 % 4) (by rw[rk];omega);exact⟨h1,by omega⟩
 ·obtain⟨h1,h2,_⟩:=vT (b:=b) (l:=lZ++tv) (B:=20) (by simp[gY];omega) (su.ct vR) 2 7;exact⟨h1,h2⟩
theorem J8{B:Nat}{t:Tm}(h:x5 t=true/\ax t<=B):x6 B (bF t):=λy hy=>by
 have hp:=((fG t y).1 hy).1;obtain⟨h1,h2⟩:=lL.1 h.1;exact⟨lL.2 ⟨zY h1 hp,Ry h2 hp⟩,by have:=kT hy;omega⟩
theorem RB{b:List Nat}{bd:List Tm}(h:x6 170 bd)(n:Nat):x6 770 (I2 b bd n):=λt ht=>by
 obtain⟨k,_,rfl⟩:=Z0.1 ht;obtain⟨h1,h2,_⟩:=vT (b:=b) (l:=lZ++bd) (B:=170) (by simp[gY];omega) ((su.mono (by omega)).ct h) 2 (1+3 * k);exact⟨h1,h2⟩
structure X0(n:Nat)(s:MC):Prop where
 kl:s.kn.length<=2 * n
 bl:s.bd.length<=170 * n
 ol:s.out.length=n
 kf:x6 770 s.kn
 bf:x6 170 s.bd
 of:∀d∈s.out,d.kn.length<=2 * n/\x6 770 d.kn/\x5 d.tm=true/\ax d.tm<=170
theorem mB(n:Nat):∀l:List (List Nat),l.length=n->X0 n (cM l):=by
 induction n with
 |zero=>
  intro l h
  obtain rfl:=ZL h;exact⟨by simp[cM],by simp[cM],rfl,λ_ h=>(by cases h),λ_ h=>(by cases h),λ_ h=>(by cases h)⟩
 |succ n ih=>
  intro l h
  obtain⟨p,x,rfl⟩:∃p x,l=p++[x]:=⟨l.dropLast,l.getLast (by intro hh;rw[hh]at h;cases h),(List.dropLast_concat_getLast _).symm⟩;have a:=ih p (by simpa using h);rw[tw];have ht:=J7 (iA x);have hk:=RB (b:=iA x) a.bf (fi (iA x) 0 % 3);have hv:=gu (RA (iA x));have hm:fi (iA x) 0 % 3<=2:=by omega
  have a1:=a.kl;have a2:=a.bl;have a3:=a.ol;refine⟨?_,?_,?_,a.kf.ct hk,a.bf.ct (J8 ht),λd hd=>?_⟩
  ·simp only[sw,Zx,uE];omega
  ·simp only[sw,Zx];omega
  ·simp only[sw,Zx,ZA,Z'];omega
  ·rcases ZE.1 hd with hd |hd
   ·obtain⟨q1,q2⟩:=a.of d hd;exact⟨by omega,q2⟩
   ·simp at hd;subst hd;exact⟨by simp only[Zx,uE];omega,a.kf.ct hk,ht⟩
theorem BD(l:List (List Nat)):(ez l).length<=5/\∀d∈ez l,d.kn.length<=10/\x6 770 d.kn/\x5 d.tm=true/\ax d.tm<=170:=by
 have hn:(l.take 5).length<=5:=by simp;omega
 have a:=mB _ (l.take 5) rfl;have a3:=a.ol;unfold ez;exact⟨by omega,λd hd=>⟨by have:=(a.of d hd).1;omega,(a.of d hd).2⟩⟩
def BE(n:Nat)(o:Int):Tm:=.mk 2 ⟨#[101,35,UInt8.ofNat (48+n)]⟩ o []
def zZ(v:Tm)(c:Nat):Tm:=if c % 3≠0/\kO v (lZ.getD (c / 2 % 7) eL)=true then lZ.getD (c / 2 % 7) eL else BE (c % 2) v.o
def ju(b:List Nat):Nat->List Tm->List cY
 |_,[]=>[]
 |i,v::l=>⟨v,zZ v (fi b i)⟩::ju b (i+1) l
def Hf(vs:List Tm)(b:List Nat):List cY:=ju b 0 vs
theorem yN(b:List Nat)(v:Tm):∀(i:Nat) (l:List Tm),ju b i (l++[v])=ju b i l++[⟨v,zZ v (fi b (i+l.length))⟩]
 |i,[]=>by simp[ju]
 |i,u::l=>by
  have ih:=yN b v (i+1) l;simp only[Z3,ju,ih,ZA,show i+1+l.length=i+(l.length+1) by omega]
theorem NI(v:Tm)(c:Nat):x5 (zZ v c)=true/\ax (zZ v c)<=20:=by
 unfold zZ
 split
 ·exact su.getD (by rw[gY];omega)
 ·refine⟨lL.2 ⟨vS.2 ⟨λh=>(by cases h),λt ht=>(by cases ht)⟩,J4 ?_ λt ht=>(by cases ht)⟩,?_⟩
  ·simp only[UZ,Tm.k,Tm.s,ZD,ZU];refine⟨.inl rfl,decide_eq_true ?_⟩;rw[ByteArray.toList_eq];simp
  ·simp only[BE,ax,bz];show 1+3+0<=20;omega
theorem uF(b:List Nat):∀(i:Nat) (l:List Tm),(ju b i l).length=l.length/\∀x∈ju b i l,x.v∈l/\x5 x.t=true/\ax x.t<=20
 |i,[]=>⟨rfl,λx h=>by cases h⟩
 |i,v::l=>by
  obtain⟨h1,h2⟩:=uF b (i+1) l;refine⟨by simp[ju,h1],λx hx=>?_⟩;rw[ju]at hx;rcases ZF.1 hx with rfl |hx
  ·exact⟨by simp,NI _ _⟩
  ·obtain⟨q1,q2⟩:=h2 x hx;exact⟨by simp[q1],q2⟩
theorem nu(l:List (List Nat)):(dL (ez l)).length<=4/\∀y∈dL (ez l),y∈tv:=by
 have kG:∀y∈dL (ez l),y∈tv:=λy hy=>by
  simp only[dL,aao,decide_eq_true_eq]at hy;obtain⟨hy,hk⟩:=hy;obtain⟨t,ht,hp⟩:=eT.1 ((gX _ _).1 hy);obtain⟨d,hd,ht⟩:=aaz.1 ht;obtain⟨_,h1,h2,_⟩:=(BD l).2 d hd
  have hf:x5 t=true:=by
   rcases ZE.1 ht with h |h
   ·exact(h1 t h).1
   ·simp at h;rw[h];exact h2
  exact(U0 (lL.1 hf).2 hp).1 hk
 refine⟨?_,kG⟩
 have he:dL (ez l)=(kS tv).filter (λy=>cI (dL (ez l)) y):=nk (ig (jO _)) (ig (jO _)) λy=>by
  constructor
  ·exact λh=>aao.2 ⟨(gX _ _).2 (kG y h),dI.2 h⟩
  ·exact λh=>dI.1 (aao.1 h).2
 have h1:=aaP (λy=>cI (dL (ez l)) y) (kS tv);have h2:=vK tv;rw[rk]at h2;rw[he];omega
def eG(l:List Nat):List PV:=l.map λ(n:Nat)=>PV.int .u8 (n:Int)
def gB(l:List (List Nat)):List PV:=l.map λx=>.aa false (eG x)
def Dl(l:List Nat):Prop:=∀n∈l,n<=255
@[simp] theorem kU(l:List Nat):(eG l).length=l.length:=by simp[eG]
@[simp] theorem sx(l:List (List Nat)):(gB l).length=l.length:=by simp[gB]
@[simp] theorem TH(l:List Nat):ar (eG l)=true:=by induction l with |nil=>rfl |cons x l ih=>simpa[eG]using ih
@[simp] theorem TI(l:List Nat):aU (eG l)=eG l:=by induction l with |nil=>rfl |cons x l ih=>simpa[eG]using ih
@[simp] theorem RF(l:List (List Nat)):ar (gB l)=true:=by induction l with |nil=>rfl |cons x l ih=>simpa[gB]using ih
@[simp] theorem RG(l:List (List Nat)):aU (gB l)=gB l:=by induction l with |nil=>rfl |cons x l ih=>simpa[gB]using ih
theorem Kg(a b:List Nat):eG (a++b)=eG a++eG b:=by simp[eG]
theorem BH{l p q:List (List Nat)}{x:List Nat}(e:l=p++x::q):(gB l)[p.length]?=some (.aa false (eG x)):=by rw[gB,e];simp
theorem mC{l:List Nat}{i:Nat}(h:i<l.length):(eG l)[i]?=some (.int .u8 (fi l i:Int)):=by
 simp[eG,fi,ZR,h]
theorem vW{l:List Nat}(h:Dl l)(i:Nat):fi l i<=255:=by
 unfold fi;rw[ZR]
 cases e:l[i]? with
 |none=>simp
 |some n=>exact h n (ZK e)
theorem uG{l:List Nat}{i:Nat}(h:¬i<l.length):fi l i=0:=by
 simp[fi,ZR,ZM (Nat.not_lt.1 h)]
theorem rm{l:List Tm}{i:Nat}(h:i<l.length):(ae l)[i]?=some (enc (l.getD i eL)):=by
 rw[cU];simp[ZR,h]
open Go.Proofs Go.ChangeShapes Go.WideShapes
set_option maxRecDepth 100000
set_option maxHeartbeats 2000000
theorem P3{α:Type}:∀(l:List α),(l.map λ_=>1).sum=l.length
 |[]=>rfl
 |_::l=>by rw[ZN,abU,P3 l,ZA];omega
theorem Cs{α:Type}(f:α->Nat):∀{l:List α} {x:α},x∈l->f x<=(l.map f).sum
 |y::l,x,h=>by
  rw[ZN,abU];rcases ZF.1 h with rfl |h
  ·omega
  ·have:=Cs f h;omega
theorem Ct{α:Type}(f:α->Nat)(hf:∀x,1<=f x):∀(l:List α),l.length<=(l.map f).sum
 |[]=>by simp
 |y::l=>by have:=Ct f hf l;have:=hf y;rw[ZN,abU,ZA];omega
instance:Inhabited {n:Nat // n<=255}:=⟨⟨0,by decide⟩⟩
instance:Inhabited {l:List Nat // Dl l}:=⟨⟨[],by intro x h;cases h⟩⟩
theorem YN:C.P.cellsOf 5=1:=by kernel_rfl
theorem VJ:C.P.cellsOf 41=1:=by kernel_rfl
open Go.Proofs.YtimogkojklpdnaaGreatDoor in
theorem Cu{H:Type}{ec:TypeId×Value->H}{w:World}{sp:Nat->Bool}{held:Bool}{n:Nat}{cs:List Value}{x:DataW H×List MemPlace}(h:DataW.trod ec C.P w 0 sp held n 41 cs=some x):
  ∃(c:Value) (l:List Nat),cs=[c]/\bY w Lh c (.aa false (eG l))/\Dl l/\l.length+1<=Rows.uptoBulk x.1:=by
 obtain⟨c,l,hc,h1,h2⟩:=wJ (E:={n:Nat // n<=255}) (λe=>.int .u8 (e.1:Int)) (λ_=>1) (bp (T6.cP 41 _ rfl)) YN (by decide) (λ_=>rfl) (λn cs x hx=>by
  obtain⟨k,rfl,rfl,hw⟩:=DataW.trod_int (m' (T6.cP 5 _ rfl)) hx
  have hk:0<=k/\k<=255:=by
   simp only[Lit.wf,decide_eq_true_eq,ZD]at hw;have h1:IntKind.u8.min=0:=rfl;have h2:IntKind.u8.max=255:=rfl;omega
  obtain⟨m,rfl⟩:=aaG hk.1;exact⟨⟨m,by omega⟩,rfl,λj hj=>(by obtain rfl:j=0:=(by omega);exact .int _ _),by simp[Rows.uptoBulk]⟩) h
 refine⟨c,l.map (·.1),hc,by simpa[eG]using h1,λx hx=>?_,?_⟩
 ·obtain⟨y,_,rfl⟩:=Z0.1 hx;exact y.2
 ·rw[P3]at h2;simp only[aaB];exact h2
open Go.Proofs.YtimogkojklpdnaaGreatDoor in
theorem OC{H:Type}{ec:TypeId×Value->H}{w:World}{sp:Nat->Bool}{held:Bool}{n:Nat}{cs:List Value}{x:DataW H×List MemPlace}(h:DataW.trod ec C.P w 0 sp held n 40 cs=some x):
  ∃(c:Value) (l:List (List Nat)),cs=[c]/\bY w Lh c (.aa false (gB l))/\(∀y∈l,Dl y/\y.length<Rows.uptoBulk x.1)/\l.length<Rows.uptoBulk x.1:=by
 obtain⟨c,l,hc,h1,h2⟩:=wJ (E:={l:List Nat // Dl l}) (λe=>.aa false (eG e.1)) (λe=>e.1.length+1) (bp (T6.cP 40 _ rfl)) VJ (by decide) (λ_=>rfl) (λn cs x hx=>by
  obtain⟨c,l,rfl,a1,a2,a3⟩:=Cu hx;exact⟨⟨l,a2⟩,rfl,λj hj=>(by obtain rfl:j=0:=(by omega);exact a1),a3⟩) h
 refine⟨c,l.map (·.1),hc,by simpa[gB,aa5,Function.comp_def]using h1,λy hy=>?_,?_⟩
 ·obtain⟨z,hz,rfl⟩:=Z0.1 hy;have:=Cs (λe:{l:List Nat // Dl l}=>e.1.length+1) hz;exact⟨z.2,by omega⟩
 ·have:=Ct (λe:{l:List Nat // Dl l}=>e.1.length+1) (λx=>by omega) l;simp only[aaB];omega
open Go.Proofs.YtimogkojklpdnaaGreatDoor in
theorem HZ{H:Type}{ec:TypeId×Value->H}{w:World}{base:Nat}{sp:Nat->Bool}{v:Value}{d:DataW H}{p:List MemPlace}(fQ:Value.okWide C.P w .any base 41 v)(h:DataW.Trod ec C.P w 0 sp true 41 v d p):
  ∃l:List Nat,bY w Lh v (.aa false (eG l))/\Dl l/\l.length+1<=Rows.uptoBulk d:=by
 obtain⟨n,hn⟩:=h;obtain⟨a,len,cap,rfl⟩:=okWide_slice (bp (T6.cP 41 _ rfl)) fQ;obtain⟨c,l,hc,h1,h2⟩:=Cu hn;obtain rfl:Value.slice a len cap=c:=by simpa[Value.cells]using hc
 exact⟨l,h1,h2⟩
open Go.Proofs.YtimogkojklpdnaaGreatDoor in
theorem Li{H:Type}{ec:TypeId×Value->H}{w:World}{base:Nat}{sp:Nat->Bool}{v:Value}{d:DataW H}{p:List MemPlace}(fQ:Value.okWide C.P w .any base 40 v)(h:DataW.Trod ec C.P w 0 sp true 40 v d p):
  ∃l:List (List Nat),bY w Lh v (.aa false (gB l))/\(∀y∈l,Dl y/\y.length<Rows.uptoBulk d)/\l.length<Rows.uptoBulk d:=by
 obtain⟨n,hn⟩:=h;obtain⟨a,len,cap,rfl⟩:=okWide_slice (bp (T6.cP 40 _ rfl)) fQ;obtain⟨c,l,hc,h1,h2⟩:=OC hn;obtain rfl:Value.slice a len cap=c:=by simpa[Value.cells]using hc
 exact⟨l,h1,h2⟩
theorem Lj{H:Type}{ec:TypeId×Value->H}{w:World}{base:Nat}{sp:Nat->Bool}{v:Value}{d:DataW H}{p:List MemPlace}(fQ:Value.okWide C.P w .any base 5 v)(h:DataW.Trod ec C.P w 0 sp true 5 v d p):
  ∃n:Int,bY w Lh v (.int .u8 n):=by
 obtain⟨n,rfl⟩:=okWide_int (m' (T6.cP 5 _ rfl)) fQ;exact⟨n,.int _ _⟩
end Go.Pm
namespace Go.Pm
set_option maxRecDepth 4000
theorem NK:∀(ids:List Nat) (h:ab),(∀id∈ids,∃o:au,h[id]?=some o/\ar o.es=true/\(o.mu=.m\/o.mu=.f))->∃h',fh h ids=some h'
 |[],h,_=>⟨h,rfl⟩
 |id::r,h,hh=>by
  obtain⟨o,h1,h2,h3⟩:=hh id (by simp);have hf:j4 h id=some (h.set id {o with mu:=.f}):=by simp only[j4,h1];rw[if_pos ⟨h2,h3⟩]
  obtain⟨h',e⟩:=NK r (h.set id {o with mu:=.f}) λj hj=>by
   obtain⟨o',g1,g2,g3⟩:=hh j (by simp[hj])
   by_cases xS:id=j
   ·subst xS;exact⟨{o with mu:=.f},ZB (ag h1),h2,.inr rfl⟩
   ·exact⟨o',by rw[ZC xS];exact g1,g2,g3⟩
  exact⟨h',by simp only[fh,hf,e]⟩
theorem ai.any{C:cK}{f:FuncId}{args args':List PV}{h:ab}{rv:PV}{Q:PV->ab->Prop}(hb:iK h args=some args')(MD:ar args=false)(zO:∀id∈jJ args,∃o:au,h[id]?=some o/\ar o.es=true/\(o.mu=.m\/o.mu=.f))(a:aO C f (aU args') rv)(q:∀h',Q rv h')(hm:C.mode f=.pure:=by rfl):ai C 2 f args h Q:=by
 obtain⟨n0,hn⟩:=a;obtain⟨hf,ef⟩:=NK _ _ zO;refine⟨rv,if(dP rv ||mg h (jJ args))=true then h else hf,q _,n0,λn h1=>?_⟩;obtain⟨r0,hc,r1,e1,e3,e4⟩:=hn n h1;have yq:dP r1=dP rv:=by have:=jv r1;rw[e4]at this;exact this.symm
 unfold c9;rw[hm];simp only[dx,MD,ZJ,if_false,hb,e1,e3,yq,e4]
 split
 ·rfl
 ·simp[ef]
namespace bO
open Go.Proofs
attribute [local irreducible] aE aC aI aJ Ev ah ai ay aV
@[simp] theorem wH(l:List fg):du 5 (bW l):=by
 unfold du;rw[Zw]
 intro v hv
 obtain⟨t,_,rfl⟩:=Z0.1 hv
 rfl
@[simp] theorem qJ(l:List cY):du 8 (bE l):=by
 unfold du;rw[Zw]
 intro v hv
 obtain⟨t,_,rfl⟩:=Z0.1 hv
 rfl
theorem jE{sz:Nat}{es:List PV}(ho:du sz es)(hn:es.length<1000000000)(H:ab):∃r H',bu sz [.aa false es] H=some (r,H')/\Out sz H' r es/\(HV H->ar es=true->HV H')/\(∀(j:Nat) (o:au),H[j]?=some o->H'[j]?=some o):=by
 unfold bu
 cases es with
 |nil=>exact⟨.aa true [],H,rfl,.inl ⟨rfl,rfl⟩,λh _=>h,λ_ _ h=>h⟩
 |cons x r=>
  unfold du at ho;simp only[List.isEmpty_cons,ZJ,if_false];rw[if_pos ⟨ho,hn⟩];exact⟨_,_,rfl,.inr ⟨H.length,0,rfl,by simp[newObj]⟩,λh hv=>h.ct (HV.one hv),λj o h=>by rw[newObj,Zv (ag h)];exact h⟩
end bO
open Go.Proofs
def atR(r:List Int)(c:Nat):Int:=r.getD c 0
def Hb(a b:List Int)(q:Int):List Int:=List.zipWith (λx y=>x - q * y) a b
def QV(x:Int):Bool:=decide (-1099511627776<=x/\x<=1099511627776)
def small(r:List Int):Bool:=r.all QV
theorem JT{a b:List Int}{q:Int}(h:a.length=b.length):(Hb a b q).length=a.length:=by simp[Hb,h]
structure Pr2 where
 d:Nat
 s:Nat
 a:List Int
 b:List Int
def Pr2.v(x:Pr2):PV:=.agg [.aj x.d 0 0 x.a.length,.aj x.s 0 0 x.b.length]
end Go.Pm
namespace Go.Pm
abbrev Row:=List Int×Bool
def jV(c:Nat)(R:Row):Bool:=!R.2&&decide (atR R.1 c≠0)
def Hd(c:Nat)(S:List Row):Nat:=(S.filter (jV c)).length
structure x4(c:Nat)(S:List Row)(bi:Nat)(b:List Int):Prop where
 at_:S[bi]?=some (b,false)
 nz:atR b c≠0
 min:∀(i:Nat) (R:Row),S[i]?=some R->jV c R=true->(atR b c).natAbs<=(atR R.1 c).natAbs
 fst:∀(i:Nat) (R:Row),S[i]?=some R->jV c R=true->i<bi->(atR b c).natAbs<(atR R.1 c).natAbs
theorem x4.isc{c:Nat}{S:List Row}{bi:Nat}{b:List Int}(h:x4 c S bi b):jV c (b,false)=true:=by simp[Pm.jV,h.nz]
def JU(c:Nat)(b:List Int)(R:Row):Row:=if jV c R=true then(Hb R.1 b ((atR R.1 c).tdiv (atR b c)),R.2)else R
def tq(c:Nat)(b:List Int)(bi:Nat)(S:List Row):List Row:=S.mapIdx λi R=>if i=bi then R else JU c b R
def UM(S:List Row):Bool:=S.all λR=>small R.1
inductive PG(c:Nat):Nat->List Row->Option (List Row×Int)->Prop
 |zero {S:List Row}:Hd c S=0->PG c 0 S (some (S,-1))
 |one {S:List Row} {bi:Nat} {b:List Int}:x4 c S bi b->Hd c S=1->PG c 0 S (some (S.set bi (b,true),bi))
 |JV {S:List Row} {bi:Nat} {b:List Int}:x4 c S bi b->2<=Hd c S->UM (tq c b bi S)=false->PG c 0 S none
 |step {S:List Row} {bi n:Nat} {b:List Int} {NF:Option (List Row×Int)}:x4 c S bi b->2<=Hd c S->UM (tq c b bi S)=true->PG c n (tq c b bi S) NF->PG c (n+1) S NF
theorem yM{c:Nat}{b:List Int}{bi:Nat}{S:List Row}{i:Nat}:(tq c b bi S)[i]?=(S[i]?).map λR=>if i=bi then R else JU c b R:=by
 unfold tq;rw[List.getElem?_mapIdx]
inductive El(n:Nat):Nat->List Row->List Int->Option (List Row×List Int)->Prop
 |done{S:List Row} {P:List Int}:El n n S P (some (S,P))
 |JV {c k:Nat} {S:List Row} {P:List Int}:c<n->PG c k S none->El n c S P none
 |next {c k:Nat} {S S':List Row} {P:List Int} {i:Int} {NF:Option (List Row×List Int)}:c<n->PG c k S (some (S',i))->El n (c+1) S' (P++[i]) NF->El n c S P NF
open Go.Proofs
set_option maxRecDepth 4000
structure Rw where
 r:Nat
 p:Nat
 c:Nat
 a:List Int
 b:List Int
 u:Bool
def Rw.m(R:Rw):Row:=(R.a++R.b,R.u)
def Rw.ids(R:Rw):List Nat:=[R.r,R.p,R.c]
def Rw.ptr(R:Rw):PV:=.ptr R.r 0 0 0
structure QW(h:ab)(R:Rw):Prop where
 er:h[R.r]?=some ⟨.m,0,3,[.agg [.aj R.p 0 0 R.a.length,.aj R.c 0 0 R.b.length,.bool R.u]]⟩
 ea:h[R.p]?=some ⟨.m,0,1,fw R.a⟩
 eb:h[R.c]?=some ⟨.m,0,1,fw R.b⟩
def ck:PV->List Nat
 | .aj i _ _ _=>[i]
 |_=>[]
structure Lay(h:ab)(x:Nat)(cv rv pv:PV)(n k:Nat)(Rs:List Rw)(P:List Int)(lg:Bool):Prop where
 hr:HR h
 ex:h[x]?=some ⟨.m,0,4,[.agg [cv,rv,pv,.bool lg]]⟩
 er:Out 1 h rv (Rs.map Rw.ptr)
 ep:Out 1 h pv (fw P)
 at_:∀R∈Rs,QW h R/\R.a.length=n/\R.b.length=k
 nd:(x::(ck rv++(ck pv++Rs.flatMap Rw.ids))).Nodup
theorem D3{n:Nat}:∀{p:PV},cD n p=true->br (λi=>decide (i<n)) p=true:=by
 have one:∀{p:PV},dY n p=true->br (λi=>decide (i<n)) p=true:=by
  intro p h
  unfold dY at h
  split at h
  ·simpa[br]using h
  ·simpa[br]using h
  ·exact uD _ _ h
 intro p h
 unfold cD at h
 split at h
 ·rename_i cs
  rw[br,fI,Zw];exact λc hc=>one (Zw.1 h c hc)
 ·exact one h
theorem HR.take{h:ab}(H:HR h){n:Nat}(hn:n<=h.length)(hb:((h.take n).all λo=>o.es.all (cD n))=true):HR (h.take n):=by
 intro o ho
 refine⟨(H o (aae ho)).1,?_⟩;rw[aat,abc hn,fI,Zw];exact λp hp=>D3 (Zw.1 (Zw.1 hb o ho) p hp)
theorem ai.sm{C:cK}{f:FuncId}{args:List PV}{H:ab}{P Q:PV->ab->Prop}(a:ay C f args H P)(hl:∀r h',P r h'->HR h'/\H.length<=h'.length)(q1:∀r h',P r h'->Q r h')(q2:∀r h',P r h'->HR (h'.take H.length)->Q r (h'.take H.length))(hm:C.mode f=.opened:=by rfl):ai C 2 f args H Q:=by
 refine ai.opened hm (a.mono λr k hr=>?_)
 split
 ·rename_i hc
  rw[ZD]at hc;obtain⟨h1,h2⟩:=hl r k hr;exact q2 r k hr (h1.take h2 hc.2)
 ·exact q1 r k hr
theorem Out.of_eq{sz:Nat}{h h':ab}{v:PV}{es:List PV}(o:Out sz h v es)(he:∀i∈ck v,h'[i]?=h[i]?):Out sz h' v es:=by
 rcases o with o |⟨id,ep,rfl,e⟩
 ·exact .inl o
 ·exact .inr ⟨id,ep,rfl,by rw[he id (by simp[ck])];exact e⟩
def Lay.all(x:Nat)(rv pv:PV)(Rs:List Rw):List Nat:=x::(ck rv++(ck pv++Rs.flatMap Rw.ids))
theorem Out.mP{sz:Nat}{h:ab}{v:PV}{es:List PV}(o:Out sz h v es):∀i∈ck v,i<h.length:=by
 rcases o with⟨rfl,_⟩|⟨id,ep,rfl,e⟩
 ·simp[ck]
 ·intro i hi;simp[ck]at hi;subst hi;exact ag e
theorem QW.lt{h:ab}{R:Rw}(a:QW h R):∀i∈R.ids,i<h.length:=by
 intro i hi
 simp only[Rw.ids,ZF,aaD,or_false]at hi;rcases hi with rfl |rfl |rfl
 ·exact ag a.er
 ·exact ag a.ea
 ·exact ag a.eb
theorem Lay.lt{h:ab}{x:Nat}{cv rv pv:PV}{n k:Nat}{Rs:List Rw}{P:List Int}{lg:Bool}(L:Lay h x cv rv pv n k Rs P lg):∀i∈Lay.all x rv pv Rs,i<h.length:=by
 intro i hi
 simp only[Lay.all,ZF,ZE,aaz]at hi;rcases hi with rfl |hi |hi |⟨R,hR,hi⟩
 ·exact ag L.ex
 ·exact L.er.mP i hi
 ·exact L.ep.mP i hi
 ·exact(L.at_ R hR).1.lt i hi
theorem Bz(c:Nat)(p:List Row)(R:Row):Hd c (p++[R])=Hd c p+if jV c R=true then 1 else 0:=by
 unfold Hd;rw[aby,Zx]
 congr 1
 by_cases h:jV c R=true <;>simp[h]
theorem BA{c:Nat}{S:List Row}(h:Hd c S=0):∀R∈S,jV c R=false:=by
 unfold Hd at h
 intro R hR
 cases hc:jV c R with
 |false=>rfl
 |true=>
  have:R∈S.filter (jV c):=aao.2 ⟨hR,hc⟩;rw[ZL h]at this
  cases this
def XU(c:Nat)(p:List Row)(best count:Int):Prop:=count=(Hd c p:Nat)/\((Hd c p=0/\best=-1)\/∃(bi:Nat) (b:List Int),best=bi/\x4 c p bi b)
theorem BB{p:List Row}{R Q:Row}{i:Nat}(h:(p++[R])[i]?=some Q):p[i]?=some Q\/(i=p.length/\Q=R):=by
 rcases aaT i p.length with h1 |h1 |h1
 ·rw[Zv h1]at h;exact .inl h
 ·subst h1;simp at h;exact .inr ⟨rfl,h.symm⟩
 ·rw[ZM (by simp;omega)]at h;cases h
theorem x4.new{c:Nat}{p:List Row}{b:List Int}(hc:jV c (b,false)=true)(h:∀Q∈p,jV c Q=true->(atR b c).natAbs<(atR Q.1 c).natAbs):x4 c (p++[(b,false)]) p.length b where
 at_:=by simp
 nz:=by simpa[jV]using hc
 min i Q hQ XV:=by
  rcases BB hQ with h1 |⟨rfl,rfl⟩
  ·exact Nat.le_of_lt (h Q (ZK h1) XV)
  ·exact Zz _
 fst i Q hQ XV hi:=by
  rcases BB hQ with h1 |⟨rfl,rfl⟩
  ·exact h Q (ZK h1) XV
  ·omega
theorem XU.first{c:Nat}{p:List Row}{count:Int}{b:List Int}(h:XU c p (-1) count)(hR:jV c (b,false)=true):XU c (p++[(b,false)]) p.length (count+1):=by
 obtain⟨h1,h2⟩:=h;rcases h2 with⟨a,_⟩|⟨bi,_,e,_⟩
 ·refine⟨by rw[Bz,hR,if_pos rfl];omega,.inr ⟨_,b,rfl,x4.new hR λQ hQ hc=>?_⟩⟩;rw[BA a Q hQ]at hc;cases hc
 ·omega
structure Rf where
 i:Nat
 e:Nat
 r:List Int
 u:Bool
def Rf.v(z:Rf):PV:=.aj z.i z.e 0 z.r.length
def Rf.m(z:Rf):Row:=(z.r,z.u)
def Rf.b(z:Rf):PV:=.bool z.u
def FI(l:List Nat):List PV:=l.map λ(i:Nat)=>.int .i64 i
@[simp] theorem TE(l:List Nat):(FI l).length=l.length:=by simp[FI]
@[simp] theorem QX(l:List Nat):ar (FI l)=true:=by induction l with |nil=>rfl |cons x l ih=>simpa[FI]using ih
structure RL(h:ab)(rv:PV)(iu eu w:Nat)(Z:List Rf):Prop where
 hr:HR h
 er:Out 1 h rv (Z.map Rf.v)
 eu:h[iu]?=some ⟨.m,eu,1,Z.map Rf.b⟩
 at_:∀z∈Z,h[z.i]?=some ⟨.m,z.e,1,fw z.r⟩/\z.r.length=w
def MB(c:Nat)(S:List Row):List Nat:=(List.range S.length).filter λi=>match S[i]? with |some R=>jV c R |none=>false
theorem JW(c:Nat)(p:List Row)(R:Row):MB c (p++[R])=MB c p++if jV c R=true then[p.length]else[]:=by
 unfold MB;rw[Zx,List.length_singleton,List.range_succ,aby]
 congr 1
 ·apply List.filter_congr
  intro i hi
  rw[Zv (abB.1 hi)]
 ·by_cases h:jV c R=true <;>simp[h]
theorem JX{α:Type}{P:List α->Prop}(h0:P [])(hs:∀l a,P l->P (l++[a])):∀l,P l:=by
 intro l
 have:∀r:List α,P r.reverse:=by
  intro r
  induction r with
  |nil=>exact h0
  |cons a r ih=>rw[List.reverse_cons];exact hs _ _ ih
 simpa using this l.reverse
theorem NE(c:Nat):∀S:List Row,(MB c S).length=Hd c S:=by
 refine JX (P:=λS=>(MB c S).length=Hd c S) rfl (λp R ih=>?_);rw[JW,Bz,Zx,ih];by_cases h:jV c R=true <;>simp[h]
theorem FH{c:Nat}{S:List Row}{i:Nat}:i∈MB c S↔∃R,S[i]?=some R/\jV c R=true:=by
 unfold MB;rw[aao,abB]
 constructor
 ·rintro⟨h1,h2⟩;rw[Zy h1]at h2;exact⟨_,Zy h1,h2⟩
 ·rintro⟨R,h1,h2⟩;exact⟨ag h1,by rw[h1];exact h2⟩
theorem Out.bG{sz:Nat}{h:ab}{v:PV}{es:List PV}(o:Out sz h v es):Pm.bG v=true/\Pm.cells v=[v]:=by
 rcases o with⟨rfl,_⟩|⟨id,ep,rfl,_⟩ <;>exact⟨rfl,rfl⟩
theorem Out.br{sz:Nat}{h:ab}{v:PV}{es:List PV}(o:Out sz h v es):Pm.br (λi=>decide (i<h.length)) v=true:=by
 rcases o with⟨rfl,_⟩|⟨id,ep,rfl,e⟩
 ·rfl
 ·have:=ag e;simpa[Pm.br]using this
theorem ai.fr{C:cK}{f:FuncId}{args:List PV}{H:ab}{P Q:PV->ab->Prop}(a:ay C f args H (λr h'=>HR h'/\H.length<=h'.length/\(∀j,j<H.length->h'[j]?=H[j]?)/\P r h'))(hP:∀r h',P r h'->dZ H.length r=true->P r (h'.take H.length))
  (q:∀r h',HR h'->H.length<=h'.length->(∀j,j<H.length->h'[j]?=H[j]?)->P r h'->Q r h') (hm:C.mode f=.opened:=by rfl):ai C 2 f args H Q:=by
 refine ai.opened hm (a.mono λr k hr=>?_);obtain⟨r1,r2,r3,r4⟩:=hr
 split
 ·rename_i hc
  rw[ZD]at hc;exact q r _ (r1.take r2 hc.2) (by simp;omega) (λj hj=>by rw[ZO,if_pos hj];exact r3 j hj) (hP r k r4 hc.1)
 ·exact q r k r1 r2 r3 r4
structure TB(H h:ab)(r6 iu w:Nat)(QY:List Tm)(rv pv:PV)(Z:List Rf)(P:List Int):Prop where
 rl:RL h rv iu 0 w Z
 fr:∀j,j<H.length->h[j]?=H[j]?
 z0:h[H.length]?=some ⟨.m,0,3,[.agg [.aa true [],.aa true [],.aa true []]]⟩
 ex:h[r6]?=some ⟨.m,0,3,[.agg [.aa false (ae QY),rv,pv]]⟩
 ep:Out 1 h pv (fw P)
 gt:∀i∈iu::(ck rv++ck pv),r6<i
 nd:(iu::(ck rv++ck pv)).Nodup
 zi:∀z∈Z,z.i∉iu::(ck rv++ck pv)/\r6<z.i
 h6:H.length<r6
theorem TB.lt{H h:ab}{r6 iu w:Nat}{QY:List Tm}{rv pv:PV}{Z:List Rf}{P:List Int}(t:TB H h r6 iu w QY rv pv Z P):∀i∈iu::(ck rv++ck pv),i<h.length:=by
 intro i hi
 simp only[ZF,ZE]at hi;rcases hi with rfl |hi |hi
 ·exact ag t.rl.eu
 ·exact t.rl.er.mP i hi
 ·exact t.ep.mP i hi
theorem LR.ck{H h':ab}{v r:PV}{sz:Nat}{es:List PV}(l:LR H v sz es r h'):∀i∈Pm.ck r,i∈Pm.ck v\/H.length<=i:=by
 rcases l.out with⟨rfl,_⟩|⟨id,ep,rfl,_⟩
 ·intro i hi;simp[Pm.ck]at hi
 ·intro i hi
  simp only[Pm.ck,ZY]at hi;subst hi;rcases l.ref i ep _ rfl with⟨gV,n',h⟩|h
  ·exact .inl (by rw[h];simp[Pm.ck])
  ·exact .inr h
end Go.Pm
namespace Go.Pm
set_option maxRecDepth 4000
theorem ke(ids:List Nat)(h:ab)(i:Nat):(cr ids h)[i]?=(h[i]?).map λo=>if ids.contains i then bM o else o:=by
 simp[cr,ZP,abk,abR,Function.comp_def]
theorem ms(ids:List Nat)(h h':ab)(i:Nat):(dR ids h h')[i]?=(h'[i]?).map λo=>if ids.contains i then(match h[i]? with |some o'=>o'|none=>o)else o:=by
 simp[dR,ZP,abk,abR,Function.comp_def]
 rfl
theorem Bk{k k':ab}(hl:k.length<=k'.length)(hk:∀(j:Nat) (o:au),k[j]?=some o->o.mu≠.m->k'[j]?=some o):mh k k'=k':=by
 apply aaw
 intro i
 unfold mh;have hz:(List.zipWith (λo o'=>if o.mu=.m then o' else o) k k').length=k.length:=by simp;omega
 by_cases hi:i<k.length
 ·rw[Zv (by omega),aaM];have e1:k[i]?=some k[i]:=Zy hi;have e2:k'[i]?=some k'[i]:=Zy (by omega);have:=hk i _ e1;rw[e1,e2];rw[e2]at this
  by_cases hm:k[i].mu=.m
  ·simp[hm]
  ·simp[hm,Zu (this hm)]
 ·rw[ZI (by omega),hz,Z7]
  congr 1;omega
theorem r9{ids:List Nat}{h k:ab}(hk:∀(j:Nat) (o:au),k[j]?=some o->o.mu≠.l\/(ids.contains j=true/\j<h.length)\/h[j]?=some o):qk ids h k=true:=by
 unfold qk;rw[Zw];rintro⟨o,j⟩ hm;have hg:=List.mem_zipIdx_iff_getElem?.1 hm;rcases hk j o hg with h1 |⟨h1,h2⟩|h1
 ·simp[h1]
 ·simp[List.contains_iff_mem.1 h1,h2]
 ·by_cases hl:o.mu=.l
  ·simp[h1,hl]
  ·simp[hl]
section
variable{C:cK}{run:gU}{ops:Array Oper}{b:List Nat}{h0:ab}{i:Nat}{L:Al}{ρ:Nat->PV}{h:ab}
theorem Uq{d:Nat}{op:Op}{v:PV}{y:TypeId}{s:String}{a:Array Edge}(hh:cR op=true)(hr:gz op=true)(hg:kz ops b h0 i (al L ρ) op=true)(e:az C.P 1 op (al L ρ) h=some (v,h)):
  cO C run ops b h0 i ⟨some d,op,y,s,a,none⟩ ⟨al L ρ,h⟩=some ⟨al ((d,v)::L) ρ,h⟩:=by
 unfold cO;simp only[bm,hh,hr,hg,e,if_true,aab,if_false,bZ]
theorem Ww{d:Nat}{op:Op}{v:PV}{y:TypeId}{s:String}{a:Array Edge}(hh:cR op=true)(hr:gz op=false)(hb:jm op=true)(e:az C.P 1 op (al L ρ) h=some (v,h)):
  cO C run ops b h0 i ⟨some d,op,y,s,a,none⟩ ⟨al L ρ,h⟩=some ⟨al ((d,v)::L) ρ,h⟩:=by
 unfold cO;simp only[bm,hh,hr,hb,e,if_true,aab,ZJ,if_false,bZ]
theorem Ty{d:Nat}{op:Op}{v:PV}{h':ab}{y:TypeId}{s:String}{a:Array Edge}(hh:cR op=true)(hr:gz op=false)(hb:jm op=false)(hl:iM ops b i false=true)(e:ao C run 2 op (al L ρ) h=some (v,h'))(hle:h.length<=h'.length)(hk:∀(j:Nat) (o:au),h[j]?=some o->o.mu≠.m->h'[j]?=some o):
  cO C run ops b h0 i ⟨some d,op,y,s,a,none⟩ ⟨al L ρ,h⟩=some ⟨al ((d,v)::L) ρ,h'⟩:=by
 unfold cO;simp only[bm,hh,hr,hb,hl,e,hle,if_true,aab,ZJ,if_false,bZ,Bk hle hk]
theorem kSt{op:Op}{v:PV}{h':ab}{y:TypeId}{s:String}{a:Array Edge}(hh:cR op=true)(hr:gz op=false)(hb:jm op=false)(hl:iM ops b i false=true)(e:ao C run 2 op (al L ρ) h=some (v,h'))(hle:h.length<=h'.length)(hk:∀(j:Nat) (o:au),h[j]?=some o->o.mu≠.m->h'[j]?=some o):
  cO C run ops b h0 i ⟨none,op,y,s,a,none⟩ ⟨al L ρ,h⟩=some ⟨al L ρ,h'⟩:=by
 unfold cO;simp only[bm,hh,hr,hb,hl,e,hle,if_true,aab,ZJ,if_false,bV,Bk hle hk]
end
theorem Jv{C:cK}(T:lz C.P){ops:Array Oper}{L:Al}{H:ab}{d0 d1 d2 d3 d4 d5 p q ip fX:Nat}{tl el:TypeId}{c:Operand}{z v:PV}{us es:List PV}
  {y0 y1 y2 y3 y4 y5 y6 y7:TypeId} {s0 s1 s2 s3 s4 s5 s6 s7:String} {a0 a1 a2 a3 a4 a5 a6 a7:Array Edge}
  (h2:H[ip]?=some ⟨.m,0,1,[v]⟩) (ho:Out 4 H v es) (hv:∀i∈ck v,i≠ip) (hn:es.length<100000000) (Nk:us.length=4) (Xu:us.all bG=true)
  (hp:lk L p=some (.ptr ip 0 0 0)) (hq:lk L q=some (.ptr H.length 0 0 0)) (hd:[p,q,d0,d1,d2,d3,d4,d5].Nodup)
  (xG:∀ρ,gi ops (before ops) (al L ρ)=[H.length])
  (GS:ops.toList=[⟨some d0,.load tl (.tmp p),y0,s0,a0,none⟩,⟨some d1,.load el (.tmp q),y1,s1,a1,none⟩,⟨some d2,.call ⟨.builtin .len,#[.tmp d0],#[tl]⟩,y2,s2,a2,none⟩,
   ⟨some d3,.buildSlice tl 1 #[(0,c)],y3,s3,a3,none⟩,⟨some d4,.call ⟨.builtin .append,#[.tmp d0,.tmp d3],#[tl,tl]⟩,y4,s4,a4,none⟩,⟨some d5,.indexAddr tl (.tmp d4) (.tmp d2),y5,s5,a5,none⟩,
   ⟨none,.store el (.tmp d5) (.tmp d1),y6,s6,a6,none⟩,⟨none,.store tl (.tmp p) (.tmp d4),y7,s7,a7,none⟩])
  (Fx:ky ops (before ops) 0=true) (Xv:ky ops (before ops) 5=true) (xV:sinks ops (before ops)=some (.tmp d5,.tmp p))
  (c06:qj (before ops) 0 (ops.size - 2)=true) (c07:qj (before ops) 0 (ops.size - 1)=true) (c56:qj (before ops) 5 (ops.size - 2)=true)
  (cH:iM ops (before ops) 2 false=true) (Jw:iM ops (before ops) 4 false=true) (Wx:iM ops (before ops) 6 false=true) (Xw:iM ops (before ops) 7 false=true)
  (hk:T.kd tl=some (.sl el)) (hs:T.ts el=some 4) (ha:T.ta el=some true) (Mz:T.ts tl=some 1) (Fy:T.ta tl=some false) (hb:T.tb el=some fX) (jc:fX<=1000) (hz:T.tz el=some z) (Nl:(cells z).length=4) (Tz:(cells z).all bG=true)
  (Dx:∀(ρ:Nat->PV) (h:ab),dp C.P 1 h tl 1 [(0,ev ρ c)]=some (.aa true [z],h)):
  ∃id ep,∃h':ab,(∀run ρ,iN C run ops ⟨al L ρ,H++[⟨.m,0,4,[.agg us]⟩]⟩=some ⟨al ([(d5,.ptr id ep es.length 0),(d4,.aj id ep 0 (es.length+1)),(d3,.aa true [z]),(d2,.int .i64 es.length),(d1,.agg us),(d0,v)]++L) ρ,h'⟩)/\
   H.length+1<=h'.length/\id≠ip/\id≠H.length/\(id∈ck v\/H.length<id)/\h'[id]?=some ⟨.m,ep,4,es++[.agg us]⟩/\h'[ip]?=some ⟨.m,0,1,[.aj id ep 0 (es.length+1)]⟩/\
   ∀j,j≠id->j≠ip->h'[j]?=(H++[⟨.m,0,4,[.agg us]⟩])[j]?:=by
 have hip:=ag h2;simp only[List.nodup_cons,ZF,aaD,or_false,not_or,not_false_eq_true,List.nodup_nil,and_true]at hd;obtain⟨⟨e1,e2,e3,e4,e5,e6,e7⟩,⟨f2,f3,f4,f5,f6,f7⟩,⟨g3,g4,g5,g6,g7⟩,⟨i4,i5,i6,i7⟩,⟨j5,j6,j7⟩,⟨m6,m7⟩,l7⟩:=hd;have ap:∀ρ,al L ρ p=.ptr ip 0 0 0:=dq hp;have aq:∀ρ,al L ρ q=.ptr H.length 0 0 0:=dq hq;have Xx:=ho.bG
 let lb:au:=⟨.l,0,4,[.agg us]⟩
 have Ur:cr [H.length] (H++[⟨.m,0,4,[.agg us]⟩])=H++[lb]:=by
  apply aaw
  intro i
  rw[ke]
  by_cases hi:i<H.length
  ·rw[Zv hi,Zv hi];have:([H.length].contains i)=false:=by simp;omega
   simp only[this,ZJ,if_false,abA]
  ·rw[ZI (by omega),ZI (by omega)]
   by_cases h0:i=H.length
   ·subst h0;simp[bM,lb]
   ·have:i - H.length≠0:=by omega
    obtain⟨m,hm⟩:∃m,i - H.length=m+1:=⟨i - H.length - 1,by omega⟩;rw[hm];simp
 obtain⟨id,ep,k4,lY,Wy,Xy,QA,Us,Xz,QB,XA⟩:∃id ep,∃k4:ab,bL C.P 2 (H++[lb]) tl tl v (.aa true [z])=some (.aj id ep 0 (es.length+1),k4)/\k4[id]?=some ⟨.m,ep,4,es++[z]⟩/\(H++[lb]).length<=k4.length/\id≠ip/\id≠H.length/\(id∈ck v\/H.length<id)/\(∀j,j≠id->k4[j]?=(H++[lb])[j]?)/\∀o,(H++[lb])[id]?=some o->o.mu=.m:=by
  have iP:du (3+1) [z]:=by simp[du,Nl,Zw.1 Tz];exact λx hx=>Zw.1 Tz x hx
  rcases ho with⟨rfl,rfl⟩|⟨id,ep,rfl,bT⟩
  ·refine⟨_,_,_,fZ T (lv:=2) (by omega) hk hk hs hb hz jc Nl Tz iP rfl (by simp),?_,?_,?_,?_,?_,?_,?_⟩
   ·simp
   ·simp
   ·simp;omega
   ·simp
   ·right;simp
   ·intro j hj
    by_cases tf:j<(H++[lb]).length
    ·rw[Zv tf]
    ·rw[ZM (by simp at hj tf ⊢;omega),ZM (by omega)]
   ·intro o h;rw[ZM (by omega)]at h;cases h
  ·have cz:=ag bT;have vw:(H++[lb])[id]?=some ⟨.m,ep,4,es⟩:=by rw[Zv cz];exact bT
   have:=kg T (h:=H++[lb]) (full:=true) (len:=es.length) (ys:=[z]) hk hk hs hb hz jc Nl Tz iP rfl (by simp;omega) (bg vw rfl (by simp)) rfl rfl (Zz _);refine⟨id,ep+1,_,this,?_,?_,?_,?_,?_,?_,?_⟩
   ·rw[ZB (by simp;omega)];simp
   ·simp
   ·exact hv id (by simp[ck])
   ·omega
   ·left;simp[ck]
   ·intro j hj;rw[ZC (by omega)]
   ·intro o h;rw[vw]at h;cases h;rfl
 have XB:=ag Wy;have Ut:k4[ip]?=some ⟨.m,0,1,[v]⟩:=by rw[QB ip (by omega),Zv hip];exact h2
 let k6:ab:=k4.set id ⟨.m,ep,4,es++[.agg us]⟩
 let k7:ab:=k6.set ip ⟨.m,0,1,[.aj id ep 0 (es.length+1)]⟩
 have XC:∀j,j≠id->j≠ip->k7[j]?=(H++[lb])[j]?:=λj h1 h2=>by
  show((k4.set id _).set ip _)[j]?=_;rw[ZC (by omega),ZC (by omega),QB j h1]
 have Uu:k6[ip]?=some ⟨.m,0,1,[v]⟩:=by rw[ZC (by omega)];exact Ut
 have Uv:k7[ip]?=some ⟨.m,0,1,[.aj id ep 0 (es.length+1)]⟩:=ZB (by show ip<(k4.set id _).length;rw[abK];exact ag Ut);have Uw:k7[id]?=some ⟨.m,ep,4,es++[.agg us]⟩:=by rw[ZC (by omega)];exact ZB XB
 have Y9:k7.length=k4.length:=by simp[k7,k6]
 have xD:(H++[lb]).length=H.length+1:=by simp
 have MA:(H++[lb])[H.length]?=some lb:=by simp
 have kk4:∀(j:Nat) (o:au),(H++[lb])[j]?=some o->o.mu≠.m->k4[j]?=some o:=λj o h hm=>by
  by_cases hj:j=id
  ·subst hj;exact absurd (XA o h) hm
  ·rw[QB j hj];exact h
 have kk6:∀(j:Nat) (o:au),k4[j]?=some o->o.mu≠.m->k6[j]?=some o:=λj o h hm=>by
  by_cases hj:j=id
  ·subst hj;rw[Wy]at h;cases h;exact absurd rfl hm
  ·rw[ZC (by omega)];exact h
 have kk7:∀(j:Nat) (o:au),k6[j]?=some o->o.mu≠.m->k7[j]?=some o:=λj o h hm=>by
  by_cases hj:j=ip
  ·subst hj;rw[Uu]at h;cases h;exact absurd rfl hm
  ·rw[ZC (by omega)];exact h
 have zP:qk [H.length] (H++[⟨.m,0,4,[.agg us]⟩]) k7=true:=r9 λj o h=>by
  by_cases hj:j=id
  ·subst hj;rw[Uw]at h;cases h;exact .inl (by simp)
  by_cases tf:j=ip
  ·subst tf;rw[Uv]at h;cases h;exact .inl (by simp)
  by_cases Ux:j=H.length
  ·exact .inr (.inl ⟨by simp[Ux],by simp;omega⟩)
  rw[XC j hj tf]at h;have cz:=ag h;rw[xD]at cz;rw[Zv (by omega)]at h;exact .inr (.inr (by rw[Zv (by omega)];exact h))
 have kH:∀j,(dR [H.length] (H++[⟨.m,0,4,[.agg us]⟩]) k7)[j]?=if j=H.length then some ⟨.m,0,4,[.agg us]⟩else k7[j]?:=λj=>by
  rw[ms]
  by_cases hj:j=H.length
  ·subst hj;rw[XC _ (by omega) (by omega),MA,if_pos rfl];simp
  ·rw[if_neg hj];have:([H.length].contains j)=false:=by simp;omega
   simp only[this,ZJ,if_false,abA]
 refine⟨id,ep,dR [H.length] (H++[⟨.m,0,4,[.agg us]⟩]) k7,λrun ρ=>?_,?_,QA,Us,Xz,?_,?_,?_⟩
 rotate_left
 ·have:(dR [H.length] (H++[⟨.m,0,4,[.agg us]⟩]) k7).length=k7.length:=by simp[dR]
  omega
 ·rw[kH,if_neg Us];exact Uw
 ·rw[kH,if_neg (by omega)];exact Uv
 ·intro j h1 h2
  rw[kH]
  by_cases hj:j=H.length
  ·subst hj;rw[if_pos rfl];simp
  ·rw[if_neg hj,XC j h1 h2]
   by_cases tf:j<H.length
   ·rw[Zv tf,Zv tf]
   ·rw[ZM (by simp;omega),ZM (by simp;omega)]
 unfold iN;rw[xG,Ur,GS];dsimp only
 have pc:∀{h:ab} {i:Nat} {mm:Mu} {e' n:Nat} {xs:List PV} {x:PV},h[i]?=some ⟨mm,e',n,xs⟩->mm≠.x->xs[0]?=some x->cC h (.ptr i e' 0 0)=some (cells x):=λ{h i mm e' n xs x} q1 q2 q3=>by
  simp[cC,getM,q1,q2,q3]
 have L0:iq C.P (H++[lb]) tl (.ptr ip 0 0 0)=some v:=by
  refine rc T ?_;have:cC (H++[lb]) (.ptr ip 0 0 0)=some (cells v):=pc (mm:=.m) (by rw[Zv hip];exact h2) (by simp) rfl;rw[Xx.2]at this;simp only[loadT,Mz,Fy,this]
 have L1:iq C.P (H++[lb]) el (.ptr H.length 0 0 0)=some (.agg us):=by
  refine rc T ?_;have:cC (H++[lb]) (.ptr H.length 0 0 0)=some us:=pc (mm:=.l) (x:=.agg us) MA (by simp) rfl;simp only[loadT,hs,ha,this];rw[if_pos (by rw[Nk];rfl),ZW (by omega)]
 have L2:nV C.P (H++[lb]) tl v=some (.int .i64 es.length):=by
  rcases ho with⟨rfl,rfl⟩|⟨id,ep,rfl,bT⟩
  ·simp only[nV,bp (T.cP _ _ hk)]
  ·have vw:(H++[lb])[id]?=some ⟨.m,ep,4,es⟩:=by rw[Zv (ag bT)];exact bT
   simp only[nV,bp (T.cP _ _ hk),bg vw rfl (by simp)];rw[if_pos (by show 0+es.length<=es.length;omega)]
 have L5:cq C.P k4 tl (.aj id ep 0 (es.length+1)) (.int .i64 es.length)=some (.ptr id ep es.length 0):=by
  simp only[cq,bp (T.cP _ _ hk),T.dO _ _ hs,bg Wy rfl (by simp)];rw[if_pos ⟨by omega,by omega,trivial,by simp⟩];simp
 have L6:gC C.P k4 el (.ptr id ep es.length 0) (.agg us)=some k6:=by
  have hg:getM k4 id ep=some ⟨.m,ep,4,es++[z]⟩:=bg Wy rfl (by simp);have cV:(es++[z])[es.length]?=some z:=by simp
  simp only[gC,T.dO _ _ hs,hg,cV];rw[if_pos ⟨trivial,Nk,Xu,by rw[Nl];omega⟩];have hr:eD 0 4 z (.agg us)=.agg us:=by unfold eD;rw[if_pos ⟨rfl,Nl.symm⟩]
  rw[hr];simp[k6]
 have L7:gC C.P k6 tl (.ptr ip 0 0 0) (.aj id ep 0 (es.length+1))=some k7:=by
  have hg:getM k6 ip 0=some ⟨.m,0,1,[v]⟩:=bg Uu rfl (by simp);have cV:([v]:List PV)[0]?=some v:=rfl;simp only[gC,T.dO _ _ Mz,hg,cV];rw[if_pos ⟨trivial,rfl,rfl,by rw[Xx.2];simp⟩];have hr:eD 0 1 v (.aj id ep 0 (es.length+1))=.aj id ep 0 (es.length+1):=by unfold eD;rw[if_pos ⟨rfl,by rw[Xx.2];rfl⟩]
  rw[hr];simp[k7]
 have G0:kz ops (before ops) (H++[lb]) 0 (al L ρ) (.load tl (.tmp p))=true:=by
  simp only[kz,qV,ev,ap,Fx,zI,xV,c06,c07,abw,abF,Bool.or_true]
 have G1:kz ops (before ops) (H++[lb]) 1 (al ((d0,v)::L) ρ) (.load el (.tmp q))=true:=by
  simp[kz,qV,ev,al,f2,aq,nX,lb]
 have XD:(ops.toList.any λo=>o.dst==some p)=false:=by
  rw[GS];simp[aak e2,aak e3,aak e4,aak e5,aak e6,aak e7]
 have G5:kz ops (before ops) (H++[lb]) 5 (al ((d4,.aj id ep 0 (es.length+1))::(d3,.aa true [z])::(d2,.int .i64 es.length)::(d1,.agg us)::(d0,v)::L) ρ) (.indexAddr tl (.tmp d4) (.tmp d2))=true:=by
  have:Dp ops (al ((d4,.aj id ep 0 (es.length+1))::(d3,.aa true [z])::(d2,.int .i64 es.length)::(d1,.agg us)::(d0,v)::L) ρ) (.tmp p) id=true:=by
   simp[Dp,XD,ev,al,e2,e3,e4,e5,e6,ap,aak QA]
  have h4:ev (al ((d4,.aj id ep 0 (es.length+1))::(d3,.aa true [z])::(d2,.int .i64 es.length)::(d1,.agg us)::(d0,v)::L) ρ) (.tmp d4)=.aj id ep 0 (es.length+1):=by simp[ev,al]
  simp only[kz,qV,h4,Xv,zI,xV,c56,abw,aaE,this,Bool.or_true]
 have qv:b8 C run ops (before ops) (H++[lb]) 0 [⟨some d0,.load tl (.tmp p),y0,s0,a0,none⟩,⟨some d1,.load el (.tmp q),y1,s1,a1,none⟩,⟨some d2,.call ⟨.builtin .len,#[.tmp d0],#[tl]⟩,y2,s2,a2,none⟩,
   ⟨some d3,.buildSlice tl 1 #[(0,c)],y3,s3,a3,none⟩,⟨some d4,.call ⟨.builtin .append,#[.tmp d0,.tmp d3],#[tl,tl]⟩,y4,s4,a4,none⟩,⟨some d5,.indexAddr tl (.tmp d4) (.tmp d2),y5,s5,a5,none⟩,
   ⟨none,.store el (.tmp d5) (.tmp d1),y6,s6,a6,none⟩,⟨none,.store tl (.tmp p) (.tmp d4),y7,s7,a7,none⟩] ⟨al L ρ,H++[lb]⟩=some ⟨al ([(d5,.ptr id ep es.length 0),(d4,.aj id ep 0 (es.length+1)),(d3,.aa true [z]),(d2,.int .i64 es.length),(d1,.agg us),(d0,v)]++L) ρ,k7⟩:=by
  rw[b8,Uq rfl rfl G0 (v:=v) (by simp only[az,ev,ap,L0,Option.map_some])];dsimp only;rw[b8,Uq rfl rfl G1 (v:=.agg us) (by simp only[az,ev,al,f2,if_false,aq,L1,Option.map_some])];dsimp only;rw[b8,Ty rfl rfl rfl cH (v:=.int .i64 es.length) (h':=H++[lb]) (by simp[ao,bo,ev,al,g3,L2]) (Nat.le_refl _) (λ_ _ h _=>h)];dsimp only;rw[b8,Ww rfl rfl rfl (v:=.aa true [z]) (by simp only[az,List.map_cons,List.map_nil,Dx])];dsimp only;rw[b8,Ty rfl rfl rfl Jw (v:=.aj id ep 0 (es.length+1)) (h':=k4) (by simp[ao,bo,ev,al,g3,g4,g5,lY]) Xy kk4];dsimp only;rw[b8,Uq rfl rfl G5 (v:=.ptr id ep es.length 0) (by simp[az,ev,al,j5,j6,L5])];dsimp only;rw[b8,kSt rfl rfl rfl Wx (v:=.undef) (h':=k6) (by simp[ao,az,ev,al,i4,i5,i6,i7,L6]) (by simp[k6]) kk6];dsimp only;rw[b8,kSt rfl rfl rfl Xw (v:=.undef) (h':=k7) (by simp[ao,az,ev,al,e2,e3,e4,e5,e6,e7,l7,ap,L7]) (by simp[k7]) kk7]
  rfl
 rw[qv];dsimp only
 have Nh:ql ops (before ops) (al ([(d5,.ptr id ep es.length 0),(d4,.aj id ep 0 (es.length+1)),(d3,.aa true [z]),(d2,.int .i64 es.length),(d1,.agg us),(d0,v)]++L) ρ)=true:=by
  simp[ql,xV,ev,al,e2,e3,e4,e5,e6,e7,ap,QA]
 rw[if_pos ⟨zP,Nh⟩]
theorem Uy{C:cK}(T:lz C.P){tl:TypeId}{c:Operand}{z:PV}(x:xW T tl 1 [(0,c)] [] (λ_ es=>es=[z]))(hv:ar [z]=true)(ρ:Nat->PV)(h:ab):dp C.P 1 h tl 1 [(0,ev ρ c)]=some (.aa true [z],h):=by
 obtain⟨sz,es,rfl,e⟩:=mv T x;have:=e ρ h 1;rw[if_pos hv]at this;exact this
structure Apd(H:ab)(ip:Nat)(v:PV)(es us:List PV)(id ep:Nat)(h':ab):Prop where
 len:H.length+1<=h'.length
 idp:id≠ip
 idn:id≠H.length
 Wz:id∈ck v\/H.length<id
 at':h'[id]?=some ⟨.m,ep,4,es++[.agg us]⟩
 var:h'[ip]?=some ⟨.m,0,1,[.aj id ep 0 (es.length+1)]⟩
 fr:∀j,j≠id->j≠ip->h'[j]?=(H++[⟨.m,0,4,[.agg us]⟩])[j]?
theorem Py.apd{C:cK}{T:lz C.P}{ops:Array Oper}{L:Al}{H:ab}{Q:Al->ab->Prop}{d0 d1 d2 d3 d4 d5 p q ip fX:Nat}{tl el:TypeId}{c:Operand}{z v:PV}{us es:List PV}
  {y0 y1 y2 y3 y4 y5 y6 y7:TypeId} {s0 s1 s2 s3 s4 s5 s6 s7:String} {a0 a1 a2 a3 a4 a5 a6 a7:Array Edge}
  (h2:H[ip]?=some ⟨.m,0,1,[v]⟩) (ho:Out 4 H v es) (hv:∀i∈ck v,i≠ip) (hn:es.length<100000000)
  (kk:∀id ep h',Apd H ip v es us id ep h'->Rn (Q ([(d5,.ptr id ep es.length 0),(d4,.aj id ep 0 (es.length+1)),(d3,.aa true [z]),(d2,.int .i64 es.length),(d1,.agg us),(d0,v)]++L) h'))
  (GS:ops.toList=[⟨some d0,.load tl (.tmp p),y0,s0,a0,none⟩,⟨some d1,.load el (.tmp q),y1,s1,a1,none⟩,⟨some d2,.call ⟨.builtin .len,#[.tmp d0],#[tl]⟩,y2,s2,a2,none⟩,
   ⟨some d3,.buildSlice tl 1 #[(0,c)],y3,s3,a3,none⟩,⟨some d4,.call ⟨.builtin .append,#[.tmp d0,.tmp d3],#[tl,tl]⟩,y4,s4,a4,none⟩,⟨some d5,.indexAddr tl (.tmp d4) (.tmp d2),y5,s5,a5,none⟩,
   ⟨none,.store el (.tmp d5) (.tmp d1),y6,s6,a6,none⟩,⟨none,.store tl (.tmp p) (.tmp d4),y7,s7,a7,none⟩]:=by rfl)
  (Nk:us.length=4:=by rfl) (Xu:us.all bG=true:=by rfl)
  (hp:lk L p=some (.ptr ip 0 0 0):=by rfl) (hq:lk L q=some (.ptr H.length 0 0 0):=by rfl) (hd:[p,q,d0,d1,d2,d3,d4,d5].Nodup:=by decide)
  (xG:∀ρ,gi ops (before ops) (al L ρ)=[H.length]:=by intro _;rfl)
  (Fx:ky ops (before ops) 0=true:=by rfl) (Xv:ky ops (before ops) 5=true:=by rfl) (xV:sinks ops (before ops)=some (.tmp d5,.tmp p):=by rfl)
  (c06:qj (before ops) 0 (ops.size - 2)=true:=by rfl) (c07:qj (before ops) 0 (ops.size - 1)=true:=by rfl) (c56:qj (before ops) 5 (ops.size - 2)=true:=by rfl)
  (cH:iM ops (before ops) 2 false=true:=by rfl) (Jw:iM ops (before ops) 4 false=true:=by rfl) (Wx:iM ops (before ops) 6 false=true:=by rfl) (Xw:iM ops (before ops) 7 false=true:=by rfl)
  (hk:T.kd tl=some (.sl el):=by rfl) (hs:T.ts el=some 4:=by rfl) (ha:T.ta el=some true:=by rfl) (Mz:T.ts tl=some 1:=by rfl) (Fy:T.ta tl=some false:=by rfl) (hb:T.tb el=some fX:=by rfl) (jc:fX<=1000:=by decide) (hz:T.tz el=some z:=by rfl) (Nl:(cells z).length=4:=by rfl) (Tz:(cells z).all bG=true:=by rfl)
  (hx:xW T tl 1 [(0,c)] [] (λ_ es=>es=[z]):=by exact rfl) (hxv:ar [z]=true:=by rfl) (XE:qW ops=true:=by rfl):Py T ops L (H++[⟨.m,0,4,[.agg us]⟩]) Q:=by
 obtain⟨id,ep,h',e,q1,q2,q3,q4,q5,q6,q7⟩:=Jv T h2 ho hv hn Nk Xu hp hq hd xG GS Fx Xv xV c06 c07 c56 cH Jw Wx Xw hk hs ha Mz Fy hb jc hz Nl Tz (Uy T hx hxv);exact .calm _ h' e (kk id ep h' ⟨q1,q2,q3,q4,q5,q6,q7⟩) XE
theorem Pz{C:cK}(T:lz C.P){H:ab}{st xt el pU:TypeId}{sz fX:Nat}{z v:PV}{full:Bool}{es ys:List PV}(hk:T.kd st=some (.sl el))(fR:T.kd xt=some (.sl pU))(hs:T.ts el=some (sz+1))(hb:T.tb el=some fX)(hz:T.tz el=some z)(jc:fX<=1000)(hl:(cells z).length=sz+1)(ho:(cells z).all bG=true)
  (o:Out (sz+1) H v es) (hy:du (sz+1) ys) (hn:es.length+ys.length<1000000000) (iP:ar es=true) (nR:ar ys=true) (hH:HV H):
  ∃r H',bL C.P 2 H st xt v (.aa full ys)=some (r,H')/\Out (sz+1) H' r (es++ys)/\HV H'/\H.length<=H'.length/\(∀(j:Nat) (o:au),H[j]?=some o->o.mu≠.m->H'[j]?=some o)/\∀(j:Nat) (o:au),H'[j]?=some o->o.mu≠.l\/H[j]?=some o:=by
 by_cases bI:ys=[]
 ·subst bI;refine⟨v,H,?_,by simpa using o,hH,Zz _,λ_ _ h _=>h,λ_ _ h=>.inr h⟩;unfold du at hy;unfold bL;rw[bp (T.cP _ _ hk)];simp only[T.dO _ _ hs,T.rV _ _ hb,T.mO _ _ hz,cy,bp (T.cP _ _ fR),ch];rw[if_pos ⟨by omega,by omega,⟨hl,ho⟩,hy⟩];rcases o with⟨rfl,_⟩|⟨id,ep,rfl,e⟩
  ·simp
  ·simp only[bg e rfl (by simp:Mu.m≠Mu.x)];rw[if_pos ⟨by simp,trivial⟩];simp
 ·have zS:ys.isEmpty=false:=by cases ys with |nil=>exact absurd rfl bI |cons=>rfl
  rcases o with⟨rfl,rfl⟩|⟨id,ep,rfl,e⟩
  ·refine⟨_,_,fZ T (h:=H) (lv:=2) (full:=full) (by omega) hk fR hs hb hz jc hl ho hy zS (by simpa using hn),.inr ⟨H.length,0,by simp,by simp⟩,hH.ct (HV.one nR),by simp,λj o h _=>by rw[Zv (ag h)];exact h,λj o h=>?_⟩
   by_cases hj:j<H.length
   ·rw[Zv hj]at h;exact .inr h
   ·have cz:=ag h;simp at cz;have:j=H.length:=by omega
    subst this;simp at h;subst h;exact .inl (by simp)
  ·have cz:=ag e;have:=kg T (h:=H) (full:=full) (len:=es.length) hk fR hs hb hz jc hl ho hy zS hn (bg e rfl (by simp)) rfl rfl (Zz _);rw[aap]at this;refine⟨_,_,this,.inr ⟨id,ep+1,by simp,ZB cz⟩,hH.set id (by simp) (by simp[bt]at iP nR ⊢;exact⟨iP,nR⟩),by simp,λj o h hm=>?_,λj o h=>?_⟩
   ·by_cases hj:j=id
    ·subst hj;rw[e]at h;cases h;exact absurd rfl hm
    ·rw[ZC (by omega)];exact h
   ·by_cases hj:j=id
    ·subst hj;rw[ZB cz]at h;cases h;exact .inl (by simp)
    ·rw[ZC (by omega)]at h;exact .inr h
section
variable{C:cK}(T:lz C.P){run:gU}{ops:Array Oper}{b:List Nat}{h0:ab}{i:Nat}{L:Al}{ρ:Nat->PV}{h:ab}
theorem xI{o:Oper}{r:List Oper}{s s':St}(e:cO C run ops b h0 i o s=some s'):b8 C run ops b h0 i (o::r) s=b8 C run ops b h0 (i+1) r s':=by rw[b8,e]
theorem kP{d:Nat}{op:Op}{v:PV}{y:TypeId}{s:String}{a:Array Edge}(hs:vB T op L (λx=>x=v)):cO C run ops b h0 i ⟨some d,op,y,s,a,none⟩ ⟨al L ρ,h⟩=some ⟨al ((d,v)::L) ρ,h⟩:=by
 obtain⟨hh,v',e,rfl⟩:=pC T hs;unfold cO;simp only[bm,hh,if_true,e,bZ]
theorem kR{d:Nat}{op:Op}{v:PV}{y:TypeId}{s:String}{a:Array Edge}(hs:tg T op L h (λx=>x=v))(hg:qV op (al L ρ)=none)(hr:gz op=true:=by rfl):cO C run ops b h0 i ⟨some d,op,y,s,a,none⟩ ⟨al L ρ,h⟩=some ⟨al ((d,v)::L) ρ,h⟩:=by
 obtain⟨hh,v',e,rfl⟩:=kj T hs;refine Uq hh hr (by simp only[kz,hg]) ?_;have:=e run 1 ρ
 cases op <;>first |exact this |(cases hr)
end
theorem QC{C:cK}(T:lz C.P){L:Al}{ρ:Nat->PV}{M:ab}{t:TypeId}{n:Nat}{ps:Array (Nat×Operand)}{vs:List PV}(x:xW T t n ps.toList L (λ_ es=>es=vs))(hv:ar vs=true):az C.P 1 (.buildSlice t n ps) (al L ρ) M=some (.aa true vs,M):=by
 obtain⟨sz,es,rfl,e⟩:=mv T x;have:=e ρ M 1;rw[if_pos hv]at this;simpa only[az]using this
theorem DH{C:cK}{ops:Array Oper}{L L':Al}{H h':ab}(xG:∀ρ,gi ops (before ops) (al L ρ)=[])(xV:sinks ops (before ops)=none)(zP:∀(j:Nat) (o:au),h'[j]?=some o->o.mu≠.l\/H[j]?=some o)
  (qv:∀run ρ,b8 C run ops (before ops) H 0 ops.toList ⟨al L ρ,H⟩=some ⟨al L' ρ,h'⟩):∀run ρ,iN C run ops ⟨al L ρ,H⟩=some ⟨al L' ρ,h'⟩:=by
 intro run ρ
 have h1:∀x:ab,cr [] x=x:=λx=>by
  apply aaw
  intro i
  rw[ke];simp
 have h2:dR [] H h'=h':=by
  apply aaw
  intro i
  rw[ms];simp
 unfold iN;rw[xG,h1,qv];dsimp only
 have hn:qk [] H h'=true:=r9 λj o h=>by
  rcases zP j o h with h |h
  ·exact .inl h
  ·exact .inr (.inr h)
 rw[if_pos ⟨hn,by simp only[ql,xV]⟩,h2]
structure NJ(ids:List Nat)(h h':ab):Prop where
 len:h'.length=h.length
 same:∀j,j∉ids->h'[j]?=h[j]?
 nH:∀(j:Nat) (o:au),h[j]?=some o->∃mu:Mu,h'[j]?=some ⟨mu,o.ep,o.bB,o.es⟩/\(mu=o.mu\/mu=.f)
theorem NJ.refl(ids:List Nat)(h:ab):NJ ids h h:=⟨rfl,λ_ _=>rfl,λj o e=>⟨o.mu,e,.inl rfl⟩⟩
theorem NJ.hr{ids:List Nat}{h h':ab}(z:NJ ids h h')(H:HR h):HR h':=by
 intro o ho
 obtain⟨j,hj,rfl⟩:=abO ho;have De:j<h.length:=by rw[<-z.len];exact hj
 obtain⟨mu,e,hm⟩:=z.nH j h[j] (Zy De);rw[Zy hj]at e;have e:=Zu e;obtain⟨h1,h2⟩:=H h[j] (Z2 De);rw[e,z.len];refine⟨?_,h2⟩;rcases hm with rfl |rfl
 ·exact h1
 ·simp
theorem vU:∀{ids:List Nat} {h h':ab},fh h ids=some h'->NJ ids h h'
 |[],h,h',e=>by
  simp only[fh,Z4]at e;subst e;exact .refl _ _
 |id::r,h,h',e=>by
  unfold fh at e
  split at e
  ·rename_i h1 e1
   have a:=vU e;unfold j4 at e1
   split at e1
   ·rename_i o ho
    split at e1
    ·obtain rfl:=Zu e1;refine⟨by rw[a.len,abK],λj hj=>?_,λj o' hj=>?_⟩
     ·rw[ZF,not_or]at hj;rw[a.same j hj.2,ZC (λhh=>hj.1 hh.symm)]
     ·by_cases xS:id=j
      ·subst xS;obtain rfl:=Zu (ho.symm.trans hj);obtain⟨mu,q1,q2⟩:=a.nH id _ (ZB (ag ho));exact⟨mu,q1,.inr (by rcases q2 with rfl |rfl <;>rfl)⟩
      ·exact a.nH j o' (by rw[ZC xS];exact hj)
    ·cases e1
   ·cases e1
  ·cases e
theorem ai.X6{C:cK}{f:FuncId}{args args':List PV}{h:ab}{rv:PV}{Q:PV->ab->Prop}(hb:iK h args=some args')(MD:ar args=false)(zO:∀id∈jJ args,∃o:au,h[id]?=some o/\ar o.es=true/\(o.mu=.m\/o.mu=.f))(a:aO C f (aU args') rv)(q:∀h',NJ (jJ args) h h'->Q rv h')(hm:C.mode f=.pure:=by rfl):ai C 2 f args h Q:=by
 obtain⟨n0,hn⟩:=a;obtain⟨hf,ef⟩:=NK _ _ zO;refine⟨rv,if(dP rv ||mg h (jJ args))=true then h else hf,q _ ?_,n0,λn h1=>?_⟩
 ·split
  ·exact .refl _ _
  ·exact vU ef
 obtain⟨r0,hc,r1,e1,e3,e4⟩:=hn n h1;have yq:dP r1=dP rv:=by have:=jv r1;rw[e4]at this;exact this.symm
 unfold c9;rw[hm];simp only[dx,MD,ZJ,if_false,hb,e1,e3,yq,e4]
 split
 ·rfl
 ·simp[ef]
inductive x7(h:ab):List Nat->List PV->List fg->Prop
 |nil:x7 h [] [] []
 |snoc {ids:List Nat} {es:List PV} {ds:List fg} {w:PV} {d:fg}:x7 h ids es ds->Out 4 h w (ae d.kn)->x7 h (ids++ck w) (es++[.agg [w,.int .i64 d.tm.k,.str d.tm.s,.int .i64 d.tm.o,.aa false (ae d.tm.l)]]) (ds++[d])
theorem x7.len{h:ab}{ids:List Nat}{es:List PV}{ds:List fg}(n:x7 h ids es ds):es.length=ds.length:=by
 induction n with
 |nil=>rfl
 |snoc _ _ ih=>simp[ih]
theorem x7.of_eq{h h':ab}{ids:List Nat}{es:List PV}{ds:List fg}(n:x7 h ids es ds):(∀i∈ids,h'[i]?=h[i]?)->x7 h' ids es ds:=by
 induction n with
 |nil=>exact λ_=>.nil
 |snoc _ o ih=>exact λhe=>.snoc (ih λi hi=>he i (by simp[hi])) (o.of_eq λi hi=>he i (by simp[hi]))
theorem x7.lt{h:ab}{ids:List Nat}{es:List PV}{ds:List fg}(n:x7 h ids es ds):∀i∈ids,i<h.length:=by
 induction n with
 |nil=>intro i hi;cases hi
 |snoc _ o ih=>
  intro i hi
  rcases ZE.1 hi with hi |hi
  ·exact ih i hi
  ·exact o.mP i hi
theorem x7.PL{h:ab}{ids:List Nat}{es:List PV}{ds:List fg}(n:x7 h ids es ds):bw (λi=>decide (i<h.length)) es=true:=by
 induction n with
 |nil=>rfl
 |snoc _ o ih=>
  rw[fI,aaI,<-fI,ih];simp[br,bw,o.br]
theorem x7.ok{h:ab}{ids:List Nat}{es:List PV}{ds:List fg}(n:x7 h ids es ds):∀e∈es,(cells e).length=5:=by
 induction n with
 |nil=>intro e he;cases he
 |snoc _ o ih=>
  intro e he
  rcases ZE.1 he with he |he
  ·exact ih e he
  ·simp at he;rw[he];rfl
theorem yO{f:PV->Option PV}:∀{a b a' b':List PV},fT f a=some a'->fT f b=some b'->fT f (a++b)=some (a'++b')
 |[],b,a',b',h1,h2=>by
  simp only[fT,Z4]at h1;subst h1;exact h2
 |c::a,b,a',b',h1,h2=>by
  simp only[fT]at h1
  split at h1
  ·rename_i c' r' e1 e2
   obtain rfl:=Zu h1;simp[fT,e1,yO e2 h2]
  ·cases h1
theorem PM{n:Nat}{h:ab}{id ep len:Nat}{o:au}{r:List PV}(hg:getM h id ep=some o)(hl:len<=o.es.length)(hm:o.mu=.m\/o.mu=.f)(hr:fT (pz n h) (o.es.take len)=some r):pz (n+1) h (.aj id ep 0 len)=some (.aa false r):=by
 rw[pz];simp only[hg];rw[if_pos ⟨by omega,hm⟩,aaA,hr]
 rfl
theorem J9{n:Nat}{h:ab}{cs r:List PV}(hr:fT (pz n h) cs=some r):pz (n+1) h (.agg cs)=some (.agg r):=by
 rw[pz,hr]
 rfl
theorem fC{f:PV->Option PV}{c c':PV}{r r':List PV}(h1:f c=some c')(h2:fT f r=some r'):fT f (c::r)=some (c'::r'):=by
 simp only[fT,h1,h2]
theorem yP{n:Nat}{h:ab}{k:IntKind}{i:Int}:pz n h (.int k i)=some (.int k i):=by cases n <;>rfl
theorem J'{n:Nat}{h:ab}{s:ByteArray}:pz n h (.str s)=some (.str s):=by cases n <;>rfl
theorem FM{n:Nat}{h:ab}{f:Bool}{es:List PV}:pz n h (.aa f es)=some (.aa f es):=by cases n <;>rfl
theorem NL(n:Nat)(h:ab)(t:Tm):pz (n+1) h (enc t)=some (enc t):=by
 rw[aw];exact J9 (fC yP (fC J' (fC yP (fC FM rfl))))
theorem BF(n:Nat)(h:ab):∀l:List Tm,fT (pz (n+1) h) (ae l)=some (ae l)
 |[]=>rfl
 |t::l=>by rw[ae];exact fC (NL n h t) (BF n h l)
theorem RC{n:Nat}{h:ab}{w:PV}{d:fg}(o:Out 4 h w (ae d.kn)):∃r,pz (n+3) h (.agg [w,.int .i64 d.tm.k,.str d.tm.s,.int .i64 d.tm.o,.aa false (ae d.tm.l)])=some r/\b9 r=vI d:=by
 rcases o with⟨rfl,e⟩|⟨id,ep,rfl,e⟩
 ·exact⟨.agg [.aa true [],.int .i64 d.tm.k,.str d.tm.s,.int .i64 d.tm.o,.aa false (ae d.tm.l)],J9 (fC FM (fC yP (fC J' (fC yP (fC FM rfl))))),by simp[b9,aU,ba,qx,e]⟩
 ·refine⟨.agg [.aa false (ae d.kn),.int .i64 d.tm.k,.str d.tm.s,.int .i64 d.tm.o,.aa false (ae d.tm.l)],?_,by simp[b9,aU,ba,qx]⟩;have hg:=bg e rfl (by simp);have hm:=BF n h d.kn;have h1:pz (n+2) h (.aj id ep 0 (ae d.kn).length)=some (.aa false (ae d.kn)):=PM hg (Zz _) (.inl rfl) (by rw[aap];exact hm);exact J9 (fC h1 (fC yP (fC J' (fC yP (fC FM rfl)))))
theorem x7.pz{h:ab}{ids:List Nat}{es:List PV}{ds:List fg}(n:x7 h ids es ds)(k:Nat):∃fq,fT (pz (k+3) h) es=some fq/\aU fq=bW ds:=by
 induction n with
 |nil=>exact⟨[],rfl,rfl⟩
 |snoc _ o ih=>
  obtain⟨a,h1,h2⟩:=ih;obtain⟨r,h3,h4⟩:=RC (n:=k) o;refine⟨a++[r],yO h1 (by simp[fT,h3]),?_⟩;rw[cE,aal,<-cE,h2];simp[bW,h4]
theorem x7.X7{h:ab}{ids:List Nat}{es:List PV}{ds:List fg}(n:x7 h ids es ds):ar es=true->aU es=bW ds:=by
 induction n with
 |nil=>exact λ_=>rfl
 | @snoc ids es ds w d _ o ih=>
  intro hv
  rw[bt,aaI,ZD,<-bt,<-bt]at hv;rw[cE,aal,<-cE,ih hv.1]
  have hw:aW w=true:=by
   have:=hv.2;simp[ar,aW]at this;exact this
  rcases o with⟨rfl,e⟩|⟨id,ep,rfl,e⟩
  ·simp[b9,aU,ba,bW,qx,e]
  ·simp[aW]at hw
theorem x7.ret{h:ab}{v:PV}{ids:List Nat}{es:List PV}{ds:List fg}(o:Out 5 h v es)(n:x7 h ids es ds):∃r1,yl h (aY [v])=some r1/\b9 r1=.aa false (bW ds):=by
 show∃r1,yl h v=some r1/\b9 r1=.aa false (bW ds);rcases o with⟨rfl,rfl⟩|⟨id,ep,rfl,e⟩
 ·have:=n.len;obtain rfl:=ZL (show ds.length=0 by simpa using this.symm);exact⟨_,rfl,rfl⟩
 ·have hg:=bg e rfl (by simp)
  by_cases hv:ar es=true
  ·refine⟨.aa false es,?_,by simp[b9,n.X7 hv]⟩;simp[yl,rb,ly,qi,hg,hv]
  ·obtain⟨fq,h1,h2⟩:=n.pz 4;refine⟨.aa false fq,?_,by simp[b9,h2]⟩;have h3:rb h (.aj id ep 0 es.length)=none:=by simp[rb,ly,qi,hg,hv]
   simp only[yl,h3];exact PM hg (Zz _) (.inl rfl) (by rw[aap];exact h1)
structure Hg(H:ab)(v:PV)(sz:Nat)(es ys:List PV)(r:PV)(H':ab):Prop where
 out:Out sz H' r (es++ys)
 cs:(H'=H/\r=v/\ys=[])\/(H'=H++[⟨.m,0,sz,ys⟩]/\r=.aj H.length 0 0 ys.length/\es=[])\/∃id ep,v=.aj id ep 0 es.length/\H[id]?=some ⟨.m,ep,sz,es⟩/\H'=H.set id ⟨.m,ep+1,sz,es++ys⟩/\r=.aj id (ep+1) 0 (es.length+ys.length)
section
variable{H H':ab}{v r:PV}{sz:Nat}{es ys:List PV}
theorem Hg.len(a:Hg H v sz es ys r H'):H.length<=H'.length:=by
 rcases a.cs with⟨rfl,_⟩|⟨rfl,_⟩|⟨id,ep,_,_,rfl,_⟩ <;>simp
theorem Hg.fr(a:Hg H v sz es ys r H')(j:Nat)(hj:j<H.length)(hv:j∉ck v):H'[j]?=H[j]?:=by
 rcases a.cs with⟨rfl,_⟩|⟨rfl,_⟩|⟨id,ep,rfl,_,rfl,_⟩
 ·rfl
 ·exact Zv hj
 ·exact ZC (λh=>hv (by simp[ck,h]))
theorem Hg.ck(a:Hg H v sz es ys r H'):∀i∈Pm.ck r,i∈Pm.ck v\/H.length<=i:=by
 intro i hi
 rcases a.cs with⟨_,rfl,_⟩|⟨_,rfl,_⟩|⟨id,ep,rfl,_,_,rfl⟩
 ·exact .inl hi
 ·simp[Pm.ck]at hi;exact .inr (by omega)
 ·exact .inl (by simpa[Pm.ck]using hi)
theorem Hg.hr(a:Hg H v sz es ys r H')(hR:HR H)(D6:bw (λi=>decide (i<H.length)) (es++ys)=true):HR H':=by
 rcases a.cs with⟨rfl,_⟩|⟨rfl,_,rfl⟩|⟨id,ep,_,_,rfl,_⟩
 ·exact hR
 ·exact hR.Ka (by simp) (eB (f:=λi=>decide (i<H.length)) (λi hi=>by have:=of_decide_eq_true hi;exact decide_eq_true (by omega)) _ (by simpa using D6))
 ·exact hR.set id (by simp) D6
theorem Hg.aQ(a:Hg H v sz es ys r H'):∀(j:Nat) (o:au),H[j]?=some o->o.mu≠.m->H'[j]?=some o:=by
 intro j o h hm
 rcases a.cs with⟨rfl,_⟩|⟨rfl,_⟩|⟨id,ep,_,e,rfl,_⟩
 ·exact h
 ·rw[Zv (ag h)];exact h
 ·by_cases hj:id=j
  ·subst hj;rw[e]at h;cases h;exact absurd rfl hm
  ·rw[ZC hj];exact h
theorem Hg.Kb(a:Hg H v sz es ys r H'):∀(j:Nat) (o:au),H'[j]?=some o->o.mu≠.l\/H[j]?=some o:=by
 intro j o h
 rcases a.cs with⟨rfl,_⟩|⟨rfl,_⟩|⟨id,ep,_,e,rfl,_⟩
 ·exact .inr h
 ·by_cases hj:j<H.length
  ·rw[Zv hj]at h;exact .inr h
  ·have cz:=ag h;simp at cz;obtain rfl:j=H.length:=by omega
   simp at h;subst h;exact .inl (by simp)
 ·by_cases hj:id=j
  ·subst hj;rw[ZB (ag e)]at h;cases h;exact .inl (by simp)
  ·rw[ZC hj]at h;exact .inr h
end
theorem D7{C:cK}(T:lz C.P){H:ab}{st xt el pU:TypeId}{sz fX:Nat}{z v u:PV}{es ys:List PV}(hk:T.kd st=some (.sl el))(fR:T.kd xt=some (.sl pU))(hs:T.ts el=some (sz+1))(hb:T.tb el=some fX)(hz:T.tz el=some z)(jc:fX<=1000)(hl:(cells z).length=sz+1)(ho:(cells z).all bG=true)
  (o:Out (sz+1) H v es) (hu:ch H u=some ys) (RD:∀i∈ck v,i∉ck u) (hy:du (sz+1) ys) (hn:es.length+ys.length<1000000000):∃r H',bL C.P 2 H st xt v u=some (r,H')/\Hg H v (sz+1) es ys r H':=by
 unfold du at hy
 have hA:bL C.P 2 H st xt v u=match(generalizing:=false) v with
   | .aa full es=>if ys.isEmpty then some (v,H)else if full=true/\1<=2/\roomy (es.length+ys.length) fX=true/\es.all (λv=>decide ((cells v).length=sz+1)&& (cells v).all bG)=true then some (.aj H.length 0 0 (es.length+ys.length),newObj H (sz+1) (es++ys))else none
   | .aj id ep off len=>match getM H id ep with
    |some o=>if off+len<=o.es.length/\sz+1=o.bB then
      if ys.isEmpty then some (v,H)
      else if off=0/\2<=2/\o.mu=.m/\jD id u=true/\len+ys.length<=o.es.length then some (.aj id ep 0 (len+ys.length),H.set id {o with es:=o.es.take len++ys++o.es.drop (len+ys.length)})
      else if off=0/\2<=2/\o.mu=.m/\roomy (len+ys.length) fX=true then some (.aj id (ep+1) 0 (len+ys.length),H.set id {o with ep:=ep+1,es:=o.es.take len++ys})else none
     else none
    |none=>none
   |_=>none:=by
  unfold bL;rw[bp (T.cP _ _ hk)];simp only[T.dO _ _ hs,T.rV _ _ hb,T.mO _ _ hz,cy,bp (T.cP _ _ fR),hu];rw[if_pos ⟨by omega,by omega,⟨hl,ho⟩,hy⟩]
  rfl
 rw[hA]
 by_cases bI:ys=[]
 ·subst bI;rcases o with⟨rfl,rfl⟩|⟨id,ep,rfl,e⟩
  ·exact⟨_,_,rfl,.inl ⟨rfl,rfl⟩,.inl ⟨rfl,rfl,rfl⟩⟩
  ·refine⟨.aj id ep 0 es.length,H,?_,.inr ⟨id,ep,by simp,by simpa using e⟩,.inl ⟨rfl,rfl,rfl⟩⟩;simp[bg e rfl (by simp:Mu.m≠Mu.x)]
 ·have zS:ys.isEmpty=false:=by cases ys with |nil=>exact absurd rfl bI |cons=>rfl
  rcases o with⟨rfl,rfl⟩|⟨id,ep,rfl,e⟩
  ·refine⟨.aj H.length 0 0 ys.length,H++[⟨.m,0,sz+1,ys⟩],?_,.inr ⟨H.length,0,by simp,by simp⟩,.inr (.inl ⟨rfl,rfl,rfl⟩)⟩;have hr:roomy ys.length fX=true:=iS (by simpa using hn) jc
   simp[zS,hr,newObj]
  ·refine⟨.aj id (ep+1) 0 (es.length+ys.length),H.set id ⟨.m,ep+1,sz+1,es++ys⟩,?_,.inr ⟨id,ep+1,by simp,ZB (ag e)⟩,.inr (.inr ⟨id,ep,rfl,e,rfl,rfl⟩)⟩;have hr:roomy (es.length+ys.length) fX=true:=iS hn jc
   have Nh:jD id u=false:=by
    have:=RD id (by simp[ck])
    cases u <;>simp_all[jD,ck]
    omega
   simp[bg e rfl (by simp:Mu.m≠Mu.x),zS,hr,Nh]
theorem Kc{C:cK}(T:lz C.P){lv:Nat}(Dk:1<=lv){H:ab}{st xt el pU:TypeId}{sz fX:Nat}{z u:PV}{es ys:List PV}(hk:T.kd st=some (.sl el))(fR:T.kd xt=some (.sl pU))(hs:T.ts el=some (sz+1))(hb:T.tb el=some fX)(hz:T.tz el=some z)(jc:fX<=1000)(hl:(cells z).length=sz+1)(ho:(cells z).all bG=true)
  (hu:ch H u=some ys) (iP:du (sz+1) es) (hy:du (sz+1) ys) (hn:es.length+ys.length<1000000000):∃r J,bL C.P lv H st xt (.aa true es) u=some (r,H++J)/\Ls (sz+1) (H++J) r (es++ys)/\(J=[]\/J=[⟨.m,0,sz+1,es++ys⟩])/\(∀i∈ck r,H.length<=i)/\(es=[]->Out (sz+1) (H++J) r ys):=by
 unfold du at hy iP
 have hA:bL C.P lv H st xt (.aa true es) u=if ys.isEmpty then some (.aa true es,H)else if true=true/\1<=lv/\roomy (es.length+ys.length) fX=true/\es.all (λv=>decide ((cells v).length=sz+1)&& (cells v).all bG)=true then some (.aj H.length 0 0 (es.length+ys.length),newObj H (sz+1) (es++ys))else none:=by
  unfold bL;rw[bp (T.cP _ _ hk)];simp only[T.dO _ _ hs,T.rV _ _ hb,T.mO _ _ hz,cy,bp (T.cP _ _ fR),hu];rw[if_pos ⟨by omega,by omega,⟨hl,ho⟩,hy⟩]
 rw[hA]
 by_cases bI:ys=[]
 ·subst bI;exact⟨.aa true es,[],by simp,.inr ⟨true,by simp⟩,.inl rfl,by simp[ck],λh=>.inl ⟨by rw[h],rfl⟩⟩
 ·have zS:ys.isEmpty=false:=by cases ys with |nil=>exact absurd rfl bI |cons=>rfl
  have hr:roomy (es.length+ys.length) fX=true:=iS hn jc
  refine⟨.aj H.length 0 0 (es.length+ys.length),[⟨.m,0,sz+1,es++ys⟩],by rw[zS,if_neg (by simp),if_pos ⟨rfl,by omega,hr,iP⟩];rfl,.inl (.inr ⟨H.length,0,by simp,by simp⟩),.inr rfl,by simp[ck],λh=>.inr ⟨H.length,0,by simp[h],by simp[h]⟩⟩
theorem NM{C:cK}{ops:Array Oper}{L L':Al}{H h':ab}{c:Nat}(xG:∀ρ,gi ops (before ops) (al L ρ)=[c])(xV:sinks ops (before ops)=none)(hc:c<H.length)(zP:∀(j:Nat) (o:au),h'[j]?=some o->o.mu≠.l\/(cr [c] H)[j]?=some o)
  (qv:∀run ρ,b8 C run ops (before ops) (cr [c] H) 0 ops.toList ⟨al L ρ,cr [c] H⟩=some ⟨al L' ρ,h'⟩):∀run ρ,iN C run ops ⟨al L ρ,H⟩=some ⟨al L' ρ,dR [c] H h'⟩:=by
 intro run ρ
 unfold iN;rw[xG,qv];dsimp only
 have hn:qk [c] H h'=true:=r9 λj o h=>by
  rcases zP j o h with h |h
  ·exact .inl h
  ·by_cases hj:j=c
   ·subst hj;exact .inr (.inl ⟨by simp,hc⟩)
   ·rw[ke]at h;have:([c].contains j)=false:=by simp;exact hj
    simp only[this,ZJ,if_false,abA]at h;exact .inr (.inr h)
 rw[if_pos ⟨hn,by simp only[ql,xV]⟩]
theorem RE{H:ab}{c j:Nat}(h:j≠c):(cr [c] H)[j]?=H[j]?:=by
 rw[ke];have:([c].contains j)=false:=by simp;exact h
 simp only[this,ZJ,if_false,abA]
theorem Ke{H:ab}{c ep sz:Nat}{es:List PV}(h:H[c]?=some ⟨.m,ep,sz,es⟩):(cr [c] H)[c]?=some ⟨.l,ep,sz,es⟩:=by
 rw[ke,h];simp[bM]
theorem z7{H:ab}{c:Nat}:(cr [c] H).length=H.length:=by simp[cr]
theorem D8{H h:ab}{c j:Nat}(hj:j≠c):(dR [c] H h)[j]?=h[j]?:=by
 rw[ms];have:([c].contains j)=false:=by simp;exact hj
 simp only[this,ZJ,if_false,abA]
theorem Kf{H h:ab}{c:Nat}{o:au}(h0:H[c]?=some o)(hc:c<h.length):(dR [c] H h)[c]?=some o:=by
 rw[ms,h0,Zy hc];simp
theorem FN{H h:ab}{c:Nat}:(dR [c] H h).length=h.length:=by simp[dR]
theorem HR.NN{H:ab}{c:Nat}(hR:HR H):HR (cr [c] H):=by
 intro o ho
 obtain⟨j,hj,rfl⟩:=abO ho;have tf:j<H.length:=by rw[<-z7 (c:=c)];exact hj
 have e:=ke [c] H j;rw[Zy hj,Zy tf]at e;simp only[ZH,Z4]at e;obtain⟨h1,h2⟩:=hR _ (Z2 tf);rw[e,z7]
 split
 ·unfold bM
  split
  ·exact⟨by simp,h2⟩
  ·exact⟨h1,h2⟩
 ·exact⟨h1,h2⟩
theorem HR.NO{H h:ab}{c:Nat}(hR:HR h)(hR0:HR H)(hle:H.length<=h.length):HR (dR [c] H h):=by
 intro o ho
 obtain⟨j,hj,rfl⟩:=abO ho;have tf:j<h.length:=by rw[<-FN (H:=H) (c:=c)];exact hj
 rw[FN]
 by_cases Uz:j=c
 ·subst Uz
  by_cases h0:j<H.length
  ·have e:=Kf (h:=h) (Zy h0) tf;rw[Zy hj]at e;rw[Zu e];obtain⟨h1,h2⟩:=hR0 _ (Z2 h0);exact⟨h1,eB (λi hi=>by have:=of_decide_eq_true hi;exact decide_eq_true (by omega)) _ h2⟩
  ·have e:=ms [j] H h j;rw[Zy hj,Zy tf,ZM (Nat.not_lt.1 h0)]at e;simp at e;rw[e];exact hR _ (Z2 tf)
 ·have e:=D8 (H:=H) (h:=h) Uz;rw[Zy hj,Zy tf]at e;rw[Zu e];exact hR _ (Z2 tf)
theorem kLd{C:cK}(T:lz C.P){run:gU}{ops:Array Oper}{b:List Nat}{h0:ab}{i:Nat}{L:Al}{ρ:Nat->PV}{h:ab}{d x c:Nat}{o:au}{t:TypeId}{v:PV}{y:TypeId}{s:String}{a:Array Edge}
  (hx:lk L x=some (.ptr c 0 0 0)) (hc:h0[c]?=some o) (hm:o.mu≠.m) (hs:tg T (.load t (.tmp x)) L h (λy=>y=v)):cO C run ops b h0 i ⟨some d,.load t (.tmp x),y,s,a,none⟩ ⟨al L ρ,h⟩=some ⟨al ((d,v)::L) ρ,h⟩:=by
 obtain⟨hh,v',e,rfl⟩:=kj T hs;have hp:al L ρ x=.ptr c 0 0 0:=dq hx ρ;refine Uq hh rfl ?_ (by have:=e run 1 ρ;exact this);have:qV (.load t (.tmp x)) (al L ρ)=some c:=by simp only[qV,ev,hp]
 simp only[kz,this,nX,hc];simp[hm]
theorem U2{C:cK}(T:lz C.P){run:gU}{L:Al}{ρ:Nat->PV}{M G3:ab}{t:TypeId}{n z:Nat}{ps:Array (Nat×Operand)}{vs:List PV}{u:PV}(x:xW T t n ps.toList L (λsz es=>es=vs/\sz=z))(h:(ar vs=true/\u=.aa true vs/\G3=M)\/(ar vs=false/\u=.aj M.length 0 0 n/\G3=newObj M z vs)):ao C run 2 (.buildSlice t n ps) (al L ρ) M=some (u,G3):=by
 obtain⟨sz,es,⟨rfl,rfl⟩,e⟩:=mv T x;have:=e ρ M 2;rcases h with⟨hv,rfl,rfl⟩|⟨hv,rfl,rfl⟩
 ·rw[hv,if_pos rfl]at this;simpa only[ao,az]using this
 ·rw[hv,if_neg (by simp),if_pos (by omega)]at this;simpa only[ao,az]using this
mutual
def zk:PV->PV->Bool
 | .int k n,.int k' n'=>decide (k=k')&&decide (n=n')
 | .bool a,.bool b=>a==b
 | .str a,.str b=>a.data.toList==b.data.toList
 | .agg cs,.agg ds=>Ay cs ds
 | .cm cs,.cm ds=>Ay cs ds
 | .aa f cs,.aa g ds=>(f==g)&&Ay cs ds
 | .gf,.gf=>true
 | .dW,.dW=>true
 | .aG,.aG=>true
 |_,_=>false
def Ay:List PV->List PV->Bool
 |[],[]=>true
 |c::cs,d::ds=>zk c d&&Ay cs ds
 |_,_=>false
end
mutual
theorem Lp:∀{a b:PV},zk a b=true->a=b
 | .int k n,b,h=>by cases b <;>simp[zk]at h;rw[h.1,h.2]
 | .bool x,b,h=>by cases b <;>simp[zk]at h;rw[h]
 | .str x,b,h=>by
  cases b <;>simp[zk]at h
  rename_i y
  cases x;cases y
  simp at h;rw[h]
 | .agg cs,b,h=>by cases b <;>simp[zk]at h;rw[rH h]
 | .cm cs,b,h=>by cases b <;>simp[zk]at h;rw[rH h]
 | .aa f cs,b,h=>by cases b <;>simp[zk]at h;rw[h.1,rH h.2]
 | .gf,b,h=>by cases b <;>simp[zk]at h;rfl
 | .dW,b,h=>by cases b <;>simp[zk]at h;rfl
 | .aG,b,h=>by cases b <;>simp[zk]at h;rfl
 | .aj ..,b,h=>by simp[zk]at h
 | .ptr ..,b,h=>by simp[zk]at h
 | .eC _,b,h=>by simp[zk]at h
 | .cB _,b,h=>by simp[zk]at h
 | .fn ..,b,h=>by simp[zk]at h
 | .mR ..,b,h=>by simp[zk]at h
 | .undef,b,h=>by simp[zk]at h
 | .any,b,h=>by simp[zk]at h
theorem rH:∀{a b:List PV},Ay a b=true->a=b
 |[],b,h=>by cases b <;>simp[Ay]at h;rfl
 |c::cs,b,h=>by
  cases b with
  |nil=>simp[Ay]at h
  |cons d ds=>
   simp only[Ay,ZD]at h;rw[Lp h.1,rH h.2]
end
abbrev kC:=List (FuncId×List PV×PV)
def VN(m:kC)(f:FuncId)(args:List PV):Option PV:=(m.find? λx=>Nat.beq x.1 f&&Ay x.2.1 args).map (·.2.2)
def kD(m:kC)(md:FuncId->Mode)(f:FuncId):Mode:=if m.any (λx=>Nat.beq x.1 f)=true then .ext (VN m f)else md f
variable{P:Program}{md:FuncId->Mode}
def jS(P:Program)(md:FuncId->Mode)(m:kC):Prop:=∀x∈m,md x.1=.pure/\aO ⟨P,md⟩ x.1 x.2.1 x.2.2
theorem zl:∀{m:kC},jS P md m->∃n0,∀x∈m,md x.1=.pure/\∀n,n0<=n->∃r0 hc r1,eV ⟨P,md⟩ n x.1 x.2.1 []=some (r0,hc)/\yl hc r0=some r1/\b9 r1=x.2.2
 |[],_=>⟨0,λx hx=>by cases hx⟩
 |y::m,h=>by
  obtain⟨n1,h1⟩:=zl (m:=m) λx hx=>h x (by simp[hx])
  obtain⟨hp,n2,h2⟩:=h y (by simp);refine⟨max n1 n2,λx hx=>?_⟩;rcases ZF.1 hx with rfl |hx
  ·exact⟨hp,λn hn=>h2 n (by omega)⟩
  ·exact⟨(h1 x hx).1,λn hn=>(h1 x hx).2 n (by omega)⟩
theorem Ge{m:kC}{n0:Nat}(hm:∀x∈m,md x.1=.pure/\∀n,n0<=n->∃r0 hc r1,eV ⟨P,md⟩ n x.1 x.2.1 []=some (r0,hc)/\yl hc r0=some r1/\b9 r1=x.2.2):∀n,gS (eV ⟨P,kD m md⟩ n) (eV ⟨P,md⟩ (n+n0))
 |0=>λf args h x e=>by cases e
 |n+1=>by
  have ih:=Ge hm n;rw[show n+1+n0=(n+n0)+1 by omega];refine Cz (P:=P) (md:=kD m md) (md':=md) (run:=eV ⟨P,kD m md⟩ n) (run':=eV ⟨P,md⟩ (n+n0)) ?_ (by omega)
  intro lv f args h x e
  by_cases hf:m.any (λx=>Nat.beq x.1 f)=true
  ·unfold c9 at e;simp only[kD,if_pos hf]at e
   split at e
   ·rename_i hv
    obtain⟨r,hr,rfl⟩:=aai.1 e;obtain⟨y,hy,rfl⟩:=aai.1 hr;have NW:=List.find?_some hy;have hy2:=List.mem_of_find?_eq_some hy;simp only[ZD]at NW;obtain rfl:=aah NW.1;have ha:=rH NW.2;obtain⟨hp,hq⟩:=hm y hy2;obtain⟨r0,hc,r1,e1,e2,e3⟩:=hq (n+n0) (by omega);unfold c9;rw[show(⟨P,md⟩:cK).mode y.1=.pure from hp];rw[ha]at e1;simp only[dx,hv,if_true,e1,e2,e3]
   ·cases e
  ·have hmd:kD m md f=md f:=if_neg hf;unfold c9 at e ⊢;simp only[hmd]at e
   cases hq:md f <;>simp only[hq]at e ⊢
   ·cases e
   ·exact l9 ih e
   ·exact ma ih e
   ·exact e
   ·exact jF (λ_ _ _ x=>x) e
   ·exact e
theorem aO.Uf{m:kC}(hm:jS P md m){f:FuncId}{args:List PV}{r:PV}(a:aO ⟨P,kD m md⟩ f args r):aO ⟨P,md⟩ f args r:=by
 obtain⟨n0,hq⟩:=zl hm;obtain⟨n1,hn⟩:=a;refine⟨n1+n0,λn h1=>?_⟩;obtain⟨r0,hc,r1,e1,e2⟩:=hn (n - n0) (by omega);refine⟨r0,hc,r1,?_,e2⟩;have:=Ge hq (n - n0) _ _ _ _ e1;rwa[show n - n0+n0=n by omega]at this
def Lq:Mode->Bool | .pure=>true |_=>false
theorem H0{m:Mode}(h:Lq m=true):m=.pure:=by cases m <;>first |rfl |cases h
def lH(P:Program)(md:FuncId->Mode)(n:Nat)(rows:kC):Bool:=rows.all λx=>match nZ ⟨P,md⟩ n x.1 x.2.1 with
 |some r=>zk r x.2.2
 |none=>false
theorem kE{m rows:kC}{n:Nat}(hm:jS P md m)(h1:lH P (kD m md) n rows=true)(h2:(rows.all λx=>Lq (md x.1))=true):jS P md (rows++m):=by
 intro x hx
 rcases ZE.1 hx with hx |hx
 ·refine⟨H0 (Zw.1 h2 x hx),?_⟩;have h3:=Zw.1 h1 x hx
  split at h3
  ·rename_i r hr
   rw[<-Lp h3];exact aO.Uf hm (aO.od hr)
  ·cases h3
 ·exact hm x hx
end Go.Pm
