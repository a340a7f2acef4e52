/-
  Pm, a part. Conditions: none.
-/
import Derived.Test.YtimogkojklpdnaaGreatDoorPxAE
import Derived.LoopN
import Derived.Scope
import Derived.Laws.Externs
import Derived.Laws.Cover3
import Derived.Test.YtimogkojklpdnaaGreatDoorPxAD
import Derived.Test.YtimogkojklpdnaaGreatDoorRows
import Derived.WalkKit
import Derived.ProofKit
import Derived.Deep.Slices
import Derived.ChangeArms
import Derived.OpenShut
import Derived.JoinedCond
import Derived.WideKeyArgs
set_option linter.unusedVariables false
set_option linter.unusedSimpArgs false
set_option linter.unnecessarySimpa false
set_option linter.unusedSectionVars false
namespace Go.Pm
variable[iD:Inhabited Prop]
theorem lm{C:bZ}{run:gw}{ops:Array Oper}{h0:aa}:∀(l:List Oper) (k:Nat) (x y:St),bD C run ops (before ops) h0 k l x=some y->
  ∃tr:Nat->St,tr k=x/\(∀(i:Nat) (o:Oper),l[i]?=some o->b8 C run ops (before ops) h0 (k+i) o (tr (k+i))=some (tr (k+i+1)))/\tr (k+l.length)=y
 |[],k,x,y,e=>by
  simp[bD]at e;exact⟨λ_=>x,rfl,λi o h=>by simp at h,by simpa using e⟩
 |o::l,k,x,y,e=>by
  simp only[bD]at e
  split at e
  ·rename_i x' hx
   obtain⟨tr,t1,t2,t3⟩:=lm l (k+1) x' y e;refine⟨λj=>if j<=k then x else tr j,by simp,?_,?_⟩
   ·intro i o' ho
    cases i with
    |zero=>
     simp at ho;subst ho;simp[t1,hx]
     intro hh;omega
    |succ i=>
     have:=t2 i o' (by simpa using ho);have e1:¬(k+(i+1)<=k):=by omega
     have e2:¬(k+(i+1)+1<=k):=by omega
     simp only[e1,e2,if_false];rw[show k+(i+1)=k+1+i by omega];exact this
   ·have e1:¬(k+(o::l).length<=k):=by simp
    simp only[e1,if_false];rw[<-t3];congr 1;simp;omega
  cases e
inductive qX(C:bZ)(run:gw)(ops:Array Oper)(h0:aa)(i:Nat)(o:Oper)(x y:St):Prop
 |off:aK ops o x.V=some false->y=⟨bh x.V o.dst .undef,x.h⟩->qX C run ops h0 i o x y
 |plain (r:PV) (h1:aa):aK ops o x.V=some true->cw o.op=false->ak C run 1 o.op x.V x.h=some (r,h1)->y=⟨bh x.V o.dst r,x.h⟩->qX C run ops h0 i o x y
 |rd (r:PV) (h1:aa):aK ops o x.V=some true->eU o.op=true->(∀id,p9 o.op x.V=some id->mO h0 id=true\/(iI ops (before ops) i=true/\uT ops (before ops) i x.V id=true))->aw C.P 1 o.op x.V x.h=some (r,h1)->y=⟨bh x.V o.dst r,x.h⟩->qX C run ops h0 i o x y
 |made (r:PV) (h':aa):aK ops o x.V=some true->gz o.op=true->aw C.P 1 o.op x.V x.h=some (r,h')->y=⟨bh x.V o.dst r,x.h⟩->qX C run ops h0 i o x y
 |two (r:PV) (h':aa):aK ops o x.V=some true->cw o.op=true->eU o.op=false->(gz o.op=true->aw C.P 1 o.op x.V x.h=none)->fR ops (before ops) i (gz o.op)=true->ak C run 2 o.op x.V x.h=some (r,h')->x.h.length<=h'.length->y=⟨bh x.V o.dst r,jL x.h h'⟩->qX C run ops h0 i o x y
theorem K7{C:bZ}{run:gw}{ops:Array Oper}{h0:aa}{i:Nat}{o:Oper}{x y:St}(e:b8 C run ops (before ops) h0 i o x=some y):qX C run ops h0 i o x y:=by
 unfold b8 at e
 split at e
 ·rename_i hw
  split at e
  ·rename_i hh
   split at e
   ·rename_i r hx hv;exact .plain r hx hw hh hv (TF e).symm
   cases e
  ·rename_i hh
   split at e
   ·rename_i hl
    split at e
    ·rename_i hc
     split at e
     ·rename_i r h1 hs
      refine .rd r h1 hw hl (λid bE=>?_) hs (TF e).symm;unfold jA at hc;rw[bE]at hc;simp only[Uo,TK]at hc;exact hc
     cases e
    cases e
   ·rename_i hl
    split at e
    ·rename_i r h1 hs
     split at hs
     ·rename_i hb;exact .made r h1 hw hb hs (TF e).symm
     cases hs
    ·rename_i hs
     split at e
     ·rename_i hk
      split at e
      ·rename_i r h' hv
       split at e
       ·rename_i hle
        exact .two r h' hw (by simpa using hh) (by simpa using hl) (λhb=>by rw[if_pos hb]at hs;exact hs) hk hv hle (TF e).symm
       cases e
      cases e
     cases e
 ·rename_i hw;exact .off hw (TF e).symm
 cases e
theorem lq{ops:Array Oper}{i j:Nat}(h:mN (before ops) i j=true):j=i\/pI ops i j\/pI ops j i:=by
 simp only[mN,Uo,beq_iff_eq]at h;rcases h with(h1 |h1)|h1;exact .inl h1.symm;exact .inr (.inl h1);exact .inr (.inr h1)
theorem pJ{ops:Array Oper}{i:Nat}{bs:Bool}(h:fR ops (before ops) i bs=true){j:Nat}{o:Oper}(e:ops[j]?=some o)(hh:cw o.op=true)(hl:eU o.op=false)(hb:bs=true\/gz o.op=false):
  (j=i\/pI ops i j\/pI ops j i)\/((sinks ops (before ops)).isSome=true/\ops.size<=i+2/\ops.size<=j+2):=by
 have:=TH.1 h (o,j) (by rw[U3];exact⟨j,by simp[e]⟩);have qo:(bs || !gz o.op)=true:=by rcases hb with hb |hb <;>simp[hb]
 simp only[hh,hl,qo,Vx,UT,Vl,Vm,Uo,TK,decide_eq_true_eq]at this;rcases this with h1 |h1;exact .inl (lq h1);exact .inr ⟨h1.1.1,h1.1.2,h1.2⟩
theorem wu{ops:Array Oper}{i:Nat}(h:iI ops (before ops) i=true){j:Nat}{o:Oper}(e:ops[j]?=some o)(hh:cw o.op=true)(hl:eU o.op=false)(hb:gz o.op=false):
  (j=i\/pI ops i j\/pI ops j i)\/((sinks ops (before ops)).isSome=true/\ops.size<=j+2):=by
 have:=TH.1 h (o,j) (by rw[U3];exact⟨j,by simp[e]⟩);simp only[hh,hl,hb,Vx,UT,Vl,Vm,Uo,TK,decide_eq_true_eq]at this;rcases this with h1 |h1;exact .inl (lq h1);exact .inr h1
theorem tC{P:Program}{op:Op}{V V':Nat->PV}{h1 Fu h2:aa}{r:PV}(hb:gz op=true)(hv:∀h,aw P 1 op V' h=aw P 1 op V h)(e:aw P 1 op V h1=some (r,Fu)):aw P 1 op V' h2=some (r,h2):=by
 rw[hv]
 cases op <;>simp[gz]at hb
 simp only[aw,cu]at e ⊢
 repeat' split at e
 all_goals first
  |(cases e;done)
  |(rename_i hh;exfalso;omega)
  |skip
 rename_i hz hc hi
 obtain⟨rfl,rfl⟩:=TL (TF e);simp only[*,if_true,and_self]
theorem C1{P:Program}{h1 h2:aa}{t:TypeId}{p q:PV}(h:∀id ep off len,p=.an id ep off len->getM h2 id ep=getM h1 id ep):bT P h2 t p q=bT P h1 t p q:=by
 unfold bT
 split
 rfl
 simp only[h _ _ _ _ rfl]
 rfl
 rfl
 rfl
theorem FF{P:Program}{h1:aa}{t:TypeId}{id ep off len:Nat}{q r:PV}(e:bT P h1 t (.an id ep off len) q=some r):∃o,getM h1 id ep=some o:=by
 cases hg:getM h1 id ep with
 |some o=>exact⟨o,rfl⟩
 |none=>
  unfold bT at e
  split at e <;>simp_all
  all_goals(split at e <;>simp_all)
theorem C2{P:Program}{h1 h2:aa}{t:TypeId}{p:PV}(h:∀id ep i off,p=.ptr id ep i off->getM h2 id ep=getM h1 id ep):fC P h2 t p=fC P h1 t p:=by
 have:cV h2 p=cV h1 p:=by
  unfold cV
  split
  rfl
  rw[h _ _ _ _ rfl]
  rfl
 unfold fC;rw[this]
theorem FG{P:Program}{h1:aa}{t:TypeId}{id ep i off:Nat}{r:PV}(e:fC P h1 t (.ptr id ep i off)=some r):∃o,getM h1 id ep=some o:=by
 cases hg:getM h1 id ep with
 |some o=>exact⟨o,rfl⟩
 |none=>
  simp only[fC,cV,hg]at e
  split at e <;>simp_all
theorem FH{h:aa}{id ep:Nat}{o:aC}(h1:h[id]?=some o)(h2:o.ep=ep)(h3:o.mu≠.x):getM h id ep=some o:=by simp[getM,h1,h2,h3]
theorem Ao{h:aa}{id ep:Nat}{o:aC}(e:getM h id ep=some o):id<h.length:=ae (getM_some e).1
theorem qt{P:Program}{op:Op}{V:Nat->PV}{h1 Fu h2:aa}{r:PV}(hr:eU op=true)(e:aw P 1 op V h1=some (r,Fu))(hs:∀id,p9 op V=some id->h2[id]?=h1[id]?):aw P 1 op V h2=some (r,h2)/\∀id,p9 op V=some id->id<h1.length:=by
 cases op <;>simp[eU]at hr
 case load t x=>
  simp only[aw,p9]at e hs ⊢;obtain⟨e1,_⟩:=ct e
  constructor
  ·rw[C2 (h1:=h1) (λid ep i off hp=>?_),e1]
   ·rfl
   ·rw[hp]at hs;simp only[getM,hs id rfl]
  ·intro id bE
   split at bE
   ·rename_i hx
    obtain rfl:=TF bE;rw[hx]at e1;obtain⟨o,ho⟩:=FG e1;exact Ao ho
   cases bE
 case indexAddr t x ix=>
  simp only[aw,p9]at e hs ⊢;obtain⟨e1,_⟩:=ct e
  constructor
  ·rw[C1 (h1:=h1) (λid ep i off hp=>?_),e1]
   ·rfl
   ·rw[hp]at hs;simp only[getM,hs id rfl]
  ·intro id bE
   split at bE
   ·rename_i hx
    obtain rfl:=TF bE;rw[hx]at e1;obtain⟨o,ho⟩:=FF e1;exact Ao ho
   cases bE
theorem nD{h h':aa}(hl:h.length<=h'.length){id:Nat}{o:aC}(ho:h[id]?=some o):(jL h h')[id]?=if o.mu=.m then h'[id]? else some o:=by
 have bE:=ae ho;unfold jL;rw[TG (by simp;omega),U4,ho];obtain⟨o',FI⟩:=jN (l:=h') (i:=id) (by omega);rw[FI];simp only
 split <;>rfl
theorem wv{h h':aa}(hl:h.length<=h'.length){id:Nat}(bE:h.length<=id):(jL h h')[id]?=h'[id]?:=by
 unfold jL;rw[TQ (by simp;omega),T9]
 congr 1
 simp;omega
theorem Be{h h':aa}(hl:h.length<=h'.length):(jL h h').length=h'.length:=by unfold jL;simp;omega
theorem Bf{w w':World}{h h':aa}{Y Y':List (Nat×Nat)}(s:cP w h Y w' h' Y'):jL h h'=h':=by
 apply Uw
 intro id
 by_cases bE:id<h.length
 ·obtain⟨o,ho⟩:=jN (l:=h) (i:=id) bE;rw[nD s.len ho]
  split
  rfl
  ·rename_i hm;exact(s.Bg id o ho hm).1.symm
 exact wv s.len (by omega)
theorem tD{h:aa}{id:Nat}{o o':aC}(ho:h[id]?=some o)(hm:o.mu=.m):jL h (h.set id o')=h.set id o':=by
 have hl:h.length<=(h.set id o').length:=by simp
 apply Uw
 intro k
 by_cases hk:k<h.length
 ·obtain⟨a,ha⟩:=jN (l:=h) (i:=k) hk;rw[nD hl ha]
  split
  rfl
  ·rename_i aU
   have:id≠k:=by rintro rfl;rw[ho]at ha;obtain rfl:=TF ha;exact aU hm
   rw[TN this,ha]
 exact wv hl (by omega)
theorem qY{P:Program}{h h':aa}{t:TypeId}{p v:PV}(e:fq P h t p v=some h'):∃id ep i off o o',p=.ptr id ep i off/\h[id]?=some o/\o.mu=.m/\h'=h.set id o'/\∀h2:aa,h2[id]?=some o->fq P h2 t p v=some (h2.set id o'):=by
 unfold fq at e
 split at e
 ·rename_i id ep i off sz hs
  split at e
  ·rename_i o ho
   split at e
   ·rename_i el eE
    split at e
    ·rename_i hc
     obtain rfl:=TF e;obtain⟨g1,g2,g3⟩:=getM_some ho;refine⟨id,ep,i,off,o,_,rfl,g1,hc.1,rfl,λh2 h3=>?_⟩;have hg:getM h2 id ep=some o:=FH h3 g2 g3;unfold fq;rw[hs];simp only[hg,eE];rw[if_pos hc]
    cases e
   cases e
  cases e
 cases e
theorem Ic{C:bZ}{run:gw}{op:Op}{V:Nat->PV}{h h':aa}{r:PV}(hb:gz op=true)(e:ak C run 2 op V h=some (r,h')):Ext h h':=by
 cases op <;>simp[gz]at hb
 simp only[ak,aw,cu]at e
 repeat' split at e
 all_goals first
  |(cases e;done)
  |(obtain⟨rfl,rfl⟩:=TL (TF e);first |exact Ext.refl _ |exact⟨_,rfl⟩)
structure eN(C:bZ)(run:gw)(ops:Array Oper)(h0:aa)(tr:Nat->St):Prop where
 ok:fT ops=true
 st:∀(i:Nat) (o:Oper),ops[i]?=some o->b8 C run ops (before ops) h0 i o (tr i)=some (tr (i+1))
 h0:h0=(tr 0).h
 sk:ow ops (before ops) (tr ops.size).V=true
def fU(P:Program)(ops:Array Oper)(tr:Nat->St)(j:Nat):Prop:=∃o,ops[j]?=some o/\cw o.op=true/\eU o.op=false/\(gz o.op=true->aw P 1 o.op (tr j).V (tr j).h=none)/\aK ops o (tr j).V=some true
variable{C:bZ}{run:gw}{ops:Array Oper}{h0:aa}{tr:Nat->St}
theorem eN.view(L:eN C run ops h0 tr){k:Nat}{o:Oper}(ho:ops[k]?=some o):qX C run ops h0 k o (tr k) (tr (k+1)):=K7 (L.st k o ho)
theorem eN.NO(L:eN C run ops h0 tr){k:Nat}{o:Oper}(ho:ops[k]?=some o):∃r,(tr (k+1)).V=bh (tr k).V o.dst r:=by
 cases L.view ho with
 |off _ hy=>exact⟨_,by rw[hy]⟩
 |plain r hx _ _ _ hy=>exact⟨_,by rw[hy]⟩
 |rd r hx _ _ _ _ hy=>exact⟨_,by rw[hy]⟩
 |made r hx _ _ _ hy=>exact⟨_,by rw[hy]⟩
 |two r h' _ _ _ _ _ _ _ hy=>exact⟨_,by rw[hy]⟩
theorem eN.iP(L:eN C run ops h0 tr){t:Nat}{i:Nat}:∀k,i<=k->k<=ops.size->(∀j o,i<=j->j<k->ops[j]?=some o->o.dst≠some t)->(tr k).V t=(tr i).V t:=by
 intro k
 induction k with
 |zero=>intro h1 _ _;obtain rfl:i=0:=(by omega);rfl
 |succ k ih=>
  intro h1 h2 h3
  by_cases hi:i=k+1
  subst hi;rfl
  ·obtain⟨o,ho⟩:=mA (ops:=ops) (k:=k) (by omega);obtain⟨r,hr⟩:=L.NO ho;rw[hr,kb,if_neg (h3 k o (by omega) (by omega) ho)];exact ih (by omega) (by omega) (λj o' a b c=>h3 j o' a (by omega) c)
theorem eN.aB(L:eN C run ops h0 tr){k:Nat}(hk:k<ops.size)(hn:¬fU C.P ops tr k):(tr (k+1)).h=(tr k).h:=by
 obtain⟨o,ho⟩:=mA (ops:=ops) hk
 cases L.view ho with
 |off _ hy=>rw[hy]
 |plain r hx _ _ _ hy=>rw[hy]
 |rd r hx _ _ _ _ hy=>rw[hy]
 |made r hx _ _ _ hy=>rw[hy]
 |two r h' hw hh hl hb _ _ _ hy=>exact absurd ⟨o,ho,hh,hl,hb,hw⟩ hn
theorem eN.wr(L:eN C run ops h0 tr){k:Nat}{o:Oper}(ho:ops[k]?=some o)(hr:fU C.P ops tr k):cw o.op=true/\eU o.op=false/\fR ops (before ops) k (gz o.op)=true/\
  ∃r h',ak C run 2 o.op (tr k).V (tr k).h=some (r,h')/\(tr k).h.length<=h'.length/\tr (k+1)=⟨bh (tr k).V o.dst r,jL (tr k).h h'⟩:=by
 obtain⟨o',e,h1,h2,h3,h4⟩:=hr;rw[ho]at e;obtain rfl:=TF e
 cases L.view ho with
 |off yB _=>rw[yB]at h4;cases h4
 |plain r2 hx _ Kc _ _=>rw[Kc]at h1;cases h1
 |rd r2 hx _ Q7 _ _ _=>rw[Q7]at h2;cases h2
 |made r2 hx _ ew vY _=>rw[h3 ew]at vY;cases vY
 |two r h' _ _ _ _ hk hv hle hy=>exact⟨h1,h2,hk,r,h',hv,hle,hy⟩
theorem eN.grow(L:eN C run ops h0 tr){k:Nat}(hk:k<ops.size):(tr k).h.length<=(tr (k+1)).h.length:=by
 obtain⟨o,ho⟩:=mA (ops:=ops) hk
 by_cases hr:fU C.P ops tr k
 ·obtain⟨_,_,_,r,h',_,hle,hy⟩:=L.wr ho hr;rw[hy,Be hle];exact hle
 rw[L.aB hk hr];exact TI _
theorem eN.old(L:eN C run ops h0 tr){id:Nat}{o:aC}(h1:h0[id]?=some o)(h2:o.mu≠.m):∀k,k<=ops.size->(tr k).h[id]?=some o:=by
 intro k
 induction k with
 |zero=>intro _;rw[<-L.h0];exact h1
 |succ k ih=>
  intro hk
  have ih:=ih (by omega);obtain⟨q,hq⟩:=mA (ops:=ops) (k:=k) (by omega)
  by_cases hr:fU C.P ops tr k
  ·obtain⟨_,_,_,r,h',_,hle,hy⟩:=L.wr hq hr;rw[hy];rw[nD hle ih,if_neg h2]
  rw[L.aB (by omega) hr];exact ih
theorem eN.ord(L:eN C run ops h0 tr){i j:Nat}(hi:fU C.P ops tr i)(hj:fU C.P ops tr j):(j=i\/pI ops i j\/pI ops j i)\/((sinks ops (before ops)).isSome=true/\ops.size<=i+2/\ops.size<=j+2):=by
 obtain⟨oi,ei,_⟩:=id hi;obtain⟨oj,ej,_⟩:=id hj;obtain⟨a1,a2,a3,_⟩:=L.wr ei hi;obtain⟨b1,b2,b3,_⟩:=L.wr ej hj
 by_cases hb:gz oj.op=true
 ·rcases pJ b3 ei a1 a2 (.inl hb)with h |h
  ·exact .inl (by rcases h with h |h |h;exact .inl h.symm;exact .inr (.inr h);exact .inr (.inl h))
  ·exact .inr ⟨h.1,h.2.2,h.2.1⟩
 exact pJ a3 ej b1 b2 (.inr (by simpa using hb))
structure SD(C:bZ)(run:gw)(ops:Array Oper)(tr:Nat->St)(q1 q2:Oper)(id1 id2:Nat)(a1 a2 sL mr:aC)(x y:Operand):Prop where
 n2:2<=ops.size
 s:sinks ops (before ops)=some (x,y)
 e1:ops[ops.size - 2]?=some q1
 e2:ops[ops.size - 1]?=some q2
 d1:q1.dst=none
 d2:q2.dst=none
 r1:fU C.P ops tr (ops.size - 2)
 r2:fU C.P ops tr (ops.size - 1)
 ne:id1≠id2
 g1:(tr (ops.size - 2)).h[id1]?=some a1
 g2:(tr (ops.size - 2)).h[id2]?=some a2
 m2:a2.mu=.m
 x1:∃ep i off,ev (tr (ops.size - 2)).V x=.ptr id1 ep i off
 x2:∃ep i off,ev (tr (ops.size - 2)).V y=.ptr id2 ep i off
 h1:(tr (ops.size - 1)).h=(tr (ops.size - 2)).h.set id1 sL
 h2:(tr ops.size).h=((tr (ops.size - 2)).h.set id1 sL).set id2 mr
 p1:(tr (ops.size - 1)).V=(tr (ops.size - 2)).V
 p2:(tr ops.size).V=(tr (ops.size - 2)).V
 v1:∀(V:Nat->PV) (h:aa),(∀z∈q1.op.operands.toList,ev V z=ev (tr (ops.size - 2)).V z)->h[id1]?=some a1->ak C run 2 q1.op V h=some (.undef,h.set id1 sL)
 v2:∀(V:Nat->PV) (h:aa),(∀z∈q2.op.operands.toList,ev V z=ev (tr (ops.size - 2)).V z)->h[id2]?=some a2->ak C run 2 q2.op V h=some (.undef,h.set id2 mr)
theorem tE{o:Oper}{a:Operand}(h:Ai o=some a):o.dst=none/\o.guard=none/\∃t v,o.op=.store t a v:=by
 unfold Ai at h
 split at h
 ·rename_i h1 h2 h3
  obtain rfl:=TF h;exact⟨h2,h3,_,_,h1⟩
 cases h
theorem eN.sd(L:eN C run ops h0 tr){x y:Operand}(hs:sinks ops (before ops)=some (x,y)):∃q1 q2 id1 id2 a1 a2 sL mr,SD C run ops tr q1 q2 id1 id2 a1 a2 sL mr x y:=by
 have PE:=hs;unfold sinks at hs
 split at hs
 ·rename_i hc
  split at hs
  ·rename_i x' y' hx hy
   obtain⟨rfl,rfl⟩:=TL (TF hs);obtain⟨q1,e1,k1⟩:=Option.bind_eq_some_iff.1 hx;obtain⟨q2,e2,k2⟩:=Option.bind_eq_some_iff.1 hy;rw[T1]at e1 e2;obtain⟨d1,g1,t1,v1,o1⟩:=tE k1;obtain⟨d2,g2,t2,v2,o2⟩:=tE k2;have r1:fU C.P ops tr (ops.size - 2):=⟨q1,e1,by rw[o1];rfl,by rw[o1];rfl,(λh=>by rw[o1]at h;cases h),by simp[aK,g1]⟩;have r2:fU C.P ops tr (ops.size - 1):=⟨q2,e2,by rw[o2];rfl,by rw[o2];rfl,(λh=>by rw[o2]at h;cases h),by simp[aK,g2]⟩;obtain⟨_,_,_,w1,h1,f1,l1,y1⟩:=L.wr e1 r1;obtain⟨_,_,_,w2,h2,f2,l2,y2⟩:=L.wr e2 r2;have n12:ops.size - 2+1=ops.size - 1:=by omega
   have n2:ops.size - 1+1=ops.size:=by omega
   rw[n12]at y1;rw[n2]at y2;rw[o1]at f1;rw[o2]at f2;simp only[ak,aw,TI,if_true]at f1 f2;obtain⟨s1,f3,Q8⟩:=Uj.1 f1;obtain⟨s2,f4,Q9⟩:=Uj.1 f2;obtain⟨rfl,rfl⟩:=TL Q8;obtain⟨rfl,rfl⟩:=TL Q9;obtain⟨id1,Tb,i1,FJ,a1,sL,p1,b1,m1,c1,z1⟩:=qY f3;obtain⟨id2,Tc,i2,Ra,a2,mr,p2,b2,m2,c2,z2⟩:=qY f4;have hV1:(tr (ops.size - 1)).V=(tr (ops.size - 2)).V:=by rw[y1,d1];rfl
   have hV2:(tr ops.size).V=(tr (ops.size - 2)).V:=by rw[y2,d2];exact hV1
   have NP:(tr (ops.size - 1)).h=(tr (ops.size - 2)).h.set id1 sL:=by rw[y1,c1];exact tD b1 m1
   have aU:id1≠id2:=by
    have:=L.sk;unfold ow at this;rw[PE]at this;simp only[hV2]at this;rw[hV1]at p2;rw[p1,p2]at this;simpa using this
   have qo:(tr (ops.size - 2)).h[id2]?=some a2:=by
    rw[NP,TN aU]at b2;exact b2
   have tF:(tr ops.size).h=((tr (ops.size - 2)).h.set id1 sL).set id2 mr:=by
    rw[y2,c2];simp only;rw[tD b2 m2,NP]
   refine⟨q1,q2,id1,id2,a1,a2,sL,mr,⟨hc.1,PE,e1,e2,d1,d2,r1,r2,aU,b1,qo,m2,⟨_,_,_,p1⟩,⟨_,_,_,by rw[<-hV1];exact p2⟩,NP,tF,hV1,hV2,?_,?_⟩⟩
   ·intro V h hz hb
    rw[o1]at hz ⊢;simp only[Op.operands]at hz;have za:=hz x' (by simp);have zv:=hz v1 (by simp);simp only[ak,aw,TI,if_true,za,zv];rw[z1 h hb];rfl
   ·intro V h hz hb
    rw[o2]at hz ⊢;simp only[Op.operands]at hz;have za:=hz y' (by simp);have zv:=hz v2 (by simp);simp only[ak,aw,TI,if_true,za,zv];rw[<-hV1,z2 h hb];rfl
  cases hs
 cases hs
def RH(ops:Array Oper)(tr:Nat->St)(E:Nat->Bool)(V:Nat->PV):Prop:=∀t k',k'<=ops.size->(∀j o,ops[j]?=some o->o.dst=some t->(E j=true↔j<k'))->V t=(tr k').V t
structure wx(C:bZ)(ops:Array Oper)(tr:Nat->St)(N:Nat)(F:Nat->Prop)(w0:World)(h0:aa)(Y0:List (Nat×Nat))(E:Nat->Bool)(a:Act)(w:World)(k:Nat)(V:Nat->PV)(Y:List (Nat×Nat)):Prop where
 kn:k<=ops.size
 lo:∀j,fU C.P ops tr j->E j=true->j<k
 hi:∀j,fU C.P ops tr j->j<k->E j=true
 hr:aG w F Y (tr k).h
 er:fc w (Av F (tr k).h Y) Y (tr k).h a V
 rh:RH ops tr E V
 sp:cP w0 h0 Y0 w (tr k).h Y
 df:a.defers=[]
 sz:N<=a.tmps.size
structure Ie(C:bZ)(run:gw)(ops:Array Oper)(tr:Nat->St)(N:Nat)(F:Nat->Prop)(w0:World)(h0:aa)(Y0:List (Nat×Nat))(E:Nat->Bool)(a:Act)(w:World)(q1 q2:Oper)(id1 id2:Nat)(a1 a2 sL mr:aC)(x y:Operand)(V:Nat->PV)(Y:List (Nat×Nat)):Prop where
 sd:SD C run ops tr q1 q2 id1 id2 a1 a2 sL mr x y
 s1:E (ops.size - 2)=false
 al:∀j,fU C.P ops tr j->j≠ops.size - 2->E j=true
 hr:aG w F Y ((tr (ops.size - 2)).h.set id2 mr)
 er:fc w (Av F ((tr (ops.size - 2)).h.set id2 mr) Y) Y ((tr (ops.size - 2)).h.set id2 mr) a V
 rh:RH ops tr E V
 sp:cP w0 h0 Y0 w ((tr (ops.size - 2)).h.set id2 mr) Y
 df:a.defers=[]
 sz:N<=a.tmps.size
variable{N:Nat}{F:Nat->Prop}{w0:World}{FK:aa}{Y0:List (Nat×Nat)}{E E':Nat->Bool}{a:Act}{w:World}
def qZ(C:bZ)(run:gw)(ops:Array Oper)(tr:Nat->St)(N:Nat)(F:Nat->Prop)(w0:World)(h0:aa)(Y0:List (Nat×Nat))(E:Nat->Bool)(a:Act)(w:World):Prop:=
 (∃k V Y,wx C ops tr N F w0 h0 Y0 E a w k V Y)\/(∃q1 q2 id1 id2 a1 a2 sL mr x y V Y,Ie C run ops tr N F w0 h0 Y0 E a w q1 q2 id1 id2 a1 a2 sL mr x y V Y)
theorem wx.FM(L:eN C run ops h0 tr){V:Nat->PV}{Y:List (Nat×Nat)}:∀(d:Nat) {k:Nat},wx C ops tr N F w0 FK Y0 E a w k V Y->k+d<=ops.size->(∀j,k<=j->j<k+d->¬fU C.P ops tr j)->wx C ops tr N F w0 FK Y0 E a w (k+d) V Y
 |0,k,D,_,_=>D
 |d+1,k,D,h1,h2=>by
  have hk:=L.aB (k:=k) (by omega) (h2 k (TI _) (by omega))
  have D1:wx C ops tr N F w0 FK Y0 E a w (k+1) V Y:=by
   refine⟨by omega,λj g1 g2=>by have:=D.lo j g1 g2;omega,λj g1 g2=>?_,by rw[hk];exact D.hr,by rw[hk];exact D.er,D.rh,by rw[hk];exact D.sp,D.df,D.sz⟩
   by_cases hj:j=k
   subst hj;exact absurd g1 (h2 j (TI _) (by omega));exact D.hi j g1 (by omega)
  have:=wx.FM L d D1 (by omega) (λj g1 g2=>h2 j (by omega) (by omega));rw[show k+(d+1)=k+1+d by omega];exact this
theorem RH.look(L:eN C run ops h0 tr){V:Nat->PV}(D:RH ops tr E V){i:Nat}{o:Oper}(R:v7 ops E E' i o){t:Nat}(ht:t∈o.looksAt ops):V t=(tr i).V t:=by
 have hi:i<ops.size:=(TY.1 R.at_).1;refine D t i (by omega) (λj o' hj hd=>?_);rcases VA j i with h |h |h;exact⟨λ_=>h,λ_=>R.Fc j ((dq L.ok).2 i j o o' R.at_ hj h (.inl (jO hd (.inl ht))))⟩;subst h;rw[R.out];simp
 ·have:=R.later ((dq L.ok).2 j i o' o hj R.at_ h (.inr (jO hd (.inl ht))));rw[this]
  constructor
  intro hh;cases hh
  intro hh;omega
theorem RH.C3(L:eN C run ops h0 tr){V:Nat->PV}(D:RH ops tr E V){i:Nat}{o:Oper}(R:v7 ops E E' i o):∀x∈o.op.operands.toList,ev V x=ev (tr i).V x:=by
 intro x hx
 cases x with
 |tmp t=>exact D.look L R (List.mem_append_left _ (List.mem_filterMap.2 ⟨.tmp t,hx,rfl⟩))
 |_=>rfl
theorem RH.Ap(L:eN C run ops h0 tr){V:Nat->PV}(D:RH ops tr E V){i:Nat}{o:Oper}(R:v7 ops E E' i o):aK ops o V=aK ops o (tr i).V:=by
 unfold aK
 cases hg:o.guard with
 |none=>rfl
 |some jw=>
  obtain⟨j,want⟩:=jw;simp only
  cases hd:(ops.toList[j]?).bind (·.dst)with
  |none=>rfl
  |some d=>
   have CD:(ops[j]?).bind (·.dst)=some d:=by simpa using hd
   have:V d=(tr i).V d:=D.look L R (List.mem_append_right _ (by simp[hg,CD]));simp only[this]
theorem RH.on(L:eN C run ops h0 tr){V:Nat->PV}(D:RH ops tr E V){i:Nat}{o:Oper}(R:v7 ops E E' i o){r:PV}(hr:(tr (i+1)).V=bh (tr i).V o.dst r):RH ops tr E' (bh V o.dst r):=by
 intro t k' hk hw
 rw[kb]
 split
 ·rename_i ht
  have yC:i<k':=(hw i o R.at_ ht).1 ((R.kS i).2 (.inr rfl));rw[L.iP (t:=t) (i:=i+1) k' yC hk (λj o' h1 h2 h3 h4=>?_),hr,kb,if_pos ht];have he:=(hw j o' h3 h4).2 h2;rcases(R.kS j).1 he with he |he
  ·rw[R.later ((dq L.ok).2 j i o' o h3 R.at_ (by omega) (.inl (jO ht (.inr h4))))]at he
   cases he
  omega
 ·rename_i ht
  refine D t k' hk (λj o' h1 h2=>?_)
  have yD:j≠i:=by
   rintro rfl;rw[R.at_]at h1;obtain rfl:=TF h1;exact ht h2
  rw[<-hw j o' h1 h2,R.kS];simp[yD]
theorem eN.K8(L:eN C run ops h0 tr){m id:Nat}{o:Oper}(ho:ops[m]?=some o)(hr:fU C.P ops tr m)(hb:gz o.op=true)(bE:id<(tr m).h.length):(tr (m+1)).h[id]?=(tr m).h[id]?:=by
 obtain⟨_,_,_,r,h',hv,hle,hy⟩:=L.wr ho hr;obtain⟨ext,rfl⟩:=Ic hb hv;rw[hy];obtain⟨ob,PF⟩:=jN (l:=(tr m).h) (i:=id) bE;simp only;rw[nD hle PF]
 split
 rw[TG bE];exact PF.symm
theorem eN.target(L:eN C run ops h0 tr){i id j:Nat}{x:Operand}(ho:yo ops (tr i).V x id=true)(hi:i<=ops.size - 2)(hx:∃ep k off,ev (tr (ops.size - 2)).V x=.ptr j ep k off):j≠id:=by
 obtain⟨ep,k,off,hx⟩:=hx;unfold yo at ho;simp only[TK]at ho
 have he:ev (tr (ops.size - 2)).V x=ev (tr i).V x:=by
  cases x with
  |tmp t=>
   refine L.iP (t:=t) (i:=i) _ hi (by omega) (λm o _ _ hm hd=>?_);have h1:=ho.1;simp only[Ve,UR]at h1;exact h1 o (VJ.2 (UL hm)) (by simp[hd])
  |_=>rfl
 rw[<-he,hx]at ho;simpa using ho.2
theorem wy{h0:aa}{id:Nat}(h:mO h0 id=true):∃o,h0[id]?=some o/\o.mu≠.m:=by
 unfold mO at h
 split at h
 ·rename_i o ho;exact⟨o,ho,by simpa using h⟩
 cases h
theorem eN.FJ(L:eN C run ops h0 tr){i m id:Nat}{o:Oper}(R:v7 ops E E' i o)(He:eU o.op=true)(hl:iI ops (before ops) i=true)(eO:uT ops (before ops) i (tr i).V id=true)(hm:m<ops.size)(bE:id<(tr m).h.length)
  (hE:fU C.P ops tr m->(m<i/\E m=false)\/(i<=m/\E m=true)):(tr (m+1)).h[id]?=(tr m).h[id]?:=by
 by_cases hr:fU C.P ops tr m
 ·obtain⟨om,K9⟩:=mA (ops:=ops) hm
  by_cases hb:gz om.op=true
  exact L.K8 K9 hr hb bE
  ·obtain⟨w1,w2,_⟩:=L.wr K9 hr
   have no:¬(m=i\/pI ops i m\/pI ops m i):=by
    rintro(h |h |h)
    ·subst h;rw[R.at_]at K9;obtain rfl:=TF K9;rw[He]at w2;cases w2
    ·have h1:=R.Fc m h;have h2:=mS L.ok i m h;rcases hE hr with⟨_,h3⟩|⟨h3,_⟩;rw[h1]at h3;cases h3;omega
    ·have h1:=R.later h;have h2:=mS L.ok m i h;rcases hE hr with⟨h3,_⟩|⟨_,h3⟩;omega;rw[h1]at h3;cases h3
   rcases wu hl K9 w1 w2 (by simpa using hb)with h |⟨hs,hn⟩;exact absurd h no
   ·obtain⟨⟨x,y⟩,hs⟩:=Vu.1 hs;obtain⟨q1,q2,id1,id2,a1,a2,sL,mr,S⟩:=L.sd hs;have n2:=S.n2;unfold uT at eO;rw[hs]at eO;simp only[TK,Uo]at eO;have cx:=(TY.1 R.at_).1
    have FN:i<=ops.size - 2:=by
     rcases T8 (ops.size - 2) i with h |h
     ·have:i=ops.size - 1:=by omega
      subst this;have h3:=R.at_;rw[S.e2]at h3;obtain rfl:=TF h3;have:=(L.wr S.e2 S.r2).2.1;rw[He]at this;cases this
     exact h
    have NQ:m=ops.size - 2\/m=ops.size - 1:=by omega
    rcases NQ with rfl |rfl
    ·have C4:=eO.1.resolve_left (λhc=>no (lq hc));have aU:=L.target C4 FN S.x1;rw[show ops.size - 2+1=ops.size - 1 by omega,S.h1,TN aU]
    ·have C4:=eO.2.resolve_left (λhc=>no (lq hc));have aU:=L.target C4 FN S.x2;rw[show ops.size - 1+1=ops.size by omega,S.h2,S.h1,TN aU]
 rw[L.aB hm hr]
theorem wx.agree(L:eN C run ops h0 tr){k:Nat}{V:Nat->PV}{Y:List (Nat×Nat)}(D:wx C ops tr N F w0 FK Y0 E a w k V Y){i id:Nat}{o:Oper}(R:v7 ops E E' i o)(He:eU o.op=true)(h1:id<(tr k).h.length)(h2:id<(tr i).h.length)
  (hc:mO h0 id=true\/(iI ops (before ops) i=true/\uT ops (before ops) i (tr i).V id=true)):(tr k).h[id]?=(tr i).h[id]?:=by
 have hi:i<ops.size:=(TY.1 R.at_).1;have Td:=D.kn;rcases hc with hc |⟨hl,eO⟩
 ·obtain⟨ob,b1,b2⟩:=wy hc;rw[L.old b1 b2 k D.kn,L.old b1 b2 i (by omega)]
 ·rcases Nat.le_total k i with Ig |yC
  ·have key:∀m,k<=m->m<=i->id<(tr m).h.length/\(tr m).h[id]?=(tr k).h[id]?:=by
    intro m
    induction m with
    |zero=>intro a1 _;obtain rfl:k=0:=(by omega);exact⟨h1,rfl⟩
    |succ m ih=>
     intro a1 a2
     by_cases hk:k=m+1
     subst hk;exact⟨h1,rfl⟩
     ·obtain⟨i1,i2⟩:=ih (by omega) (by omega);refine⟨T4 i1 (L.grow (by omega)),(L.FJ R He hl eO (by omega) i1 (λhr=>.inl ⟨by omega,?_⟩)).trans i2⟩
      cases he:E m with
      |false=>rfl
      |true=>have:=D.lo m hr he;omega
   exact(key i Ig (TI _)).2.symm
  ·have key:∀m,i<=m->m<=k->id<(tr m).h.length/\(tr m).h[id]?=(tr i).h[id]?:=by
    intro m
    induction m with
    |zero=>intro a1 _;obtain rfl:i=0:=(by omega);exact⟨h2,rfl⟩
    |succ m ih=>
     intro a1 a2
     by_cases hk:i=m+1
     subst hk;exact⟨h2,rfl⟩
     ·obtain⟨i1,i2⟩:=ih (by omega) (by omega);exact⟨T4 i1 (L.grow (by omega)),(L.FJ R He hl eO (by omega) i1 (λhr=>.inr ⟨by omega,D.hi m hr (by omega)⟩)).trans i2⟩
   exact(key k yC (TI _)).2
theorem Ie.agree(L:eN C run ops h0 tr){q1 q2:Oper}{id1 id2:Nat}{a1 a2 sL mr:aC}{x y:Operand}{V:Nat->PV}{Y:List (Nat×Nat)}(D:Ie C run ops tr N F w0 FK Y0 E a w q1 q2 id1 id2 a1 a2 sL mr x y V Y){i id:Nat}{o:Oper}(R:v7 ops E E' i o)(He:eU o.op=true)(h2:id<(tr i).h.length)
  (hc:mO h0 id=true\/(iI ops (before ops) i=true/\uT ops (before ops) i (tr i).V id=true)):((tr (ops.size - 2)).h.set id2 mr)[id]?=(tr i).h[id]?:=by
 have hi:i<ops.size:=(TY.1 R.at_).1;have S:=D.sd;have n2:=S.n2
 have rdNot:∀(j:Nat) (q:Oper),ops[j]?=some q->fU C.P ops tr j->i≠j:=by
  rintro j q hq hr rfl;have:=(L.wr hq hr).2.1;rw[R.at_]at hq;obtain rfl:=TF hq;rw[He]at this;cases this
 have g1:=rdNot _ _ S.e1 S.r1;have g2:=rdNot _ _ S.e2 S.r2;have mz:i<ops.size - 2:=by omega
 rcases hc with hc |⟨hl,eO⟩
 ·obtain⟨ob,b1,b2⟩:=wy hc;have e1:=L.old b1 b2 (ops.size - 2) (by omega)
  have aU:id2≠id:=by
   rintro rfl;rw[S.g2]at e1;obtain rfl:=TF e1;exact b2 S.m2
  rw[TN aU,e1,L.old b1 b2 i (by omega)]
 ·have key:∀m,i<=m->m<=ops.size - 2->id<(tr m).h.length/\(tr m).h[id]?=(tr i).h[id]?:=by
   intro m
   induction m with
   |zero=>intro a1 _;obtain rfl:i=0:=(by omega);exact⟨h2,rfl⟩
   |succ m ih=>
    intro a1 a2
    by_cases hk:i=m+1
    subst hk;exact⟨h2,rfl⟩
    ·obtain⟨i1,i2⟩:=ih (by omega) (by omega);exact⟨T4 i1 (L.grow (by omega)),(L.FJ R He hl eO (by omega) i1 (λhr=>.inr ⟨by omega,D.al m hr (by omega)⟩)).trans i2⟩
  have C4:yo ops (tr i).V y id=true:=by
   unfold uT at eO;rw[S.s]at eO;simp only[TK,Uo]at eO;refine eO.2.resolve_left (λH0=>?_);have Rb:=D.al _ S.r2 (by omega);rcases lq H0 with h |h |h;omega;have:=mS L.ok _ _ h;omega;have:=R.later h;rw[Rb]at this;cases this
  have aU:=L.target C4 (by omega) S.x2;rw[TN aU];exact(key (ops.size - 2) (by omega) (TI _)).2
theorem dQ{C:bZ}{run:gw}{lv:Nat}{op:Op}{V:Nat->PV}{h:aa}(hb:eU op=true\/gz op=true):ak C run lv op V h=aw C.P lv op V h:=by
 cases op <;>first |rfl |(rcases hb with hb |hb <;>simp[eU,gz]at hb)
theorem qZ.step(K:cj C)(S:ch C run)(L:eN C run ops h0 tr)(D:qZ C run ops tr N F w0 FK Y0 E a w){i:Nat}{o:Oper}(R:v7 ops E E' i o)(hd:dB N o=true)
  {Q:Exit->Act->World->Prop} {next:Act->World->Prop} (hK:∀a' w',qZ C run ops tr N F w0 FK Y0 E' a' w'->next a' w'):wpOp C.P ops Q i next a w:=by
 have hi:i<ops.size:=(TY.1 R.at_).1;unfold wpOp;rw[R.at_];simp only
 have noRan:(cw o.op=true->eU o.op=false->(gz o.op=true->aw C.P 1 o.op (tr i).V (tr i).h=none)->aK ops o (tr i).V=some true->False)->¬fU C.P ops tr i:=by
  rintro hh ⟨o',h1,h2,h3,h4,h5⟩;rw[R.at_]at h1;obtain rfl:=TF h1;exact hh h2 h3 h4 h5
 have PG:∀j,j≠i->E' j=E j:=λj hj=>by
  have:=R.kS j;simp only[hj,or_false]at this
  cases h1:E j <;>cases h2:E' j <;>simp_all
 rcases D with⟨k,V,Y,D⟩|⟨q1,q2,id1,id2,a1,a2,sL,mr,x,y,V,Y,D⟩
 ·have iq:=D.rh.Ap L R;have qb:=D.rh.C3 L R;have gC:∀lv h,ak C run lv o.op V h=ak C run lv o.op (tr i).V h:=λlv h=>jn qb
  have stay:∀{r:PV} {v:Value} {w':World} {Y':List (Nat×Nat)},¬fU C.P ops tr i->(tr (i+1)).V=bh (tr i).V o.dst r->ar w' (Av F (tr k).h Y') Y' (tr k).h v r->aG w' F Y' (tr k).h->cP w (tr k).h Y w' (tr k).h Y'->next (a.put o.dst v) w':=by
   intro r v w' Y' hn hr q1 q2 q3
   refine hK _ _ (.inl ⟨k,bh V o.dst r,Y',D.kn,?_,?_,q2,(D.er.mono q3).put (dK hd D.sz) q1,D.rh.on L R hr,D.sp.trans q3,by rw[bN];exact D.df,by rw[cq];exact D.sz⟩)
   ·intro j h1 h2
    rcases(R.kS j).1 h2 with h2 |rfl;exact D.lo j h1 h2;exact absurd h1 hn
   ·intro j h1 h2
    exact(R.kS j).2 (.inl (D.hi j h1 h2))
  have quiet:∀{r:PV},aK ops o (tr i).V=some true->¬fU C.P ops tr i->(tr (i+1)).V=bh (tr i).V o.dst r->ak C run 1 o.op V (tr k).h=some (r,(tr k).h)->o.wp C.P a w next Q:=by
   intro r hw hn hr e
   exact fV K S D.hr D.er e (λv w' Y' q1 q2 q3 q4=>stay hn hr q1 q2 q3)
  cases L.view R.at_ with
  |off hw hy=>
   rw[bU D.er (by rw[iq];exact hw),if_neg (by simp)];exact stay (noRan λ_ _ _ h3=>by rw[hw]at h3;cases h3) (by rw[hy]) .undef D.hr (cP.refl _ _ _)
  |plain r hx hw hh hv hy=>
   rw[bU D.er (by rw[iq];exact hw),if_pos rfl];exact .inl (quiet hw (noRan λh2 _ _ _=>by rw[hh]at h2;cases h2) (by rw[hy]) (by rw[gC];exact lf hh hv))
  |rd r hx hw hl hc hv hy=>
   rw[bU D.er (by rw[iq];exact hw),if_pos rfl];refine .inl (quiet hw (noRan λ_ h2 _ _=>by rw[hl]at h2;cases h2) (by rw[hy]) ?_);rw[gC,dQ (.inl hl)];refine(qt hl hv (λid bE=>?_)).1;have h2:=(qt hl hv (λ_ _=>rfl)).2 id bE
   have h1:id<(tr k).h.length:=by
    cases ls:o.op with
    |load t z=>
     rw[ls]at bE qb;simp only[p9]at bE;have hz:=qb z (by simp[Op.operands]);have hr:=D.er.ev D.hr.di z;rw[hz]at hr
     cases hq:ev (tr i).V z with
     |ptr j ep k2 off=>rw[hq]at bE hr;obtain rfl:=TF bE;exact hr.qu.1
     |_=>rw[hq]at bE;cases bE
    |indexAddr t z u=>
     rw[ls]at bE qb;simp only[p9]at bE;have hz:=qb z (by simp[Op.operands]);have hr:=D.er.ev D.hr.di z;rw[hz]at hr
     cases hq:ev (tr i).V z with
     |an j ep off len=>rw[hq]at bE hr;obtain rfl:=TF bE;exact hr.cO.1
     |_=>rw[hq]at bE;cases bE
    |_=>rw[ls]at hl;cases hl
   exact D.agree L R hl h1 h2 (hc id bE)
  |made r hx hw hb hv hy=>
   rw[bU D.er (by rw[iq];exact hw),if_pos rfl];refine .inl (quiet hw (noRan λ_ _ h3 _=>by rw[h3 hb]at hv;cases hv) (by rw[hy]) ?_);rw[dQ (.inr hb)];exact tC hb (λh=>by rw[<-dQ (C:=C) (run:=run) (.inr hb),<-dQ (C:=C) (run:=run) (.inr hb)];exact gC 1 h) hv
  |two r h' hw hh v8 FO hl hv hle hy=>
   rw[bU D.er (by rw[iq];exact hw),if_pos rfl];refine .inl ?_;have yE:fU C.P ops tr i:=⟨o,R.at_,hh,v8,FO,hw⟩
   have Ig:k<=i:=by
    rcases T8 i k with h |h;have:=D.hi i yE h;rw[R.out]at this;cases this;exact h
   have main:(∀j,fU C.P ops tr j->j<i->E j=true)->o.wp C.P a w next Q:=by
    intro anc_of
    have D1:=D.FM L (i - k) (by omega) (λj h1 h2 h3=>by
     have:=D.lo j h3 (anc_of j h3 (by omega));omega)
    rw[show k+(i - k)=i by omega]at D1;refine fV K S D1.hr D1.er (by rw[gC];exact hv) (λv w' Y' q1 q2 q3 q4=>hK _ _ (.inl ?_));have Ih:(tr (i+1)).h=h':=by rw[hy];exact Bf q3
    refine⟨i+1,bh V o.dst r,Y',by omega,?_,?_,by rw[Ih];exact q2,by rw[Ih];exact(D1.er.mono q3).put (dK hd D.sz) q1,D.rh.on L R (by rw[hy]),by rw[Ih];exact D1.sp.trans q3,by rw[bN];exact D.df,by rw[cq];exact D.sz⟩
    ·intro j h1 h2
     rcases(R.kS j).1 h2 with h2 |rfl;have:=D1.lo j h1 h2;omega;omega
    ·intro j h1 h3
     by_cases hj:j=i
     exact(R.kS j).2 (.inr hj);exact(R.kS j).2 (.inl (anc_of j h1 (by omega)))
   have ordE:∀j,fU C.P ops tr j->j<i->¬((sinks ops (before ops)).isSome=true/\ops.size<=i+2/\ops.size<=j+2)->E j=true:=by
    intro j hj cx Nc
    rcases(L.ord yE hj).resolve_right Nc with h |h |h;omega;exact R.Fc j h;have:=mS L.ok j i h;omega
   by_cases hb:(sinks ops (before ops)).isSome=true/\i=ops.size - 1/\E (ops.size - 2)=false
   ·obtain⟨hs,mz,PH⟩:=hb;obtain⟨⟨x,y⟩,hs⟩:=Vu.1 hs;obtain⟨q1,q2,id1,id2,a1,a2,sL,mr,SS⟩:=L.sd hs;have n2:=SS.n2;have before2:∀j,fU C.P ops tr j->j<ops.size - 2->E j=true:=λj hj cx=>ordE j hj (by omega) (λhh=>by omega)
    have Ke:k<=ops.size - 2:=by
     rcases T8 (ops.size - 2) k with h |h;have:=D.hi _ SS.r1 h;rw[PH]at this;cases this;exact h
    have D1:=D.FM L (ops.size - 2 - k) (by omega) (λj h1 h2 h3=>by
     have:=D.lo j h3 (before2 j h3 (by omega));omega)
    rw[show k+(ops.size - 2 - k)=ops.size - 2 by omega]at D1
    have NR:o=q2:=by
     have h3:=R.at_;rw[mz,SS.e2]at h3;exact(TF h3).symm
    subst NR
    have ls:∀z∈o.op.operands.toList,ev V z=ev (tr (ops.size - 2)).V z:=λz hz=>by
     rw[qb z hz,mz]
     cases z with
     |tmp t=>exact congrFun SS.p1 t
     |_=>rfl
    refine fV K S D1.hr D1.er (SS.v2 V _ ls SS.g2) (λv w' Y' r1 r2 r3 r4=>hK _ _ (.inr ?_));refine⟨q1,o,id1,id2,a1,a2,sL,mr,x,y,bh V o.dst .undef,Y',SS,?_,?_,r2,(D1.er.mono r3).put (dK hd D.sz) r1,D.rh.on L R (by rw[SS.d2,mz,show ops.size - 1+1=ops.size by omega,SS.p2,SS.p1];rfl),D1.sp.trans r3,by rw[bN];exact D.df,by rw[cq];exact D.sz⟩;rw[PG _ (by omega)];exact PH
    ·intro j hj aU
     by_cases yD:j=i
     exact(R.kS j).2 (.inr yD)
     ·obtain⟨oj,ej,_⟩:=id hj;have:=(TY.1 ej).1;exact(R.kS j).2 (.inl (before2 j hj (by omega)))
   ·refine main (λj hj cx=>?_)
    by_cases Nc:(sinks ops (before ops)).isSome=true/\ops.size<=i+2/\ops.size<=j+2
    ·have mz:i=ops.size - 1:=by omega
     have NS:j=ops.size - 2:=by omega
     cases he:E j with
     |true=>rfl
     |false=>exact absurd ⟨Nc.1,mz,by rw[<-NS];exact he⟩ hb
    exact ordE j hj cx Nc
 ·have iq:=D.rh.Ap L R;have qb:=D.rh.C3 L R;have gC:∀lv h,ak C run lv o.op V h=ak C run lv o.op (tr i).V h:=λlv h=>jn qb
  have SS:=D.sd;have n2:=SS.n2
  have stay:∀{r:PV} {v:Value} {w':World} {Y':List (Nat×Nat)},¬fU C.P ops tr i->(tr (i+1)).V=bh (tr i).V o.dst r->ar w' (Av F ((tr (ops.size - 2)).h.set id2 mr) Y') Y' ((tr (ops.size - 2)).h.set id2 mr) v r->aG w' F Y' ((tr (ops.size - 2)).h.set id2 mr)->cP w ((tr (ops.size - 2)).h.set id2 mr) Y w' ((tr (ops.size - 2)).h.set id2 mr) Y'->next (a.put o.dst v) w':=by
   intro r v w' Y' hn hr r1 r2 r3
   refine hK _ _ (.inr ⟨q1,q2,id1,id2,a1,a2,sL,mr,x,y,bh V o.dst r,Y',SS,?_,?_,r2,(D.er.mono r3).put (dK hd D.sz) r1,D.rh.on L R hr,D.sp.trans r3,by rw[bN];exact D.df,by rw[cq];exact D.sz⟩);rw[PG _ (by rintro h;rw[<-h]at hn;exact hn SS.r1)];exact D.s1
   ·intro j hj aU
    exact(R.kS j).2 (.inl (D.al j hj aU))
  have quiet:∀{r:PV},aK ops o (tr i).V=some true->¬fU C.P ops tr i->(tr (i+1)).V=bh (tr i).V o.dst r->ak C run 1 o.op V ((tr (ops.size - 2)).h.set id2 mr)=some (r,(tr (ops.size - 2)).h.set id2 mr)->o.wp C.P a w next Q:=by
   intro r hw hn hr e
   exact fV K S D.hr D.er e (λv w' Y' r1 r2 r3 r4=>stay hn hr r1 r2 r3)
  cases L.view R.at_ with
  |off hw hy=>
   rw[bU D.er (by rw[iq];exact hw),if_neg (by simp)];exact stay (noRan λ_ _ _ h3=>by rw[hw]at h3;cases h3) (by rw[hy]) .undef D.hr (cP.refl _ _ _)
  |plain r hx hw hh hv hy=>
   rw[bU D.er (by rw[iq];exact hw),if_pos rfl];exact .inl (quiet hw (noRan λh2 _ _ _=>by rw[hh]at h2;cases h2) (by rw[hy]) (by rw[gC];exact lf hh hv))
  |rd r hx hw hl hc hv hy=>
   rw[bU D.er (by rw[iq];exact hw),if_pos rfl];refine .inl (quiet hw (noRan λ_ h2 _ _=>by rw[hl]at h2;cases h2) (by rw[hy]) ?_);rw[gC,dQ (.inl hl)];refine(qt hl hv (λid bE=>?_)).1;exact D.agree L R hl ((qt hl hv (λ_ _=>rfl)).2 id bE) (hc id bE)
  |made r hx hw hb hv hy=>
   rw[bU D.er (by rw[iq];exact hw),if_pos rfl];refine .inl (quiet hw (noRan λ_ _ h3 _=>by rw[h3 hb]at hv;cases hv) (by rw[hy]) ?_);rw[dQ (.inr hb)];exact tC hb (λh=>by rw[<-dQ (C:=C) (run:=run) (.inr hb),<-dQ (C:=C) (run:=run) (.inr hb)];exact gC 1 h) hv
  |two r h' hw hh v8 FO hl hv hle hy=>
   rw[bU D.er (by rw[iq];exact hw),if_pos rfl];refine .inl ?_;have yE:fU C.P ops tr i:=⟨o,R.at_,hh,v8,FO,hw⟩
   have mz:i=ops.size - 2:=Classical.byContradiction λaU=>by
    have:=D.al i yE aU;rw[R.out]at this;cases this
   have NR:o=q1:=by
    have h3:=R.at_;rw[mz,SS.e1]at h3;exact(TF h3).symm
   subst NR;have ls:∀z∈o.op.operands.toList,ev V z=ev (tr (ops.size - 2)).V z:=λz hz=>by rw[qb z hz,mz]
   have hg:((tr (ops.size - 2)).h.set id2 mr)[id1]?=some a1:=by rw[TN (Um SS.ne)];exact SS.g1
   refine fV K S D.hr D.er (SS.v1 V _ ls hg) (λv w' Y' r1 r2 r3 r4=>hK _ _ (.inl ?_));have tF:(tr ops.size).h=((tr (ops.size - 2)).h.set id2 mr).set id1 sL:=by rw[SS.h2,List.set_comm _ _ SS.ne]
   have E'all:∀j,fU C.P ops tr j->E' j=true:=λj hj=>by
    by_cases yD:j=i
    exact(R.kS j).2 (.inr yD);exact(R.kS j).2 (.inl (D.al j hj (by rw[<-mz];exact yD)))
   refine⟨ops.size,bh V o.dst .undef,Y',TI _,?_,λj hj _=>E'all j hj,by rw[tF];exact r2,by rw[tF];exact(D.er.mono r3).put (dK hd D.sz) r1,D.rh.on L R (by rw[SS.d1,mz,show ops.size - 2+1=ops.size - 1 by omega,SS.p1];rfl),by rw[tF];exact D.sp.trans r3,by rw[bN];exact D.df,by rw[cq];exact D.sz⟩
   intro j hj _
   obtain⟨oj,ej,_⟩:=hj;exact(TY.1 ej).1
theorem qZ.done(L:eN C run ops h0 tr)(D:qZ C run ops tr N F w0 FK Y0 E a w)(hE:∀j,j<ops.size->E j=true):∃Y,SR N w F Y (tr ops.size) a/\cP w0 FK Y0 w (tr ops.size).h Y:=by
 rcases D with⟨k,V,Y,D⟩|⟨q1,q2,id1,id2,a1,a2,sL,mr,x,y,V,Y,D⟩
 ·have D1:=D.FM L (ops.size - k) (by have:=D.kn;omega) (λj h1 h2 h3=>by
   have:=D.lo j h3 (hE j (by have:=D.kn;omega));omega)
  rw[show k+(ops.size - k)=ops.size by have:=D.kn;omega]at D1
  have hV:V=(tr ops.size).V:=by
   funext t
   refine D1.rh t ops.size (TI _) (λj o hj _=>?_);have:j<ops.size:=(TY.1 hj).1;simp[hE j this,this]
  have h2:=D1.er;rw[hV]at h2;exact⟨Y,⟨D1.hr,h2,D1.df,D1.sz⟩,D1.sp⟩
 ·have:=D.s1;rw[hE _ (by have:=D.sd.n2;omega)]at this;cases this
def FL(ids:List Nat)(F:Nat->Prop)(h:aa)(Y:List (Nat×Nat))(b:Nat):Prop:=F b\/∃id o bc,ids.contains id=true/\h[id]?=some o/\Y[id]?=some bc/\o.mu=.m/\bc.1=b
theorem iQ(ids:List Nat)(h:aa)(id:Nat):(dj ids h)[id]?=(h[id]?).map λo=>if ids.contains id then bB o else o:=by
 unfold dj;rw[TS,Vk,VT]
 cases h[id]? <;>simp
theorem wz(ids:List Nat)(h h':aa)(id:Nat):(eB ids h h')[id]?=(h'[id]?).map λo=>if ids.contains id then(match h[id]? with |some o'=>o'|none=>o)else o:=by
 unfold eB;rw[TS,Vk,VT]
 cases h'[id]? with
 |none=>rfl
 |some o=>
  simp only[TO,Function.comp_apply,Uu]
  split <;>rfl
theorem oD(ids:List Nat)(h:aa):(dj ids h).length=h.length:=by unfold dj;simp
variable{Y:List (Nat×Nat)}{h:aa}
theorem lu(ids:List Nat)(h:aa):Alike h (dj ids h):=by
 refine⟨(oD ids h).symm,λid o o' e1 e2=>?_⟩;rw[iQ,e1]at e2;obtain rfl:=TF e2;obtain⟨p1,p2,p3,p4,_⟩:=aO o
 split
 exact⟨p1.symm,p2.symm,p3.symm,p4.symm⟩;exact⟨rfl,rfl,rfl,Iff.rfl⟩
theorem q8{ids:List Nat}{b:Nat}(hb:Mb (dj ids h) Y b):∃id o bc,ids.contains id=false/\h[id]?=some o/\Y[id]?=some bc/\o.mu=.m/\bc.1=b:=by
 obtain⟨id,o,bc,e1,e2,e3,e4⟩:=hb;rw[iQ]at e1
 cases ho:h[id]? with
 |none=>rw[ho]at e1;cases e1
 |some o2=>
  rw[ho]at e1;simp only[TO,Ue]at e1
  split at e1
  subst e1;exact absurd e3 (aO o2).2.2.2.2.1
  ·rename_i hc;subst e1;exact⟨id,o2,bc,by simpa using hc,ho,e2,e3,e4⟩
theorem nE{ids:List Nat}{b:Nat}(hb:Av (FL ids F h Y) (dj ids h) Y b):Av F h Y b:=by
 rcases hb with(hb |⟨id,o,bc,_,e1,e2,e3,e4⟩)|hb;exact .inl hb;exact .inr ⟨id,o,bc,e1,e2,e3,e4⟩
 ·obtain⟨id,o,bc,_,e1,e2,e3,e4⟩:=q8 hb;exact .inr ⟨id,o,bc,e1,e2,e3,e4⟩
theorem aG.dj(H:aG w F Y h)(ids:List Nat):aG w (FL ids F h Y) Y (Pm.dj ids h):=by
 have at_:∀(id:Nat) (o:aC),(Pm.dj ids h)[id]?=some o->∃o2,h[id]?=some o2/\((ids.contains id=true/\o=bB o2)\/(ids.contains id=false/\o=o2)):=by
  intro id o e
  rw[iQ]at e
  cases ho:h[id]? with
  |none=>rw[ho]at e;cases e
  |some o2=>
   rw[ho]at e;simp only[TO,Ue]at e
   split at e
   ·rename_i hc;exact⟨o2,rfl,.inl ⟨hc,e.symm⟩⟩
   ·rename_i hc;exact⟨o2,rfl,.inr ⟨by simpa using hc,e.symm⟩⟩
 refine⟨by rw[oD];exact H.len,λb hb=>?_,?_,?_,?_,H.di.ia λb=>nE⟩
 ·rcases hb with hb |⟨id,o,bc,_,e1,e2,e3,e4⟩
  ·exact H.fin b hb
  ·exact Av.lt H (.inr ⟨id,o,bc,e1,e2,e3,e4⟩)
 ·intro id o bc e1 e2 e3
  obtain⟨o2,f1,f2⟩:=at_ id o e1;obtain⟨p1,p2,p3,p4,_⟩:=aO o2;rcases f2 with⟨_,rfl⟩|⟨_,rfl⟩;exact(H.obj id o2 bc f1 e2 (λhh=>e3 (p4.2 hh))).alike (lu ids h) (λb=>nE) p2.symm p3.symm;exact(H.obj id o bc f1 e2 e3).alike (lu ids h) (λb=>nE) rfl rfl
 ·intro id cz o o' bc bW aU e1 e2 e3 e4 m1 m2
  obtain⟨o2,f1,f2⟩:=at_ id o e1;obtain⟨PI,g1,g2⟩:=at_ cz o' e2;rcases f2 with⟨_,rfl⟩|⟨_,rfl⟩;exact absurd m1 (aO o2).2.2.2.2.1
  ·rcases g2 with⟨_,rfl⟩|⟨_,rfl⟩
   ·exact H.eZ id cz o PI bc bW aU f1 g1 e3 e4 m1 (λhh=>m2 ((aO PI).2.2.2.1.2 hh))
   ·exact H.eZ id cz o o' bc bW aU f1 g1 e3 e4 m1 m2
 ·intro id o bc e1 e2 e3 hf
  obtain⟨o2,f1,f2⟩:=at_ id o e1;obtain⟨p1,p2,p3,p4,p5,p6⟩:=aO o2
  have Ba:(ids.contains id=false/\o2.mu=.m)\/o2.mu=.f:=by
   rcases f2 with⟨_,rfl⟩|⟨hc,rfl⟩
   ·rcases e3 with e3 |e3
    ·exact absurd e3 p5
    ·exact .inr (p6.1 e3)
   exact e3.imp (λh=>⟨hc,h⟩) (λh=>h)
  rcases hf with hf |⟨cz,o',bW,k1,k2,k3,k4,k5⟩;exact H.out id o2 bc f1 e2 (Ba.imp (λh=>h.2) (λh=>h)) hf
  ·have aU:cz≠id:=by
    rintro rfl;rw[f1]at k2;obtain rfl:=TF k2;rcases Ba with h |h;rw[k1]at h;cases h.1;rw[k4]at h;cases h
   exact H.eZ cz id o' o2 bW bc aU k2 f1 k3 e2 k4 (by rcases Ba with h |h;rw[h.2];simp;rw[h];simp) k5
theorem aG.eB(H:aG w F Y h){ids:List Nat}{w':World}{h1:aa}{Y1:List (Nat×Nat)}(q2:aG w' (FL ids F h Y) Y1 h1)(q3:cP w (Pm.dj ids h) Y w' h1 Y1)(v8:ov ids h h1=true):
  (∀(v:Value) (p:PV),ar w' (Av (FL ids F h Y) h1 Y1) Y1 h1 v p->ar w' (Av F (Pm.eB ids h h1) Y1) Y1 (Pm.eB ids h h1) v p)/\aG w' F Y1 (Pm.eB ids h h1)/\cP w h Y w' (Pm.eB ids h h1) Y1:=by
 have hn:h.length<=h1.length:=by have:=q3.len;rwa[oD]at this
 have FP:(Pm.eB ids h h1).length=h1.length:=by unfold Pm.eB;simp
 have lk:∀(id:Nat) (o:aC),h[id]?=some o->ids.contains id=true->h1[id]?=some (bB o)/\Y1[id]?=Y[id]?/\(Pm.eB ids h h1)[id]?=some o:=λid o ho hc=>by
  have e1:(Pm.dj ids h)[id]?=some (bB o):=by rw[iQ,ho];simp only[TO,hc,if_true]
  obtain⟨g1,g2⟩:=q3.Bg id (bB o) e1 (aO o).2.2.2.2.1;exact⟨g1,g2,by rw[wz,g1];simp only[TO,hc,if_true,ho]⟩
 have ul:∀(id:Nat),(ids.contains id=false\/h.length<=id)->(Pm.eB ids h h1)[id]?=h1[id]?:=λid hc=>by
  rw[wz]
  cases h1[id]? with
  |none=>rfl
  |some o=>
   rcases hc with hc |hc;simp only[TO,hc,TR,if_false];simp only[TO,TZ hc];split <;>rfl
 have cs:∀(id:Nat) (o:aC),(Pm.eB ids h h1)[id]?=some o->(ids.contains id=true/\h[id]?=some o/\h1[id]?=some (bB o)/\Y1[id]?=Y[id]?)\/((ids.contains id=false\/h.length<=id)/\h1[id]?=some o):=λid o e=>by
  by_cases hc:ids.contains id=true/\id<h.length
  ·obtain⟨o2,ho⟩:=jN (l:=h) (i:=id) hc.2;obtain⟨g1,g2,g3⟩:=lk id o2 ho hc.1;rw[g3]at e;obtain rfl:=TF e;exact .inl ⟨hc.1,ho,g1,g2⟩
  ·have Fe:ids.contains id=false\/h.length<=id:=by
    by_cases h1:ids.contains id=true
    exact .inr (Nat.le_of_not_lt λh2=>hc ⟨h1,h2⟩);exact .inl (by simpa using h1)
   exact .inr ⟨Fe,by rw[<-ul id Fe];exact e⟩
 have al:Alike h1 (Pm.eB ids h h1):=by
  refine⟨FP.symm,λid o o' e1 e2=>?_⟩;rcases cs id o' e2 with⟨_,_,g1,_⟩|⟨_,g1⟩
  ·rw[g1]at e1;obtain rfl:=TF e1;obtain⟨p1,p2,p3,p4,_⟩:=aO o';exact⟨p1,p2,p3,p4⟩
  ·rw[g1]at e1;obtain rfl:=TF e1;exact⟨rfl,rfl,rfl,Iff.rfl⟩
 have C5:∀b,Av F (Pm.eB ids h h1) Y1 b->Av (FL ids F h Y) h1 Y1 b:=by
  rintro b (hb |⟨id,o,bc,e1,e2,e3,e4⟩);exact .inl (.inl hb)
  ·rcases cs id o e1 with⟨hc,g0,g1,g2⟩|⟨_,g1⟩
   ·rw[g2]at e2;exact .inl (.inr ⟨id,o,bc,hc,g0,e2,e3,e4⟩)
   ·exact .inr ⟨id,o,bc,g1,e2,e3,e4⟩
 have lmu:∀(id:Nat) (o:aC),(ids.contains id=false\/h.length<=id)->h1[id]?=some o->o.mu=.l->∃o',h[id]?=some o'/\o'.mu=.l:=λid o hc e hm=>by
  have:=TH.1 v8 (o,id) (by rw[U3];exact⟨id,by simp[e]⟩);simp only[hm,ne_eq,not_true_eq_false,decide_false,Vm,Uo,TK,decide_eq_true_eq]at this;rcases this with h2 |h2
  ·rcases hc with hc |hc
   ·rw[hc]at h2;cases h2.1
   ·omega
  ·split at h2
   ·rename_i o' FI;exact⟨o',FI,by simpa using h2⟩
   ·cases h2
 have Nd:∀b,b<w.heap.size->Mb (Pm.eB ids h h1) Y1 b->Mb h Y b:=by
  rintro b hb ⟨id,o,bc,e1,e2,e3,e4⟩;rcases cs id o e1 with⟨hc,g0,g1,g2⟩|⟨_,g1⟩;rw[g2]at e2;exact⟨id,o,bc,g0,e2,e3,e4⟩
  ·obtain⟨cz,o',bW,_,f1,f2,f3,f4⟩:=q8 (q3.shr b hb ⟨id,o,bc,g1,e2,e3,e4⟩);exact⟨cz,o',bW,f1,f2,f3,f4⟩
 refine⟨λv p q1=>q1.alike al C5,⟨by rw[FP];exact q2.len,λb hb=>T4 (H.fin b hb) q3.size,?_,?_,?_,q2.di.ia C5⟩,⟨q3.size,by rw[FP];exact hn,λb hb hm=>q3.aB b hb (λNQ=>hm ?_),Nd,?_,?_,q3.os,q3.tape,q3.output,q3.drawn⟩⟩
 ·intro id o bc e1 e2 e3
  rcases cs id o e1 with⟨hc,g0,g1,g2⟩|⟨_,g1⟩
  ·obtain⟨p1,p2,p3,p4,_⟩:=aO o;exact(q2.obj id (bB o) bc g1 e2 (λhh=>e3 (p4.1 hh))).alike al C5 p2 p3
  exact(q2.obj id o bc g1 e2 e3).alike al C5 rfl rfl
 ·intro id cz o o' bc bW aU e1 e2 e3 e4 m1 m2
  rcases cs id o e1 with⟨hc,g0,g1,g2⟩|⟨hc,g1⟩
  ·rcases cs cz o' e2 with⟨Fe,PJ,Hf,K'⟩|⟨Fe,Hf⟩
   ·rw[g2]at e3;rw[K']at e4;exact H.eZ id cz o o' bc bW aU g0 PJ e3 e4 m1 m2
   ·rw[g2]at e3;have inF:FL ids F h Y bc.1:=.inr ⟨id,o,bc,hc,g0,e3,m1,rfl⟩
    cases hm:o'.mu with
    |m=>exact λheq=>q2.out cz o' bW Hf e4 (.inl hm) (heq▸inF)
    |f=>exact λheq=>q2.out cz o' bW Hf e4 (.inr hm) (heq▸inF)
    |l=>
     obtain⟨o2,k1,k2⟩:=lmu cz o' Fe Hf hm;have CE:ids.contains cz=false:=Fe.resolve_right (λhh=>by rw[TZ hh]at k1;cases k1);have e5:(Pm.dj ids h)[cz]?=some o2:=by rw[iQ,k1];simp only[TO,CE,TR,if_false]
     obtain⟨_,k4⟩:=q3.Bg cz o2 e5 (by rw[k2];simp);rw[k4]at e4;exact H.eZ id cz o o2 bc bW aU g0 k1 e3 e4 m1 (by rw[k2];simp)
    |x=>exact absurd hm m2
  ·rcases cs cz o' e2 with⟨Fe,PJ,Hf,K'⟩|⟨Fe,Hf⟩
   ·exact q2.eZ id cz o (bB o') bc bW aU g1 Hf e3 e4 m1 (λhh=>m2 ((aO o').2.2.2.1.1 hh))
   ·exact q2.eZ id cz o o' bc bW aU g1 Hf e3 e4 m1 m2
 ·intro id o bc e1 e2 e3
  rcases cs id o e1 with⟨hc,g0,g1,g2⟩|⟨hc,g1⟩;rw[g2]at e2;exact H.out id o bc g0 e2 e3;exact λhf=>q2.out id o bc g1 e2 e3 (.inl hf)
 ·obtain⟨cz,o',bW,_,f1,f2,f3,f4⟩:=q8 NQ;exact⟨cz,o',bW,f1,f2,f3,f4⟩
 ·intro id o bc e1 e2 e3
  by_cases hc:ids.contains id=true
  ·obtain⟨g1,g2,g3⟩:=lk id o e1 hc;exact⟨o,bc,g3,by rw[g2];exact e2,e3,⟨TI _,λh=>h⟩,λ_=>⟨rfl,λ_=>rfl,rfl⟩⟩
  ·have CE:ids.contains id=false:=by simpa using hc
   have e5:(Pm.dj ids h)[id]?=some o:=by rw[iQ,e1];simp only[TO,CE,TR,if_false]
   obtain⟨o',bW,f1,f2,f3,f4,f5⟩:=q3.refs id o bc e5 e2 e3;exact⟨o',bW,by rw[ul id (.inl CE)];exact f1,f2,f3,f4,f5⟩
 ·intro id o e1 e2
  by_cases hc:ids.contains id=true
  ·obtain⟨g1,g2,g3⟩:=lk id o e1 hc;exact⟨g3,g2⟩
  ·have CE:ids.contains id=false:=by simpa using hc
   have e5:(Pm.dj ids h)[id]?=some o:=by rw[iQ,e1];simp only[TO,CE,TR,if_false]
   obtain⟨f1,f2⟩:=q3.Bg id o e5 e2;exact⟨by rw[ul id (.inl CE)];exact f1,f2⟩
theorem FQ(K:cj C)(S:ch C run)(hm:C.P.follows .mixedOrders=true){id:Nat}{Q:Exit->Act->World->Prop}(hd:ops.toList.all (dB N)=true)(hk:fT ops=true){Y:List (Nat×Nat)}{s s':St}(R:SR N w F Y s a)
  (e:gR C run ops s=some s') (hQ:∀a' w' Y',SR N w' F Y' s' a'->cP w s.h Y w' s'.h Y'->Q .normal a' w'):(Code.region id ops true).wp C.P Q a w:=by
 unfold gR at e;generalize La:fo ops (before ops) s.V=ids at e
 split at e
 ·rename_i y he
  split at e
  ·rename_i v8
   obtain rfl:=TF e;obtain⟨tr,t1,t2,t3⟩:=lm ops.toList 0 _ _ he;have Kf:tr ops.size=y:=by simpa using t3
   have L:eN C run ops (dj ids s.h) tr:=⟨hk,λi o ho=>by simpa using t2 i o (by simpa using ho),by rw[t1],by rw[Kf];exact v8.2⟩
   refine wp_region_any hm (oE (C:=C) hk (λE a' w'=>qZ C run ops tr N (FL ids F s.h Y) w (dj ids s.h) Y E a' w')
    (λE E' a' w' i o D R' next hK=>qZ.step K S L D R' (TH.1 hd o (VJ.2 (UL R'.at_))) hK)
    (λE a' w' D cZ=>?_) ops.size _ a _ (by simp) (λi o ho hl=>by rw[getD_none]at hl;cases hl) ?_ ?_)
   ·obtain⟨Y1,h1,h2⟩:=D.done L cZ;rw[Kf]at h1 h2;obtain⟨u1,u2,u3⟩:=R.hr.eB h1.hr h2 v8.1;exact hQ a' w' Y1 ⟨u2,λt=>u1 _ _ (h1.er t),h1.df,h1.sz⟩ u3
   refine T' (VH) (by simp)
   ·have hE:∀j,(Array.replicate ops.size false).getD j false=false:=λj=>getD_none _ j
    have G:cc w {w with drawn:=w.drawn+1}:=cc.drew w;have HL:=R.hr.dj ids;have ER:fc w (Av (FL ids F s.h Y) (dj ids s.h) Y) Y (dj ids s.h) a s.V:=λt=>(R.er t).alike (lu ids s.h) (λb=>nE)
    refine .inl ⟨0,s.V,Y,⟨UG _,λj _ h=>(by rw[hE]at h;cases h),λj _ h=>by omega,by rw[t1];exact HL.uY G,by rw[t1];exact ER.mono (G.pG _ Y),?_,by rw[t1];exact G.pG _ Y,R.df,R.sz⟩⟩
    intro t k' fv hw
    rw[L.iP (t:=t) (i:=0) k' (UG _) fv (λj o h1 h2 h3 h4=>by
     have h5:(Array.replicate ops.size false).getD j false=true:=(hw j o h3 h4).2 h2;rw[hE]at h5;cases h5),t1]
  cases e
 cases e
end Go.Pm
namespace Go.Pm
variable[iD:Inhabited Prop]
def codeOk(N:Nat):Code->Bool
 | .region _ ops draw=>ops.toList.all (dB N)&& (!draw ||fT ops)
 | .seq a b=>codeOk N a&&codeOk N b
 | .cond _ a b=>codeOk N a&&codeOk N b
 | .block _ c=>codeOk N c
 | .loop c=>codeOk N c
 | .scope c=>codeOk N c
 |_=>true
def xi:Ex->Exit
 | .normal=>.normal
 | .exit id=>.exit id
 | .ret=>.ret
theorem xJ{C:bZ}(K:cj C)(hm:C.P.follows .mixedOrders=true){run:gw}(S:ch C run){N:Nat}{F:Nat->Prop}{n:Nat}:∀(c:Code) {s s':St} {ex:Ex} {a:Act} {w:World} {Y:List (Nat×Nat)} {Q:Exit->Act->World->Prop},
  codeOk N c=true->aV C run n c s=some (ex,s')->SR N w F Y s a->(∀a' w' Y',SR N w' F Y' s' a'->cP w s.h Y w' s'.h Y'->Q (xi ex) a' w')->c.wp C.P Q a w:=by
 intro c
 induction c with
 |skip=>
  intro s s' ex a w Y Q hc e R hQ
  simp only[aV,Ue,Vb]at e;obtain⟨rfl,rfl⟩:=e;exact wp_skip (hQ a w Y R (cP.refl _ _ _))
 |label l=>
  intro s s' ex a w Y Q hc e R hQ
  simp only[aV,Ue,Vb]at e;obtain⟨rfl,rfl⟩:=e;exact wp_label (hQ a w Y R (cP.refl _ _ _))
 |exit id=>
  intro s s' ex a w Y Q hc e R hQ
  simp only[aV,Ue,Vb]at e;obtain⟨rfl,rfl⟩:=e;exact wp_exit (hQ a w Y R (cP.refl _ _ _))
 |ret=>
  intro s s' ex a w Y Q hc e R hQ
  simp only[aV,Ue,Vb]at e;obtain⟨rfl,rfl⟩:=e;exact wp_ret (hQ a w Y R (cP.refl _ _ _))
 |region id ops draw=>
  intro s s' ex a w Y Q hc e R hQ
  simp only[codeOk,TK,Uo,Ve]at hc;simp only[aV]at e
  cases draw with
  |false=>
   simp only[TR,if_false]at e
   split at e
   ·rename_i s1 he
    obtain⟨rfl,rfl⟩:=TL (TF e);exact Bp K S hc.1 R he hQ
   cases e
  |true=>
   simp only[if_true]at e
   by_cases hk:kY ops=true
   ·simp only[hk,if_true]at e
    cases he:gR C run ops s with
    |none=>rw[he]at e;simp at e
    |some y=>
     rw[he]at e;obtain⟨rfl,rfl⟩:=TL (TF e);exact FQ K S hm hc.1 (by simpa using hc.2) R he hQ
   ·simp only[hk,if_false]at e
    cases he:cB C run ops (before ops) 0 ops.toList ⟨s,s.h.length,[]⟩with
    |none=>rw[he]at e;simp at e
    |some y=>
     rw[he]at e;simp only[TO]at e;obtain⟨rfl,rfl⟩:=TL (TF e);exact y8 K S hm hc.1 (by simpa using hc.2) R he hQ
 |seq x y ihx ihy=>
  intro s s' ex a w Y Q hc e R hQ
  simp only[codeOk,TK]at hc;simp only[aV]at e;refine wp_seq ?_
  cases hx:aV C run n x s with
  |none=>rw[hx]at e;cases e
  |some r=>
   obtain⟨MF,s1⟩:=r;rw[hx]at e;refine ihx hc.1 hx R (λa1 w1 Y1 R1 S1=>?_)
   cases MF with
   |normal=>exact ihy hc.2 e R1 (λa2 w2 Y2 R2 S2=>hQ a2 w2 Y2 R2 (S1.trans S2))
   |exit id=>
    obtain⟨rfl,rfl⟩:=TL (TF e);exact hQ a1 w1 Y1 R1 S1
   |ret=>
    obtain⟨rfl,rfl⟩:=TL (TF e);exact hQ a1 w1 Y1 R1 S1
 |cond c x y ihx ihy=>
  intro s s' ex a w Y Q hc e R hQ
  simp only[codeOk,TK]at hc;simp only[aV]at e
  split at e
  ·rename_i hb
   have:=R.er.ev R.hr.di c;rw[hb]at this;exact wp_cond_true this.dN (ihx hc.1 e R hQ)
  ·rename_i hb
   have:=R.er.ev R.hr.di c;rw[hb]at this;exact wp_cond_false this.dN (ihy hc.2 e R hQ)
  cases e
 |block id c ih=>
  intro s s' ex a w Y Q hc e R hQ
  simp only[codeOk]at hc;simp only[aV]at e;refine wp_block ?_
  cases hx:aV C run n c s with
  |none=>rw[hx]at e;cases e
  |some r=>
   obtain⟨MF,s1⟩:=r;rw[hx]at e;refine ih hc hx R (λa1 w1 Y1 R1 S1=>?_)
   cases MF with
   |normal=>
    obtain⟨rfl,rfl⟩:=TL (TF e);exact hQ a1 w1 Y1 R1 S1
   |exit cz=>
    simp only at e;simp only[xi,Exit.inBlock]
    split at e
    ·rename_i bE
     obtain⟨rfl,rfl⟩:=TL (TF e);rw[if_pos bE];exact hQ a1 w1 Y1 R1 S1
    ·rename_i bE
     obtain⟨rfl,rfl⟩:=TL (TF e);rw[if_neg bE];exact hQ a1 w1 Y1 R1 S1
   |ret=>
    obtain⟨rfl,rfl⟩:=TL (TF e);exact hQ a1 w1 Y1 R1 S1
 |loop c ih=>
  intro s s' ex a w Y Q hc e R hQ
  simp only[codeOk]at hc;simp only[aV]at e
  have key:∀(m:Nat) {s:St} {a:Act} {w:World} {Y:List (Nat×Nat)},iter (aV C run n c) m s=some (ex,s')->SR N w F Y s a->(∀a' w' Y',SR N w' F Y' s' a'->cP w s.h Y w' s'.h Y'->Q (xi ex) a' w')->Code.rounds C.P c Q m a w:=by
   intro m
   induction m with
   |zero=>intro s a w Y e;simp[iter]at e
   |succ m ihm=>
    intro s a w Y e R hQ
    simp only[iter]at e;rw[rounds_succ]
    cases hx:aV C run n c s with
    |none=>rw[hx]at e;cases e
    |some r=>
     obtain⟨MF,s1⟩:=r;rw[hx]at e;refine ih hc hx R (λa1 w1 Y1 R1 S1=>?_)
     cases MF with
     |normal=>exact ihm e R1 (λa2 w2 Y2 R2 S2=>hQ a2 w2 Y2 R2 (S1.trans S2))
     |exit id=>
      obtain⟨rfl,rfl⟩:=TL (TF e);exact hQ a1 w1 Y1 R1 S1
     |ret=>
      obtain⟨rfl,rfl⟩:=TL (TF e);exact hQ a1 w1 Y1 R1 S1
  exact wp_loop_rounds n (key n e R hQ)
 |scope c ih=>
  intro s s' ex a w Y Q hc e R hQ
  simp only[codeOk]at hc;simp only[aV]at e;refine wp_scope_straight (ih hc e R (λa1 w1 Y1 R1 S1=>?_))
  cases ex <;>exact hQ a1 w1 Y1 R1 S1
 |_=>
  intro s s' ex a w Y Q hc e R hQ
  simp[aV]at e
def pq(r:ResultVar)(tmps:Array Value):Sem Value:=
 match r with
 | .tmp t=>pure (tmps.getD t undef)
 | .cell a t=>do loadVar t (<-asAddr (tmps.getD a undef))
theorem oa{P:Program}{w:World}{F:Nat->Prop}{Y:List (Nat×Nat)}{h:aa}{a:Act}{V:Nat->PV}(H:aG w F Y h)(R:fc w (Av F h Y) Y h a V):∀(l:List ResultVar) (vs:List PV),cd P h V l=some vs->
  ∃us:List Value,(l.mapM (λr=>pq r a.tmps)).run P w=.ok us w/\L2 (ar w (Av F h Y) Y h) us vs
 |[],vs,e=>by
  simp[cd]at e;subst e;exact⟨[],by simp,rfl,λj hj=>by simp at hj⟩
 |r::l,vs,e=>by
  simp only[cd]at e
  split at e
  ·rename_i v zC h1 h2
   obtain rfl:=TF e;obtain⟨us,u1,u2,u3⟩:=oa H R l zC h2
   have one:∃u,(pq r a.tmps).run P w=.ok u w/\ar w (Av F h Y) Y h u v:=by
    cases r with
    |tmp t=>
     obtain rfl:=TF h1;exact⟨_,rfl,R t⟩
    |cell x t=>
     obtain⟨u,k1,k2⟩:=xE (P:=P) H (R x) h1;refine⟨u,?_,k2⟩;rw[<-k1];unfold pq Instr.loadAt;simp only[Sem.run_bind];unfold Instr.loadAt at k1;simp only[Sem.run_bind]at k1;generalize a.tmps.getD x undef=y at k1 ⊢
     cases y with
     |pointer p=>
      cases p with
      |some ad=>simp[Instr.sureAddr,asAddr]
      |none=>simp[Instr.sureAddr]at k1
     |_=>simp[Instr.sureAddr]at k1
   obtain⟨u,o1,o2⟩:=one;refine⟨u::us,?_,by simp[u2],λj hj=>?_⟩;simp only[List.mapM_cons,Sem.run_bind,o1,u1,Result.andThen_ok,Sem.run_pure]
   ·cases j with
    |zero=>simpa using o2
    |succ j=>simpa using u3 j (by simpa using hj)
  cases e
theorem jv{P:Program}{w:World}{F:Nat->Prop}{Y:List (Nat×Nat)}{h:aa}{a:Act}{V:Nat->PV}(H:aG w F Y h)(R:fc w (Av F h Y) Y h a V)(fn:Func){vs:List PV}(e:cd P h V fn.results.toList=some vs):
  ∃u,(results fn a.tmps).run P w=.ok u w/\ar w (Av F h Y) Y h u (aQ vs):=by
 obtain⟨us,u1,u2,u3⟩:=oa (P:=P) H R _ _ e
 have bJ:(fn.results.mapM (λr=>pq r a.tmps)).run P w=.ok us.toArray w:=by
  rw[<-Array.toArray_toList (xs:=fn.results),List.mapM_toArray];simp only[Sem.run_map,u1,Result.andThen_ok]
 refine⟨if h:us.toArray.size=1 then us.toArray[0]else .tuple us.toArray,?_,?_⟩
 ·have:results fn a.tmps=(do let vs<-fn.results.mapM (λr=>pq r a.tmps);pure (if h:vs.size=1 then vs[0]else .tuple vs)):=by
   unfold results pq
   rfl
  rw[this];simp only[Sem.run_bind,bJ,Result.andThen_ok,Sem.run_pure]
 ·match us,vs,u2 with
  |[],[],_=>exact .cT [] [] rfl (λj hj=>by simp at hj)
  |[u],[v],_=>simpa[aQ]using u3 0 (by simp)
  |u1::u2::us,v1::v2::vs,hl=>
   have:¬((u1::u2::us).toArray.size=1):=by simp
   rw[dif_neg this];exact .cT _ _ hl u3
structure gL(C:bZ):Prop where
 gT:∀(f:FuncId) (fn:Func) (c:Code),(C.mode f=.pure\/C.mode f=.opened)->C.P.funcs[f]?=some fn->fn.body=some c->codeOk fn.ntmps c=true
 mixed:C.P.follows .mixedOrders=true
theorem B7{C:bZ}(K:cj C)(KC:gL C){run:gw}(S:ch C run){n:Nat}{f:FuncId}(hf:C.mode f=.pure\/C.mode f=.opened):cW C.P f (kZ C run n f):=by
 intro args h r h' e w F Y vs H ha
 unfold kZ at e
 split at e
 ·rename_i fn CB
  split at e
  ·rename_i c hc
   have main:∀(ex:Ex) (s:St),aV C run n c ⟨jm args,h⟩=some (ex,s)->(ex=.normal\/ex=.ret)->(∃vs,cd C.P s.h s.V fn.results.toList=some vs/\r=aQ vs/\h'=s.h)->jC C.P 2 w F Y h f vs r h':=by
    rintro ex s sT hex ⟨rs,Mt,rfl,rfl⟩;refine calls_of_wp CB hc ?_;have hlen:=ha.1
    have R:SR fn.ntmps w F Y ⟨jm args,h⟩ {tmps:=vs.toArray++Array.replicate (fn.ntmps - vs.toArray.size) undef,defers:=[]}:=by
     refine⟨H,λt=>?_,rfl,by simp;omega⟩;show ar w (Av F h Y) Y h ((vs.toArray++Array.replicate (fn.ntmps - vs.toArray.size) undef).getD t Go.undef) (args.getD t .undef)
     by_cases ht:t<args.length
     ·have e1:(vs.toArray++Array.replicate (fn.ntmps - vs.toArray.size) undef).getD t Go.undef=vs.getD t Go.undef:=by
       rw[Ui,Uz,if_pos (by simp;omega)];simp[List.getD]
      have e2:args.getD t .undef=args.getD t .any:=by simp[List.getD,ht]
      rw[e1,e2];exact ha.2 t ht
     ·have e1:(vs.toArray++Array.replicate (fn.ntmps - vs.toArray.size) undef).getD t Go.undef=Go.undef:=by
       rw[Ui,Uz];rw[if_neg (by simp;omega)];rw[UO]
       split <;>rfl
      have e2:args.getD t .undef=.undef:=by simp[List.getD,TZ (show args.length<=t by omega)]
      rw[e1,e2];exact .undef
    refine xJ K KC.mixed S c (KC.gT f fn c hf CB hc) sT R (λa' w' Y' R' S'=>?_);obtain⟨u,r1,r2⟩:=jv (P:=C.P) R'.hr R'.er fn Mt;rcases hex with rfl |rfl;exact⟨R'.df,u,r1,u,Y',rfl,r2,R'.hr,S',λhh=>by omega⟩;exact⟨R'.df,u,r1,u,Y',rfl,r2,R'.hr,S',λhh=>by omega⟩
   cases sT:aV C run n c ⟨jm args,h⟩with
   |none=>rw[sT]at e;cases e
   |some x=>
    obtain⟨ex,s⟩:=x;rw[sT]at e
    have fin:(match cd C.P s.h s.V fn.results.toList with |some vs=>some (aQ vs,s.h)|none=>none)=some (r,h')->∃vs,cd C.P s.h s.V fn.results.toList=some vs/\r=aQ vs/\h'=s.h:=by
     intro e
     split at e
     ·rename_i rs Mt
      obtain⟨rfl,rfl⟩:=TL (TF e);exact⟨rs,Mt,rfl,rfl⟩
     cases e
    cases ex with
    |normal=>exact main .normal s sT (.inl rfl) (fin e)
    |ret=>exact main .ret s sT (.inr rfl) (fin e)
    |exit id=>cases e
  cases e
 cases e
theorem lj{C:bZ}(K:cj C)(KC:gL C):∀n,ch C (cN C n)
 |0=>λf _ args h r h' e=>by cases e
 |n+1=>λf hf=>B7 K KC (lj K KC n) hf
theorem uk{C:bZ}(K:cj C)(KC:gL C){n:Nat}{f:FuncId}(hf:C.mode f=.pure\/C.mode f=.opened){args:List PV}{r:PV}(e:k9 C n f args=some r)
  {w:World} {A:Nat->Prop} (hA:∀b,A b->b<w.heap.size) {vs:List Value} (ha:L2 (aS w A) vs args) (hG:cp w A:=by intro g p e;cases e):
  Calls C.P f vs.toArray w λen w'=>∃v,en=.returned v/\aS w' A v r/\cc w w':=by
 unfold k9 at e
 split at e
 ·rename_i r0 hc h1
  cases h2:sQ hc r0 with
  |none=>rw[h2]at e;cases e
  |some r1=>
   rw[h2]at e;obtain rfl:=TF e;have NN:∀b,Av A [] [] b↔A b:=λb=>⟨λh=>h.elim id (λh=>absurd h (gU b)),.inl⟩
   have mz:L2 (ar w (Av A [] []) [] []) vs args:=⟨ha.1,λj hj=>.val ((ha.2 j hj).ia (λb hb=>(NN b).1 hb))⟩;refine(lj K KC n f hf args [] r0 hc h1 w A [] vs (aG.empty w A hA hG) mz).mono ?_;rintro en w' ⟨v,Y',rfl,q1,q2,q3,_⟩;refine⟨v,rfl,?_,pH q3⟩;refine(qs q2 (λb _ hb ha=>hb (.inl ha)) q1 h2 (λid o bc m1 m2 m3=>?_)).cJ;rcases m3 with m3 |m3;exact q2.out id o bc m1 m2 (.inl m3);exact q2.out id o bc m1 m2 (.inr m3)
 cases e
variable{w:World}{F:Nat->Prop}{Y:List (Nat×Nat)}{h:aa}
theorem hC{C:bZ}(K:cj C){run:gw}(S:ch C run){N:Nat}{ops:Array Oper}{Q:Exit->Act->World->Prop}(hd:ops.toList.all (dB N)=true)(rest:List Nat)(l2:List Oper):
  ∀(l:List Oper) (k:Nat) {w:World} {Y:List (Nat×Nat)} {s s':St} {a:Act},ops.toList.drop k=l++l2->SR N w F Y s a->cy C run ops l s=some s'->
   (∀a' w' Y',SR N w' F Y' s' a'->cP w s.h Y w' s'.h Y'->wpOps C.P ops Q rest a' w')->wpOps C.P ops Q (List.map (·+k) (List.range l.length)++rest) a w:=by
 intro l
 induction l with
 |nil=>
  intro k w Y s s' a hl R e hQ
  simp[cy]at e;subst e;simpa using hQ a w Y R (cP.refl w s.h Y)
 |cons o r ih=>
  intro k w Y s s' a hl R e hQ
  simp only[cy]at e
  have hk:ops[k]?=some o:=by
   rw[<-T1];have:(ops.toList.drop k)[0]?=some o:=by rw[hl];rfl
   rwa[T9]at this
  have hr:ops.toList.drop (k+1)=r++l2:=by
   have:=congrArg (List.drop 1) hl;rw[List.drop_drop]at this;simpa using this
  have km:List.map (·+k) (List.range (o::r).length)++rest=k::(List.map (·+(k+1)) (List.range r.length)++rest):=by
   rw[T2,U0];simp only[TT,Uu,VN,Uh]
   congr 2
   apply UW
   intro x _
   simp;omega
  rw[km];simp only[wpOps,hk]
  split at e
  ·rename_i s1 he
   have Dn:dB N o=true:=TH.1 hd o (by
    have:o∈ops.toList.drop k:=by rw[hl];simp
    exact Ug this)
   have:=tX K S R Dn he (Q:=Q) (next:=wpOps C.P ops Q (List.map (·+(k+1)) (List.range r.length)++rest)) (λa' w' Y' R' S'=>ih (k+1) hr R' e (λa2 w2 Y2 R2 S2=>hQ a2 w2 Y2 R2 (S'.trans S2)))
   split
   ·rename_i hw;rw[if_pos hw]at this;exact .inl this
   ·rename_i hw;rw[if_neg hw]at this;exact this
  cases e
theorem vH{P:Program}{N:Nat}{ops:Array Oper}{Q:Exit->Act->World->Prop}{rest:List Nat}{k:Nat}{o:Oper}{s:St}{a:Act}{p:PV}{h':aa}(hk:ops[k]?=some o)(hg:o.guard=none)(hd:dB N o=true)(R:SR N w F Y s a)
  (S:qe P 2 w F Y s.h (execOp a.eval o) p h') (hK:∀a' w' Y',SR N w' F Y' ⟨bh s.V o.dst p,h'⟩ a'->cP w s.h Y w' h' Y'->wpOps P ops Q rest a' w'):wpOps P ops Q (k::rest) a w:=by
 simp only[wpOps,hk];have hw:Region.wanted o (yielded ops a.tmps)=true:=by simp[Region.wanted,hg]
 rw[if_pos hw]
 left
 have wa:=dK hd R.sz;obtain⟨v,w',Y',h1,h2,h3,h4,_⟩:=S
 have fin:∀u,u=v->wpOps P ops Q rest (a.put o.dst u) w':=by
  rintro u rfl;exact hK _ w' Y' ⟨h3,(R.er.mono h4).put wa h2,by rw[bN];exact R.df,by rw[cq];exact R.sz⟩ h4
 unfold Oper.wp;rcases h1 with h1 |⟨h1,rfl⟩;rw[h1];exact fin _ rfl;rw[h1];exact fin _ rfl
theorem bm{C:bZ}(K:cj C)(bJ:∀n,ch C (cN C n)){N:Nat}{ops:Array Oper}{id:Nat}{Q:Exit->Act->World->Prop}(hd:ops.toList.all (dB N)=true){pre post:List Oper}{o:Oper}(ho:ops.toList=pre++o::post)(hg:o.guard=none)
  {s:St} {a:Act} (R:SR N w F Y s a) {M M2:St->Prop} (e1:ag C ops pre s M)
  (hs:∀s1 a1 w1 Y1,M s1->SR N w1 F Y1 s1 a1->cP w s.h Y w1 s1.h Y1->∃p h',qe C.P 2 w1 F Y1 s1.h (execOp a1.eval o) p h'/\ag C ops post ⟨bh s1.V o.dst p,h'⟩ M2)
  (hQ:∀s3 a3 w3 Y3,M2 s3->SR N w3 F Y3 s3 a3->cP w s.h Y w3 s3.h Y3->Q .normal a3 w3):(Code.region id ops false).wp C.P Q a w:=by
 refine wp_region ?_;obtain⟨s1,m1,n0,F0⟩:=e1
 have eV:ops.size=pre.length+(post.length+1):=by
  have:=congrArg List.length ho;simpa using this
 have km:List.range ops.size=List.map (·+0) (List.range pre.length)++(pre.length::(List.map (·+(pre.length+1)) (List.range post.length)++[])):=by
  rw[eV,List.range_add];simp only[UK,List.map_id',Uc]
  congr 1
  rw[U0];simp only[TT,UK,VN]
  congr 1
  apply UW
  intro x _
  simp;omega
 rw[km];have Dn:dB N o=true:=TH.1 hd o (by rw[ho];simp)
 have hk:ops[pre.length]?=some o:=by
  rw[<-T1,ho,TQ (TI _)];simp
 refine hC K (bJ n0) hd _ (o::post) pre 0 (by simpa using ho) R (F0 n0 (TI _)) (λa1 w1 Y1 R1 S1=>?_);obtain⟨p,h',os,e2⟩:=hs s1 a1 w1 Y1 m1 R1 S1;obtain⟨s3,m3,n1,zc⟩:=e2;refine vH hk hg Dn R1 os (λa2 w2 Y2 R2 S2=>?_);refine hC K (bJ n1) hd [] [] post (pre.length+1) ?_ R2 (zc n1 (TI _)) (λa3 w3 Y3 R3 S3=>?_)
 ·have:ops.toList.drop (pre.length+1)=post:=by
   rw[ho,List.drop_append];simp
  simpa using this
 ·simp only[wpOps];exact hQ s3 a3 w3 Y3 m3 R3 (S1.trans (S2.trans S3))
theorem bG{C:bZ}(K:cj C)(hm:C.P.follows .mixedOrders=true)(bJ:∀n,ch C (cN C n)){N:Nat}{c:Code}{s:St}{a:Act}{M:Ex->St->Prop}{Q:Exit->Act->World->Prop}(hc:codeOk N c=true)(e:Ev C c s M)(R:SR N w F Y s a)
  (hQ:∀ex s' a' w' Y',M ex s'->SR N w' F Y' s' a'->cP w s.h Y w' s'.h Y'->Q (xi ex) a' w'):c.wp C.P Q a w:=by
 obtain⟨ex,s',m,n0,hn⟩:=e;exact xJ K hm (bJ n0) c hc (hn n0 n0 (TI _) (TI _)) R (λa' w' Y' R' S'=>hQ ex s' a' w' Y' m R' S')
theorem ga{P:Program}{f:FuncId}{fn:Func}{c:Code}{args:List PV}{vs:List Value}{r:PV}{h':aa}(CB:P.funcs[f]?=some fn)(hc:fn.body=some c)(H:aG w F Y h)(ha:L2 (ar w (Av F h Y) Y h) vs args)
  (hw:∀a,SR fn.ntmps w F Y ⟨jm args,h⟩ a->c.wp P (λex a' w'=>(ex=.normal\/ex=.ret)/\∃s' Y',SR fn.ntmps w' F Y' s' a'/\cP w h Y w' s'.h Y'/\∃rs,cd P s'.h s'.V fn.results.toList=some rs/\
    ∀u,ar w' (Av F s'.h Y') Y' s'.h u (aQ rs)->∃Y2,ar w' (Av F h' Y2) Y2 h' u r/\aG w' F Y2 h'/\cP w h Y w' h' Y2) a w):jC P 2 w F Y h f vs r h':=by
 refine calls_of_wp CB hc ?_;have hlen:=ha.1
 have R:SR fn.ntmps w F Y ⟨jm args,h⟩ {tmps:=vs.toArray++Array.replicate (fn.ntmps - vs.toArray.size) undef,defers:=[]}:=by
  refine⟨H,λt=>?_,rfl,by simp;omega⟩;show ar w (Av F h Y) Y h ((vs.toArray++Array.replicate (fn.ntmps - vs.toArray.size) undef).getD t Go.undef) (args.getD t .undef)
  by_cases ht:t<args.length
  ·have e1:(vs.toArray++Array.replicate (fn.ntmps - vs.toArray.size) undef).getD t Go.undef=vs.getD t Go.undef:=by
    rw[Ui,Uz,if_pos (by simp;omega)];simp[List.getD]
   have e2:args.getD t .undef=args.getD t .any:=by simp[List.getD,ht]
   rw[e1,e2];exact ha.2 t ht
  ·have e1:(vs.toArray++Array.replicate (fn.ntmps - vs.toArray.size) undef).getD t Go.undef=Go.undef:=by
    rw[Ui,Uz];rw[if_neg (by simp;omega)];rw[UO]
    split <;>rfl
   have e2:args.getD t .undef=.undef:=by simp[List.getD,TZ (show args.length<=t by omega)]
   rw[e1,e2];exact .undef
 refine Code.wp_mono ?_ (hw _ R);rintro ex a' w' ⟨hex,s',Y',R',S',rs,Mt,rF⟩;obtain⟨u,r1,r2⟩:=jv (P:=P) R'.hr R'.er fn Mt;obtain⟨Y2,f1,f2,f3⟩:=rF u r2;rcases hex with rfl |rfl;exact⟨R'.df,u,r1,u,Y2,rfl,f1,f2,f3,λhh=>by omega⟩;exact⟨R'.df,u,r1,u,Y2,rfl,f1,f2,f3,λhh=>by omega⟩
theorem aG.kq(H:aG w F Y h){id:Nat}{o:aC}{bc:Nat×Nat}(eo:h[id]?=some o)(eb:Y[id]?=some bc)(em:o.mu=.m)(eD:List PV)(hY:Nat)(Iy:o.ep<hY)(h1:eD.length<=bc.2)
  (h4:∀(i:Nat) (e:PV),eD[i]?=some e->o.es[i]?=some e\/((cells e).length=o.aP/\∀p∈cells e,p=.any)) (hz:0<o.aP:=by first |assumption |omega):
  aG w F Y (h.set id {o with es:=eD,ep:=hY})/\cP w h Y w (h.set id {o with es:=eD,ep:=hY}) Y:=by
 obtain⟨T,cs,k1,k2,k3,k4,k5⟩:=(H.obj id o bc eo eb (by rw[em];simp)).c hz
 have Gr:∀i:Nat,i<eD.length->i * o.aP+o.aP<=cs.size:=λi hi=>by
  have:(i+1) * o.aP<=bc.2 * o.aP:=Uq _ (by omega);rw[Ur,Nat.one_mul]at this;omega
 have:=H.set eo eb em (w':=w) T cs eD hY bc (TI _) k1 (λ_ _ _=>rfl) (.inl ⟨rfl,λhh=>by omega⟩) (Nat.le_of_lt Iy) rfl rfl rfl h1 k3 (λi e he=>by
  rcases h4 i e he with hh |⟨h5,h6⟩;exact k5 i e hh
  ·refine⟨h5,λj p hp=>?_⟩;have hj:j<o.aP:=by have:=ae hp;omega
   have hi:=ae he;have:=Gr i hi;refine⟨cs[i * o.aP+j],UC (by omega),?_⟩;rw[h6 p (TU hp)];exact .any _)
 rw[rX eb]at this;exact this
theorem ar.kq{v:Value}{id ep n:Nat}{o:aC}{bc:Nat×Nat}(eo:h[id]?=some o)(eb:Y[id]?=some bc)(em:o.mu=.m)(hv:ar w (Av F h Y) Y h v (.an id ep 0 n))(he:o.ep=ep)(hn:n<=o.es.length)(eD:List PV)(hY:Nat){A:Nat->Prop}:
  ar w A Y (h.set id {o with es:=eD,ep:=hY}) v (.an id hY 0 n):=by
 obtain⟨_,m2,m3⟩:=hv.cO;obtain⟨cap,c1,c2⟩:=m3 o bc eo eb (by rw[em];simp) he (by omega);exact .an v id hY 0 n {o with es:=eD,ep:=hY} bc ⟨_,_,_,c1⟩ (TM (ae eo)) eb (by show o.mu≠.x;rw[em];simp) ⟨TI _,(m2 o eo).2⟩ (λ_ _=>⟨cap,c1,c2⟩)
end Go.Pm
namespace Go.Pm
open Go.Proofs
set_option maxRecDepth 20000
def Hz:Mode->Bool
 | .pure=>true
 | .opened=>true
 |_=>false
def Mm:Mode->Bool
 | .no=>true
 | .ext _=>true
 |_=>false
def AR(C:bZ)(f:FuncId):Bool:=!Hz (C.mode f)||match C.P.funcs[f]? with
 |some fn=>match fn.body with
  |some c=>codeOk fn.ntmps c
  |none=>true
 |none=>true
def xC(C:bZ)(f:FuncId):Bool:=Mm (C.mode f)||match C.P.funcs[f]? with
 | some fn => fn.body.isSome && !(fn.name == "runtime.NumGoroutine")
 |none=>false
theorem JB:((List.range 437).all (AR C))=true:=by kernel_rfl
theorem Gn:((List.range 437).all (xC C))=true:=by kernel_rfl
theorem uv{p:Nat->Bool}{n:Nat}(h:(List.range n).all p=true){f:Nat}(hf:f<n):p f=true:=TH.1 h f (VU.2 hf)
theorem xD{f:Nat}(h:437<=f):C.mode f=.no:=by
 show gA f=.no;unfold gA;have aU:∀k:Nat,k<437->¬f=k:=λk hk=>by omega
 have hl:∀l:List Nat,l.all (λk=>decide (k<437))=true->l.contains f=false:=by
  intro l hl
  cases hc:l.contains f with
  |false=>rfl
  |true=>
   have:=TH.1 hl f (by simpa using hc);have:=of_decide_eq_true this;omega
 rw[hl _ (by decide),hl _ (by decide)];simp only[TR,if_false]
 repeat' rw[if_neg (aU _ (by decide))]
 rw[if_neg (by omega:¬f<410)]
theorem li:gL C where
 mixed:=by kernel_rfl
 gT f fn c hm hf hb:=by
  have cx:f<437:=by
   rcases T8 f 437 with h |h;exact h;rw[xD h]at hm;rcases hm with hm |hm <;>cases hm
  have:=uv JB cx;unfold AR at this;rw[hf]at this;simp only[hb]at this;have hr:Hz (C.mode f)=true:=by rcases hm with hm |hm <;>rw[hm] <;>rfl
  simpa[hr]using this
theorem BC : ∀ f, (∀ _h : C.mode f = .no, False) → (∀ g, C.mode f ≠ .ext g) → ∃ fn, C.P.funcs[f]? = some fn ∧ fn.body.isSome = true ∧ (fn.name == "runtime.NumGoroutine") = false := by
 intro f hf aU
 have cx:f<437:=by
  rcases T8 f 437 with h |h;exact h;exact(hf (xD h)).elim
 have:=uv Gn cx;unfold xC at this
 have hn:Mm (C.mode f)=false:=by
  cases hm:C.mode f with
  |no=>exact(hf hm).elim
  |ext g=>exact(aU g hm).elim
  |_=>rfl
 rw[hn]at this;simp only[Vm]at this
 split at this
 ·rename_i fn CB
  simp only[TK,Ve]at this;exact⟨fn,CB,this.1,this.2⟩
 cases this
theorem Ju:∀f g,C.mode f=.ext g->∀args r,g args=some r->∀(w:World) (A:Nat->Prop) (vs:List Value),L2 (aS w A) vs args->∃v,(callFunc f vs.toArray).run C.P w=.ok (.value v) w/\aS w A v r:=by
 intro f g hm args r hr w A vs ha
 have JC:gA f=.ext g:=hm;unfold gA at JC
 split at JC
 cases JC
 ·split at JC
  ·rename_i hf
   obtain rfl:=Mode.ext.inj JC;simp only at hr
   split at hr
   ·rename_i a b
    obtain rfl:=TF hr;obtain⟨hl,hh⟩:=ha
    match vs,hl with
    |[x,y],_=>
     have h0:=hh 0 (by simp);have h1:=hh 1 (by simp);simp only[Vo,Vp]at h0 h1
     cases h0
     cases h1
     subst hf;refine⟨_,?_,.int _ _⟩;rw[run_callFunc_extern (P:=C.P) Tryz.func194 (by kernel_rfl) (by kernel_rfl) (by kernel_rfl) (e:=Extern.BytealgCompare.compare) (by kernel_rfl)];show((Extern.BytealgCompare.compare #[.string a,.string b]).run C.P w).andThen _=_;rw[Lib.run_compareString]
     rfl
   cases hr
  ·repeat' split at JC
   all_goals cases JC
end Go.Pm
namespace Go.Pm
variable[iD:Inhabited Prop]
open Go.Proofs
set_option maxRecDepth 100000
def L0:List FuncId:=[352,351,215]
noncomputable def C0:bZ:=⟨C.P,λf=>if L0.contains f=true then .opened else .no⟩
theorem nB{f:FuncId}(h:L0.contains f=true):C0.mode f=.opened:=if_pos h
theorem qR(f:FuncId):C0.mode f=.opened\/C0.mode f=.no:=by
 by_cases hf:L0.contains f=true
 exact .inl (if_pos hf);exact .inr (if_neg hf)
theorem Hb{f:FuncId}(h:C0.mode f≠.no):f∈L0:=by
 by_cases hf:L0.contains f=true
 simpa using hf;exact(h (if_neg hf)).elim
def CW(P:Program)(f:FuncId):Bool:=match P.funcs[f]? with
 | some fn => fn.body.isSome && !(fn.name == "runtime.NumGoroutine")
 |none=>false
theorem NL:L0.all (CW C0.P)=true:=by kernel_rfl
theorem K0:cj C0 where
 enters f hf _:=by
  have h:=TH.1 NL f (Hb (λh=>hf h));unfold CW at h
  split at h
  ·rename_i fn CB
   simp only[TK,Ve]at h;exact⟨fn,CB,h.1,h.2⟩
  cases h
 kX f g hh:=by rcases qR f with h |h <;>rw[h]at hh <;>cases hh
 cH f g hh:=by rcases qR f with h |h <;>rw[h]at hh <;>cases hh
 ext f g hh:=by rcases qR f with h |h <;>rw[h]at hh <;>cases hh
def uW(P:Program)(f:FuncId):Bool:=match P.funcs[f]? with
 |some fn=>match fn.body with
  |some c=>codeOk fn.ntmps c
  |none=>true
 |none=>true
theorem NM:L0.all (uW C0.P)=true:=by kernel_rfl
theorem QZ:gL C0 where
 mixed:=li.mixed
 gT f fn c hm hf hb:=by
  have h1:uW C0.P f=true:=TH.1 NM f (Hb (λh=>by rcases hm with hm |hm <;>rw[hm]at h <;>cases h));unfold uW at h1;rw[hf]at h1;simp only[hb]at h1;exact h1
theorem S0:∀n,ch C0 (cN C0 n):=lj K0 QZ
theorem bj:C0.P.follows .mixedOrders=true:=li.mixed
namespace Zero
noncomputable def T6:kM C0.P:=Go.Pm.T6
end Zero
variable{w:World}{F:Nat->Prop}{Y:List (Nat×Nat)}{h:aa}
attribute [local irreducible] aA az aH aF Ev ag ai aD bw
set_option maxHeartbeats 4000000
theorem gE{a:Act}{V:Nat->PV}(H:aG w F Y h)(R:fc w (Av F h Y) Y h a V){t yt el:TypeId}{x:Operand}{fl:Bool}{es:List PV}(hu:C0.P.underlying t=some (.slice el))(hx:ev V x=.ab fl es):
  ∃bb,(bb=true->es=[])/\∀o:Oper,o.op=.binOp .eql t x (.const (.slice none 0 0)) yt->qe C0.P 2 w F Y h (execOp a.eval o) (.bool bb) h:=by
 have hv:=R.ev H.di x;rw[hx]at hv;obtain⟨ad,cap,e1,_,_⟩:=hv.dM.fZ;refine⟨ad.isNone,λhb=>?_,λo ho=>⟨.bool ad.isNone,w,Y,.inl ?_,.val (.bool _),H,cP.refl w h Y,λ_=>cc.refl w⟩⟩
 ·have hn:ad=none:=by cases ad <;>simp_all
  subst hn;rcases hv.dM.mb with h0 |⟨b,off,wY,Ay,j0,Oh,_⟩;exact h0;rw[e1]at Oh;cases Oh
 ·obtain⟨d,op,ty,pos,af,g⟩:=o;simp only at ho;subst ho;have h2:a.eval (.const (.slice none 0 0))=.slice none 0 0:=rfl;have g1:(eqGuard .eql t x (.const (.slice none 0 0)) (.slice ad es.length cap) (.slice none 0 0)).run C0.P w=.ok () w:=by simp[eqGuard]
  have g2:(binOp .eql t (.slice ad es.length cap) (.slice none 0 0)).run C0.P w=.ok (.bool ad.isNone) w:=by
   simp only[binOp];simp[run_equal_slice_nil w t el ad es.length cap hu]
  simp only[execOp,e1,h2,Sem.run_bind,g1,g2,Result.andThen_ok,Sem.run_pure]
theorem wZ{C:bZ}(T:kM C.P){lv:Nat}{st xt el qf:TypeId}{sz iU:Nat}{z:PV}{full:Bool}(hk:T.kd st=some (.sl el))(fv:T.kd xt=some (.sl qf))(hs:T.ts el=some (sz+1))(hb:T.tb el=some iU)(hz:T.tz el=some z)
  (fS:iU<=1000) (hl:(cells z).length=sz+1) (ho:(cells z).all aZ=true):cg C.P lv h st xt (.ab true []) (.ab full [])=some (.ab true [],h):=by
 unfold cg;rw[aY (T.cI _ _ hk)];simp only[T.dF _ _ hs,T.tT _ _ hb,T.mC _ _ hz,cL,aY (T.cI _ _ fv),bC];rw[if_pos ⟨by omega,by omega,⟨hl,ho⟩,rfl⟩]
 rfl
section
variable{C:bZ}(T:kM C.P)
variable{ops:Array Oper}{d:Nat}{ty:TypeId}{pos:String}{af:Array Edge}{r:List Oper}{V:Nat->PV}{L:List (Nat×PV)}{Q:St->Prop}
theorem R.jS{st xt el qf:TypeId}{sz iU:Nat}{z:PV}{full:Bool}{x y:Operand}(hx:dn L x=some (.ab true []))(hy:dn L y=some (.ab full []))(hk:T.kd st=some (.sl el))(fv:T.kd xt=some (.sl qf))(hs:T.ts el=some (sz+1))(hb:T.tb el=some iU)(hz:T.tz el=some z)
  (fS:iU<=1000) (hl:(cells z).length=sz+1) (ho:(cells z).all aZ=true) (kk:ag C ops r ⟨al ((d,.ab true [])::L) V,h⟩ Q):
  ag C ops (⟨some d,.call ⟨.builtin .append,#[x,y],#[st,xt]⟩,ty,pos,af,none⟩::r) ⟨al L V,h⟩ Q:=by
 refine ag.fj (λrun=>?_) kk;have sS:=wZ T (h:=h) (lv:=2) (full:=full) hk fv hs hb hz fS hl ho;simp only[ak,aT,TT,T5,ah hx,ah hy,sS]
theorem R.gY{st xt el qf:TypeId}{sz iU:Nat}{z:PV}{full:Bool}{ys:List PV}{x y:Operand}(hx:dn L x=some (.ab true []))(hy:dn L y=some (.ab full ys))(hk:T.kd st=some (.sl el))(fv:T.kd xt=some (.sl qf))(hs:T.ts el=some (sz+1))(hb:T.tb el=some iU)(hz:T.tz el=some z)
  (fS:iU<=1000) (hl:(cells z).length=sz+1) (ho:(cells z).all aZ=true) (yi:dw (sz+1) ys) (aU:ys≠[]) (hn:ys.length<1000000000) (kk:ag C ops r ⟨al ((d,.an h.length 0 0 ys.length)::L) V,h++[⟨.m,0,sz+1,ys⟩]⟩ Q):
  ag C ops (⟨some d,.call ⟨.builtin .append,#[x,y],#[st,xt]⟩,ty,pos,af,none⟩::r) ⟨al L V,h⟩ Q:=by
 refine ag.fj (λrun=>?_) kk;have sS:=fH T (h:=h) (lv:=2) (full:=full) (by decide) hk fv hs hb hz fS hl ho yi (by cases ys with |nil=>exact absurd rfl aU |cons=>rfl) hn;simp only[ak,aT,TT,T5,ah hx,ah hy,sS]
end
namespace Zero
theorem Az{fl:Bool}{es:List PV}{vs:List Value}(H:aG w F Y h)(ha:L2 (ar w (Av F h Y) Y h) vs [.ab fl es])(h9:dw 4 es)(hn:es.length<1000000000){r:PV}{h':aa}
  (hr:(es=[]/\r=.ab true []/\h'=h)\/(es≠[]/\r=.an h.length 0 0 es.length/\h'=h++[⟨.m,0,4,es⟩])):jC C0.P 2 w F Y h 45 vs r h':=by
 refine ga (P:=C0.P) Tryz.func45 rfl H ha (λa RR=>?_);refine wp_seq ?_;refine bG K0 bj S0 (M:=λex s'=>ex=.normal/\∃V',s'=⟨al [(0,.ab fl es)] V',h⟩) rfl ?_ RR ?_
 ·rw[ek];refine wB ?_;exact⟨rfl,_,St.aB ⟨rfl,trivial⟩⟩
 rintro ex s' a1 w1 Y1 ⟨rfl,V1,rfl⟩ R1 S1;refine wp_seq ?_;refine wp_seq ?_;apply bm K0 S0 (pre:=[_]) (post:=[]) (R:=R1) (M:=λs'=>∃V',s'=⟨al [(0,.ab fl es),(3,.ab fl es)] V',h⟩) (M2:=λs'=>∃bb V',s'=⟨al [(0,.ab fl es),(4,.bool bb)] V',h⟩/\(bb=true->es=[]))
 rfl
 rfl
 ·refine wB ?_;exact⟨_,St.aB ⟨rfl,rfl,trivial⟩⟩
 ·rintro s1 a2 w2 Y2 ⟨V2,rfl⟩ R2 S2;obtain⟨bb,hb,os⟩:=gE (t:=31) (yt:=31) (el:=33) (x:=.tmp 3) (fl:=fl) (es:=es) R2.hr R2.er (aY (T6.cI 31 _ rfl)) (cC (L:=[(0,.ab fl es),(3,.ab fl es)]) (t:=3) rfl V2);refine⟨.bool bb,h,os _ rfl,ag.nil ⟨bb,al ((4,.bool bb)::[(0,.ab fl es),(3,.ab fl es)]) V2,?_,hb⟩⟩;show(⟨bh (al [(0,.ab fl es),(3,.ab fl es)] V2) (some 4) (.bool bb),h⟩:St)=_;rw[bd];exact St.aB ⟨rfl,rfl,trivial⟩
 rintro s3 a3 w3 Y3 ⟨bb,V3,rfl,hb⟩ R3 S3
 cases bb
 ·refine bG K0 bj S0 (M:=λex s'=>ex=.normal/\∃V',s'=⟨al [(0,.ab fl es)] V',h⟩) rfl ?_ R3 ?_
  ·refine wB ?_;exact⟨rfl,_,St.aB ⟨rfl,trivial⟩⟩
  rintro ex s' a4 w4 Y4 ⟨rfl,V4,rfl⟩ R4 S4;refine bG K0 bj S0 (M:=λex s'=>ex=.ret/\∃V',s'=⟨al [(2,r)] V',h'⟩) rfl ?_ R4 ?_
  ·refine wB ?_;rcases hr with⟨rfl,rfl,rfl⟩|⟨aU,rfl,rfl⟩
   ·apply R.jS T6;exact rfl;exact rfl;exact rfl;exact rfl;exact rfl;exact rfl;exact rfl;exact(by decide);exact rfl;exact rfl;refine wB ?_;exact⟨rfl,_,St.aB ⟨rfl,trivial⟩⟩
   ·apply R.gY T6;exact rfl;exact rfl;exact rfl;exact rfl;exact rfl;exact rfl;exact rfl;exact(by decide);exact rfl;exact rfl;exact h9;exact aU;exact hn;refine wB ?_;exact⟨rfl,_,St.aB ⟨rfl,trivial⟩⟩
  rintro ex s5 a5 w5 Y5 ⟨rfl,V5,rfl⟩ R5 S5;refine⟨.inr rfl,_,Y5,R5,((S1.trans S3).trans S4).trans S5,[r],?_,λu hu=>⟨Y5,hu,R5.hr,((S1.trans S3).trans S4).trans S5⟩⟩;exact cX (L:=[(2,r)]) rfl
 ·obtain rfl:=hb rfl;rcases hr with⟨_,rfl,rfl⟩|⟨aU,_⟩
  ·refine bG K0 bj S0 (M:=λex s'=>ex=.ret/\∃V',s'=⟨al [(2,.ab true [])] V',h'⟩) rfl ?_ R3 ?_
   ·refine wB ?_;exact⟨rfl,_,St.aB ⟨rfl,trivial⟩⟩
   rintro ex s5 a5 w5 Y5 ⟨rfl,V5,rfl⟩ R5 S5;refine⟨.inr rfl,_,Y5,R5,(S1.trans S3).trans S5,[.ab true []],?_,λu hu=>⟨Y5,hu,R5.hr,(S1.trans S3).trans S5⟩⟩;exact cX (L:=[(2,.ab true [])]) rfl
  exact absurd rfl aU
 rfl
theorem AA{fl:Bool}{es:List PV}{vs:List Value}(H:aG w F Y h)(ha:L2 (ar w (Av F h Y) Y h) vs [.ab fl es])(h9:dw 1 es)(hn:es.length<1000000000){r:PV}{h':aa}
  (hr:(es=[]/\r=.ab true []/\h'=h)\/(es≠[]/\r=.an h.length 0 0 es.length/\h'=h++[⟨.m,0,1,es⟩])):jC C0.P 2 w F Y h 397 vs r h':=by
 refine ga (P:=C0.P) Tryz.func397 rfl H ha (λa RR=>?_);refine wp_seq ?_;refine bG K0 bj S0 (M:=λex s'=>ex=.normal/\∃V',s'=⟨al [(0,.ab fl es)] V',h⟩) rfl ?_ RR ?_
 ·rw[ek];refine wB ?_;exact⟨rfl,_,St.aB ⟨rfl,trivial⟩⟩
 rintro ex s' a1 w1 Y1 ⟨rfl,V1,rfl⟩ R1 S1;refine wp_seq ?_;refine wp_seq ?_;apply bm K0 S0 (pre:=[_]) (post:=[]) (R:=R1) (M:=λs'=>∃V',s'=⟨al [(0,.ab fl es),(3,.ab fl es)] V',h⟩) (M2:=λs'=>∃bb V',s'=⟨al [(0,.ab fl es),(4,.bool bb)] V',h⟩/\(bb=true->es=[]))
 rfl
 rfl
 ·refine wB ?_;exact⟨_,St.aB ⟨rfl,rfl,trivial⟩⟩
 ·rintro s1 a2 w2 Y2 ⟨V2,rfl⟩ R2 S2;obtain⟨bb,hb,os⟩:=gE (t:=263) (yt:=263) (el:=175) (x:=.tmp 3) (fl:=fl) (es:=es) R2.hr R2.er (aY (T6.cI 263 _ rfl)) (cC (L:=[(0,.ab fl es),(3,.ab fl es)]) (t:=3) rfl V2);refine⟨.bool bb,h,os _ rfl,ag.nil ⟨bb,al ((4,.bool bb)::[(0,.ab fl es),(3,.ab fl es)]) V2,?_,hb⟩⟩;show(⟨bh (al [(0,.ab fl es),(3,.ab fl es)] V2) (some 4) (.bool bb),h⟩:St)=_;rw[bd];exact St.aB ⟨rfl,rfl,trivial⟩
 rintro s3 a3 w3 Y3 ⟨bb,V3,rfl,hb⟩ R3 S3
 cases bb
 ·refine bG K0 bj S0 (M:=λex s'=>ex=.normal/\∃V',s'=⟨al [(0,.ab fl es)] V',h⟩) rfl ?_ R3 ?_
  ·refine wB ?_;exact⟨rfl,_,St.aB ⟨rfl,trivial⟩⟩
  rintro ex s' a4 w4 Y4 ⟨rfl,V4,rfl⟩ R4 S4;refine bG K0 bj S0 (M:=λex s'=>ex=.ret/\∃V',s'=⟨al [(2,r)] V',h'⟩) rfl ?_ R4 ?_
  ·refine wB ?_;rcases hr with⟨rfl,rfl,rfl⟩|⟨aU,rfl,rfl⟩
   ·apply R.jS T6;exact rfl;exact rfl;exact rfl;exact rfl;exact rfl;exact rfl;exact rfl;exact(by decide);exact rfl;exact rfl;refine wB ?_;exact⟨rfl,_,St.aB ⟨rfl,trivial⟩⟩
   ·apply R.gY T6;exact rfl;exact rfl;exact rfl;exact rfl;exact rfl;exact rfl;exact rfl;exact(by decide);exact rfl;exact rfl;exact h9;exact aU;exact hn;refine wB ?_;exact⟨rfl,_,St.aB ⟨rfl,trivial⟩⟩
  rintro ex s5 a5 w5 Y5 ⟨rfl,V5,rfl⟩ R5 S5;refine⟨.inr rfl,_,Y5,R5,((S1.trans S3).trans S4).trans S5,[r],?_,λu hu=>⟨Y5,hu,R5.hr,((S1.trans S3).trans S4).trans S5⟩⟩;exact cX (L:=[(2,r)]) rfl
 ·obtain rfl:=hb rfl;rcases hr with⟨_,rfl,rfl⟩|⟨aU,_⟩
  ·refine bG K0 bj S0 (M:=λex s'=>ex=.ret/\∃V',s'=⟨al [(2,.ab true [])] V',h'⟩) rfl ?_ R3 ?_
   ·refine wB ?_;exact⟨rfl,_,St.aB ⟨rfl,trivial⟩⟩
   rintro ex s5 a5 w5 Y5 ⟨rfl,V5,rfl⟩ R5 S5;refine⟨.inr rfl,_,Y5,R5,(S1.trans S3).trans S5,[.ab true []],?_,λu hu=>⟨Y5,hu,R5.hr,(S1.trans S3).trans S5⟩⟩;exact cX (L:=[(2,.ab true [])]) rfl
  exact absurd rfl aU
 rfl
end Zero
end Go.Pm
namespace Go.Pm
open Go.Proofs
attribute [local irreducible] aA az aH aF Ev ag ai aD
set_option maxRecDepth 4000
set_option maxHeartbeats 4000000
mutual
def dV:Tm->Int->Int
 | .mk k s o l,m=>if m<=0\/40<(s.size:Int)then -1 else gd l (m - 1)
def gd:List Tm->Int->Int
 |[],m=>m
 |t::l,m=>if dV t m<0 then -1 else gd l (dV t m)
end
mutual
theorem oT:∀t m,dV t m<=m\/dV t m=-1
 | .mk k s o l,m=>by
  simp only[dV]
  split
  exact .inr rfl
  ·rcases rz l (m - 1)with h |h
   ·left;omega
   ·exact .inr h
theorem rz:∀l m,gd l m<=m\/gd l m=-1
 |[],m=>.inl (by simp[gd])
 |t::l,m=>by
  simp only[gd]
  split
  exact .inr rfl
  ·rcases rz l (dV t m)with h |h
   ·rcases oT t m with h'|h'
    ·left;omega
    ·omega
   ·exact .inr h
end
theorem Bx(k s o l)(tv:bg l<1000000000)(ih:∀t∈l,∀m:Int,m<1000000000->aW C 97 [enc t,.int .i64 m] (.int .i64 (dV t m)))(m:Int)(hm:m<1000000000):aW C 97 [enc (.mk k s o l),.int .i64 m] (.int .i64 (dV (.mk k s o l) m)):=by
 refine aW.of (aD.dD Tryz.func97 rfl ?_);rw[enc]
 (repeat' (first |refine ag.nil ?_ |(apply R.ve;exact rfl;exact rfl;exact rfl)|(apply R.mU;exact rfl;exact rfl;exact rfl)|(apply R.move;exact rfl)|(apply R.assign;exact rfl)|(apply R.gx;exact rfl;exact rfl)|(apply R.ir;exact rfl;exact rfl)|(apply R.gZ T6;exact rfl;exact rfl;exact rfl;exact rfl)|(apply R.fieldAddr T6;exact rfl;exact rfl;exact rfl;exact rfl)|(apply R.cmp;exact rfl;exact rfl;exact rfl;all_goals intro hc)|(apply R.arith;exact rfl;exact rfl;exact rfl;exact(mE (by omega) (by omega)))|(apply R.oV T6;exact rfl;exact rfl)|(apply R.box;exact rfl;exact rfl;exact rfl;exact .nil)|refine Ev.seq ?_ |refine Ev.region ?_ |(apply Ev.ef;exact rfl)|refine Ev.ret ?_ |refine Ev.skip ?_ |refine Ev.block ?_ |refine aA.normal ?_ |refine aA.ret ?_ |(apply aF.ret;exact rfl)|fail))
 ·refine⟨_,rfl,?_⟩;simp only[cJ,aQ,dV,hc,true_or,if_true]
 ·refine⟨_,rfl,?_⟩
  rename_i h1
  simp only[cJ,aQ,dV,h1,hc,or_true,if_true]
 ·rename_i h1
  refine Ev.loop (I:=λk' st=>∃(i:Nat) (mm:Int) (V':Nat->PV),st=⟨al [(2,.ptr 0 0 0 0),(1,.int .i64 mm),(5,.int .i64 i)] V',[⟨.m,0,4,[.agg [.int .i64 k,.str s,.int .i64 o,.ab false (aj l)]]⟩]⟩/\k'+i=l.length/\mm<1000000000/\gd l (m - 1)=gd (l.drop i) mm) l.length ?_ ?_;exact⟨0,m - 1,_,St.aB ⟨rfl,rfl,rfl,trivial⟩,rfl,by omega,rfl⟩
  ·rintro k' _ ⟨i,mm,V',rfl,hk,Oy,hb⟩;have hlen:=bq l;refine wE (λhc=>?_) λhc=>?_
   ·have mV:i<l.length:=by have:=ax l;omega
    obtain⟨t,ht⟩:∃t,l[i]?=some t:=⟨l[i],TJ mV⟩;obtain⟨a1,a2,a3,a4,ha⟩:=AI t;refine R.ic T6 rfl rfl rfl rfl (v:=.agg [a1,a2,a3,a4]) (by rw[cQ,TS,ht,<-ha];rfl) rfl rfl ?_;refine wB ?_;refine R.call rfl rfl ?_;show ai C 2 _ [.agg [a1,a2,a3,a4],.int .i64 mm] _ _;rw[<-ha];refine ai.pure (r:=.int .i64 (dV t mm)) rfl (by simp[au,aJ,iC]) (by simpa[ba,cJ,mh]using ih t (TU ht) mm Oy) ?_;refine wE (λhc=>?_) λhc=>?_
    ·rename_i h2
     refine⟨_,rfl,?_⟩;have hd:l.drop i=t::l.drop (i+1):=by rw[U8 mV];congr 1;rw[TJ mV]at ht;exact TF ht
     simp only[cJ,aQ,dV,h1,false_or];rw[if_neg (by assumption),hb,hd,gd,if_pos (by assumption)]
    ·have hd:l.drop i=t::l.drop (i+1):=by rw[U8 mV];congr 1;rw[TJ mV]at ht;exact TF ht
     refine⟨k' - 1,by omega,i+1,dV t mm,_,St.aB ⟨rfl,rfl,rfl,trivial⟩,by omega,?_,?_⟩;have:=oT t mm;omega;rw[hb,hd,gd,if_neg (by assumption)]
   ·refine⟨_,rfl,?_⟩;have hi:l.drop i=[]:=Uf (by have:=ax l;omega);simp only[cJ,aQ,dV,h1,false_or];rw[if_neg (by assumption),hb,hi,gd]
theorem zd(t:Tm)(hb:aE t<1000000000)(m:Int)(hm:m<1000000000):aW C 97 [enc t,.int .i64 m] (.int .i64 (dV t m)):=by
 induction t using Tm.ind generalizing m with
 |h k s o l ih=>
  simp only[aE]at hb;exact Bx k s o l (by omega) (λt ht m hm=>ih t ht (by have:=bF ht;omega) m hm) m hm
def ze:List Tm->Int->Bool
 |[],_=>true
 |t::l,m=>if dV t m<0 then false else ze l (dV t m)
def Kt(l:List Tm)(n m:Int):Bool:=if n<(l.length:Int)then false else ze l m
theorem Gd(l:List Tm)(hb:bg l<1000000000)(n m:Int)(hm:m<1000000000):aW C 46 [.ab false (aj l),.int .i64 n,.int .i64 m] (.bool (Kt l n m)):=by
 refine aW.of (aD.dD Tryz.func46 rfl ?_);have hlen:=bq l;have eE:=ax l;refine wE (λhc=>?_) λhc=>?_
 ·refine⟨_,rfl,?_⟩;simp only[cJ,aQ,Kt];rw[if_pos (by omega)]
 ·refine Ev.loop (I:=λk' st=>∃(i:Nat) (mm:Int) (V':Nat->PV),st=⟨al [(0,.ab false (aj l)),(2,.int .i64 mm),(7,.int .i64 i)] V',[]⟩/\k'+i=l.length/\mm<1000000000/\ze l m=ze (l.drop i) mm) l.length ?_ ?_
  ·exact⟨0,m,_,St.aB ⟨rfl,rfl,rfl,trivial⟩,rfl,hm,rfl⟩
  ·rintro k' _ ⟨i,mm,V',rfl,hk,Oy,ew⟩;refine wE (λhc=>?_) λhc=>?_
   ·obtain⟨t,a1,a2,a3,a4,ib,ha,dL,hd,mV,_⟩:=AJ hc;refine R.ic T6 rfl rfl rfl rfl (v:=.agg [a1,a2,a3,a4]) dL rfl rfl ?_;refine wB ?_;refine R.call rfl rfl ?_;show ai C 2 _ [.agg [a1,a2,a3,a4],.int .i64 mm] _ _;rw[<-ha];refine ai.pure (r:=.int .i64 (dV t mm)) rfl (by simp[au,aJ,iC]) (by simpa[ba,cJ,mh]using zd t (by have:=bF ib;omega) mm Oy) ?_;refine wE (λhc=>?_) λhc=>?_
    ·refine⟨_,rfl,?_⟩;simp only[cJ,aQ,Kt];rw[if_neg (by omega),ew,hd,ze,if_pos (by assumption)]
    ·refine⟨k' - 1,by omega,i+1,dV t mm,_,St.aB ⟨rfl,rfl,rfl,trivial⟩,by omega,?_,?_⟩
     ·have:=oT t mm;omega
     ·rw[ew,hd,ze,if_neg (by assumption)]
   ·refine⟨_,rfl,?_⟩;simp only[cJ,aQ,Kt];rw[if_neg (by omega),ew,gX hc,ze]
end Go.Pm
namespace Go.Pm
open Go.Proofs
set_option maxRecDepth 4000
set_option maxHeartbeats 8000000
def lA(l:List (List Pw)):List PV:=l.map λp=>.ab false (kC p)
def Tm.k:Tm->Int | .mk k _ _ _=>k
def Tm.s:Tm->ByteArray | .mk _ s _ _=>s
def Tm.o:Tm->Int | .mk _ _ o _=>o
def Tm.l:Tm->List Tm | .mk _ _ _ l=>l
theorem aN(t:Tm):enc t=.agg [.int .i64 t.k,.str t.s,.int .i64 t.o,.ab false (aj t.l)]:=by cases t;exact bL _ _ _ _
theorem vI(t:Tm)(n:Int):yq (t,n)=.agg [.int .i64 t.k,.str t.s,.int .i64 t.o,.ab false (aj t.l),.int .i64 n]:=by cases t;rfl
attribute [simp] au aJ ba cJ fF bP iC mh yu yr
@[simp] theorem Fb(t:Tm):PV.agg [.int .i64 t.k,.str t.s,.int .i64 t.o,.ab false (aj t.l)]=enc t:=(aN t).symm
@[simp] theorem Cy(t:Tm)(n:Int):PV.agg [.int .i64 t.k,.str t.s,.int .i64 t.o,.ab false (aj t.l),.int .i64 n]=yq (t,n):=(vI t n).symm
theorem nr(a b:List PV):au (a++b)=(au a&&au b):=by rw[bp,VO,<-bp,<-bp]
attribute [simp] nr
@[simp] theorem J9(p:Pw):aJ (yq p)=true:=by obtain⟨t,n⟩:=p;rw[vI];simp
@[simp] theorem M8(p:Pw):cJ (yq p)=yq p:=by obtain⟨t,n⟩:=p;rw[vI];simp[-Cy,-Fb]
@[simp] theorem KL:kC []=[]:=rfl
@[simp] theorem M9:aj []=[]:=by simp[aj]
@[simp] theorem KM(l:List Tm):(aj l).length=l.length:=ax l
@[simp] theorem J'(l:List Pw):(kC l).length=l.length:=A8 l
theorem bA{l p q:List Tm}{t:Tm}(e:l=p++t::q):(aj l)[p.length]?=some (.agg [.int .i64 t.k,.str t.s,.int .i64 t.o,.ab false (aj t.l)]):=by rw[cQ,e,<-aN];simp
set_option maxRecDepth 100000
set_option maxHeartbeats 2000000
theorem Qh:C.P.cellsOf 3=1:=by kernel_rfl
theorem Sh:C.P.cellsOf 9=1:=by kernel_rfl
theorem Mv:C.P.cellsOf 31=1:=by kernel_rfl
theorem Gw:C.P.cellsOf 33=4:=by kernel_rfl
theorem Mw:∃fs,C.P.underlying 33=some (.struct fs)/\fs.toList.map (λf=>(f.offset,f.type))=[(0,3),(1,9),(2,3),(3,31)]:=xK (T6.cI 33 _ rfl)
instance:Inhabited Tm:=⟨xL⟩
def we:Nat->Prop:=λ_=>False
theorem nf{w:World}{a:Addr}{v:Value}(h:w.cell? a=some v):∃b off,a=⟨b,off,none⟩:=by
 obtain⟨b,off,sp⟩:=a
 cases sp with
 |none=>exact⟨b,off,rfl⟩
 |some s=>
  exfalso;unfold World.cell? at h
  split at h
  simp at h
  cases h
theorem BG(a:Addr):a.add 0=a:=by obtain⟨b,off,sp⟩:=a;simp[Addr.add]
theorem aS.vJ{w:World}{A:Nat->Prop}{cs:List Value}{t:Tm}(h:aS w A (.agg cs.toArray) (enc t)):cs.length=4/\(Pm.cells (enc t)).length=4/\∀j,j<4->aS w A (cs.getD j undef) ((Pm.cells (enc t)).getD j .any):=by
 obtain⟨k,s,o,l⟩:=t;rw[bL]at h ⊢;generalize hv:(Value.agg cs.toArray)=v at h
 cases h with
 |agg vs _ hl hh=>
  have:vs=cs:=by simpa using(Value.agg.inj hv).symm
  subst this;exact⟨hl,rfl,hh⟩
open Go.Proofs.YtimogkojklpdnaaGreatDoor in
theorem sa{H:Type}:∀(l:List Tm) (ds:List (DataW H)),l.length=ds.length->(∀(i:Nat) (t:Tm) (d:DataW H),l[i]?=some t->ds[i]?=some d->aE t<=Rows.uptoBulk d)->bg l<=Rows.uptoBulkAll ds
 |[],_,_,_=>by simp[bg]
 |t::l,[],h,_=>by simp at h
 |t::l,d::ds,h,hb=>by
  have h1:=hb 0 t d rfl rfl;have h2:=sa l ds (by simpa using h) (λi t' d' e1 e2=>hb (i+1) t' d' (by simpa using e1) (by simpa using e2));simp only[bg,Rows.uptoBulkAll];omega
open Go.Proofs.YtimogkojklpdnaaGreatDoor in
theorem AV{H:Type}{ec:TypeId×Value->H}{w:World}{sp:Nat->Bool}{held:Bool}:∀(n:Nat) (cs:List Value) (x:DataW H×List MemPlace),DataW.trod ec C.P w 0 sp held n 33 cs=some x->
  ∃t:Tm,aS w we (.agg cs.toArray) (enc t)/\aE t<=Rows.uptoBulk x.1:=by
 intro n
 induction n using Nat.strongRecOn with
 |ind n ih=>
  intro cs x h
  obtain⟨fs,hu,HA⟩:=Mw;obtain⟨xs,m,rfl,rfl,hlen,Fx,hf⟩:=DataW.trod_struct hu h;rw[Gw]at hlen;have ez:fs.size=4:=by have:=congrArg List.length HA;simpa using this
  rw[ez]at Fx
  have fld:∀i:Nat,∀a b,[(0,3),(1,9),(2,3),(3,31)][i]?=some (a,b)->∃f,fs[i]?=some f/\f.offset=a/\f.type=b:=by
   intro i a b hi
   rw[<-HA,TS]at hi;have:fs[i]?=fs.toList[i]?:=by simp
   rw[this]
   cases hh:fs.toList[i]? with
   |none=>rw[hh]at hi;cases hi
   |some f=>
    rw[hh]at hi;simp only[TO,Ue,Vb]at hi;exact⟨f,rfl,hi.1,hi.2⟩
  match cs,hlen,xs,Fx with
  |[c0,c1,c2,c3],_,[x0,x1,x2,x3],_=>
   obtain⟨f0,g0,a0,b0⟩:=fld 0 0 3 rfl;obtain⟨f1,g1,a1,b1⟩:=fld 1 1 9 rfl;obtain⟨f2,g2,a2,b2⟩:=fld 2 2 3 rfl;obtain⟨f3,g3,a3,b3⟩:=fld 3 3 31 rfl;have h0:=hf 0 f0 g0;have h1:=hf 1 f1 g1;have h2:=hf 2 f2 g2;have h3:=hf 3 f3 g3;rw[a0,b0,Qh]at h0;rw[a1,b1,Sh]at h1;rw[a2,b2,Qh]at h2;rw[a3,b3,Mv]at h3;simp only[U',UX,Vh,List.drop_succ_cons,List.getElem?_cons_zero,Vz]at h0 h1 h2 h3;obtain⟨k,e0,Si,_⟩:=DataW.trod_int (nb (T6.cI 3 _ rfl)) h0;obtain⟨s,e1,By,_⟩:=DataW.trod_string (jE (T6.cI 9 _ rfl)) h1;obtain⟨o,e2,Bz,_⟩:=DataW.trod_int (nb (T6.cI 3 _ rfl)) h2;obtain rfl:c0=.int .i64 k:=by simpa using e0
   obtain rfl:c1=.string s:=by simpa using e1
   obtain rfl:c2=.int .i64 o:=by simpa using e2
   subst Si By Bz
   have fin:∀(l:List Tm),aS w we c3 (.ab false (aj l))->bg l+1<=Rows.uptoBulk x3.1->∃t:Tm,aS w we (.agg [.int .i64 k,.string s,.int .i64 o,c3].toArray) (enc t)/\
     aE t<=Rows.uptoBulk (.agg ([((.lit (.int .i64 k),[]):DataW H×List MemPlace),(.lit (.string s.data.toList),[]),(.lit (.int .i64 o),[]),x3].map (·.1))):=by
    intro l hl hb
    refine⟨.mk k s o l,?_,?_⟩
    ·rw[bL];refine .agg _ _ rfl (λj hj=>?_)
     match j,hj with
     |0,_=>exact .int _ _
     |1,_=>exact .str _
     |2,_=>exact .int _ _
     |3,_=>exact hl
    ·have hs:s.data.toList.length=s.size:=Uv;simp only[TT,T5,Rows.uptoBulk,Rows.uptoBulkAll,aE,hs];omega
   rcases DataW.trod_slice (aY (T6.cI 31 _ rfl)) h3 with⟨e3,rfl⟩|⟨a,len,cap,bC,rest,n2,Nt,e3,rfl,hb,hle,oB,AO,eE,_,_⟩
   ·obtain rfl:c3=.slice none 0 0:=by simpa using e3
    exact fin [] (.dP none 0 false (λh=>by cases h)) (by simp[bg,Rows.uptoBulk])
   ·obtain rfl:c3=.slice (some a) len cap:=by simpa using e3
    rw[Gw]at eE
    have each:∀i,i<len->∃q:List Value×Tm,w.cells? 0 (a.add (i * 4)) 4=some q.1/\aS w we (.agg q.1.toArray) (enc q.2)/\∀y,bC[i]?=some y->aE q.2<=Rows.uptoBulk y.1:=by
     intro i hi
     have h1:=eE i hi;obtain⟨y,hy⟩:∃y,bC[i]?=some y:=⟨bC[i],TJ (by omega)⟩;rw[hy]at h1
     cases hc:w.cells? 0 (a.add (i * 4)) 4 with
     |none=>rw[hc]at h1;cases h1
     |some iw=>
      rw[hc]at h1;obtain⟨t,t1,t2⟩:=ih n2 (by omega) iw y h1;exact⟨(iw,t),rfl,t1,λy' Mx=>by rw[hy]at Mx;obtain rfl:=TF Mx;exact t2⟩
    obtain⟨q,hq⟩:=Deep.choose_lt each;have wX:((List.range len).map λi=>(q i).2).length=len:=by simp
    have xF:∀i,i<len->((List.range len).map λi=>(q i).2)[i]?=some (q i).2:=λi hi=>by rw[TS,VR hi];rfl
    refine fin ((List.range len).map λi=>(q i).2) ?_ ?_
    ·by_cases h0:len=0
     ·subst h0;exact .dP (some a) cap false (λh=>by cases h)
     ·have O6:=(hq 0 (by omega)).1;obtain⟨_,eJ,sN⟩:=World.cells?_some O6;have um:=sN 0 (by omega);rw[UQ,BG,BG]at um;obtain⟨v0,yh⟩:∃v,(q 0).1[0]?=some v:=⟨(q 0).1[0],TJ (by omega)⟩;rw[yh]at um;obtain⟨b,off,rfl⟩:=nf um;have h9:(aj ((List.range len).map λi=>(q i).2)).length=len:=by rw[ax,wX]
      have Fy:∀i,i<len->(aj ((List.range len).map λi=>(q i).2)).getD i .any=enc (q i).2:=λi hi=>by
       rw[cQ,List.getD,TS,xF i hi];rfl
      have key:aS w we (.slice (some ⟨b,off,none⟩) (aj ((List.range len).map λi=>(q i).2)).length cap) (.ab false (aj ((List.range len).map λi=>(q i).2))):=by
       refine .ab b off cap 4 false _ (λi j=>(q i).1.getD j undef) (λh=>?_) (by omega) (λh=>by cases h) (λh=>h) (by omega) (λi hi=>?_) (λi j hi hj=>?_) (λi j hi hj=>?_);rw[h]at h9;simp at h9;omega;rw[Fy i (by omega)];exact(hq i (by omega)).2.1.vJ.2.1
       ·obtain⟨_,eJ,sN⟩:=World.cells?_some (hq i (by omega)).1;have:=sN j hj;rw[cG,cG]at this;rw[show off+(i * 4+j)=off+i * 4+j by omega,this,TJ (by omega)];simp[List.getD,TJ (show j<(q i).1.length by omega)]
       rw[Fy i (by omega)];exact(hq i (by omega)).2.1.vJ.2.2 j hj
      rw[h9]at key;exact key
    ·have:=sa ((List.range len).map λi=>(q i).2) (bC.map (·.1)) (by simp[AO]) (λi t d e1 e2=>by
      have hi:i<len:=by have:=ae e1;rwa[wX]at this
      rw[xF i hi]at e1;obtain rfl:=TF e1;rw[TS]at e2
      cases hy:bC[i]? with
      |none=>rw[hy]at e2;cases e2
      |some y=>
       rw[hy]at e2;obtain rfl:=TF e2;exact(hq i hi).2.2 y hy)
     simp only[Rows.uptoBulk];omega
open Go.Proofs.YtimogkojklpdnaaGreatDoor in
theorem xM{H E:Type}(B:E->Nat):∀(l:List E) (ds:List (DataW H)),l.length=ds.length->(∀(i:Nat) (t:E) (d:DataW H),l[i]?=some t->ds[i]?=some d->B t<=Rows.uptoBulk d)->(l.map B).sum<=Rows.uptoBulkAll ds
 |[],_,_,_=>by simp
 |t::l,[],h,_=>by simp at h
 |t::l,d::ds,h,hb=>by
  have h1:=hb 0 t d rfl rfl;have h2:=xM B l ds (by simpa using h) (λi t' d' e1 e2=>hb (i+1) t' d' (by simpa using e1) (by simpa using e2));simp only[TT,List.sum_cons,Rows.uptoBulkAll];omega
open Go.Proofs.YtimogkojklpdnaaGreatDoor in
theorem sb{H:Type}{ec:TypeId×Value->H}{w:World}{sp:Nat->Bool}{held:Bool}{ty el:TypeId}{sz:Nat}{E:Type}[Inhabited E](encE:E->PV)(B:E->Nat)(hk:C.P.underlying ty=some (.slice el))(hc:C.P.cellsOf el=sz)(ku:0<sz)(hl:∀e,(Pm.cells (encE e)).length=sz)
  (elem:∀(n:Nat) (cs:List Value) (x:DataW H×List MemPlace),DataW.trod ec C.P w 0 sp held n el cs=some x->∃e:E,cs.length=sz/\(∀j,j<sz->aS w we (cs.getD j undef) ((Pm.cells (encE e)).getD j .any))/\B e<=Rows.uptoBulk x.1)
  {n:Nat} {cs:List Value} {x:DataW H×List MemPlace} (h:DataW.trod ec C.P w 0 sp held n ty cs=some x):∃(c:Value) (l:List E),cs=[c]/\aS w we c (.ab false (l.map encE))/\(l.map B).sum+1<=Rows.uptoBulk x.1:=by
 rcases DataW.trod_slice hk h with⟨e3,rfl⟩|⟨a,len,cap,bC,rest,n2,Nt,e3,rfl,hb,hle,oB,AO,eE,_,_⟩;exact⟨_,[],e3,.dP none 0 false (λh=>by cases h),by simp[Rows.uptoBulk]⟩
 ·subst hc
  have each:∀i,i<len->∃q:List Value×E,w.cells? 0 (a.add (i * C.P.cellsOf el)) (C.P.cellsOf el)=some q.1/\(q.1.length=C.P.cellsOf el/\∀j,j<C.P.cellsOf el->aS w we (q.1.getD j undef) ((Pm.cells (encE q.2)).getD j .any))/\∀y,bC[i]?=some y->B q.2<=Rows.uptoBulk y.1:=by
   intro i hi
   have h1:=eE i hi;obtain⟨y,hy⟩:∃y,bC[i]?=some y:=⟨bC[i],TJ (by omega)⟩;rw[hy]at h1
   cases hc:w.cells? 0 (a.add (i * C.P.cellsOf el)) (C.P.cellsOf el)with
   |none=>rw[hc]at h1;cases h1
   |some iw=>
    rw[hc]at h1;obtain⟨t,t1,t2,t3⟩:=elem n2 iw y h1;exact⟨(iw,t),rfl,⟨t1,t2⟩,λy' Mx=>by rw[hy]at Mx;obtain rfl:=TF Mx;exact t3⟩
  obtain⟨q,hq⟩:=Deep.choose_lt each;have wX:((List.range len).map λi=>(q i).2).length=len:=by simp
  have xF:∀i,i<len->((List.range len).map λi=>(q i).2)[i]?=some (q i).2:=λi hi=>by rw[TS,VR hi];rfl
  refine⟨_,(List.range len).map λi=>(q i).2,e3,?_,?_⟩
  ·by_cases h0:len=0
   ·subst h0;exact .dP (some a) cap false (λh=>by cases h)
   ·have O6:=(hq 0 (by omega)).1;obtain⟨_,eJ,sN⟩:=World.cells?_some O6;have um:=sN 0 ku;rw[UQ,BG,BG]at um;obtain⟨v0,yh⟩:∃v,(q 0).1[0]?=some v:=⟨(q 0).1[0],TJ (by omega)⟩;rw[yh]at um;obtain⟨b,off,rfl⟩:=nf um;have h9:(((List.range len).map λi=>(q i).2).map encE).length=len:=by simp
    have Fy:∀i,i<len->(((List.range len).map λi=>(q i).2).map encE).getD i .any=encE (q i).2:=λi hi=>by
     rw[List.getD,TS,xF i hi];rfl
    have key:aS w we (.slice (some ⟨b,off,none⟩) (((List.range len).map λi=>(q i).2).map encE).length cap) (.ab false (((List.range len).map λi=>(q i).2).map encE)):=by
     refine .ab b off cap (C.P.cellsOf el) false _ (λi j=>(q i).1.getD j undef) (λh=>?_) (by omega) (λh=>by cases h) (λh=>h) ku (λi hi=>?_) (λi j hi hj=>?_) (λi j hi hj=>?_);rw[h]at h9;simp at h9;omega;rw[Fy i (by omega)];exact hl _
     ·obtain⟨_,eJ,sN⟩:=World.cells?_some (hq i (by omega)).1;have:=sN j hj;rw[cG,cG]at this;rw[show off+(i * C.P.cellsOf el+j)=off+i * C.P.cellsOf el+j by omega,this,TJ (by omega)];simp[List.getD,TJ (show j<(q i).1.length by omega)]
     rw[Fy i (by omega)];exact(hq i (by omega)).2.1.2 j hj
    rw[h9]at key;exact key
  ·have:=xM B ((List.range len).map λi=>(q i).2) (bC.map (·.1)) (by simp[AO]) (λi t d e1 e2=>by
    have hi:i<len:=by have:=ae e1;rwa[wX]at this
    rw[xF i hi]at e1;obtain rfl:=TF e1;rw[TS]at e2
    cases hy:bC[i]? with
    |none=>rw[hy]at e2;cases e2
    |some y=>
     rw[hy]at e2;obtain rfl:=TF e2;exact(hq i hi).2.2 y hy)
   simp only[Rows.uptoBulk];omega
instance:Inhabited Pw:=⟨(xL,0)⟩
variable[iD:Inhabited Prop]
theorem cc.kept{W W':World}(g:cc W W')(may:MemPlace->Prop):W.keptBut W' may:=by
 refine⟨g.os,g.output,λi hi=>?_⟩;rw[g.aB i hi]
 cases W.heap[i]? with
 |none=>rfl
 |some o=>cases o <;>simp
end Go.Pm
namespace Go.Pm
open Go.Proofs
set_option maxRecDepth 4000
def zx{α:Type}(p:α->Bool)(l:List α):Int:=match l.findIdx? p with |some i=>i |none=>-1
theorem Gl{α:Type}{p:α->Bool}{a q:List α}{x:α}(h:∀y∈a,p y=false)(hx:p x=true):zx p (a++x::q)=a.length:=by
 unfold zx;rw[List.findIdx?_append,Vt.2 h];simp[List.findIdx?_cons,hx]
theorem BL{α:Type}{p:α->Bool}{a:List α}(h:∀y∈a,p y=false):zx p a=-1:=by
 unfold zx;rw[Vt.2 h]
theorem D5{α:Type}(p:α->Bool)(l:List α):decide (0<=zx p l)=l.any p:=by
 unfold zx
 cases h:l.findIdx? p with
 |none=>
  rw[Vt]at h;have:l.any p=false:=by rw[UR];intro x hx;simp[h x hx]
  rw[this];rfl
 |some i=>
  obtain⟨h1,h2,_⟩:=List.findIdx?_eq_some_iff_getElem.1 h;have:l.any p=true:=UZ.2 ⟨_,Up h1,h2⟩;rw[this];simp
@[simp] theorem JJ(l:List Pw):dw (4+1) (kC l):=by
 unfold dw kC;rw[List.all_map,TH];rintro⟨t,n⟩ _;simp only[Function.comp,vI]
 rfl
@[simp] theorem Hj(l:List (List Pw)):(lA l).length=l.length:=by simp[lA]
@[simp] theorem Hk(l:List (List Pw)):au (lA l)=true:=by induction l with |nil=>rfl |cons x l ih=>simpa[lA]using ih
@[simp] theorem Hl(l:List (List Pw)):ba (lA l)=lA l:=by induction l with |nil=>rfl |cons x l ih=>simpa[lA]using ih
def kF(l:List Int):List PV:=l.map λx=>.int .i64 x
@[simp] theorem Kk(l:List Int):(kF l).length=l.length:=by simp[kF]
@[simp] theorem Ik(l:List Int):au (kF l)=true:=by induction l with |nil=>rfl |cons x l ih=>simpa[kF]using ih
@[simp] theorem Il(l:List Int):ba (kF l)=kF l:=by induction l with |nil=>rfl |cons x l ih=>simpa[kF]using ih
def fi(t:Tm):List Tm->List Tm
 |[]=>[t]
 |x::r=>if bR t x<=0 then(if bR t x<0 then t::x::r else x::r)else x::fi t r
attribute [local irreducible] aA az aH aF Ev ag ai aD bw
theorem Dc(t:Tm)(l:List Tm)(ht:aE t<1000000000)(hb:∀x∈l,aE x<1000000000)(hl:l.length<1000000):aW C 127 [.ab false (aj l),enc t] (.ab false (aj (fi t l))):=by
 have eE:(aj l).length=l.length:=by simp
 rw[aN];refine aW.x T6 Tryz.func127 rfl ?_;refine wA ?_;refine ie.zip T6 l (λp q L H=>∃v acc d,L=[(0,.ab false (aj l)),(3,.ptr 0 0 0 0),(5,v),(6,.bool d),(7,.int .i64 p.length)]/\HV H/\H[0]?=some ⟨.m,0,4,[.agg [.int .i64 t.k,.str t.s,.int .i64 t.o,.ab false (aj t.l)]]⟩/\Out 4 H v (aj acc)/\(∀ep n,v≠.an 0 ep 0 n)/\(acc.length<=p.length+if d then 1 else 0)/\acc++(if d then q else fi t q)=fi t l) (.nx ⟨_,[],false,rfl,HV.one rfl,rfl,.inl ⟨rfl,rfl⟩,(λ_ _ h=>by cases h),by simp,by simp⟩) ?_ ?_
 ·rintro p x q _ h V e ⟨v,acc,d,rfl,hH,h0,ho,yh,Fj,hg⟩;have dL:=bA e;have gp:=lenE e;have H0:=wQ t x ht (hb x (by rw[e];simp));rw[aN,aN]at H0;have Rk:(aj acc).length=acc.length:=by simp
  have N5:acc.length<=p.length+1:=by cases d <;>simp at Fj <;>omega
  refine wA ?_;refine .p H0 ?_;have sn:∀(a:List Tm) (y:Tm),aj a++[.agg [.int .i64 y.k,.str y.s,.int .i64 y.o,.ab false (aj y.l)]]=aj (a++[y]):=λa y=>by rw[<-tM,aN]
  cases d
  ·rw[if_neg (by decide)]at hg
   (repeat' (first |(refine Rn.go ?_;conv=>whnf)|refine .mk ?_ |refine .mk (λhc=>?_) λhc=>?_ |refine .lp λv H lp=>?_ |fail))
   ·obtain⟨PO,Lf⟩:=lp.obj h0 yh;have PP:=lp.hv;have lo:=lp.out;rw[sn]at lo;have Rl:(aj (acc++[t])).length=acc.length+1:=by simp
    clear lp;refine wG λv H lp=>?_;have Au:=lp.out;rw[sn]at Au;exact .nx ⟨_,acc++[t]++[x],true,rfl,lp.hv,(lp.obj PO Lf).1,Au,(lp.obj PO Lf).2,by simp at Fj ⊢;omega,by rw[<-hg,show fi t (x::q)=t::x::q by rw[fi,if_pos (by assumption),if_pos hc]];simp⟩
   ·have Au:=lp.out;rw[sn]at Au;exact .nx ⟨_,acc++[x],true,rfl,lp.hv,(lp.obj h0 yh).1,Au,(lp.obj h0 yh).2,by simp at Fj ⊢;omega,by rw[<-hg,show fi t (x::q)=x::q by rw[fi,if_pos (by assumption),if_neg hc]];simp⟩
   ·have Au:=lp.out;rw[sn]at Au;exact .nx ⟨_,acc++[x],false,rfl,lp.hv,(lp.obj h0 yh).1,Au,(lp.obj h0 yh).2,by simp at Fj ⊢;omega,by rw[<-hg,show fi t (x::q)=x::fi t q by rw[fi,if_neg hc]];simp⟩
  ·refine wG λv H lp=>?_;have Au:=lp.out;rw[sn]at Au;exact .nx ⟨_,acc++[x],true,rfl,lp.hv,(lp.obj h0 yh).1,Au,(lp.obj h0 yh).2,by simp at Fj ⊢;omega,by rw[<-hg];simp⟩
 ·rintro _ h V ⟨v,acc,d,rfl,hH,h0,ho,yh,Fj,hg⟩;have Rk:(aj acc).length=acc.length:=by simp
  have N5:acc.length<=l.length+1:=by cases d <;>simp at Fj <;>omega
  have sn:∀(a:List Tm) (y:Tm),aj a++[.agg [.int .i64 y.k,.str y.s,.int .i64 y.o,.ab false (aj y.l)]]=aj (a++[y]):=λa y=>by rw[<-tM,aN]
  have fin:∀{h:aa} {v:PV} {a:List Tm},Out 4 h v (aj a)->a=fi t l->∃r1,rb h (aQ [v])=some r1/\cJ r1=.ab false (aj (fi t l)):=λ{h v a} ho ha=>by
   obtain⟨r1,e1,e2⟩:=ho.ot (fF _);exact⟨r1,by rcases ho with⟨rfl,_⟩|⟨id,ep,rfl,_⟩ <;>exact e1,by rw[e2,bP,ha]⟩
  cases d
  ·refine wG λv H lp=>?_;have Au:=lp.out;rw[sn]at Au;exact fin Au (by rw[<-hg];simp[fi])
  ·refine wA ?_;exact fin ho (by rw[<-hg];simp)
end Go.Pm
namespace Go.Pm
open Go.Proofs
set_option maxRecDepth 4000
theorem wR(t:Tm):∀l:List Tm,(fi t l).length<=l.length+1
 |[]=>by simp[fi]
 |x::r=>by
  have:=wR t r;unfold fi
  split
  split <;>simp
  simp only[T2];omega
theorem wS{t:Tm}{y:Tm}:∀{l:List Tm},y∈fi t l->y=t\/y∈l
 |[],h=>by simp[fi]at h;exact .inl h
 |x::r,h=>by
  unfold fi at h
  split at h
  ·split at h
   ·rcases TW.1 h with h |h
    ·exact .inl h
    ·exact .inr h
   ·exact .inr h
  ·rcases TW.1 h with h |h
   ·exact .inr (by simp[h])
   ·rcases wS h with h |h
    ·exact .inl h
    ·exact .inr (by simp[h])
def mW(ts:List Tm)(a:List Tm):List Tm:=ts.foldl (λa t=>fi t a) a
theorem rj:∀(ts a:List Tm),(mW ts a).length<=a.length+ts.length
 |[],a=>by simp[mW]
 |t::ts,a=>by
  have:=rj ts (fi t a);have:=wR t a;simp only[mW,VL,T2]at *;omega
theorem wT{y:Tm}:∀{ts a:List Tm},y∈mW ts a->y∈ts\/y∈a
 |[],a,h=>.inr h
 |t::ts,a,h=>by
  rcases wT (ts:=ts) (a:=fi t a) h with h |h;exact .inl (by simp[h])
  ·rcases wS h with h |h
   ·exact .inl (by simp[h])
   ·exact .inr h
def inr(n:Int):Bool:=decide (-35184372088832<=n/\n<=35184372088832)
@[simp] theorem Hm(l:List (List Pw)):dw (0+1) (lA l):=by
 unfold dw;rw[TH]
 intro v hv
 obtain⟨x,_,rfl⟩:=U1.1 hv
 rfl
def oI(l:List Tm):Prop:=l.Pairwise λp q=>bR p q<0
theorem vf(t:Tm):∀(l:List Tm) (y:Tm),y∈fi t l↔y=t\/y∈l
 |[],y=>by simp[fi]
 |x::r,y=>by
  unfold fi
  by_cases h1:bR t x<=0
  ·rw[if_pos h1]
   by_cases h2:bR t x<0
   rw[if_pos h2];simp
   ·rw[if_neg h2];obtain rfl:=fG (t:=t) (t':=x) (by omega);simp
  ·rw[if_neg h1,TW,vf t r y,TW]
   constructor
   ·rintro(h |h |h)
    ·exact .inr (.inl h)
    ·exact .inl h
    ·exact .inr (.inr h)
   ·rintro(h |h |h)
    ·exact .inr (.inl h)
    ·exact .inl h
    ·exact .inr (.inr h)
theorem wU{t:Tm}:∀{l:List Tm},oI l->oI (fi t l)
 |[],_=>by simp[fi,oI]
 |x::r,h=>by
  have hp:=Us.1 h;unfold fi
  by_cases h1:bR t x<=0
  ·rw[if_pos h1]
   by_cases h2:bR t x<0
   ·rw[if_pos h2];refine Us.2 ⟨λy hy=>?_,h⟩;rcases TW.1 hy with rfl |hy;exact h2;exact iT h2 (hp.1 y hy)
   rw[if_neg h2];exact h
  ·rw[if_neg h1];refine Us.2 ⟨λy hy=>?_,wU hp.2⟩;rcases(vf t r y).1 hy with rfl |hy;have:=fY y x;omega;exact hp.1 y hy
theorem wV:∀{ts a:List Tm},oI a->oI (mW ts a)
 |[],a,h=>h
 |t::ts,a,h=>wV (ts:=ts) (wU (t:=t) h)
theorem Aw:∀(ts a:List Tm) (y:Tm),y∈mW ts a↔y∈ts\/y∈a
 |[],a,y=>by simp[mW]
 |t::ts,a,y=>by
  have:=Aw ts (fi t a) y;rw[show mW (t::ts) a=mW ts (fi t a)from rfl,this,vf,TW]
  constructor
  ·rintro(h |h |h)
   ·exact .inl (.inr h)
   ·exact .inl (.inl h)
   ·exact .inr h
  ·rintro((h |h)|h)
   ·exact .inr (.inl h)
   ·exact .inl h
   ·exact .inr (.inr h)
theorem Ax:∀{a b:List Tm},oI a->oI b->(∀y,y∈a↔y∈b)->a=b
 |[],[],_,_,_=>rfl
 |[],y::b,_,_,h=>by have:=(h y).2 (by simp);cases this
 |x::a,[],_,_,h=>by have:=(h x).1 (by simp);cases this
 |x::a,y::b,ha,hb,h=>by
  have pa:=Us.1 ha;have pb:=Us.1 hb;have irr:∀{u:Tm},¬bR u u<0:=λ{u} hh=>by rw[ma]at hh;omega
  have Rm:x=y:=by
   rcases TW.1 ((h x).1 (by simp))with e |hx;exact e
   ·rcases TW.1 ((h y).2 (by simp))with e |hy
    ·exact e.symm
    ·exact(irr (iT (pb.1 x hx) (pa.1 y hy))).elim
  subst Rm
  have:a=b:=Ax pa.2 pb.2 λz=>by
   constructor
   ·intro hz
    rcases TW.1 ((h z).1 (by simp[hz]))with rfl |h1;exact(irr (pa.1 z hz)).elim;exact h1
   ·intro hz
    rcases TW.1 ((h z).2 (by simp[hz]))with rfl |h1;exact(irr (pb.1 z hz)).elim;exact h1
  rw[this]
end Go.Pm
namespace Go.Pm
structure Sy where
 n:ByteArray
 a:Int
 b:Int
 k:Int
def EE:ByteArray:=⟨#[120,111,114]⟩
def xV:ByteArray:=⟨#[122,101,114,111]⟩
def EF:ByteArray:=⟨#[101,120,112]⟩
def EG:ByteArray:=⟨#[109,117,108]⟩
def EH:ByteArray:=⟨#[105,110,118]⟩
def EI:ByteArray:=⟨#[111,110,101]⟩
def B':ByteArray:=⟨#[115,107]⟩
def pz:ByteArray:=⟨#[115,104,107]⟩
def jW:ByteArray:=⟨#[110,101,119]⟩
def CI:List Sy:=[⟨⟨#[112,97,105,114]⟩,2,2,1⟩,⟨⟨#[101,110,99]⟩,2,2,1⟩,⟨⟨#[97,101,110,99]⟩,2,2,1⟩,⟨⟨#[112,107]⟩,1,1,1⟩,⟨⟨#[115,105,103,110]⟩,2,2,1⟩,⟨⟨#[104,97,115,104]⟩,1,1,1⟩,⟨⟨#[120,111,114]⟩,2,8,1⟩,⟨⟨#[122,101,114,111]⟩,0,0,1⟩,⟨⟨#[101,120,112]⟩,2,2,1⟩,⟨⟨#[109,117,108]⟩,2,8,1⟩,⟨⟨#[105,110,118]⟩,1,1,1⟩,⟨⟨#[111,110,101]⟩,0,0,1⟩,⟨⟨#[115,107]⟩,1,1,2⟩,⟨⟨#[115,104,107]⟩,2,2,2⟩,⟨⟨#[110,101,119]⟩,1,8,2⟩,⟨⟨#[102,115,116]⟩,1,1,3⟩,⟨⟨#[115,110,100]⟩,1,1,3⟩,⟨⟨#[100,101,99]⟩,2,2,3⟩,⟨⟨#[97,100,101,99]⟩,2,2,3⟩,⟨⟨#[111,112,101,110]⟩,2,2,3⟩,⟨⟨#[114,101,97,100]⟩,1,1,3⟩]
def Pa:Sy:=⟨ByteArray.empty,0,0,0⟩
def dm(s:ByteArray):Sy:=(CI.find? λy=>y.n.toList==s.toList).getD Pa
def uI(y:Sy):PV:=.agg [.str y.n,.int .i64 y.a,.int .i64 y.b,.int .i64 y.k]
def jx(s n:ByteArray):Bool:=s.toList==n.toList
def cY(u:Tm):Bool:=decide (u.k≠3/\u.o=1)
def dO(s:ByteArray)(l:List Tm):Bool:=
 if jx s B' ||jx s pz then l.all cY
 else if jx s jW then(match l with |u::_=>decide (u.k=2)|[]=>true)
 else true
mutual
def jr:Tm->Int
 | .mk k s o l=>if k≠3 then 0 else if(dm s).k=0 then 10 else if(l.length:Int)<(dm s).a\/(dm s).b<l.length then 6 else if dO s l=false then 10 else qj l
def qj:List Tm->Int
 |[]=>0
 |t::l=>if jr t≠0 then jr t else qj l
end
def xf(t:Tm):Int:=if valid t≠0 then valid t else jr t
mutual
def pre:Tm->List Tm
 | .mk k s o l=>.mk k s o l::dG l
def dG:List Tm->List Tm
 |[]=>[]
 |t::l=>pre t++dG l
end
mutual
def every(p:ByteArray->Bool):Tm->Bool
 | .mk k s o l=>(decide (k≠3)||p s)&&ij p l
def ij(p:ByteArray->Bool):List Tm->Bool
 |[]=>true
 |t::l=>every p t&&ij p l
end
def kz(s:ByteArray):Bool:=jx s EE ||jx s xV ||jx s EF ||jx s EG ||jx s EH ||jx s EI
def ym(s:ByteArray):Bool:=!kz s&&decide ((dm s).k≠3)
def iv(t:Tm):Bool:=decide (xf t=0)&&every ym t
def lF(l:List Tm):List Tm:=mW l []
def mD(n:Int)(t:Tm):List Tm:=lF ((pre t).filter λu=>decide (u.k=n))
def bx(t:Tm):List Tm:=mD 1 t
end Go.Pm
