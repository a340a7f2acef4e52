/-
  Pm, a part. Conditions: none.
-/
import Derived.Test.YtiipafafbpaaoaaGreatDoorPsAC
import Derived.Laws.BitsLemmas
set_option linter.unusedVariables false
set_option linter.unusedSimpArgs false
set_option linter.unnecessarySimpa false
set_option linter.unusedSectionVars false
namespace Go.Pm
variable{run:hZ}{ops:Array Oper}{X d h h' h0 h1:ab}{V b ep i j k m off t:Nat}{o:Oper}{x y:Operand}{P:Program}{H:Op}{Y:Nat->PV}{p q:PV}{Z:List (Nat×Nat)}{Q:Exit->Act->World->Prop}
variable[iD:Inhabited Prop]
theorem rX{C:cA}{run:hZ}{ops:Array Oper}{h0:ab}:∀(l:List Oper) (k:Nat) (x y:St),cF C run ops (before ops) h0 k l x=some y->
  ∃z:Nat->St,z k=x/\(∀(i:Nat) (o:Oper),l[i]?=some o->du C run ops (before ops) h0 (k+i) o (z (k+i))=some (z (k+i+1)))/\z (k+l.length)=y
 |[],k,x,y,e=>by
  simp[cF]at e;exact⟨λ_=>x,rfl,λi o h=>by simp at h,by simpa using e⟩
 |o::l,k,x,y,e=>by
  simp only[cF]at e
  split at e
  ·rename_i d U
   obtain⟨z,W,Y,S⟩:=rX l (k+1) d y e;refine⟨λj=>if j<=k then x else z j,by simp,?_,?_⟩
   ·intro i a f
    cases i with
    |zero=>
     simp at f;subst f;simp[W,U]
     intro R;omega
    |succ i=>
     have:=Y i a (by simpa using f);have D:¬(k+(i+1)<=k):=by omega
     have N:¬(k+(i+1)+1<=k):=by omega
     simp only[D,N,if_false];rw[show k+(i+1)=k+1+i by omega];exact this
   ·have D:¬(k+(o::l).length<=k):=by simp
    simp only[D,if_false];rw[<-S];congr 1;simp;omega
  cases e
inductive zO(C:cA)(run:hZ)(ops:Array Oper)(h0:ab)(i:Nat)(o:Oper)(x y:St):Prop
 |off:bC ops o x.Y=some false->y=⟨bZ x.Y o.dst .undef,x.h⟩->zO C run ops h0 i o x y
 |plain (r:PV) (h1:ab):bC ops o x.Y=some true->cI o.op=false->ar C run 1 o.op x.Y x.h=some (r,h1)->y=⟨bZ x.Y o.dst r,x.h⟩->zO C run ops h0 i o x y
 |rd (r:PV) (h1:ab):bC ops o x.Y=some true->fF o.op=true->(∀id,rP o.op x.Y=some id->qB h0 id=true\/(nt ops (before ops) i=true/\Eg ops (before ops) i x.Y id=true))->aD C.P 1 o.op x.Y x.h=some (r,h1)->y=⟨bZ x.Y o.dst r,x.h⟩->zO C run ops h0 i o x y
 |made (r:PV) (h':ab):bC ops o x.Y=some true->k9 o.op=true->aD C.P 1 o.op x.Y x.h=some (r,h')->y=⟨bZ x.Y o.dst r,x.h⟩->zO C run ops h0 i o x y
 |two (r:PV) (h':ab):bC ops o x.Y=some true->cI o.op=true->fF o.op=false->(k9 o.op=true->aD C.P 1 o.op x.Y x.h=none)->j' ops (before ops) i (k9 o.op)=true->ar C run 2 o.op x.Y x.h=some (r,h')->x.h.length<=h'.length->y=⟨bZ x.Y o.dst r,pN x.h h'⟩->zO C run ops h0 i o x y
theorem acr{C:cA}{x y:St}(e:du C run ops (before ops) h0 i o x=some y):zO C run ops h0 i o x y:=by
 unfold du at e
 split at e
 ·rename_i H
  split at e
  ·rename_i R
   split at e
   ·rename_i r U J;exact .plain r U H R J (af7 e).symm
   cases e
  ·rename_i R
   split at e
   ·rename_i A
    split at e
    ·rename_i G
     split at e
     ·rename_i r O S
      refine .rd r O H A (λV t=>?_) S (af7 e).symm;unfold mq at G;rw[t]at G;simp only[agJ,age]at G;exact G
     cases e
    cases e
   ·rename_i A
    split at e
    ·rename_i r O S
     split at S
     ·rename_i W;exact .made r O H W S (af7 e).symm
     cases S
    ·rename_i S
     split at e
     ·rename_i g
      split at e
      ·rename_i r d J
       split at e
       ·rename_i a
        exact .two r d H (by simpa using R) (by simpa using A) (λW=>by rw[if_pos W]at S;exact S) g J a (af7 e).symm
       cases e
      cases e
     cases e
 ·rename_i H;exact .off H (af7 e).symm
 cases e
theorem rY(h:um (before ops) i j=true):j=i\/xm ops i j\/xm ops j i:=by
 simp only[um,agJ,beq_iff_eq]at h;rcases h with(O |O)|O;exact .inl O.symm;exact .inr (.inl O);exact .inr (.inr O)
theorem yc{D:Bool}(h:j' ops (before ops) i D=true)(e:ops[j]?=some o)(R:cI o.op=true)(A:fF o.op=false)(W:D=true\/k9 o.op=false):
  (j=i\/xm ops i j\/xm ops j i)\/((sinks ops (before ops)).isSome=true/\ops.size<=i+2/\ops.size<=j+2):=by
 have:=af9.1 h (o,j) (by rw[ahv];exact⟨j,by simp[e]⟩);have Z:(D || !k9 o.op)=true:=by rcases W with W |W <;>simp[W]
 simp only[R,A,Z,aic,ahd,ah6,ahN,agJ,age,decide_eq_true_eq]at this;rcases this with O |O;exact .inl (rY O);exact .inr ⟨O.1.1,O.1.2,O.2⟩
theorem FW(h:nt ops (before ops) i=true)(e:ops[j]?=some o)(R:cI o.op=true)(A:fF o.op=false)(W:k9 o.op=false):
  (j=i\/xm ops i j\/xm ops j i)\/((sinks ops (before ops)).isSome=true/\ops.size<=j+2):=by
 have:=af9.1 h (o,j) (by rw[ahv];exact⟨j,by simp[e]⟩);simp only[R,A,W,aic,ahd,ah6,ahN,agJ,age,decide_eq_true_eq]at this;rcases this with O |O;exact .inl (rY O);exact .inr O
theorem CP{Y':Nat->PV}{r:PV}(W:k9 H=true)(J:∀h,aD P 1 H Y' h=aD P 1 H Y h)(e:aD P 1 H Y h1=some (r,d)):aD P 1 H Y' X=some (r,X):=by
 rw[J]
 cases H <;>simp[k9]at W
 simp only[aD,ek]at e ⊢
 repeat' split at e
 all_goals first
  |(cases e;done)
  |(rename_i R;exfalso;omega)
  |skip
 rename_i M G B
 obtain⟨rfl,rfl⟩:=agk (af7 e);simp only[*,if_true,and_self]
theorem Qx{t:TypeId}(h:∀V ep off len,p=.an V ep off len->getM X V ep=getM h1 V ep):cT P X t p q=cT P h1 t p q:=by
 unfold cT
 split
 rfl
 simp only[h _ _ _ _ rfl]
 rfl
 rfl
 rfl
theorem Vg{t:TypeId}{len:Nat}{r:PV}(e:cT P h1 t (.an V ep off len) q=some r):∃o,getM h1 V ep=some o:=by
 cases N:getM h1 V ep with
 |some o=>exact⟨o,rfl⟩
 |none=>
  unfold cT at e
  split at e <;>simp_all
  all_goals(split at e <;>simp_all)
theorem Qy{t:TypeId}(h:∀V ep i off,p=.ptr V ep i off->getM X V ep=getM h1 V ep):jO P X t p=jO P h1 t p:=by
 have:dP X p=dP h1 p:=by
  unfold dP
  split
  rfl
  rw[h _ _ _ _ rfl]
  rfl
 unfold jO;rw[this]
theorem Vh{t:TypeId}{r:PV}(e:jO P h1 t (.ptr V ep i off)=some r):∃o,getM h1 V ep=some o:=by
 cases N:getM h1 V ep with
 |some o=>exact⟨o,rfl⟩
 |none=>
  simp only[jO,dP,N]at e
  split at e <;>simp_all
theorem LA{o:ax}(h1:h[V]?=some o)(X:o.ep=ep)(Q:o.mu≠.x):getM h V ep=some o:=by simp[getM,h1,X,Q]
theorem LC{o:ax}(e:getM h V ep=some o):V<h.length:=ag (getM_some e).1
theorem tc{r:PV}(z:fF H=true)(e:aD P 1 H Y h1=some (r,d))(S:∀V,rP H Y=some V->X[V]?=h1[V]?):aD P 1 H Y X=some (r,X)/\∀V,rP H Y=some V->V<h1.length:=by
 cases H <;>simp[fF]at z
 case load t x=>
  simp only[aD,rP]at e S ⊢;obtain⟨D,_⟩:=da e
  constructor
  ·rw[Qy (h1:=h1) (λV g i b K=>?_),D]
   ·rfl
   ·rw[K]at S;simp only[getM,S V rfl]
  ·intro V a
   split at a
   ·rename_i U
    obtain rfl:=af7 a;rw[U]at D;obtain⟨o,f⟩:=Vh D;exact LC f
   cases a
 case indexAddr t x Z=>
  simp only[aD,rP]at e S ⊢;obtain⟨D,_⟩:=da e
  constructor
  ·rw[Qx (h1:=h1) (λV g i b K=>?_),D]
   ·rfl
   ·rw[K]at S;simp only[getM,S V rfl]
  ·intro V a
   split at a
   ·rename_i U
    obtain rfl:=af7 a;rw[U]at D;obtain⟨o,f⟩:=Vg D;exact LC f
   cases a
theorem vE(A:h.length<=h'.length){o:ax}(f:h[V]?=some o):(pN h h')[V]?=if o.mu=.m then h'[V]? else some o:=by
 have t:=ag f;unfold pN;rw[af8 yxd,ahR,f];obtain⟨y,a⟩:=pV (l:=h') (i:=V) yxa;rw[a];simp only
 split <;>rfl
theorem FY(A:h.length<=h'.length)(t:h.length<=V):(pN h h')[V]?=h'[V]?:=by
 unfold pN;rw[agl yxd,agP]
 congr 1
 simp;omega
theorem Ny(A:h.length<=h'.length):(pN h h').length=h'.length:=by unfold pN;simp;omega
theorem NA{w w':World}{q:List (Nat×Nat)}(s:eN w h Z w' h' q):pN h h'=h':=by
 apply agZ
 intro V
 by_cases t:V<h.length
 ·obtain⟨o,f⟩:=pV (l:=h) (i:=V) t;rw[vE s.len f]
  split
  rfl
  ·rename_i d;exact(s.Ja V o f d).1.symm
 exact FY s.len yxa
theorem CQ{o y:ax}(f:h[V]?=some o)(d:o.mu=.m):pN h (h.set V y)=h.set V y:=by
 have A:h.length<=(h.set V y).length:=by simp
 apply agZ
 intro k
 by_cases g:k<h.length
 ·obtain⟨a,j⟩:=pV (l:=h) (i:=k) g;rw[vE A j]
  split
  rfl
  ·rename_i Q
   have:V≠k:=by rintro rfl;rw[f]at j;obtain rfl:=af7 j;exact Q d
   rw[aga this,j]
 exact FY A yxa
theorem uy{t:TypeId}{v:PV}(e:jc P h t p v=some h'):∃V ep i off o y,p=.ptr V ep i off/\h[V]?=some o/\o.mu=.m/\h'=h.set V y/\∀X:ab,X[V]?=some o->jc P X t p v=some (X.set V y):=by
 unfold jc at e
 split at e
 ·rename_i V ep i off q S
  split at e
  ·rename_i o f
   split at e
   ·rename_i d Z
    split at e
    ·rename_i G
     obtain rfl:=af7 e;obtain⟨K,a,D⟩:=getM_some f;refine⟨V,ep,i,off,o,_,rfl,K,G.1,rfl,λX Q=>?_⟩;have N:getM X V ep=some o:=LA Q a D;unfold jc;rw[S];simp only[N,Z];rw[if_pos G]
    cases e
   cases e
  cases e
 cases e
theorem ZB{C:cA}{r:PV}(W:k9 H=true)(e:ar C run 2 H Y h=some (r,h')):Ext h h':=by
 cases H <;>simp[k9]at W
 simp only[ar,aD,ek]at e
 exact zbq
structure jn(C:cA)(run:hZ)(ops:Array Oper)(h0:ab)(tr:Nat->St):Prop where
 ok:iz ops=true
 st:∀(i:Nat) (o:Oper),ops[i]?=some o->du C run ops (before ops) h0 i o (tr i)=some (tr (i+1))
 h0:h0=(tr 0).h
 sk:uq ops (before ops) (tr ops.size).Y=true
def kj(P:Program)(ops:Array Oper)(z:Nat->St)(j:Nat):Prop:=∃o,ops[j]?=some o/\cI o.op=true/\fF o.op=false/\(k9 o.op=true->aD P 1 o.op (z j).Y (z j).h=none)/\bC ops o (z j).Y=some true
variable{C:cA}{run:hZ}{ops:Array Oper}{h0:ab}{tr:Nat->St}
theorem jn.view(L:jn C run ops h0 tr)(f:ops[k]?=some o):zO C run ops h0 k o (tr k) (tr (k+1)):=acr (L.st k o f)
theorem jn.rho(L:jn C run ops h0 tr)(f:ops[k]?=some o):∃r,(tr (k+1)).Y=bZ (tr k).Y o.dst r:=by
 cases L.view f with
 |off _ F=>exact⟨_,by rw[F]⟩
 |plain r U _ _ _ F=>exact⟨_,by rw[F]⟩
 |rd r U _ _ _ _ F=>exact⟨_,by rw[F]⟩
 |made r U _ _ _ F=>exact⟨_,by rw[F]⟩
 |two r d _ _ _ _ _ _ _ F=>exact⟨_,by rw[F]⟩
theorem jn.ko(L:jn C run ops h0 tr):∀k,i<=k->k<=ops.size->(∀j o,i<=j->j<k->ops[j]?=some o->o.dst≠some t)->(tr k).Y t=(tr i).Y t:=by
 intro k
 exact zaq
theorem jn.ba(L:jn C run ops h0 tr)(g:k<ops.size)(hn:¬kj C.P ops tr k):(tr (k+1)).h=(tr k).h:=by
 obtain⟨o,f⟩:=pW (ops:=ops) g
 cases L.view f with
 |off _ F=>rw[F]
 |plain r U _ _ _ F=>rw[F]
 |rd r U _ _ _ _ F=>rw[F]
 |made r U _ _ _ F=>rw[F]
 |two r d H R A W _ _ _ F=>exact absurd ⟨o,f,R,A,W,H⟩ hn
theorem jn.wr(L:jn C run ops h0 tr)(f:ops[k]?=some o)(z:kj C.P ops tr k):cI o.op=true/\fF o.op=false/\j' ops (before ops) k (k9 o.op)=true/\
  ∃r h',ar C run 2 o.op (tr k).Y (tr k).h=some (r,h')/\(tr k).h.length<=h'.length/\tr (k+1)=⟨bZ (tr k).Y o.dst r,pN (tr k).h h'⟩:=by
 obtain⟨y,e,O,X,Q,G⟩:=z;rw[f]at e;obtain rfl:=af7 e
 cases L.view f with
 |off t _=>rw[t]at G;cases G
 |plain V U _ b _ _=>rw[b]at O;cases O
 |rd V U _ H _ _ _=>rw[H]at X;cases X
 |made V U _ M q _=>rw[Q M]at q;cases q
 |two r h' _ _ _ _ g J a F=>exact⟨O,X,g,r,h',J,a,F⟩
theorem jn.grow(L:jn C run ops h0 tr)(g:k<ops.size):(tr k).h.length<=(tr (k+1)).h.length:=by
 obtain⟨o,f⟩:=pW (ops:=ops) g
 by_cases z:kj C.P ops tr k
 ·obtain⟨_,_,_,r,d,_,a,F⟩:=L.wr f z;rw[F,Ny a];exact a
 rw[L.ba g z];exact agb _
theorem jn.old(L:jn C run ops h0 tr){o:ax}(h1:h0[V]?=some o)(X:o.mu≠.m):∀k,k<=ops.size->(tr k).h[V]?=some o:=by
 intro k
 induction k with
 |zero=>intro _;rw[<-L.h0];exact h1
 |succ k a=>
  intro g
  have a:=a yxa;obtain⟨q,y⟩:=pW (ops:=ops) (k:=k) yxa
  by_cases z:kj C.P ops tr k
  ·obtain⟨_,_,_,r,d,_,b,F⟩:=L.wr y z;rw[F];rw[vE b a,if_neg X]
  rw[L.ba yxa z];exact a
theorem jn.ord(L:jn C run ops h0 tr)(B:kj C.P ops tr i)(M:kj C.P ops tr j):(j=i\/xm ops i j\/xm ops j i)\/((sinks ops (before ops)).isSome=true/\ops.size<=i+2/\ops.size<=j+2):=by
 obtain⟨g,a,_⟩:=id B;obtain⟨d,e,_⟩:=id M;obtain⟨f,S,O,_⟩:=L.wr a B;obtain⟨F,U,b,_⟩:=L.wr e M
 by_cases W:k9 d.op=true
 ·rcases yc b a f S (.inl W)with h |h
  ·exact .inl (by rcases h with h |h |h;exact .inl h.symm;exact .inr (.inr h);exact .inr (.inl h))
  ·exact .inr ⟨h.1,h.2.2,h.2.1⟩
 exact yc O e F U (.inr (by simpa using W))
structure SD(C:cA)(run:hZ)(ops:Array Oper)(tr:Nat->St)(q1 q2:Oper)(id1 id2:Nat)(a1 a2 BZ tK:ax)(x y:Operand):Prop where
 n2:2<=ops.size
 s:sinks ops (before ops)=some (x,y)
 e1:ops[ops.size - 2]?=some q1
 e2:ops[ops.size - 1]?=some q2
 d1:q1.dst=none
 d2:q2.dst=none
 r1:kj C.P ops tr (ops.size - 2)
 r2:kj C.P ops tr (ops.size - 1)
 ne:id1≠id2
 g1:(tr (ops.size - 2)).h[id1]?=some a1
 g2:(tr (ops.size - 2)).h[id2]?=some a2
 m2:a2.mu=.m
 x1:∃ep i off,ev (tr (ops.size - 2)).Y x=.ptr id1 ep i off
 x2:∃ep i off,ev (tr (ops.size - 2)).Y y=.ptr id2 ep i off
 h1:(tr (ops.size - 1)).h=(tr (ops.size - 2)).h.set id1 BZ
 h2:(tr ops.size).h=((tr (ops.size - 2)).h.set id1 BZ).set id2 tK
 p1:(tr (ops.size - 1)).Y=(tr (ops.size - 2)).Y
 p2:(tr ops.size).Y=(tr (ops.size - 2)).Y
 v1:∀(Y:Nat->PV) (h:ab),(∀z∈q1.op.operands.toList,ev Y z=ev (tr (ops.size - 2)).Y z)->h[id1]?=some a1->ar C run 2 q1.op Y h=some (.undef,h.set id1 BZ)
 v2:∀(Y:Nat->PV) (h:ab),(∀z∈q2.op.operands.toList,ev Y z=ev (tr (ops.size - 2)).Y z)->h[id2]?=some a2->ar C run 2 q2.op Y h=some (.undef,h.set id2 tK)
theorem CR{a:Operand}(h:Lv o=some a):o.dst=none/\o.guard=none/\∃t v,o.op=.store t a v:=by
 unfold Lv at h
 split at h
 ·rename_i O X Q
  obtain rfl:=af7 h;exact⟨X,Q,_,_,O⟩
 cases h
theorem jn.sd(L:jn C run ops h0 tr)(S:sinks ops (before ops)=some (x,y)):∃U z b e j i B J,SD C run ops tr U z b e j i B J x y:=by
 have g:=S;unfold sinks at S
 split at S
 ·rename_i hc
  split at S
  ·rename_i x' y' hx hy
   obtain⟨rfl,rfl⟩:=agk (af7 S);obtain⟨U,D,k1⟩:=Option.bind_eq_some_iff.1 hx;obtain⟨z,N,k2⟩:=Option.bind_eq_some_iff.1 hy;rw[agG]at D N;obtain⟨X,g1,t1,v1,u⟩:=CR k1;obtain⟨Z,g2,t2,v2,q⟩:=CR k2;have r1:kj C.P ops tr (ops.size - 2):=⟨U,D,by rw[u];rfl,by rw[u];rfl,(λh=>by rw[u]at h;cases h),by simp[bC,g1]⟩;have r2:kj C.P ops tr (ops.size - 1):=⟨z,N,by rw[q];rfl,by rw[q];rfl,(λh=>by rw[q]at h;cases h),by simp[bC,g2]⟩;obtain⟨_,_,_,w1,h1,R,l1,G⟩:=L.wr D r1;obtain⟨_,_,_,w2,h2,v,l2,H⟩:=L.wr N r2;have A:ops.size - 2+1=ops.size - 1:=by omega
   have n2:ops.size - 1+1=ops.size:=by omega
   rw[A]at G;rw[n2]at H;rw[u]at R;rw[q]at v;simp only[ar,aD,agb,if_true]at R v;obtain⟨s1,f3,t⟩:=ag2.1 R;obtain⟨s2,f4,w⟩:=ag2.1 v;obtain⟨rfl,rfl⟩:=agk t;obtain⟨rfl,rfl⟩:=agk w;obtain⟨b,ep1,i1,Vi,j,B,p1,Q,m1,c1,z1⟩:=uy f3;obtain⟨e,zP,i2,afE,i,J,F,n,m2,c2,z2⟩:=uy f4;have a:(tr (ops.size - 1)).Y=(tr (ops.size - 2)).Y:=by rw[G,X];rfl
   have f:(tr ops.size).Y=(tr (ops.size - 2)).Y:=by rw[H,Z];exact a
   have d:(tr (ops.size - 1)).h=(tr (ops.size - 2)).h.set b B:=by rw[G,c1];exact CQ Q m1
   have V:b≠e:=by
    have:=L.sk;unfold uq at this;rw[g]at this;simp only[f]at this;rw[a]at F;rw[p1,F]at this;simpa using this
   have rT:(tr (ops.size - 2)).h[e]?=some i:=by
    rw[d,aga V]at n;exact n
   have NB:(tr ops.size).h=((tr (ops.size - 2)).h.set b B).set e J:=by
    rw[H,c2];simp only;rw[CQ n m2,d]
   refine⟨U,z,b,e,j,i,B,J,⟨hc.1,g,D,N,X,Z,r1,r2,V,Q,rT,m2,⟨_,_,_,p1⟩,⟨_,_,_,by rw[<-a];exact F⟩,d,NB,a,f,?_,?_⟩⟩
   ·intro Y h M W
    rw[u]at M ⊢;simp only[Op.operands]at M;have K:=M x' yxb;have O:=M v1 yxb;simp only[ar,aD,agb,if_true,K,O];rw[z1 h W];rfl
   ·intro Y h M W
    rw[q]at M ⊢;simp only[Op.operands]at M;have K:=M y' yxb;have O:=M v2 yxb;simp only[ar,aD,agb,if_true,K,O];rw[<-a,z2 h W];rfl
  cases S
 cases S
def RH(ops:Array Oper)(z:Nat->St)(E:Nat->Bool)(Y:Nat->PV):Prop:=∀t B,B<=ops.size->(∀j o,ops[j]?=some o->o.dst=some t->(E j=true↔j<B))->Y t=(z B).Y t
structure FZ(C:cA)(ops:Array Oper)(tr:Nat->St)(N:Nat)(F:Nat->Prop)(w0:World)(h0:ab)(Z0:List (Nat×Nat))(E:Nat->Bool)(a:Act)(w:World)(k:Nat)(Y:Nat->PV)(Z:List (Nat×Nat)):Prop where
 kn:k<=ops.size
 lo:∀j,kj C.P ops tr j->E j=true->j<k
 hi:∀j,kj C.P ops tr j->j<k->E j=true
 hr:bp w F Z (tr k).h
 er:iA w (Av F (tr k).h Z) Z (tr k).h a Y
 rh:RH ops tr E Y
 sp:eN w0 h0 Z0 w (tr k).h Z
 df:a.defers=[]
 sz:N<=a.tmps.size
structure ZC(C:cA)(run:hZ)(ops:Array Oper)(tr:Nat->St)(N:Nat)(F:Nat->Prop)(w0:World)(h0:ab)(Z0:List (Nat×Nat))(E:Nat->Bool)(a:Act)(w:World)(q1 q2:Oper)(id1 id2:Nat)(a1 a2 BZ tK:ax)(x y:Operand)(Y:Nat->PV)(Z:List (Nat×Nat)):Prop where
 sd:SD C run ops tr q1 q2 id1 id2 a1 a2 BZ tK x y
 s1:E (ops.size - 2)=false
 al:∀j,kj C.P ops tr j->j≠ops.size - 2->E j=true
 hr:bp w F Z ((tr (ops.size - 2)).h.set id2 tK)
 er:iA w (Av F ((tr (ops.size - 2)).h.set id2 tK) Z) Z ((tr (ops.size - 2)).h.set id2 tK) a Y
 rh:RH ops tr E Y
 sp:eN w0 h0 Z0 w ((tr (ops.size - 2)).h.set id2 tK) Z
 df:a.defers=[]
 sz:N<=a.tmps.size
variable{N:Nat}{F:Nat->Prop}{w0:World}{Vj:ab}{Z0:List (Nat×Nat)}{E E':Nat->Bool}{a:Act}{w:World}
def zQ(C:cA)(run:hZ)(ops:Array Oper)(z:Nat->St)(N:Nat)(F:Nat->Prop)(w0:World)(h0:ab)(Z0:List (Nat×Nat))(E:Nat->Bool)(a:Act)(w:World):Prop:=
 (∃k Y Z,FZ C ops z N F w0 h0 Z0 E a w k Y Z)\/(∃U d b e f S B J x y Y Z,ZC C run ops z N F w0 h0 Z0 E a w U d b e f S B J x y Y Z)
theorem FZ.Vk(L:jn C run ops h0 tr){Y:Nat->PV}{Z:List (Nat×Nat)}:∀(d:Nat) {k:Nat},FZ C ops tr N F w0 Vj Z0 E a w k Y Z->k+d<=ops.size->(∀j,k<=j->j<k+d->¬kj C.P ops tr j)->FZ C ops tr N F w0 Vj Z0 E a w (k+d) Y Z
 |0,k,D,_,_=>D
 |d+1,k,D,O,X=>by
  have g:=L.ba (k:=k) yxa (X k (agb _) yxa)
  have u:FZ C ops tr N F w0 Vj Z0 E a w (k+1) Y Z:=by
   refine⟨by omega,λj K b=>by have:=D.lo j K b;omega,λj K b=>?_,by rw[g];exact D.hr,by rw[g];exact D.er,D.rh,by rw[g];exact D.sp,D.df,D.sz⟩
   by_cases M:j=k
   subst M;exact absurd K (X j (agb _) yxa);exact D.hi j K yxa
  have:=FZ.Vk L d u yxa (λj K b=>X j yxa yxa);rw[show k+(d+1)=k+1+d by omega];exact this
structure F0(ops:Array Oper)(tr:Nat->St):Prop where
 ok:iz ops=true
 rho:∀(k:Nat) (o:Oper),ops[k]?=some o->∃r,(tr (k+1)).Y=bZ (tr k).Y o.dst r
theorem jn.r(L:jn C run ops h0 tr):F0 ops tr:=⟨L.ok,λ_ _ e=>L.rho e⟩
theorem F0.ko(L:F0 ops tr):∀k,i<=k->k<=ops.size->(∀j o,i<=j->j<k->ops[j]?=some o->o.dst≠some t)->(tr k).Y t=(tr i).Y t:=by
 intro k
 induction k with
 |zero=>intro O _ _;obtain rfl:i=0:=yxa;rfl
 |succ k P=>
  intro O X Q
  by_cases B:i=k+1
  subst B;rfl
  ·obtain⟨o,f⟩:=pW (ops:=ops) (k:=k) yxa;obtain⟨r,z⟩:=L.rho k o f;rw[z,oS,if_neg (Q k o yxa yxa f)];exact P yxa yxa (λj y a b c=>Q j y a yxa c)
theorem RH.look(L:F0 ops tr)(D:RH ops tr E Y)(R:Eo ops E E' i o)(Z:t∈o.looksAt ops):Y t=(tr i).Y t:=by
 have B:i<ops.size:=(agw.1 R.at_).1;refine D t i yxa (λj y M J=>?_);rcases aib j i with h |h |h;exact⟨λ_=>h,λ_=>R.Ep j ((fU L.ok).2 i j o y R.at_ M h (.inl (pX J (.inl Z))))⟩;subst h;rw[R.out];simp
 ·have:=R.later ((fU L.ok).2 j i y o M R.at_ h (.inr (pX J (.inl Z))));rw[this]
  constructor
  intro a;cases a
  intro a;omega
theorem RH.PR(L:F0 ops tr)(D:RH ops tr E Y)(R:Eo ops E E' i o):∀x∈o.op.operands.toList,ev Y x=ev (tr i).Y x:=by
 intro x U
 cases x with
 |tmp t=>exact D.look L R (ahX _ (List.mem_filterMap.2 ⟨.tmp t,U,rfl⟩))
 |_=>rfl
theorem RH.CS(L:F0 ops tr)(D:RH ops tr E Y)(R:Eo ops E E' i o):bC ops o Y=bC ops o (tr i).Y:=by
 unfold bC
 cases N:o.guard with
 |none=>rfl
 |some b=>
  obtain⟨j,t⟩:=b;simp only
  cases J:(ops.toList[j]?).bind (·.dst)with
  |none=>rfl
  |some d=>
   have V:(ops[j]?).bind (·.dst)=some d:=by simpa using J
   have:Y d=(tr i).Y d:=D.look L R (aiy _ (by simp[N,V]));simp only[this]
theorem RH.on(L:F0 ops tr){Y:Nat->PV}(D:RH ops tr E Y){i:Nat}{o:Oper}(R:Eo ops E E' i o){r:PV}(z:(tr (i+1)).Y=bZ (tr i).Y o.dst r):RH ops tr E' (bZ Y o.dst r):=by
 intro t B g H
 rw[oS]
 split
 ·rename_i Z
  have e:i<B:=(H i o R.at_ Z).1 ((R.oD i).2 (.inr rfl));rw[L.ko (t:=t) (i:=i+1) B e g (λj y O X Q G=>?_),z,oS,if_pos Z];have q:=(H j y Q G).2 X;rcases(R.oD j).1 q with q |q
  ·rw[R.later ((fU L.ok).2 j i y o Q R.at_ yxa (.inl (pX Z (.inr G))))]at q
   cases q
  omega
 ·rename_i Z
  refine D t B g (λj y O X=>?_)
  have b:j≠i:=by
   rintro rfl;rw[R.at_]at O;obtain rfl:=af7 O;exact Z X
  rw[<-H j y O X,R.oD];simp[b]
theorem jn.acs(L:jn C run ops h0 tr)(f:ops[m]?=some o)(z:kj C.P ops tr m)(W:k9 o.op=true)(t:V<(tr m).h.length):(tr (m+1)).h[V]?=(tr m).h[V]?:=by
 obtain⟨_,_,_,r,d,J,a,F⟩:=L.wr f z;obtain⟨ext,rfl⟩:=ZB W J;rw[F];obtain⟨b,H⟩:=pV (l:=(tr m).h) (i:=V) t;simp only;rw[vE a H]
 split
 rw[af8 t];exact H.symm
theorem jn.target(L:jn C run ops h0 tr)(f:I7 ops (tr i).Y x V=true)(B:i<=ops.size - 2)(U:∃ep k off,ev (tr (ops.size - 2)).Y x=.ptr j ep k off):j≠V:=by
 obtain⟨ep,k,off,U⟩:=U;unfold I7 at f;simp only[age]at f
 have q:ev (tr (ops.size - 2)).Y x=ev (tr i).Y x:=by
  cases x with
  |tmp t=>
   refine L.ko (t:=t) (i:=i) _ B yxa (λm o _ _ d J=>?_);have O:=f.1;simp only[ahg,ahL]at O;exact O o (aij.2 (ahw d)) (by simp[J])
  |_=>rfl
 rw[<-q,U]at f;simpa using f.2
theorem F5(h:qB h0 V=true):∃o,h0[V]?=some o/\o.mu≠.m:=by
 unfold qB at h
 split at h
 ·rename_i o f;exact⟨o,f,by simpa using h⟩
 cases h
theorem jn.Vi(L:jn C run ops h0 tr)(R:Eo ops E E' i o)(M:fF o.op=true)(A:nt ops (before ops) i=true)(D:Eg ops (before ops) i (tr i).Y V=true)(f:m<ops.size)(t:V<(tr m).h.length)
  (e:kj C.P ops tr m->(m<i/\E m=false)\/(i<=m/\E m=true)):(tr (m+1)).h[V]?=(tr m).h[V]?:=by
 by_cases z:kj C.P ops tr m
 ·obtain⟨w,H⟩:=pW (ops:=ops) f
  by_cases W:k9 w.op=true
  exact L.acs H z W t
  ·obtain⟨B,n,_⟩:=L.wr H z
   have N:¬(m=i\/xm ops i m\/xm ops m i):=by
    rintro(h |h |h)
    ·subst h;rw[R.at_]at H;obtain rfl:=af7 H;rw[M]at n;cases n
    ·have O:=R.Ep m h;have X:=uz L.ok i m h;rcases e z with⟨_,Q⟩|⟨Q,_⟩;rw[O]at Q;cases Q;omega
    ·have O:=R.later h;have X:=uz L.ok m i h;rcases e z with⟨Q,_⟩|⟨_,Q⟩;omega;rw[O]at Q;cases Q
   rcases FW A H B n (by simpa using W)with h |⟨a,Z⟩;exact absurd h N
   ·obtain⟨⟨x,y⟩,a⟩:=ah1.1 a;obtain⟨q1,q2,j,q,J,K,F,tK,S⟩:=L.sd a;have v:=S.n2;unfold Eg at D;rw[a]at D;simp only[age,agJ]at D;have U:=(agw.1 R.at_).1
    have d:i<=ops.size - 2:=by
     rcases agM (ops.size - 2) i with h |h
     ·have:i=ops.size - 1:=by omega
      subst this;have Q:=R.at_;rw[S.e2]at Q;obtain rfl:=af7 Q;have:=(L.wr S.e2 S.r2).2.1;rw[M]at this;cases this
     exact h
    have g:m=ops.size - 2\/m=ops.size - 1:=by omega
    rcases g with rfl |rfl
    ·have u:=D.1.resolve_left (λG=>N (rY G));have b:=L.target u d S.x1;rw[show ops.size - 2+1=ops.size - 1 by omega,S.h1,aga b]
    ·have u:=D.2.resolve_left (λG=>N (rY G));have b:=L.target u d S.x2;rw[show ops.size - 1+1=ops.size by omega,S.h2,S.h1,aga b]
 rw[L.ba f z]
theorem FZ.agree(L:jn C run ops h0 tr)(D:FZ C ops tr N F w0 Vj Z0 E a w k Y Z)(R:Eo ops E E' i o)(M:fF o.op=true)(h1:V<(tr k).h.length)(X:V<(tr i).h.length)
  (G:qB h0 V=true\/(nt ops (before ops) i=true/\Eg ops (before ops) i (tr i).Y V=true)):(tr k).h[V]?=(tr i).h[V]?:=by
 have B:i<ops.size:=(agw.1 R.at_).1;have u:=D.kn;rcases G with G |⟨A,e⟩
 ·obtain⟨v,d,U⟩:=F5 G;rw[L.old d U k D.kn,L.old d U i yxa]
 ·rcases Nat.le_total k i with n |j
  ·have H:∀m,k<=m->m<=i->V<(tr m).h.length/\(tr m).h[V]?=(tr k).h[V]?:=by
    intro m
    induction m with
    |zero=>intro f _;obtain rfl:k=0:=yxa;exact⟨h1,rfl⟩
    |succ m P=>
     intro f S
     by_cases g:k=m+1
     subst g;exact⟨h1,rfl⟩
     ·obtain⟨b,q⟩:=P yxa yxa;refine⟨agK b (L.grow yxa),(L.Vi R M A e yxa b (λz=>.inl ⟨by omega,?_⟩)).trans q⟩
      cases t:E m with
      |false=>rfl
      |true=>have:=D.lo m z t;omega
   exact(H i n (agb _)).2.symm
  ·have H:∀m,i<=m->m<=k->V<(tr m).h.length/\(tr m).h[V]?=(tr i).h[V]?:=by
    intro m
    induction m with
    |zero=>intro f _;obtain rfl:i=0:=yxa;exact⟨X,rfl⟩
    |succ m P=>
     intro f S
     by_cases g:i=m+1
     subst g;exact⟨X,rfl⟩
     ·obtain⟨b,q⟩:=P yxa yxa;exact⟨agK b (L.grow yxa),(L.Vi R M A e yxa b (λz=>.inr ⟨by omega,D.hi m z yxa⟩)).trans q⟩
   exact(H k j (agb _)).2
theorem ZC.agree(L:jn C run ops h0 tr){q1 q2:Oper}{u e:Nat}{g v K J:ax}(D:ZC C run ops tr N F w0 Vj Z0 E a w q1 q2 u e g v K J x y Y Z)(R:Eo ops E E' i o)(M:fF o.op=true)(X:V<(tr i).h.length)
  (G:qB h0 V=true\/(nt ops (before ops) i=true/\Eg ops (before ops) i (tr i).Y V=true)):((tr (ops.size - 2)).h.set e J)[V]?=(tr i).h[V]?:=by
 have hi:i<ops.size:=(agw.1 R.at_).1;have S:=D.sd;have n2:=S.n2
 have d:∀(j:Nat) (q:Oper),ops[j]?=some q->kj C.P ops tr j->i≠j:=by
  rintro j q t z rfl;have:=(L.wr t z).2.1;rw[R.at_]at t;obtain rfl:=af7 t;rw[M]at this;cases this
 have g1:=d _ _ S.e1 S.r1;have W:=d _ _ S.e2 S.r2;have oR:i<ops.size - 2:=yxa
 rcases G with G |⟨hl,b⟩
 ·obtain⟨ob,A,U⟩:=F5 G;have f:=L.old A U (ops.size - 2) yxa
  have Q:e≠V:=by
   rintro rfl;rw[S.g2]at f;obtain rfl:=af7 f;exact U S.m2
  rw[aga Q,f,L.old A U i yxa]
 ·have H:∀m,i<=m->m<=ops.size - 2->V<(tr m).h.length/\(tr m).h[V]?=(tr i).h[V]?:=by
   intro m
   induction m with
   |zero=>intro g _;obtain rfl:i=0:=yxa;exact⟨X,rfl⟩
   |succ m ih=>
    intro g v
    by_cases hk:i=m+1
    subst hk;exact⟨X,rfl⟩
    ·obtain⟨B,i2⟩:=ih yxa yxa;exact⟨agK B (L.grow yxa),(L.Vi R M hl b yxa B (λz=>.inr ⟨by omega,D.al m z yxa⟩)).trans i2⟩
  have O:I7 ops (tr i).Y y V=true:=by
   unfold Eg at b;rw[S.s]at b;simp only[age,agJ]at b;refine b.2.resolve_left (λrl=>?_);have n:=D.al _ S.r2 yxa;rcases rY rl with h |h |h;omega;have:=uz L.ok _ _ h;omega;have:=R.later h;rw[n]at this;cases this
  have Q:=L.target O yxa S.x2;rw[aga Q];exact(H (ops.size - 2) yxa (agb _)).2
theorem fw{C:cA}{lv:Nat}(W:fF H=true\/k9 H=true):ar C run lv H Y h=aD C.P lv H Y h:=by
 cases H <;>first |rfl |(rcases W with W |W <;>simp[fF,k9]at W)
theorem _root_.zaw{P:Prop}(h:P:=by
 
 rw[dg D.er yxn,if_pos rfl];refine .inl (q H (n λ_ _ d _=>by rw[d hb]at J;cases J) (by rw[B]) ?_);rw[fw (.inr hb)];exact CP hb (λh=>by rw[<-fw (C:=C) (run:=run) (.inr hb),<-fw (C:=C) (run:=run) (.inr hb)];exact jm 1 h) J):P:=h
theorem _root_.zbl{P:Prop}(h:P:=by
 
 rw[dg D.er yxn,if_pos rfl];exact .inl (q H (n λX _ _ _=>by rw[hh]at X;cases X) (by rw[B]) (by rw[jm];exact oP hh J))):P:=h
theorem _root_.zbo{P:Prop}(h:P:=by
 
 rw[dg D.er yxn,if_neg yxb];exact U (n λ_ _ _ d=>by rw[H]at d;cases d) (by rw[B]) .undef D.hr (eN.refl _ _ _)):P:=h
theorem zQ.step(K:dn C)(S:dJ C run)(L:jn C run ops h0 tr)(D:zQ C run ops tr N F w0 Vj Z0 E a w)(R:Eo ops E E' i o)(hd:fN N o=true)
  {Q:Exit->Act->World->Prop} {next:Act->World->Prop} (hK:∀a' w',zQ C run ops tr N F w0 Vj Z0 E' a' w'->next a' w'):wpOp C.P ops Q i next a w:=by
 have hi:i<ops.size:=(agw.1 R.at_).1;unfold wpOp;rw[R.at_];simp only
 have n:(cI o.op=true->fF o.op=false->(k9 o.op=true->aD C.P 1 o.op (tr i).Y (tr i).h=none)->bC ops o (tr i).Y=some true->False)->¬kj C.P ops tr i:=by
  rintro hh ⟨o',V,X,d,h4,h5⟩;rw[R.at_]at V;obtain rfl:=af7 V;exact hh X d h4 h5
 have PT:∀j,j≠i->E' j=E j:=λj M=>by
  have:=R.oD j;simp only[M,or_false]at this
  cases V:E j <;>cases X:E' j <;>simp_all
 rcases D with⟨k,Y,Z,D⟩|⟨q1,q2,id1,b,a1,a2,BZ,tK,x,y,Y,Z,D⟩
 ·have mK:=D.rh.CS L.r R;have vF:=D.rh.PR L.r R;have jm:∀lv h,ar C run lv o.op Y h=ar C run lv o.op (tr i).Y h:=λlv h=>lZ vF
  have U:∀{r:PV} {v:Value} {w':World} {A:List (Nat×Nat)},¬kj C.P ops tr i->(tr (i+1)).Y=bZ (tr i).Y o.dst r->aG w' (Av F (tr k).h A) A (tr k).h v r->bp w' F A (tr k).h->eN w (tr k).h Z w' (tr k).h A->next (a.put o.dst v) w':=by
   intro r v w' A hn f q1 q2 q3
   refine hK _ _ (.inl ⟨k,bZ Y o.dst r,A,D.kn,?_,?_,q2,(D.er.mono q3).put (fp hd D.sz) q1,D.rh.on L.r R f,D.sp.trans q3,by rw[cE];exact D.df,by rw[eD];exact D.sz⟩)
   ·intro j V X
    rcases(R.oD j).1 X with X |rfl;exact D.lo j V X;exact absurd V hn
   ·intro j V X
    exact(R.oD j).2 (.inl (D.hi j V X))
  have q:∀{r:PV},bC ops o (tr i).Y=some true->¬kj C.P ops tr i->(tr (i+1)).Y=bZ (tr i).Y o.dst r->ar C run 1 o.op Y (tr k).h=some (r,(tr k).h)->o.wp C.P a w next Q:=by
   intro r H hn f e
   exact gX K S D.hr D.er e (λv w' A q1 q2 q3 q4=>U hn f q1 q2 q3)
  cases L.view R.at_ with
  |off H B=>exact zbo
  |plain r hx H hh J B=>exact zbl
  |rd r hx H W hc J B=>
   rw[dg D.er yxn,if_pos rfl];refine .inl (q H (n λ_ X _ _=>by rw[W]at X;cases X) (by rw[B]) ?_);rw[jm,fw (.inl W)];refine(tc W J (λid G=>?_)).1;have X:=(tc W J (λ_ _=>rfl)).2 id G
   have V:id<(tr k).h.length:=by
    cases mP:o.op with
    |load t z=>
     rw[mP]at G vF;simp only[rP]at G;have hz:=vF z (by simp[Op.operands]);have f:=D.er.ev D.hr.fG z;rw[hz]at f
     cases hq:ev (tr i).Y z with
     |ptr j ep k2 off=>rw[hq]at G f;obtain rfl:=af7 G;exact f.vu.1
     |_=>rw[hq]at G;cases G
    |indexAddr t z u=>
     rw[mP]at G vF;simp only[rP]at G;have hz:=vF z (by simp[Op.operands]);have f:=D.er.ev D.hr.fG z;rw[hz]at f
     cases hq:ev (tr i).Y z with
     |an j ep off len=>rw[hq]at G f;obtain rfl:=af7 G;exact f.eC.1
     |_=>rw[hq]at G;cases G
    |_=>rw[mP]at W;cases W
   exact D.agree L R W V X (hc id G)
  |made r hx H hb J B=>exact zaw
  |two r h' H hh B8 NC W J hle B=>
   rw[dg D.er yxn,if_pos rfl];refine .inl ?_;have Ji:kj C.P ops tr i:=⟨o,R.at_,hh,B8,NC,H⟩
   have Vl:k<=i:=by
    rcases agM i k with h |h;have:=D.hi i Ji h;rw[R.out]at this;cases this;exact h
   have main:(∀j,kj C.P ops tr j->j<i->E j=true)->o.wp C.P a w next Q:=by
    intro anc_of
    have D1:=D.Vk L (i - k) yxa (λj V X d=>by
     have:=D.lo j d (anc_of j d yxa);omega)
    rw[show k+(i - k)=i by omega]at D1;refine gX K S D1.hr D1.er (by rw[jm];exact J) (λv w' A q1 q2 q3 q4=>hK _ _ (.inl ?_));have ZD:(tr (i+1)).h=h':=by rw[B];exact NA q3
    refine⟨i+1,bZ Y o.dst r,A,by omega,?_,?_,by rw[ZD];exact q2,by rw[ZD];exact(D1.er.mono q3).put (fp hd D.sz) q1,D.rh.on L.r R (by rw[B]),by rw[ZD];exact D1.sp.trans q3,by rw[cE];exact D.df,by rw[eD];exact D.sz⟩
    ·intro j V X
     rcases(R.oD j).1 X with X |rfl;have:=D1.lo j V X;omega;omega
    ·intro j V d
     by_cases M:j=i
     exact(R.oD j).2 (.inr M);exact(R.oD j).2 (.inl (anc_of j V yxa))
   have ordE:∀j,kj C.P ops tr j->j<i->¬((sinks ops (before ops)).isSome=true/\ops.size<=i+2/\ops.size<=j+2)->E j=true:=by
    intro j M cK hns
    rcases(L.ord Ji M).resolve_right hns with h |h |h;omega;exact R.Ep j h;have:=uz L.ok j i h;omega
   by_cases hb:(sinks ops (before ops)).isSome=true/\i=ops.size - 1/\E (ops.size - 2)=false
   ·obtain⟨hs,oR,hE1⟩:=hb;obtain⟨⟨x,y⟩,hs⟩:=ah1.1 hs;obtain⟨q1,q2,id1,b,a1,a2,BZ,tK,g⟩:=L.sd hs;have n2:=g.n2;have O:∀j,kj C.P ops tr j->j<ops.size - 2->E j=true:=λj M cK=>ordE j M yxa (λhh=>by omega)
    have UG:k<=ops.size - 2:=by
     rcases agM (ops.size - 2) k with h |h;have:=D.hi _ g.r1 h;rw[hE1]at this;cases this;exact h
    have D1:=D.Vk L (ops.size - 2 - k) yxa (λj V X d=>by
     have:=D.lo j d (O j d yxa);omega)
    rw[show k+(ops.size - 2 - k)=ops.size - 2 by omega]at D1
    have hoq:o=q2:=by
     have d:=R.at_;rw[oR,g.e2]at d;exact(af7 d).symm
    subst hoq
    have mP:∀z∈o.op.operands.toList,ev Y z=ev (tr (ops.size - 2)).Y z:=λz hz=>by
     rw[vF z hz,oR]
     cases z with
     |tmp t=>exact congrFun g.p1 t
     |_=>rfl
    refine gX K S D1.hr D1.er (g.v2 Y _ mP g.g2) (λv w' A r1 r2 r3 r4=>hK _ _ (.inr ?_));refine⟨q1,o,id1,b,a1,a2,BZ,tK,x,y,bZ Y o.dst .undef,A,g,?_,?_,r2,(D1.er.mono r3).put (fp hd D.sz) r1,D.rh.on L.r R (by rw[g.d2,oR,show ops.size - 1+1=ops.size by omega,g.p2,g.p1];rfl),D1.sp.trans r3,by rw[cE];exact D.df,by rw[eD];exact D.sz⟩;rw[PT _ yxa];exact hE1
    ·intro j M bD
     by_cases B0:j=i
     exact(R.oD j).2 (.inr B0)
     ·obtain⟨oj,ej,_⟩:=id M;have:=(agw.1 ej).1;exact(R.oD j).2 (.inl (O j M yxa))
   ·refine main (λj M cK=>?_)
    by_cases hns:(sinks ops (before ops)).isSome=true/\ops.size<=i+2/\ops.size<=j+2
    ·have oR:i=ops.size - 1:=by omega
     have hjn:j=ops.size - 2:=by omega
     cases he:E j with
     |true=>rfl
     |false=>exact absurd ⟨hns.1,oR,by rw[<-hjn];exact he⟩ hb
    exact ordE j M cK hns
 ·have mK:=D.rh.CS L.r R;have vF:=D.rh.PR L.r R;have jm:∀lv h,ar C run lv o.op Y h=ar C run lv o.op (tr i).Y h:=λlv h=>lZ vF
  have g:=D.sd;have n2:=g.n2
  have U:∀{r:PV} {v:Value} {w':World} {A:List (Nat×Nat)},¬kj C.P ops tr i->(tr (i+1)).Y=bZ (tr i).Y o.dst r->aG w' (Av F ((tr (ops.size - 2)).h.set b tK) A) A ((tr (ops.size - 2)).h.set b tK) v r->bp w' F A ((tr (ops.size - 2)).h.set b tK)->eN w ((tr (ops.size - 2)).h.set b tK) Z w' ((tr (ops.size - 2)).h.set b tK) A->next (a.put o.dst v) w':=by
   intro r v w' A hn f r1 r2 r3
   refine hK _ _ (.inr ⟨q1,q2,id1,b,a1,a2,BZ,tK,x,y,bZ Y o.dst r,A,g,?_,?_,r2,(D.er.mono r3).put (fp hd D.sz) r1,D.rh.on L.r R f,D.sp.trans r3,by rw[cE];exact D.df,by rw[eD];exact D.sz⟩);rw[PT _ (by rintro h;rw[<-h]at hn;exact hn g.r1)];exact D.s1
   ·intro j M bD
    exact(R.oD j).2 (.inl (D.al j M bD))
  have q:∀{r:PV},bC ops o (tr i).Y=some true->¬kj C.P ops tr i->(tr (i+1)).Y=bZ (tr i).Y o.dst r->ar C run 1 o.op Y ((tr (ops.size - 2)).h.set b tK)=some (r,(tr (ops.size - 2)).h.set b tK)->o.wp C.P a w next Q:=by
   intro r H hn f e
   exact gX K S D.hr D.er e (λv w' A r1 r2 r3 r4=>U hn f r1 r2 r3)
  cases L.view R.at_ with
  |off H B=>exact zbo
  |plain r hx H hh J B=>exact zbl
  |rd r hx H W hc J B=>
   rw[dg D.er yxn,if_pos rfl];refine .inl (q H (n λ_ X _ _=>by rw[W]at X;cases X) (by rw[B]) ?_);rw[jm,fw (.inl W)];refine(tc W J (λid G=>?_)).1;exact D.agree L R W ((tc W J (λ_ _=>rfl)).2 id G) (hc id G)
  |made r hx H hb J B=>exact zaw
  |two r h' H hh B8 NC W J hle B=>
   rw[dg D.er yxn,if_pos rfl];refine .inl ?_;have Ji:kj C.P ops tr i:=⟨o,R.at_,hh,B8,NC,H⟩
   have oR:i=ops.size - 2:=Classical.byContradiction λbD=>by
    have:=D.al i Ji bD;rw[R.out]at this;cases this
   have hoq:o=q1:=by
    have d:=R.at_;rw[oR,g.e1]at d;exact(af7 d).symm
   subst hoq;have mP:∀z∈o.op.operands.toList,ev Y z=ev (tr (ops.size - 2)).Y z:=λz hz=>by rw[vF z hz,oR]
   have hg:((tr (ops.size - 2)).h.set b tK)[id1]?=some a1:=by rw[aga (agV g.ne)];exact g.g1
   refine gX K S D.hr D.er (g.v1 Y _ mP hg) (λv w' A r1 r2 r3 r4=>hK _ _ (.inl ?_));have NB:(tr ops.size).h=((tr (ops.size - 2)).h.set b tK).set id1 BZ:=by rw[g.h2,List.set_comm _ _ g.ne]
   have E'all:∀j,kj C.P ops tr j->E' j=true:=λj M=>by
    by_cases B0:j=i
    exact(R.oD j).2 (.inr B0);exact(R.oD j).2 (.inl (D.al j M (by rw[<-oR];exact B0)))
   refine⟨ops.size,bZ Y o.dst .undef,A,agb _,?_,λj M _=>E'all j M,by rw[NB];exact r2,by rw[NB];exact(D.er.mono r3).put (fp hd D.sz) r1,D.rh.on L.r R (by rw[g.d1,oR,show ops.size - 2+1=ops.size - 1 by omega,g.p1];rfl),by rw[NB];exact D.sp.trans r3,by rw[cE];exact D.df,by rw[eD];exact D.sz⟩
   intro j M _
   obtain⟨oj,ej,_⟩:=M;exact(agw.1 ej).1
theorem zQ.done(L:jn C run ops h0 tr)(D:zQ C run ops tr N F w0 Vj Z0 E a w)(R:∀j,j<ops.size->E j=true):∃Z,SR N w F Z (tr ops.size) a/\eN w0 Vj Z0 w (tr ops.size).h Z:=by
 rcases D with⟨k,Y,Z,D⟩|⟨U,z,b,e,f,S,B,J,x,y,Y,Z,D⟩
 ·have u:=D.Vk L (ops.size - k) (by have:=D.kn;omega) (λj O X Q=>by
   have:=D.lo j Q (R j (by have:=D.kn;omega));omega)
  rw[show k+(ops.size - k)=ops.size by have:=D.kn;omega]at u
  have q:Y=(tr ops.size).Y:=by
   exact zb9
  have X:=u.er;rw[q]at X;exact⟨Z,⟨u.hr,X,u.df,u.sz⟩,u.sp⟩
 ·have:=D.s1;rw[R _ (by have:=D.sd.n2;omega)]at this;cases this
def FL(t:List Nat)(F:Nat->Prop)(h:ab)(Z:List (Nat×Nat))(b:Nat):Prop:=F b\/∃V o n,t.contains V=true/\h[V]?=some o/\Z[V]?=some n/\o.mu=.m/\n.1=b
theorem nF(t:List Nat)(h:ab)(V:Nat):(cJ t h)[V]?=(h[V]?).map λo=>if t.contains V then cm o else o:=by
 unfold cJ;rw[agt,aik,aiH]
 cases h[V]? <;>simp
theorem F6(t:List Nat)(h h':ab)(V:Nat):(eZ t h h')[V]?=(h'[V]?).map λo=>if t.contains V then(match h[V]? with |some y=>y|none=>o)else o:=by
 unfold eZ;rw[agt,aik,aiH]
 cases h'[V]? with
 |none=>rfl
 |some o=>
  simp only[ago,Function.comp_apply,agz]
  split <;>rfl
theorem xn(t:List Nat)(h:ab):(cJ t h).length=h.length:=by unfold cJ;simp
variable{Z:List (Nat×Nat)}{h:ab}
theorem rZ(t:List Nat)(h:ab):Alike h (cJ t h):=by
 refine⟨(xn t h).symm,λV o y D N=>?_⟩;rw[nF,D]at N;obtain rfl:=af7 N;obtain⟨J,j,v,e,_⟩:=bU o
 split
 exact⟨J.symm,j.symm,v.symm,e.symm⟩;exact⟨rfl,rfl,rfl,Iff.rfl⟩
theorem zR{t:List Nat}(W:Mb (cJ t h) Z b):∃V o bc,t.contains V=false/\h[V]?=some o/\Z[V]?=some bc/\o.mu=.m/\bc.1=b:=by
 obtain⟨V,o,bc,D,N,P,M⟩:=W;rw[nF]at D
 cases f:h[V]? with
 |none=>rw[f]at D;cases D
 |some q=>
  rw[f]at D;simp only[ago,agx]at D
  split at D
  subst D;exact absurd P (bU q).2.2.2.2.1
  ·rename_i G;subst D;exact⟨V,q,bc,by simpa using G,f,N,P,M⟩
theorem vG{t:List Nat}(W:Av (FL t F h Z) (cJ t h) Z b):Av F h Z b:=by
 rcases W with(W |⟨V,o,n,_,D,N,P,M⟩)|W;exact .inl W;exact .inr ⟨V,o,n,D,N,P,M⟩
 ·obtain⟨V,o,n,_,D,N,P,M⟩:=zR W;exact .inr ⟨V,o,n,D,N,P,M⟩
theorem bp.cJ(H:bp w F Z h)(t:List Nat):bp w (FL t F h Z) Z (Pm.cJ t h):=by
 have X:∀(V:Nat) (o:ax),(Pm.cJ t h)[V]?=some o->∃q,h[V]?=some q/\((t.contains V=true/\o=cm q)\/(t.contains V=false/\o=q)):=by
  intro V o e
  rw[nF]at e
  cases j:h[V]? with
  |none=>rw[j]at e;cases e
  |some q=>
   rw[j]at e;simp only[ago,agx]at e
   split at e
   ·rename_i G;exact⟨q,rfl,.inl ⟨G,e.symm⟩⟩
   ·rename_i G;exact⟨q,rfl,.inr ⟨by simpa using G,e.symm⟩⟩
 refine⟨by rw[xn];exact H.len,λb W=>?_,?_,?_,?_,H.fG.jk λb=>vG⟩
 ·rcases W with W |⟨V,o,n,_,D,N,P,M⟩
  ·exact H.fin b W
  ·exact Av.lt H (.inr ⟨V,o,n,D,N,P,M⟩)
 ·intro V o n D N P
  obtain⟨q,R,g⟩:=X V o D;obtain⟨p1,v,J,U,_⟩:=bU q;rcases g with⟨_,rfl⟩|⟨_,rfl⟩;exact(H.obj V q n R N (λi=>P (U.2 i))).alike (rZ t h) (λb=>vG) v.symm J.symm;exact(H.obj V o n R N P).alike (rZ t h) (λb=>vG) rfl rfl
 ·intro V S o y n z Q D N P M Y O
  obtain⟨q,R,g⟩:=X V o D;obtain⟨d,K,g2⟩:=X S y N;rcases g with⟨_,rfl⟩|⟨_,rfl⟩;exact absurd Y (bU q).2.2.2.2.1
  ·rcases g2 with⟨_,rfl⟩|⟨_,rfl⟩
   ·exact H.iv V S o d n z Q R K P M Y (λi=>O ((bU d).2.2.2.1.2 i))
   ·exact H.iv V S o y n z Q R K P M Y O
 ·intro V o n D N P u
  obtain⟨q,R,g⟩:=X V o D;obtain⟨p1,v,J,U,p5,p6⟩:=bU q
  have a:(t.contains V=false/\q.mu=.m)\/q.mu=.f:=by
   rcases g with⟨_,rfl⟩|⟨G,rfl⟩
   ·rcases P with P |P
    ·exact absurd P p5
    ·exact .inr (p6.1 P)
   exact P.imp (λh=>⟨G,h⟩) (λh=>h)
  rcases u with u |⟨S,y,z,k1,A,k3,B,k5⟩;exact H.out V q n R N (a.imp (λh=>h.2) (λh=>h)) u
  ·have Q:S≠V:=by
    rintro rfl;rw[R]at A;obtain rfl:=af7 A;rcases a with h |h;rw[k1]at h;cases h.1;rw[B]at h;cases h
   exact H.iv S V y q z n Q A R k3 N B (by rcases a with h |h;rw[h.2];simp;rw[h];simp) k5
theorem bp.eZ(H:bp w F Z h){t:List Nat}{w':World}{h1:ab}{J:List (Nat×Nat)}(j:bp w' (FL t F h Z) J h1)(g:eN w (Pm.cJ t h) Z w' h1 J)(B8:uo t h h1=true):
  (∀(v:Value) (p:PV),aG w' (Av (FL t F h Z) h1 J) J h1 v p->aG w' (Av F (Pm.eZ t h h1) J) J (Pm.eZ t h h1) v p)/\bp w' F J (Pm.eZ t h h1)/\eN w h Z w' (Pm.eZ t h h1) J:=by
 have hn:h.length<=h1.length:=by have:=g.len;rwa[xn]at this
 have yd:(Pm.eZ t h h1).length=h1.length:=by unfold Pm.eZ;simp
 have lk:∀(V:Nat) (o:ax),h[V]?=some o->t.contains V=true->h1[V]?=some (cm o)/\J[V]?=Z[V]?/\(Pm.eZ t h h1)[V]?=some o:=λV o ho G=>by
  have D:(Pm.cJ t h)[V]?=some (cm o):=by rw[nF,ho];simp only[ago,G,if_true]
  obtain⟨K,a⟩:=g.Ja V (cm o) D (bU o).2.2.2.2.1;exact⟨K,a,by rw[F6,K];simp only[ago,G,if_true,ho]⟩
 have ul:∀(V:Nat),(t.contains V=false\/h.length<=V)->(Pm.eZ t h h1)[V]?=h1[V]?:=λV G=>by
  rw[F6]
  cases h1[V]? with
  |none=>rfl
  |some o=>
   rcases G with G |G;simp only[ago,G,agn,if_false];simp only[ago,agr G];split <;>rfl
 have Y:∀(V:Nat) (o:ax),(Pm.eZ t h h1)[V]?=some o->(t.contains V=true/\h[V]?=some o/\h1[V]?=some (cm o)/\J[V]?=Z[V]?)\/((t.contains V=false\/h.length<=V)/\h1[V]?=some o):=λV o e=>by
  by_cases G:t.contains V=true/\V<h.length
  ·obtain⟨o2,ho⟩:=pV (l:=h) (i:=V) G.2;obtain⟨K,a,g3⟩:=lk V o2 ho G.1;rw[g3]at e;obtain rfl:=af7 e;exact .inl ⟨G.1,ho,K,a⟩
  ·have A:t.contains V=false\/h.length<=V:=by
    by_cases h1:t.contains V=true
    exact .inr (Nat.le_of_not_lt λq=>G ⟨h1,q⟩);exact .inl (by simpa using h1)
   exact .inr ⟨A,by rw[<-ul V A];exact e⟩
 have al:Alike h1 (Pm.eZ t h h1):=by
  refine⟨yd.symm,λV o y D N=>?_⟩;rcases Y V y N with⟨_,_,K,_⟩|⟨_,K⟩
  ·rw[K]at D;obtain rfl:=af7 D;obtain⟨p1,p2,p3,p4,_⟩:=bU y;exact⟨p1,p2,p3,p4⟩
  ·rw[K]at D;obtain rfl:=af7 D;exact⟨rfl,rfl,rfl,Iff.rfl⟩
 have Er:∀b,Av F (Pm.eZ t h h1) J b->Av (FL t F h Z) h1 J b:=by
  rintro b (W |⟨V,o,n,D,N,P,M⟩);exact .inl (.inl W)
  ·rcases Y V o D with⟨G,d,K,a⟩|⟨_,K⟩
   ·rw[a]at N;exact .inl (.inr ⟨V,o,n,G,d,N,P,M⟩)
   ·exact .inr ⟨V,o,n,K,N,P,M⟩
 have lmu:∀(V:Nat) (o:ax),(t.contains V=false\/h.length<=V)->h1[V]?=some o->o.mu=.l->∃y,h[V]?=some y/\y.mu=.l:=λV o G e u=>by
  have:=af9.1 B8 (o,V) (by rw[ahv];exact⟨V,by simp[e]⟩);simp only[u,ne_eq,not_true_eq_false,decide_false,ahN,agJ,age,decide_eq_true_eq]at this;rcases this with q |q
  ·rcases G with G |G
   ·rw[G]at q;cases q.1
   ·omega
  ·split at q
   ·rename_i y FX;exact⟨y,FX,by simpa using q⟩
   ·cases q
 have hMb:∀b,b<w.heap.size->Mb (Pm.eZ t h h1) J b->Mb h Z b:=by
  rintro b W ⟨V,o,n,D,N,P,M⟩;rcases Y V o D with⟨G,d,K,a⟩|⟨_,K⟩;rw[a]at N;exact⟨V,o,n,d,N,P,M⟩
  ·obtain⟨S,y,z,_,R,O,f3,f4⟩:=zR (g.shr b W ⟨V,o,n,K,N,P,M⟩);exact⟨S,y,z,R,O,f3,f4⟩
 refine⟨λv p q1=>q1.alike al Er,⟨by rw[yd];exact j.len,λb W=>agK (H.fin b W) g.size,?_,?_,?_,j.fG.jk Er⟩,⟨g.size,by rw[yd];exact hn,λb W u=>g.ba b W (λhm2=>u ?_),hMb,?_,?_,g.os,g.tape,g.output,g.drawn⟩⟩
 ·intro V o n D N P
  rcases Y V o D with⟨G,d,K,a⟩|⟨_,K⟩
  ·obtain⟨p1,p2,p3,p4,_⟩:=bU o;exact(j.obj V (cm o) n K N (λhh=>P (p4.1 hh))).alike al Er p2 p3
  exact(j.obj V o n K N P).alike al Er rfl rfl
 ·intro V S o y n z bD D N P M m1 m2
  rcases Y V o D with⟨G,d,K,a⟩|⟨G,K⟩
  ·rcases Y S y N with⟨A,g0',X,g2'⟩|⟨A,X⟩
   ·rw[a]at P;rw[g2']at M;exact H.iv V S o y n z bD d g0' P M m1 m2
   ·rw[a]at P;have inF:FL t F h Z n.1:=.inr ⟨V,o,n,G,d,P,m1,rfl⟩
    cases u:y.mu with
    |m=>exact λQ=>j.out S y z X M (.inl u) (Q▸inF)
    |f=>exact λQ=>j.out S y z X M (.inr u) (Q▸inF)
    |l=>
     obtain⟨o2,k1,k2⟩:=lmu S y A X u;have B:t.contains S=false:=A.resolve_right (λhh=>by rw[agr hh]at k1;cases k1);have U:(Pm.cJ t h)[S]?=some o2:=by rw[nF,k1];simp only[ago,B,agn,if_false]
     obtain⟨_,k4⟩:=g.Ja S o2 U (by rw[k2];simp);rw[k4]at M;exact H.iv V S o o2 n z bD d k1 P M m1 (by rw[k2];simp)
    |x=>exact absurd u m2
  ·rcases Y S y N with⟨A,g0',X,g2'⟩|⟨A,X⟩
   ·exact j.iv V S o (cm y) n z bD K X P M m1 (λhh=>m2 ((bU y).2.2.2.1.1 hh))
   ·exact j.iv V S o y n z bD K X P M m1 m2
 ·intro V o n D N P
  rcases Y V o D with⟨G,d,K,a⟩|⟨G,K⟩;rw[a]at N;exact H.out V o n d N P;exact λhf=>j.out V o n K N P (.inl hf)
 ·obtain⟨S,y,z,_,R,O,f3,f4⟩:=zR hm2;exact⟨S,y,z,R,O,f3,f4⟩
 ·intro V o n D N P
  by_cases G:t.contains V=true
  ·obtain⟨K,a,g3⟩:=lk V o D G;exact⟨o,n,g3,by rw[a];exact N,P,⟨agb _,λh=>h⟩,λ_=>⟨rfl,λ_=>rfl,rfl⟩⟩
  ·have B:t.contains V=false:=by simpa using G
   have U:(Pm.cJ t h)[V]?=some o:=by rw[nF,D];simp only[ago,B,agn,if_false]
   obtain⟨y,z,R,O,f3,f4,f5⟩:=g.refs V o n U N P;exact⟨y,z,by rw[ul V (.inl B)];exact R,O,f3,f4,f5⟩
 ·intro V o D N
  by_cases G:t.contains V=true
  ·obtain⟨K,a,g3⟩:=lk V o D G;exact⟨g3,a⟩
  ·have B:t.contains V=false:=by simpa using G
   have U:(Pm.cJ t h)[V]?=some o:=by rw[nF,D];simp only[ago,B,agn,if_false]
   obtain⟨R,O⟩:=g.Ja V o U N;exact⟨by rw[ul V (.inl B)];exact R,O⟩
theorem Vm(K:dn C)(S:dJ C run)(hm:C.P.follows .mixedOrders=true){id:Nat}(hd:ops.toList.all (fN N)=true)(B:iz ops=true){s U:St}(R:SR N w F Z s a)
  (e:ka C run ops s=some U) (hQ:∀u w' q,SR N w' F q U u->eN w s.h Z w' U.h q->Q .normal u w'):(Code.region id ops true).wp C.P Q a w:=by
 unfold ka at e;generalize zI:iS ops (before ops) s.Y=d at e
 split at e
 ·rename_i y he
  split at e
  ·rename_i f
   obtain rfl:=af7 e;obtain⟨z,W,t2,t3⟩:=rX ops.toList 0 _ _ he;have n:z ops.size=y:=by simpa using t3
   have L:jn C run ops (cJ d s.h) z:=⟨B,λi o J=>by simpa using t2 i o (by simpa using J),by rw[W],by rw[n];exact f.2⟩
   refine wp_region_any hm (td (C:=C) B (λE u w'=>zQ C run ops z N (FL d F s.h Z) w (cJ d s.h) Z E u w')
    (λE E' u w' i o D g next hK=>zQ.step K S L D g (af9.1 hd o (aij.2 (ahw g.at_))) hK)
    (λE u w' D eY=>?_) ops.size _ a _ yxb (λi o J H=>by rw[getD_none]at H;cases H) ?_ ?_)
   ·obtain⟨Z1,O,X⟩:=D.done L eY;rw[n]at O X;obtain⟨u1,u2,u3⟩:=R.hr.eZ O.hr X f.1;exact hQ u w' Z1 ⟨u2,λt=>u1 _ _ (O.er t),O.df,O.sz⟩ u3
   refine agI (aid) yxb
   ·have A:∀j,(Array.replicate ops.size false).getD j false=false:=λj=>getD_none _ j
    have G:dH w {w with drawn:=w.drawn+1}:=dH.drew w;have V:=R.hr.cJ d;have M:iA w (Av (FL d F s.h Z) (cJ d s.h) Z) Z (cJ d s.h) a s.Y:=λt=>(R.er t).alike (rZ d s.h) (λb=>vG)
    refine .inl ⟨0,s.Y,Z,⟨ag7 _,λj _ h=>(by rw[A]at h;cases h),λj _ h=>by omega,by rw[W];exact V.Cm G,by rw[W];exact M.mono (G.xa _ Z),?_,by rw[W];exact G.xa _ Z,R.df,R.sz⟩⟩
    intro t k' im hw
    rw[L.ko (t:=t) (i:=0) k' (ag7 _) im (λj o O X h3 h4=>by
     have v:(Array.replicate ops.size false).getD j false=true:=(hw j o h3 h4).2 X;rw[A]at v;cases v),W]
  cases e
 cases e
end Go.Pm
namespace Go.Pm
variable{H:Op}{run:hZ}{Y:Nat->PV}{X h h':ab}{P:Program}{V i j k:Nat}{o:Oper}{Q:Exit->Act->World->Prop}
variable[iD:Inhabited Prop]
theorem sM{C:cA}{run:hZ}{W:List Nat}{h0:ab}:∀(l:List Oper) (k:Nat) (x y:St),eQ C run W h0 l x=some y->
  ∃z:Nat->St,z k=x/\(∀(i:Nat) (o:Oper),l[i]?=some o->fe C run W h0 o (z (k+i))=some (z (k+i+1)))/\z (k+l.length)=y
 |[],k,x,y,e=>by
  simp[eQ]at e;exact⟨λ_=>x,rfl,λi o h=>by simp at h,by simpa using e⟩
 |o::l,k,x,y,e=>by
  simp only[eQ]at e
  split at e
  ·rename_i d U
   obtain⟨z,b,Y,S⟩:=sM l (k+1) d y e;refine⟨λj=>if j<=k then x else z j,by simp,?_,?_⟩
   ·intro i a f
    cases i with
    |zero=>
     simp at f;subst f;simp[b,U]
     intro R;omega
    |succ i=>
     have:=Y i a (by simpa using f);have D:¬(k+(i+1)<=k):=by omega
     have N:¬(k+(i+1)+1<=k):=by omega
     simp only[D,N,if_false];rw[show k+(i+1)=k+1+i by omega];exact this
   ·have D:¬(k+(o::l).length<=k):=by simp
    simp only[D,if_false];rw[<-S];congr 1;simp;omega
  cases e
theorem qY(h:oF H=true):cI H=true/\fF H=false/\I8 H=false/\nu H=false/\vn H=false:=by
 cases H <;>simp[oF]at h <;>exact⟨rfl,rfl,rfl,rfl,rfl⟩
theorem lV(h:nu H=true):cI H=true/\fF H=false/\I8 H=false/\oF H=false/\vn H=false:=by
 cases H <;>simp[nu]at h <;>exact⟨rfl,rfl,rfl,rfl,rfl⟩
theorem OK{C:cA}{r:PV}(S:rQ C H Y=true)(e:ar C run 1 H Y h=some (r,h')):ar C run 1 H Y X=some (r,X):=by
 unfold rQ at S
 split at S
 ·rename_i f V n
  split at S
  ·rename_i g M u
   simp only[age]at S;obtain⟨O,Q⟩:=S;simp only[ar,gp,u,dG]at e ⊢;unfold zE at Q
   split at Q
   ·rename_i d
    simp only[d,dL,O,if_true]at e ⊢;generalize run g (aY (V.toList.map (ev Y)++M)) []=q at e ⊢;rcases q with _ |⟨R,G⟩
    cases e
    ·simp only at e ⊢;generalize yb G R=z at e ⊢;rcases z with _ |b
     cases e
     ·simp only at e ⊢;rw[(agk (af7 e)).1]
   ·rename_i q d
    simp only[d,O,if_true]at e ⊢;obtain⟨D,_⟩:=da e;rw[D];rfl
   ·rename_i q d
    simp only[d,O,if_true]at e ⊢;obtain⟨D,_⟩:=da e;rw[D];rfl
   cases Q
  cases S
 cases S
theorem MF{x:Operand}(h:U6 Y x=true):∃s,ev Y x=.str s:=by
 unfold U6 at h
 split at h
 ·rename_i s S;exact⟨s,S⟩
 cases h
theorem Wz{C:cA}{r:PV}(S:Qf H Y=true)(e:ar C run 1 H Y h=some (r,h')):ar C run 1 H Y X=some (r,X):=by
 unfold Qf at S
 split at S
 ·obtain⟨s,U⟩:=MF S;simp only[ar,aD,U]at e ⊢;obtain⟨D,_⟩:=da e
  have:∀t z B u,cS C.P X t (.str s) z B u=cS C.P h t (.str s) z B u:=λt z B u=>by
   unfold cS
   cases C.P.underlying t with
   |none=>rfl
   |some a=>cases a <;>rfl
  rw[this,D];rfl
 ·rename_i V n
  split at S
  ·rename_i x l A
   obtain⟨s,U⟩:=MF S;simp only[ar,A,agp,U]at e ⊢
   cases n with
   |mk n=>
   cases n with
   |nil=>simp[bA]at e
   |cons t n=>
    simp only[bA]at e ⊢;obtain⟨D,_⟩:=da e
    have:qz C.P X t (.str s)=some r:=by
     rw[<-D];unfold qz
     split <;>simp_all
    rw[this];rfl
  cases S
 cases S
theorem aba{r:PV}(g:oF H=true)(e:aD P 1 H Y h=some (r,h')):∃b:ax,b.mu=.m/\h'=h++[b]/\∀(D:Nat->PV) (M:ab),M.length=h.length->aD P 1 H D M=some (r,M++[b]):=by
 cases H <;>simp[oF]at g
 case alloc t=>
  simp only[aD]at e ⊢
  split at e
  ·rename_i z a
   split at e
   ·rename_i G
    obtain⟨rfl,rfl⟩:=agk (af7 e);exact⟨_,rfl,rfl,λD M u=>by simp only[G,and_self,if_true,u,newObj]⟩
   cases e
  cases e
 case makeMap t x=>
  cases x with
  |some x=>simp at g
  |none=>
   simp only[aD,lY,ah8]at e ⊢;obtain⟨rfl,rfl⟩:=agk (af7 e);exact⟨_,rfl,rfl,λD M u=>by simp only[agb,if_true,u,newObj]⟩
theorem HE{t:TypeId}{m k v:PV}(e:iQ P h t m k v=some h'):∃V o y,m=.cq V/\h[V]?=some o/\o.mu=.m/\h'=h.set V y/\∀X:ab,X[V]?=some o->iQ P X t m k v=some (X.set V y):=by
 unfold iQ at e
 split at e
 ·rename_i O R V Z
  split at e
  ·rename_i o f
   split at e
   ·rename_i G
    split at e
    ·rename_i S b
     obtain rfl:=af7 e;unfold xi at f
     split at f
     ·rename_i q N
      split at f
      ·rename_i M
       obtain rfl:=af7 f;obtain⟨K,a,D⟩:=getM_some N;refine⟨V,q,_,rfl,K,G.2,rfl,λX Q=>?_⟩
       have d:xi X V=some q:=by
        unfold xi;rw[LA Q a D];simp only[M,if_true]
       unfold iQ;rw[Z];simp only[d,G,and_self,if_true,b]
      cases f
     cases f
    cases e
   cases e
  cases e
 cases e
theorem abb{d:Op}{r:PV}(g:nu d=true)(Z:Qg d Y=some V)(e:aD P 2 d Y h=some (r,h')):∃o b:ax,h[V]?=some o/\h'=h.set V b/\∀X:ab,X[V]?=some o->aD P 2 d Y X=some (r,X.set V b):=by
 have J:∀{x:Option ab},x.map (PV.undef,·)=some (r,h')->x=some h'/\r=.undef:=λ{x} e=>by
  cases x with
  |none=>cases e
  |some y=>obtain⟨rfl,rfl⟩:=agk (af7 e);exact⟨rfl,rfl⟩
 cases d <;>simp[nu]at g
 case store t a x=>
  simp only[aD,agb,if_true]at e ⊢;obtain⟨D,rfl⟩:=J e;obtain⟨q,j,i,U,o,b,O,X,_,G,f⟩:=uy D;simp only[Qg,O]at Z;obtain rfl:=af7 Z;exact⟨o,b,X,G,λH w=>by rw[f H w];rfl⟩
 all_goals
  simp only[aD,agb,if_true]at e ⊢;obtain⟨D,rfl⟩:=J e;obtain⟨q,o,b,O,X,_,G,f⟩:=HE D;simp only[Qg,O]at Z;obtain rfl:=af7 Z;exact⟨o,b,X,G,λH w=>by rw[f H w];rfl⟩
inductive HF(C:cA)(run:hZ)(W:List Nat)(h0:ab)(o:Oper)(x y:St):Prop
 |same (r:PV):oF o.op=false->nu o.op=false->(∀K:ab,(∀id,id<h0.length->id∉W->K[id]?=h0[id]?)->ar C run 1 o.op x.Y K=some (r,K))->y=⟨bZ x.Y o.dst r,x.h⟩->HF C run W h0 o x y
 |mk (r:PV) (ob:ax):oF o.op=true->ob.mu=.m->(∀(Y2:Nat->PV) (M:ab),M.length=x.h.length->ar C run 1 o.op Y2 M=some (r,M++[ob]))->y=⟨bZ x.Y o.dst r,x.h++[ob]⟩->HF C run W h0 o x y
 |wt (r:PV) (id:Nat) (o1 o2:ax):nu o.op=true->Qg o.op x.Y=some id->(h0.length<=id\/id∈W)->x.h[id]?=some o1->(∀H:ab,H[id]?=some o1->ar C run 2 o.op x.Y H=some (r,H.set id o2))->y=⟨bZ x.Y o.dst r,x.h.set id o2⟩->HF C run W h0 o x y
theorem wx{C:cA}{lv:Nat}(W:oF H=true\/nu H=true):ar C run lv H Y h=aD C.P lv H Y h:=by
 cases H <;>first |rfl |(rcases W with W |W <;>simp[oF,nu]at W)
theorem adG{C:cA}{W:List Nat}{h0:ab}{x y:St}(q:cI o.op=false\/fF o.op=true\/oF o.op=true\/I8 o.op=true\/vn o.op=true\/nu o.op=true)(e:fe C run W h0 o x=some y):HF C run W h0 o x y:=by
 have j:∀{b:Bool},(oF o.op=true->b=false)->(nu o.op=true->b=false)->b=true->oF o.op=false/\nu o.op=false:=λ{b} O X Q=>by
  constructor
  ·cases G:oF o.op with
   |false=>rfl
   |true=>rw[O G]at Q;cases Q
  ·cases G:nu o.op with
   |false=>rfl
   |true=>rw[X G]at Q;cases Q
 unfold fe at e
 split at e
 ·rename_i R
  obtain⟨S,v⟩:=j (b:=!cI o.op) (λh=>by rw[(qY h).1];rfl) (λh=>by rw[(lV h).1];rfl) (by rw[R];rfl)
  split at e
  ·rename_i r U J
   exact .same r S v (λK _=>oP R J) (af7 e).symm
  cases e
 ·split at e
  ·rename_i z
   obtain⟨S,v⟩:=j (λh=>(qY h).2.1) (λh=>(lV h).2.1) z
   split at e
   ·rename_i N
    split at e
    ·rename_i r U J
     refine .same r S v (λK n=>?_) (af7 e).symm;rw[fw (.inl z)];refine(tc z J (λV t=>n V ((tc z J (λ_ _=>rfl)).2 V t) (λa=>?_))).1;simp[Lw,t,a]at N
    cases e
   cases e
  ·rename_i z
   split at e
   ·rename_i A
    obtain⟨S,v⟩:=j (λh=>(qY h).2.2.2.2) (λh=>(lV h).2.2.2.2) A
    split at e
    ·rename_i f
     split at e
     ·rename_i r U J
      exact .same r S v (λK _=>Wz f J) (af7 e).symm
     cases e
    cases e
   ·rename_i d
    split at e
    ·rename_i A
     obtain⟨S,v⟩:=j (λh=>(qY h).2.2.1) (λh=>(lV h).2.2.1) A
     split at e
     ·rename_i f
      split at e
      ·rename_i r U J
       exact .same r S v (λK _=>OK f J) (af7 e).symm
      cases e
     cases e
    ·split at e
     ·rename_i g
      split at e
      ·rename_i r i J
       obtain⟨ob,F,rfl,P⟩:=aba g J;exact .mk r ob g F (λD M u=>by rw[wx (.inl g)];exact P D M u) (af7 e).symm
      cases e
     ·rename_i R A g
      have a:nu o.op=true:=by
       rcases q with h |h |h |h |h |h;exact absurd h R;exact absurd h z;exact absurd h g;exact absurd h A;exact absurd h d;exact h
      split at e
      ·rename_i V Z
       split at e
       ·rename_i t
        split at e
        ·rename_i r i J
         obtain⟨B,Y,F,rfl,P⟩:=abb a Z J;exact .wt r V B Y a Z (by simpa using t) F (λH w=>by rw[wx (.inr a)];exact P H w) (af7 e).symm
        cases e
       cases e
      cases e
structure mC(C:cA)(run:hZ)(ops:Array Oper)(W:List Nat)(h0:ab)(tr:Nat->St):Prop where
 ok:iz ops=true
 fs:kb ops=true
 st:∀(i:Nat) (o:Oper),ops[i]?=some o->fe C run W h0 o (tr i)=some (tr (i+1))
 h0:(tr 0).h=h0
def MH(ops:Array Oper)(j:Nat):Prop:=∃o,ops[j]?=some o/\oF o.op=true
def IsW(ops:Array Oper)(j:Nat):Prop:=∃o,ops[j]?=some o/\nu o.op=true
variable{C:cA}{run:hZ}{ops:Array Oper}{W:List Nat}{h0:ab}{tr:Nat->St}
theorem mC.cls(L:mC C run ops W h0 tr)(f:ops[i]?=some o):o.guard=none/\(cI o.op=false\/fF o.op=true\/oF o.op=true\/I8 o.op=true\/vn o.op=true\/nu o.op=true)/\(nu o.op=true->acb ops (before ops) i=true):=by
 have:=L.fs;simp only[kb,age]at this;have:=af9.1 this.2 (o,i) (by rw[ahv];exact⟨i,by simp[f]⟩);simp only[age,agJ,ahg,Option.isNone_iff_eq_none]at this;obtain⟨O,X⟩:=this;refine⟨O,?_,λH=>?_⟩
 ·rcases X with((((h |h)|h)|h)|h)|h
  ·exact .inl h
  ·exact .inr (.inl h)
  ·exact .inr (.inr (.inl h))
  ·exact .inr (.inr (.inr (.inl h)))
  ·exact .inr (.inr (.inr (.inr (.inl h))))
  ·exact .inr (.inr (.inr (.inr (.inr h.1))))
 ·obtain⟨a,A,Q,B,b⟩:=lV H;rcases X with((((h |h)|h)|h)|h)|h;rw[a]at h;cases h;rw[A]at h;cases h;rw[B]at h;cases h;rw[Q]at h;cases h;rw[b]at h;cases h;exact h.2
theorem mC.view(L:mC C run ops W h0 tr)(f:ops[k]?=some o):HF C run W h0 o (tr k) (tr (k+1)):=adG (L.cls f).2.1 (L.st k o f)
theorem mC.r(L:mC C run ops W h0 tr):F0 ops tr:=⟨L.ok,λk o f=>by
 cases L.view f with
 |same r _ _ _ F=>exact⟨r,by rw[F]⟩
 |mk r b _ _ _ F=>exact⟨r,by rw[F]⟩
 |wt r V u q _ _ _ _ _ F=>exact⟨r,by rw[F]⟩⟩
theorem mC.Ep(L:mC C run ops W h0 tr)(B:IsW ops i)(M:MH ops j\/IsW ops j)(F:j<i):xm ops i j:=by
 obtain⟨o,f,H⟩:=B;have O:=(L.cls f).2.2 H
 have:∃y,ops[j]?=some y/\(oF y.op ||nu y.op)=true:=by
  rcases M with⟨y,e,h⟩|⟨y,e,h⟩ <;>exact⟨y,e,by simp[h]⟩
 obtain⟨y,e,h⟩:=this;have:=af9.1 O (y,j) (by rw[ahv];exact⟨j,by simp[e]⟩);simp only[h,ah6,ahN,agJ,decide_eq_true_eq]at this;rcases this with h |h;omega;exact h
def Tg(ops:Array Oper)(z:Nat->St)(j V:Nat):Prop:=∃o,ops[j]?=some o/\nu o.op=true/\Qg o.op (z j).Y=some V
theorem mC.HG(L:mC C run ops W h0 tr)(g:k<ops.size):(tr k).h.length<=(tr (k+1)).h.length/\(MH ops k->(tr (k+1)).h.length=(tr k).h.length+1)/\(¬MH ops k->(tr (k+1)).h.length=(tr k).h.length):=by
 obtain⟨o,f⟩:=pW (ops:=ops) g
 cases L.view f with
 |same r S v _ F=>rw[F];exact⟨agb _,(λ⟨y,e,h⟩=>by rw[f]at e;obtain rfl:=af7 e;rw[S]at h;cases h),λ_=>rfl⟩
 |mk r b O _ _ F=>rw[F];exact⟨by simp,(λ_=>by simp),λz=>absurd ⟨o,f,O⟩ z⟩
 |wt r V u q O _ _ _ _ F=>rw[F];exact⟨by simp,(λ⟨y,e,h⟩=>by rw[f]at e;obtain rfl:=af7 e;rw[(lV O).2.2.2.1]at h;cases h),λ_=>by simp⟩
theorem mC.len(L:mC C run ops W h0 tr):∀B,k<=B->B<=ops.size->(tr k).h.length<=(tr B).h.length:=by
 intro B
 induction B with
 |zero=>intro h _;obtain rfl:k=0:=yxa;exact agb _
 |succ B P=>
  intro O X
  by_cases g:k=B+1
  subst g;exact agb _;exact agI (P yxa yxa) (L.HG yxa).1
theorem mC.ba(L:mC C run ops W h0 tr):∀B,k<=B->B<=ops.size->V<(tr k).h.length->(∀j,k<=j->j<B->¬Tg ops tr j V)->(tr B).h[V]?=(tr k).h[V]?:=by
 intro B
 induction B with
 |zero=>intro h _ _ _;obtain rfl:k=0:=yxa;rfl
 |succ B P=>
  intro O X Q G
  by_cases g:k=B+1
  subst g;rfl
  ·rw[<-P yxa yxa Q (λj a b=>G j a yxa)];obtain⟨o,f⟩:=pW (ops:=ops) (k:=B) yxa;have A:=L.len (k:=k) B yxa yxa
   cases L.view f with
   |same r S v _ F=>rw[F]
   |mk r t _ _ _ F=>rw[F];exact af8 yxa
   |wt r e u d i n _ _ _ F=>
    rw[F];refine aga (λq=>?_);subst q;exact G B yxa yxa ⟨o,f,i,n⟩
theorem mC.tg(L:mC C run ops W h0 tr)(h:Tg ops tr j V):h0.length<=V\/V∈W:=by
 obtain⟨o,f,O,X⟩:=h
 cases L.view f with
 |same r S v _ F=>rw[v]at O;cases O
 |mk r b S _ _ F=>rw[(qY S).2.2.2.1]at O;cases O
 |wt r e u q i n y _ _ F=>rw[n]at X;obtain rfl:=af7 X;exact y
theorem mC.old(L:mC C run ops W h0 tr)(g:k<=ops.size)(t:V<h0.length)(H:V∉W):(tr k).h[V]?=h0[V]?:=by
 rw[L.ba (k:=0) k (ag7 _) g (by rw[L.h0];exact t) (λj _ _ h=>by rcases L.tg h with h |h;omega;exact H h),L.h0]
theorem mC.own(L:mC C run ops W h0 tr):∀k,k<=ops.size->h0.length<=V->V<(tr k).h.length->∃j,j<k/\MH ops j/\(tr j).h.length=V:=by
 intro k
 induction k with
 |zero=>intro _ O X;rw[L.h0]at X;omega
 |succ k P=>
  intro g O X
  obtain⟨_,B,D⟩:=L.HG (k:=k) yxa
  by_cases d:MH ops k
  ·rw[B d]at X
   by_cases q:(tr k).h.length=V
   exact⟨k,by omega,d,q⟩
   ·obtain⟨j,a,b,c⟩:=P yxa O yxa;exact⟨j,by omega,b,c⟩
  ·rw[D d]at X;obtain⟨j,a,b,c⟩:=P yxa O X;exact⟨j,by omega,b,c⟩
theorem MH.lt(h:MH ops j):j<ops.size:=by obtain⟨o,f,_⟩:=h;exact(agw.1 f).1
theorem mC.SP(L:mC C run ops W h0 tr)(B:MH ops i)(M:MH ops j)(h:(tr i).h.length=(tr j).h.length):i=j:=by
 rcases aib i j with A |A |A
 ·have:=L.len (k:=i+1) j yxa (by have:=M.lt;omega);have:=(L.HG B.lt).2.1 B;omega
 exact A
 ·have:=L.len (k:=j+1) i yxa (by have:=B.lt;omega);have:=(L.HG M.lt).2.1 M;omega
structure afd(ops:Array Oper)(W:List Nat)(tr:Nat->St)(N:Nat)(F:Nat->Prop)(w0:World)(h0:ab)(Z0:List (Nat×Nat))(E:Nat->Bool)(a:Act)(w:World)(k:Nat)(Y:Nat->PV)(Z:List (Nat×Nat))(K:ab):Prop where
 kn:k<=ops.size
 wl:∀j,IsW ops j->(E j=true↔j<k)
 len:K.length=(tr ops.size).h.length
 old:∀id,id<h0.length->id∉W->K[id]?=h0[id]?
 wrt:∀id,id<h0.length->id∈W->K[id]?=(tr k).h[id]?
 bL:∀j o,MH ops j->E j=false->K[(tr j).h.length]?=some o->o.mu=.x
 slt:∀j,MH ops j->E j=true->K[(tr j).h.length]?=(tr (max k (j+1))).h[(tr j).h.length]?
 hr:bp w F Z K
 er:iA w (Av F K Z) Z K a Y
 rh:RH ops tr E Y
 sp:eN w0 h0 Z0 w K Z
 df:a.defers=[]
 sz:N<=a.tmps.size
variable{N:Nat}{F:Nat->Prop}{w0:World}{Z0:List (Nat×Nat)}{E E':Nat->Bool}{a:Act}{w:World}
def A8(ops:Array Oper)(W:List Nat)(z:Nat->St)(N:Nat)(F:Nat->Prop)(w0:World)(h0:ab)(Z0:List (Nat×Nat))(E:Nat->Bool)(a:Act)(w:World):Prop:=∃k Y Z K,afd ops W z N F w0 h0 Z0 E a w k Y Z K
theorem _root_.zck{P:Prop}(h:P:=by
 subst rA;obtain⟨y,J,_,c3⟩:=H;rw[R.at_]at J;obtain rfl:=af7 J;rw[ht]at c3;exact O (af7 c3)):P:=h
theorem A8.step(KO:dn C)(S:dJ C run)(L:mC C run ops W h0 tr)(D:A8 ops W tr N F w0 h0 Z0 E a w)(R:Eo ops E E' i o)(hd:fN N o=true)
  {Q:Exit->Act->World->Prop} {next:Act->World->Prop} (hK:∀a' w',A8 ops W tr N F w0 h0 Z0 E' a' w'->next a' w'):wpOp C.P ops Q i next a w:=by
 obtain⟨k,Y,Z,K,D⟩:=D;have hi:i<ops.size:=(agw.1 R.at_).1;have vF:=D.rh.PR L.r R;have jm:∀lv h,ar C run lv o.op Y h=ar C run lv o.op (tr i).Y h:=λlv h=>lZ vF
 have U:∀j,j≠i->E' j=E j:=λj f=>by
  have:=R.oD j;simp only[f,or_false]at this
  cases h1:E j <;>cases h2:E' j <;>simp_all
 have ei':E' i=true:=(R.oD i).2 (.inr rfl);have CS:bC ops o Y=some true:=by unfold bC;rw[(L.cls R.at_).1]
 have n:∀{p:Oper->Prop} {j:Nat},(∃y,ops[j]?=some y/\p y)->¬p o->j≠i:=λ{p j} h hn q=>by
  subst q;obtain⟨y,e,h⟩:=h;rw[R.at_]at e;obtain rfl:=af7 e;exact hn h
 unfold wpOp;rw[R.at_];simp only;rw[dg D.er CS,if_pos rfl];refine .inl ?_
 cases L.view R.at_ with
 |same r n1 n2 hv hy=>
  refine gX KO S D.hr D.er (by rw[jm];exact hv K D.old) (λv w' Z' q1 q2 q3 q4=>hK _ _ ⟨k,bZ Y o.dst r,Z',K,D.kn,λj f=>?_,D.len,D.old,D.wrt,λj ob f q=>?_,λj f q=>?_,q2,(D.er.mono q3).put (fp hd D.sz) q1,D.rh.on L.r R (by rw[hy]),D.sp.trans q3,by rw[cE];exact D.df,by rw[eD];exact D.sz⟩);rw[U j (n f (by rw[n2];simp))];exact D.wl j f;rw[U j (n f (by rw[n1];simp))]at q;exact D.bL j ob f q;rw[U j (n f (by rw[n1];simp))]at q;exact D.slt j f q
 |mk r ob h1 h2 hv hy=>
  have X:MH ops i:=⟨o,R.at_,h1⟩;have Fy:=(L.HG hi).2.1 X;have yd:=L.len (k:=i+1) ops.size yxa (agb _);have yM:=L.len (k:=0) i yxa yxa;rw[L.h0]at yM;have YH:(List.replicate (tr i).h.length (⟨.x,0,0,[]⟩:ax)).length=(tr i).h.length:=by simp
  have hMx:∀(V:Nat) (o:ax),(List.replicate (tr i).h.length (⟨.x,0,0,[]⟩:ax))[V]?=some o->o.mu≠.x->K[V]?=some o:=λV o e hx=>by
   have:=agq e;obtain⟨_,rfl⟩:=ahq.1 this;exact absurd rfl hx
  have hMc:br (List.replicate (tr i).h.length (⟨.x,0,0,[]⟩:ax))=true:=by
   unfold br;rw[af9]
   intro o ho
   obtain⟨_,rfl⟩:=ahq.1 ho
   rfl
  generalize hM:List.replicate (tr i).h.length (⟨.x,0,0,[]⟩:ax)=M at YH hMx hMc;obtain⟨HM,_⟩:=D.hr.part (M:=M) (by rw[YH,D.len];omega) hMx hMc;refine gX KO S (Y:=λ_=>.any) HM (λt=>.any _) (hv _ M YH) (λv w' Z1 q1 q2 q3 q4=>hK _ _ ?_);have G:=q4 (agb 1)
  obtain⟨Z',m1,m2,m3,m4,m5,m6⟩:=D.hr.merge (M:=M) (ext:=[ob]) (h':=K.set (tr i).h.length ob) (by rw[YH,D.len];simp;omega) hMx q2 q3 G (λo ho=>by
    rw[agu]at ho;subst ho;rw[h2];simp) yxb
   (λV g u=>by
    rw[YH]at g u ⊢;have:V=(tr i).h.length:=by simp at u;omega
    subst this;rw[agc (by rw[D.len];omega)];simp)
   (λV g=>aga (by rw[YH]at g;simp at g;omega))
   (λV y g u a3=>by
    rw[YH]at g u;have:V=(tr i).h.length:=by simp at u;omega
    subst this;exact D.bL i y X R.out a3)
  have pne:∀j,MH ops j->j≠i->(tr i).h.length≠(tr j).h.length:=λj f z q=>z (L.SP X f q).symm
  refine⟨k,bZ Y o.dst r,Z',K.set (tr i).h.length ob,D.kn,λj f=>?_,by simp[D.len],λV A hw=>?_,λV A hw=>?_,λj y f q FX=>?_,λj f q=>?_,m1,?_,D.rh.on L.r R (by rw[hy]),?_,by rw[cE];exact D.df,by rw[eD];exact D.sz⟩;rw[U j (n f (by rw[(qY h1).2.2.2.1];simp))];exact D.wl j f;rw[aga yxa];exact D.old V A hw;rw[aga yxa];exact D.wrt V A hw
  ·have z:j≠i:=λh=>by subst h;rw[ei']at q;cases q
   rw[aga (pne j f z)]at FX;rw[U j z]at q;exact D.bL j y f q FX
  ·by_cases z:j=i
   ·subst z;rw[agc (by rw[D.len];omega)];rw[L.ba (k:=j+1) (max k (j+1)) yxa (by have:=D.kn;omega) yxa (λj2 b1 b2 ht=>?_),hy];simp
    ·obtain⟨o2,J,c2,c3⟩:=ht;have hw:IsW ops j2:=⟨o2,J,c2⟩;have:=(D.wl j2 hw).2 yxa;have:=R.cl j2 j this (L.Ep hw (.inl X) yxa);rw[R.out]at this;cases this
   ·rw[aga (pne j f z)];rw[U j z]at q;exact D.slt j f q
  exact iA.put (λt=>(D.er t).UJ m2 (λb hb _=>G.ba b hb) m3) (fp hd D.sz) (m6 _ _ q1)
  ·refine⟨agI D.sp.size G.size,?_,?_,?_,D.sp.refs.trans m2,?_,G.os.trans D.sp.os,G.tape.trans D.sp.tape,G.output.trans D.sp.output,λd=>agI (D.sp.drawn d) (G.drawn d)⟩
   ·have:=D.sp.len;simpa using this
   ·intro b hb hm
    rw[G.ba b (agK hb D.sp.size)];exact D.sp.ba b hb hm
   ·intro b hb hm
    exact D.sp.shr b hb (m4 b (agK hb D.sp.size) hm)
   ·intro V y e1 e2
    obtain⟨f1,f2⟩:=D.sp.Ja V y e1 e2;have A:=ag e1;exact⟨by rw[aga yxa];exact f1,by rw[m5 V (by rw[YH];omega)];exact f2⟩
 |wt r V o1 o2 h1 ht A dm hv hy=>
  have B:IsW ops i:=⟨o,R.at_,h1⟩
  have Vl:k<=i:=by
   rcases agM i k with h |h;have:=(D.wl i B).2 h;rw[R.out]at this;cases this;exact h
  have wlt:∀j,IsW ops j->j<i->E j=true:=λj f cK=>R.Ep j (L.Ep B (.inr f) cK)
  have noW:∀j,k<=j->j<i->∀V,¬Tg ops tr j V:=λj g u V ⟨y,J,c2,_⟩=>by
   have:=(D.wl j ⟨y,J,c2⟩).1 (wlt j ⟨y,J,c2⟩ u);omega
  have afe:=L.len (k:=0) i yxa yxa;rw[L.h0]at afe
  have abc:K[V]?=some o1:=by
   by_cases cK:V<h0.length
   ·have hw:V∈W:=by rcases A with h |h;omega;exact h
    rw[D.wrt V cK hw,<-L.ba (k:=k) i Vl yxa ?_ (λj g u=>noW j g u _)];exact dm
    ·have:=L.len (k:=0) k yxa yxa;rw[L.h0]at this;omega
   ·obtain⟨j0,b1,b2,b3⟩:=L.own i yxa yxa (ag dm);have hE0:E j0=true:=R.Ep j0 (L.Ep B (.inl b2) b1);have yM:=(L.HG b2.lt).2.1 b2;rw[<-b3,D.slt j0 b2 hE0,<-L.ba (k:=max k (j0+1)) i yxa yxa ?_ (λj g u=>noW j yxa u _),b3];exact dm
    ·have:=L.len (k:=j0+1) (max k (j0+1)) yxa yxa;omega
  have plc:∀j,MH ops j->V=(tr j).h.length->j<i/\E j=true:=λj f O=>by
   have Ej:h0.length<=V:=by
    have:=L.len (k:=0) j yxa (by have:=f.lt;omega);rw[L.h0]at this;omega
   obtain⟨j0,b1,b2,b3⟩:=L.own i yxa Ej (ag dm);have:=L.SP b2 f (b3.trans O);subst this;exact⟨b1,R.Ep j0 (L.Ep B (.inl b2) b1)⟩
  refine gX KO S D.hr D.er (by rw[jm];exact hv K abc) (λv w' Z' q1 q2 q3 q4=>hK _ _ ⟨i+1,bZ Y o.dst r,Z',K.set V o2,by omega,λj f=>?_,by simp[D.len],λid2 tM UU=>?_,λid2 tM UU=>?_,λj ob f q FX=>?_,λj f q=>?_,q2,(D.er.mono q3).put (fp hd D.sz) q1,D.rh.on L.r R (by rw[hy]),D.sp.trans q3,by rw[cE];exact D.df,by rw[eD];exact D.sz⟩)
  ·constructor
   ·intro q
    rcases agM i j with hl |hl;rw[U j yxa,R.later (L.Ep f (.inr B) hl)]at q;cases q;omega
   ·intro cK
    by_cases rA:j=i
    subst rA;exact ei';exact(R.oD j).2 (.inl (wlt j f yxa))
  rw[aga (λh=>by subst h;rcases A with h |h;omega;exact UU h)];exact D.old id2 tM UU
  ·by_cases O:V=id2
   ·subst O;rw[agc (ag abc),hy];exact(agc (ag dm)).symm
   ·rw[aga O,D.wrt id2 tM UU];refine(L.ba (k:=k) (i+1) yxa yxa ?_ (λj2 g u H=>?_)).symm
    ·have:=L.len (k:=0) k yxa yxa;rw[L.h0]at this;omega
    ·by_cases rA:j2=i
     ·exact zck
     ·exact noW j2 g yxa _ H
  ·have z:j≠i:=n f (by rw[(lV h1).2.2.2.1];simp);rw[U j z]at q;have z8:V≠(tr j).h.length:=λh=>by rw[(plc j f h).2]at q;cases q
   rw[aga z8]at FX;exact D.bL j ob f q FX
  ·have z:j≠i:=n f (by rw[(lV h1).2.2.2.1];simp);rw[U j z]at q
   by_cases O:V=(tr j).h.length
   ·have B0:=(plc j f O).1;rw[<-O,agc (ag abc),show max (i+1) (j+1)=i+1 by omega,hy];exact(agc (ag dm)).symm
   ·rw[aga O,D.slt j f q];have hlj:=(L.HG f.lt).2.1 f;have hjl:=f.lt;refine(L.ba (k:=max k (j+1)) (max (i+1) (j+1)) yxa yxa ?_ (λj2 g u H=>?_)).symm
    ·have:=L.len (k:=j+1) (max k (j+1)) yxa yxa;omega
    ·by_cases rA:j2=i
     ·exact zck
     ·exact noW j2 yxa yxa _ H
theorem A8.done(L:mC C run ops W h0 tr)(D:A8 ops W tr N F w0 h0 Z0 E a w)(R:∀j,j<ops.size->E j=true):∃Z,SR N w F Z (tr ops.size) a/\eN w0 h0 Z0 w (tr ops.size).h Z:=by
 obtain⟨k,Y,Z,K,D⟩:=D
 have q:Y=(tr ops.size).Y:=by
  funext t
  refine D.rh t ops.size (agb _) (λj o M _=>?_);have:j<ops.size:=(agw.1 M).1;simp[R j this,this]
 have d:K=(tr ops.size).h:=by
  refine agZ (λV=>?_)
  by_cases O:V<h0.length
  ·by_cases H:V∈W
   ·rw[D.wrt V O H];refine(L.ba (k:=k) ops.size D.kn (agb _) ?_ (λe f S ⟨y,A,b,_⟩=>?_)).symm
    ·have:=L.len (k:=0) k yxa D.kn;rw[L.h0]at this;omega
    ·have:=(D.wl e ⟨y,A,b⟩).1 (R e S);omega
   ·rw[D.old V O H,L.old (agb _) O H]
  ·by_cases X:V<(tr ops.size).h.length
   ·obtain⟨j,g,U,P⟩:=L.own ops.size (agb _) yxa X;have i:=(L.HG U.lt).2.1 U;subst P;have u:=D.kn;rw[D.slt j U (R j g)];refine(L.ba (k:=max k (j+1)) ops.size yxa (agb _) ?_ (λe f S ⟨y,A,b,_⟩=>?_)).symm
    ·have:=L.len (k:=j+1) (max k (j+1)) yxa yxa;omega
    ·have:=(D.wl e ⟨y,A,b⟩).1 (R e S);omega
   ·rw[agr (by rw[D.len];omega),agr yxa]
 have O:=D.hr;have X:=D.er;have Q:=D.sp;rw[d]at O X Q;rw[q]at X;exact⟨Z,⟨O,X,D.df,D.sz⟩,Q⟩
theorem SQ(K:dn C)(S:dJ C run)(hm:C.P.follows .mixedOrders=true)(hd:ops.toList.all (fN N)=true)(v:iz ops=true)(hf:kb ops=true){Z:List (Nat×Nat)}{s U:St}(R:SR N w F Z s a)
  (e:eQ C run (Eh ops s.Y) s.h ops.toList s=some U) (hQ:∀u w' q,SR N w' F q U u->eN w s.h Z w' U.h q->Q .normal u w'):(Code.region V ops true).wp C.P Q a w:=by
 obtain⟨z,W,t2,t3⟩:=sM ops.toList 0 _ _ e;have H:z ops.size=U:=by simpa using t3
 have L:mC C run ops (Eh ops s.Y) s.h z:=⟨v,hf,λi o f=>by simpa using t2 i o (by simpa using f),by rw[W]⟩
 refine wp_region_any hm (td (C:=C) v (λE u w'=>A8 ops (Eh ops s.Y) z N F w s.h Z E u w')
  (λE E' u w' i o D y next hK=>A8.step K S L D y (af9.1 hd o (aij.2 (ahw y.at_))) hK)
  (λE u w' D eY=>?_) ops.size _ a _ yxb (λi o f A=>by rw[getD_none]at A;cases A) ?_ ?_)
 ·obtain⟨J,O,X⟩:=D.done L eY;rw[H]at O X;exact hQ u w' J O X
 refine agI (aid) yxb
 ·have d:∀j,(Array.replicate ops.size false).getD j false=false:=λj=>getD_none _ j
  have G:dH w {w with drawn:=w.drawn+1}:=dH.drew w;have A:=L.len (k:=0) ops.size (ag7 _) (agb _);rw[L.h0]at A;obtain⟨B,g⟩:=(R.hr.Cm G).pad (List.replicate ((z ops.size).h.length - s.h.length) ⟨.x,0,0,[]⟩) (List.replicate ((z ops.size).h.length - s.h.length) (0,0)) yxb (λo f=>by obtain⟨_,rfl⟩:=ahq.1 f;rfl);refine⟨0,s.Y,_,_,⟨ag7 _,λj _=>⟨λh=>(by rw[d]at h;cases h),λh=>by omega⟩,by simp;omega,λV b _=>af8 b,λV b _=>by rw[L.h0];exact af8 b,λj o hj _ f=>?_,λj _ h=>(by rw[d]at h;cases h),B,(R.er.mono (G.xa s.h Z)).mono g,?_,(G.xa s.h Z).trans g,R.df,R.sz⟩⟩
  ·have M:=L.len (k:=0) j (ag7 _) (by have:=hj.lt;omega);rw[L.h0]at M;rw[agl yxa]at f;have:=agq f;obtain⟨_,rfl⟩:=ahq.1 this
   rfl
  ·intro t k' im hw
   rw[L.r.ko (t:=t) (i:=0) k' (ag7 _) im (λj o O X h3 h4=>by
    have n:(Array.replicate ops.size false).getD j false=true:=(hw j o h3 h4).2 X;rw[d]at n;cases n),W]
end Go.Pm
namespace Go.Pm
variable{f:FuncId}{args:List PV}{h:ab}{Q:Ex->St->Prop}{a b:Code}{c x:Operand}{s:St}{ops:Array Oper}{r:PV}{H:Op}
def al:List (Nat×PV)->(Nat->PV)->Nat->PV
 |[],Y,t=>Y t
 |(k,v)::L,Y,t=>if t=k then v else al L Y t
theorem Rb(Y:Nat->PV):∀(L:List (Nat×PV)),(∀x∈L,Y x.1=x.2)->al L Y=Y
 |[],_=>by funext t;rfl
 |(k,v)::L,h=>by
  funext t
  simp only[al]
  split
  ·rename_i g;rw[g];exact(h (k,v) yxb).symm
  rw[Rb Y L (λx U=>h x yxl)]
def Ev(C:cA)(c:Code)(s:St)(Q:Ex->St->Prop):Prop:=
 ∃A U,Q A U/\∃B,∀n m,B<=n->B<=m->bT C (dC C n) m c s=some (A,U)
def ai(C:cA)(ops:Array Oper)(l:List Oper)(s:St)(Q:St->Prop):Prop:=
 ∃U,Q U/\∃B,∀n,B<=n->eB C (dC C n) ops l s=some U
def ah(C:cA)(lv:Nat)(f:FuncId)(args:List PV)(h:ab)(Q:PV->ab->Prop):Prop:=
 ∃r d,Q r d/\∃B,∀n,B<=n->dG C (dC C n) lv f args h=some (r,d)
def ay(C:cA)(f:FuncId)(args:List PV)(h:ab)(Q:PV->ab->Prop):Prop:=
 ∃r d,Q r d/\∃B,∀n,B<=n->dC C n f args h=some (r,d)
variable{C:cA}
theorem ay.mono{Q b:PV->ab->Prop}(a:ay C f args h Q)(y:∀r h,Q r h->b r h):ay C f args h b:=by
 obtain⟨r,d,q,e⟩:=a;exact⟨r,d,y _ _ q,e⟩
theorem Ev.skip{s:St}{Q:Ex->St->Prop}(h:Q .normal s):Ev C .skip s Q:=⟨_,_,h,0,λ_ _ _ _=>rfl⟩
theorem Ev.label{l:Nat}{s:St}{Q:Ex->St->Prop}(h:Q .normal s):Ev C (.label l) s Q:=⟨_,_,h,0,λ_ _ _ _=>rfl⟩
theorem Ev.exit{V:Nat}{s:St}{Q:Ex->St->Prop}(h:Q (.exit V) s):Ev C (.exit V) s Q:=⟨_,_,h,0,λ_ _ _ _=>rfl⟩
theorem Ev.ret{s:St}{Q:Ex->St->Prop}(h:Q .ret s):Ev C .ret s Q:=⟨_,_,h,0,λ_ _ _ _=>rfl⟩
theorem Ev.scope{c:Code}{s:St}{Q:Ex->St->Prop}(h:Ev C c s Q):Ev C (.scope c) s Q:=by
 obtain⟨A,U,q,B,z⟩:=h;exact⟨A,U,q,B,λn m O X=>by simpa[bT]using z n m O X⟩
def aE(C:cA)(b:Code)(Q:Ex->St->Prop):Ex->St->Prop
 | .normal,s=>Ev C b s Q
 |A,s=>Q A s
theorem Ev.seq{a b:Code}{s:St}{Q:Ex->St->Prop}(h:Ev C a s (aE C b Q)):Ev C (.seq a b) s Q:=by
 obtain⟨A,U,q,B,z⟩:=h
 cases A with
 |normal=>
  obtain⟨v,e,d,S,t⟩:=q;exact⟨v,e,d,max B S,λn m O X=>by simp only[bT,z n m yxa yxa,t n m yxa yxa]⟩
 |exit V=>exact⟨_,_,q,B,λn m O X=>by simp only[bT,z n m O X]⟩
 |ret=>exact⟨_,_,q,B,λn m O X=>by simp only[bT,z n m O X]⟩
theorem Ev.LQ(G:ev s.Y c=.bool true)(h:Ev C a s Q):Ev C (.cond c a b) s Q:=by
 obtain⟨A,U,q,B,z⟩:=h;exact⟨A,U,q,B,λn m O X=>by simp only[bT,G,z n m O X]⟩
theorem Ev.LS(G:ev s.Y c=.bool false)(h:Ev C b s Q):Ev C (.cond c a b) s Q:=by
 obtain⟨A,U,q,B,z⟩:=h;exact⟨A,U,q,B,λn m O X=>by simp only[bT,G,z n m O X]⟩
def az(V:Nat)(Q:Ex->St->Prop):Ex->St->Prop
 | .exit S,s=>if S=V then Q .normal s else Q (.exit S) s
 |A,s=>Q A s
theorem Ev.block{V:Nat}{c:Code}{s:St}{Q:Ex->St->Prop}(h:Ev C c s (az V Q)):Ev C (.block V c) s Q:=by
 obtain⟨A,U,q,B,z⟩:=h
 cases A with
 |normal=>exact⟨_,_,q,B,λn m O X=>by simp only[bT,z n m O X]⟩
 |exit S=>
  simp only[az]at q
  by_cases t:S=V
  ·rw[if_pos t]at q;exact⟨_,_,q,B,λn m O X=>by simp only[bT,z n m O X,if_pos t]⟩
  ·rw[if_neg t]at q;exact⟨_,_,q,B,λn m O X=>by simp only[bT,z n m O X,if_neg t]⟩
 |ret=>exact⟨_,_,q,B,λn m O X=>by simp only[bT,z n m O X]⟩
def aO(I:St->Prop)(Q:Ex->St->Prop):Ex->St->Prop
 | .normal,s=>I s
 |A,s=>Q A s
theorem _root_.zbk{P:Prop}(h:P:=by
 
 refine⟨_,_,q,B+1,λn m i O X b=>?_⟩;obtain⟨i,rfl⟩:∃a,i=a+1:=⟨i - 1,by omega⟩;simp only[iter,z n m yxa yxa]):P:=h
theorem Ev.loop{c:Code}{s:St}{Q:Ex->St->Prop}(I:Nat->St->Prop)(k:Nat)(h0:I k s)(D:∀k s,I k s->Ev C c s (aO (λU=>∃j,j<k/\I j U) Q)):Ev C (.loop c) s Q:=by
 have H:∀(k:Nat) (s:St),I k s->∃A U,Q A U/\∃B,∀n m j,B<=n->B<=m->B<=j->iter (bT C (dC C n) m c) j s=some (A,U):=by
  intro k
  induction k using Nat.strongRecOn with
  |ind k P=>
   intro s S
   obtain⟨A,U,q,B,z⟩:=D k s S
   cases A with
   |normal=>
    obtain⟨j,M,d⟩:=q;obtain⟨v,g,f,e,t⟩:=P j M U d;refine⟨v,g,f,max B e+1,λn m i O X b=>?_⟩;obtain⟨i,rfl⟩:∃a,i=a+1:=⟨i - 1,by omega⟩;simp only[iter,z n m yxa yxa,t n m i yxa yxa yxa]
   |exit V=>exact zbk
   |ret=>exact zbk
 obtain⟨A,U,q,B,z⟩:=H k s h0;exact⟨A,U,q,B,λn m O X=>by simp only[bT,z n m m O X X]⟩
theorem Ev.region{V:Nat}{ops:Array Oper}{s:St}{Q:Ex->St->Prop}(h:ai C ops ops.toList s (Q .normal)):Ev C (.region V ops false) s Q:=by
 obtain⟨U,q,B,z⟩:=h;exact⟨.normal,U,q,B,λn m O X=>by simp only[bT,agn,if_false,z n O]⟩
theorem ai.nil{Q:St->Prop}(h:Q s):ai C ops [] s Q:=⟨s,h,0,λ_ _=>rfl⟩
theorem ai.step{o:Oper}{r:List Oper}{s1:St}{Q:St->Prop}(e:∀run,gL C run ops o s=some s1)(h:ai C ops r s1 Q):ai C ops (o::r) s Q:=by
 obtain⟨U,q,B,z⟩:=h;exact⟨U,q,B,λn O=>by simp only[eB,e,z n O]⟩
theorem _root_.za1{P:Prop}(h:P:=by
 obtain⟨v,h',⟨b,q,S,t⟩,B,z⟩:=G;refine⟨b,q,max B S,λn O=>?_⟩
 have:ar C (dC C n) 2 o.op s.Y s.h=some (v,h'):=by
  rw[a];simp only[ar,U,gp,u,j];exact z n yxa
 simp only[eB,gL,H,this,t n yxa]):P:=h
theorem ai.call{ops:Array Oper}{o:Oper}{r:List Oper}{s:St}{Q:St->Prop}{c:Call}{x:Operand}{f:FuncId}{M args:List PV}(H:bC ops o s.Y=some true)(a:o.op=.call c)(U:c.callee=.value x)(u:ev s.Y x=.fn f M)
  (j:c.args.toList.map (ev s.Y)++M=args) (G:ah C 2 f args s.h (λv h'=>ai C ops r ⟨bZ s.Y o.dst v,h'⟩ Q)):ai C ops (o::r) s Q:=by
 exact za1
theorem ay.body{f:FuncId}{i:Func}{c:Code}{args:List PV}{h:ab}{Q:PV->ab->Prop}(u:C.P.funcs[f]?=some i)(W:i.body=some c)
  (e:Ev C c ⟨pP args,h⟩ (λA s=>(A=.normal\/A=.ret)/\∃vs,dM C.P s.h s.Y i.results.toList=some vs/\Q (bo vs) s.h)):ay C f args h Q:=by
 obtain⟨A,s,⟨M,vs,a,q⟩,B,z⟩:=e;refine⟨_,_,q,B+1,λn O=>?_⟩;obtain⟨n,rfl⟩:∃b,n=b+1:=⟨n - 1,by omega⟩;show rj C (dC C n) n f args h=_;unfold rj;rw[u];simp only[W,z n n yxa yxa];rcases M with rfl |rfl <;>simp only[a]
def aT(C:cA)(f:FuncId)(args:List PV)(r:PV):Prop:=∃B,∀n,B<=n->∃R G b,dC C n f args []=some (R,G)/\yb G R=some b/\b9 b=r
theorem kr{p:PV}(e:rb h p=some r):yb h p=some r:=by unfold yb;rw[e]
theorem aT.ofX(e:ay C f args [] (λR G=>∃b,yb G R=some b/\b9 b=r)):aT C f args r:=by
 obtain⟨R,G,⟨b,O,X⟩,B,z⟩:=e;exact⟨B,λn h=>⟨R,G,b,z n h,O,X⟩⟩
theorem aT.of(e:ay C f args [] (λR G=>∃b,rb G R=some b/\b9 b=r)):aT C f args r:=by
 obtain⟨R,G,⟨b,O,X⟩,B,z⟩:=e;exact⟨B,λn h=>⟨R,G,b,z n h,kr O,X⟩⟩
theorem aT.rk{f:FuncId}{args:List PV}{r:PV}(a:aT C f args r):∃n,rk C n f args=some r:=by
 obtain⟨B,z⟩:=a;obtain⟨R,G,b,O,X,Q⟩:=z B (agb _);exact⟨B,by unfold Pm.rk;rw[O];simp[X,Q]⟩
theorem ah.pure{lv:Nat}{f:FuncId}{args:List PV}{r:PV}{h:ab}{Q:PV->ab->Prop}(d:C.mode f=.pure)(J:aw args=true)(a:aT C f (aY args) r)(q:Q r h):ah C lv f args h Q:=by
 obtain⟨B,z⟩:=a;refine⟨r,h,q,B,λn O=>?_⟩;obtain⟨R,G,b,D,N,P⟩:=z n O;unfold dG;rw[d];simp only[dL,J,if_true,D,N,P]
theorem ah.opened{f:FuncId}{args:List PV}{h:ab}{Q:PV->ab->Prop}(d:C.mode f=.opened)
  (a:ay C f args h (λr h'=>Q r (if eI h.length r&& (h'.take h.length).all (λo=>o.es.all (cY h.length))then h'.take h.length else h'))):ah C 2 f args h Q:=by
 obtain⟨r,h',q,B,z⟩:=a;refine⟨r,_,q,B,λn O=>?_⟩;unfold dG;rw[d];simp only[jj,eP,agb,if_true,z n O]
 split <;>rfl
theorem ah.ext{lv:Nat}{f:FuncId}{g:List PV->Option PV}{args:List PV}{r:PV}{h:ab}{Q:PV->ab->Prop}(d:C.mode f=.ext g)(J:aw args=true)(a:g (aY args)=some r)(q:Q r h):ah C lv f args h Q:=by
 refine⟨r,h,q,0,λn O=>?_⟩;unfold dG;rw[d];simp only[J,if_true,a,ago]
section
variable{ops:Array Oper}{d:Option Nat}{ty:TypeId}{pos:String}{af:Array Edge}{g:Option (Nat×Bool)}{r:List Oper}{Y:Nat->PV}{h:ab}{Q:St->Prop}
theorem ai.val{v:PV}{h':ab}(a:bC ops ⟨d,H,ty,pos,af,g⟩ Y=some true)(G:∀run,ar C run 2 H Y h=some (v,h'))(k:ai C ops r ⟨bZ Y d v,h'⟩ Q):ai C ops (⟨d,H,ty,pos,af,g⟩::r) ⟨Y,h⟩ Q:=
 ai.step (s1:=⟨bZ Y d v,h'⟩) (λrun=>by simp only[gL,a,G]) k
theorem ai.off(a:bC ops ⟨d,H,ty,pos,af,g⟩ Y=some false)(k:ai C ops r ⟨bZ Y d .undef,h⟩ Q):ai C ops (⟨d,H,ty,pos,af,g⟩::r) ⟨Y,h⟩ Q:=
 ai.step (s1:=⟨bZ Y d .undef,h⟩) (λX=>by simp only[gL,a]) k
def JE:BinOp->Int->Int->Option Prop
 | .eql,a,b=>some (a=b)
 | .neq,a,b=>some (a≠b)
 | .lss,a,b=>some (a<b)
 | .leq,a,b=>some (a<=b)
 | .gtr,a,b=>some (b<a)
 | .geq,a,b=>some (b<=a)
 |_,_,_=>none
theorem ai.cmp{e:BinOp}{t u:TypeId}{y:Operand}{k:IntKind}{a b:Int}{p:Prop}(H:bC ops ⟨d,.binOp e t x y u,ty,pos,af,g⟩ Y=some true)(U:ev Y x=.int k a)(F:ev Y y=.int k b)(K:JE e a b=some p)
  (f:p->ai C ops r ⟨bZ Y d (.bool true),h⟩ Q) (A:¬p->ai C ops r ⟨bZ Y d (.bool false),h⟩ Q):ai C ops (⟨d,.binOp e t x y u,ty,pos,af,g⟩::r) ⟨Y,h⟩ Q:=by
 by_cases R:p
 ·refine ai.val (v:=.bool true) (h':=h) H (λX=>?_) (f R);simp only[ar,aD,U,F]
  cases e <;>simp only[JE,agx,reduceCtorEq]at K <;>subst K <;>simp[fS,ja,R]
 ·refine ai.val (v:=.bool false) (h':=h) H (λX=>?_) (A R);simp only[ar,aD,U,F]
  cases e <;>simp only[JE,agx,reduceCtorEq]at K <;>subst K <;>simp[fS,ja,R] <;>omega
theorem ai.acH{c:Call}{M:List PV}(H:bC ops ⟨d,.call c,ty,pos,af,g⟩ Y=some true)(U:c.callee=.value x)(u:ev Y x=.fn f M)
  (j:c.args.toList.map (ev Y)++M=args) (G:ah C 2 f args h (λv h'=>ai C ops r ⟨bZ Y d v,h'⟩ Q)):ai C ops (⟨d,.call c,ty,pos,af,g⟩::r) ⟨Y,h⟩ Q:=
 ai.call H rfl U u j G
end
end Go.Pm
namespace Go.Pm
variable{P:Program}{k:IntKind}{V ep i j len n off sz:Nat}{L:List (Nat×PV)}{b full t:Bool}{Z c x y:Operand}{H:Op}{o:ax}{e p:PV}{cs es f:List PV}{a:ByteArray}{xs:List Operand}{s:St}{h:ab}
inductive Kd where
 |str
 |bool
 |int (k:IntKind)
 |sl (e:TypeId)
 |arr (n:Nat) (e:TypeId)
 |st (offs:List (Nat×TypeId))
 |mp (k e:TypeId)
 |other
def rG:TypeDesc->Kd
 | .string=>.str
 | .bool=>.bool
 | .int k=>.int k
 | .slice e=>.sl e
 | .array n e=>.arr n e
 | .struct fs=>.st (fs.toList.map λf=>(f.offset,f.type))
 | .map k e=>.mp k e
 |_=>.other
structure li(P:Program) where
 ts:Nat->Option Nat
 ta:Nat->Option Bool
 tz:Nat->Option PV
 tb:Nat->Option Nat
 kd:Nat->Option Kd
 eT:∀t n,ts t=some n->dF P t=some n
 Ts:∀t n,ta t=some n->Nn P t=some n
 pJ:∀t n,tz t=some n->jN P t=some n
 vg:∀t n,tb t=some n->pu P t=some n
 dA:∀t n,kd t=some n->(P.underlying t).map rG=some n
variable{C:cA}(T:li C.P)
variable{ops:Array Oper}{d:Nat}{ty:TypeId}{pos:String}{af:Array Edge}{r:List Oper}{Y:Nat->PV}{L:List (Nat×PV)}{h:ab}{Q:St->Prop}
theorem pz{t:TypeId}{k:Kd}(e:(P.underlying t).map rG=some k):∃u,P.underlying t=some u/\rG u=k:=by
 cases y:P.underlying t with
 |none=>rw[y]at e;simp at e
 |some u=>rw[y]at e;exact⟨u,rfl,af7 e⟩
theorem qX{t:TypeId}(e:(P.underlying t).map rG=some .str):P.underlying t=some .string:=by
 obtain⟨u,O,X⟩:=pz e
 cases u <;>simp[rG]at X;exact O
theorem E6{t:TypeId}(e:(P.underlying t).map rG=some .bool):P.underlying t=some .bool:=by
 obtain⟨u,O,X⟩:=pz e
 cases u <;>simp[rG]at X;exact O
theorem MW{t k el:TypeId}(e:(P.underlying t).map rG=some (.mp k el)):P.underlying t=some (.map k el):=by
 obtain⟨u,O,X⟩:=pz e
 cases u <;>simp[rG]at X
 rw[O,X.1,X.2]
theorem bG{t el:TypeId}(e:(P.underlying t).map rG=some (.sl el)):P.underlying t=some (.slice el):=by
 obtain⟨u,O,X⟩:=pz e
 cases u <;>simp[rG]at X;subst X;exact O
theorem KP{t el:TypeId}(e:(P.underlying t).map rG=some (.arr n el)):P.underlying t=some (.array n el):=by
 obtain⟨u,O,X⟩:=pz e
 cases u <;>simp[rG]at X;obtain⟨rfl,rfl⟩:=X;exact O
theorem uv{t:TypeId}(e:(P.underlying t).map rG=some (.int k)):P.underlying t=some (.int k):=by
 obtain⟨u,O,X⟩:=pz e
 cases u <;>simp[rG]at X;subst X;exact O
theorem Tt{t:TypeId}{G:List (Nat×TypeId)}(e:(P.underlying t).map rG=some (.st G)):∃V,P.underlying t=some (.struct V)/\V.toList.map (λf=>(f.offset,f.type))=G:=by
 obtain⟨u,O,X⟩:=pz e
 cases u <;>simp[rG]at X;exact⟨_,O,X⟩
def lk:List (Nat×PV)->Nat->Option PV
 |[],_=>none
 |(k,v)::L,t=>if t=k then some v else lk L t
def cW(L:List (Nat×PV)):Operand->Option PV
 | .tmp t=>lk L t
 | .const (.int k n)=>some (.int k n)
 | .const (.bool b)=>some (.bool b)
 | .const (.string s)=>some (.str s)
 | .const (.slice none 0 0)=>some (.aa true [])
 | .const (.pointer none)=>some .ji
 | .const .nilFunc=>some .mM
 | .const (.map none)=>some .jD
 | .const v=>some (cv v)
 | .func f=>some (.fn f [])
 | .global g=>(zA g).map λp=>.eX [p]
def Bw(L:List (Nat×PV)):List Operand->Option (List PV)
 |[]=>some []
 |x::f=>match cW L x,Bw L f with
  |some v,some W=>some (v::W)
  |_,_=>none
theorem fi{t:Nat}{v:PV}(e:lk L t=some v)(Y:Nat->PV):al L Y t=v:=by
 induction L with
 |nil=>cases e
 |cons x L P=>
  obtain⟨k,u⟩:=x;simp only[lk]at e;simp only[al]
  split at e
  ·rename_i g;rw[if_pos g];exact af7 e
  ·rename_i g;rw[if_neg g];exact P e
theorem ak{v:PV}(e:cW L x=some v)(Y:Nat->PV):ev (al L Y) x=v:=by
 unfold cW at e
 split at e <;>first
  |exact fi e Y
  |(cases e;done)
  |(obtain rfl:=af7 e;rfl)
  |(rename_i g;cases N:zA g with
    |none=>rw[N]at e;cases e
    |some p=>rw[N]at e;cases e;simp[ev,N])
theorem gV{L:List (Nat×PV)}{Y:Nat->PV}:∀{xs:List Operand} {vs:List PV},Bw L xs=some vs->xs.map (ev (al L Y))=vs
 |[],vs,e=>by simp[Bw]at e;subst e;rfl
 |x::xs,vs,e=>by
  simp only[Bw]at e
  split at e
  ·rename_i v n O X
   obtain rfl:=af7 e;simp[ak O,gV X]
  cases e
theorem cy(d:Nat)(v:PV)(L:List (Nat×PV))(Y:Nat->PV):bZ (al L Y) (some d) v=al ((d,v)::L) Y:=by
 funext t
 simp only[bZ,oD,al]
theorem ai.fO{v:PV}{h':ab}(G:∀run,ar C run 2 H (al L Y) h=some (v,h'))(k:ai C ops r ⟨al ((d,v)::L) Y,h'⟩ Q):ai C ops (⟨some d,H,ty,pos,af,none⟩::r) ⟨al L Y,h⟩ Q:=
 ai.val rfl G (by rw[cy];exact k)
theorem R.FN(J:(ops.toList[j]?).bind (·.dst)=some V)(W:lk L V=some (.bool b))(a:(b==t)=true)(k:ai C ops (⟨some d,H,ty,pos,af,none⟩::r) ⟨al L Y,h⟩ Q):
  ai C ops (⟨some d,H,ty,pos,af,some (j,t)⟩::r) ⟨al L Y,h⟩ Q:=by
 obtain⟨U,q,B,z⟩:=k;refine⟨U,q,B,λn O=>?_⟩;rw[<-z n O];simp only[eB,gL,bC,J,fi W,a]
theorem R.vA(J:(ops.toList[j]?).bind (·.dst)=some V)(W:lk L V=some (.bool b))(q:(b==t)=false)(k:ai C ops r ⟨al ((d,.undef)::L) Y,h⟩ Q):
  ai C ops (⟨some d,H,ty,pos,af,some (j,t)⟩::r) ⟨al L Y,h⟩ Q:=ai.off (by simp only[bC,J,fi W,q]) (by rw[cy];exact k)
theorem R.gUn(J:(ops.toList[j]?).bind (·.dst)=some V)(W:lk L V=some .undef)(k:ai C ops r ⟨al ((d,.undef)::L) Y,h⟩ Q):
  ai C ops (⟨some d,H,ty,pos,af,some (j,t)⟩::r) ⟨al L Y,h⟩ Q:=ai.off (by simp only[bC,J,fi W]) (by rw[cy];exact k)
theorem R.move{x:Operand}{v:PV}(U:cW L x=some (v))(k:ai C ops r ⟨al ((d,v)::L) Y,h⟩ Q):ai C ops (⟨some d,.move x,ty,pos,af,none⟩::r) ⟨al L Y,h⟩ Q:=
 ai.fO (λX=>by simp only[ar,aD,ak U]) k
theorem R.assign{x:Operand}{v:PV}(U:cW L x=some (v))(k:ai C ops r ⟨al ((d,v)::L) Y,h⟩ Q):ai C ops (⟨some d,.assign x,ty,pos,af,none⟩::r) ⟨al L Y,h⟩ Q:=
 ai.fO (λX=>by simp only[ar,aD,ak U]) k
theorem R.oV{v:PV}(G:cW L c=some (.bool true))(U:cW L x=some (v))(k:ai C ops r ⟨al ((d,v)::L) Y,h⟩ Q):ai C ops (⟨some d,.pick c x y,ty,pos,af,none⟩::r) ⟨al L Y,h⟩ Q:=
 ai.fO (λX=>by simp only[ar,aD,ak G,ak U,if_true]) k
theorem R.nD{v:PV}(G:cW L c=some (.bool false))(U:cW L y=some (v))(k:ai C ops r ⟨al ((d,v)::L) Y,h⟩ Q):ai C ops (⟨some d,.pick c x y,ty,pos,af,none⟩::r) ⟨al L Y,h⟩ Q:=
 ai.fO (λX=>by simp only[ar,aD,ak G,ak U,agn,if_false]) k
inductive KQ(o:ax):ab->ab->Nat->Prop
 |nil:KQ o [] [o] 0
 |cons {x:ax} {l l':ab} {n:Nat}:KQ o l l' n->KQ o (x::l) (x::l') (n+1)
theorem KQ.eq{l H:ab}(a:KQ o l H n):H=l++[o]/\n=l.length:=by
 induction a with
 |nil=>exact⟨rfl,rfl⟩
 |cons _ P=>obtain⟨rfl,rfl⟩:=P;exact⟨rfl,rfl⟩
theorem R.box{t:TypeId}{x:Operand}{v:PV}{n V:Nat}{h':ab}(U:cW L x=some (v))(h1:(cells v).all bP=true)(A:(cells v).length=n+1)(j:KQ ⟨.m,0,n+1,[v]⟩ h h' V)(k:ai C ops r ⟨al ((d,(.ptr V 0 0 0))::L) Y,h'⟩ Q):
  ai C ops (⟨some d,.box t x,ty,pos,af,none⟩::r) ⟨al L Y,h⟩ Q:=by
 obtain⟨rfl,rfl⟩:=j.eq;exact ai.fO (λX=>by simp[ar,aD,ak U,h1,A,newObj]) k
theorem R.alloc{t:TypeId}{z:PV}{n V:Nat}{h':ab}(M:T.tz t=some z)(h1:(cells z).all bP=true)(A:(cells z).length=n+1)(j:KQ ⟨.m,0,n+1,[z]⟩ h h' V)(k:ai C ops r ⟨al ((d,(.ptr V 0 0 0))::L) Y,h'⟩ Q):
  ai C ops (⟨some d,.alloc t,ty,pos,af,none⟩::r) ⟨al L Y,h⟩ Q:=by
 obtain⟨rfl,rfl⟩:=j.eq;exact ai.fO (λX=>by simp[ar,aD,T.pJ _ _ M,h1,A,newObj]) k
theorem R.kr{t:TypeId}{c:PV}(U:cW L x=some (p))(S:T.ts t=some sz)(Z:T.ta t=some false)(K:dP h p=some (c::cs))(k:ai C ops r ⟨al ((d,c)::L) Y,h⟩ Q):
  ai C ops (⟨some d,.load t x,ty,pos,af,none⟩::r) ⟨al L Y,h⟩ Q:=
 ai.fO (λX=>by simp[ar,aD,ak U,jO,T.eT _ _ S,T.Ts _ _ Z,K]) k
inductive ug:Nat->List PV->List PV->Prop
 |zero {l:List PV}:ug 0 l []
 |succ {n:Nat} {x:PV} {l l':List PV}:ug n l l'->ug (n+1) (x::l) (x::l')
theorem ug.eq{l H:List PV}(a:ug n l H):H=l.take n/\n<=l.length:=by
 induction a with
 |zero=>simp
 |succ _ P=>obtain⟨rfl,h⟩:=P;simp;omega
theorem R.vK{t:TypeId}(U:cW L x=some (p))(S:T.ts t=some (sz+1))(Z:T.ta t=some true)(K:dP h p=some cs)(G:ug (sz+1) cs f)(k:ai C ops r ⟨al ((d,(.agg f))::L) Y,h⟩ Q):
  ai C ops (⟨some d,.load t x,ty,pos,af,none⟩::r) ⟨al L Y,h⟩ Q:=by
 obtain⟨rfl,a⟩:=G.eq;exact ai.fO (λX=>by simp[ar,aD,ak U,jO,T.eT _ _ S,T.Ts _ _ Z,K,a]) k
theorem pp{s:TypeId}{f:Nat}{F:TypeId}{G:List (Nat×TypeId)}(g:T.kd s=some (.st G))(u:G[f]?=some (off,F))(S:T.ts F=some (sz+1)):rM C.P s f=some (off,F):=by
 obtain⟨V,O,X⟩:=Tt (T.dA _ _ g);rw[<-X,agt]at u
 cases H:V.toList[f]? with
 |none=>rw[H]at u;cases u
 |some n=>
  rw[H]at u;simp at u;obtain⟨rfl,rfl⟩:=u;have:V[f]?=some n:=by simpa using H
  simp[rM,O,this,T.eT _ _ S]
theorem R.fieldAddr{s:TypeId}{x:Operand}{f V ep i o off:Nat}{F:TypeId}{G:List (Nat×TypeId)}{sz:Nat}(U:cW L x=some (.ptr V ep i o))(g:T.kd s=some (.st G))(u:G[f]?=some (off,F))(S:T.ts F=some (sz+1))
  (k:ai C ops r ⟨al ((d,(.ptr V ep i (o+off)))::L) Y,h⟩ Q):ai C ops (⟨some d,.fieldAddr s x f,ty,pos,af,none⟩::r) ⟨al L Y,h⟩ Q:=
 ai.fO (λX=>by simp[ar,aD,ak U,iu,pp T g u S]) k
theorem R.cmp{f:BinOp}{t u:TypeId}{x y:Operand}{k:IntKind}{a b:Int}{p:Prop}(U:cW L x=some (.int k a))(F:cW L y=some (.int k b))(K:JE f a b=some p)
  (g:p->ai C ops r ⟨al ((d,(.bool true))::L) Y,h⟩ Q) (A:¬p->ai C ops r ⟨al ((d,(.bool false))::L) Y,h⟩ Q):ai C ops (⟨some d,.binOp f t x y u,ty,pos,af,none⟩::r) ⟨al L Y,h⟩ Q:=ai.cmp rfl (ak U Y) (ak F Y) K (λe=>by rw[cy];exact g e) (λe=>by rw[cy];exact A e)
def arith:BinOp->Int->Int->Option Int
 | .add,a,b=>some (a+b)
 | .sub,a,b=>some (a - b)
 | .mul,a,b=>some (a * b)
 |_,_,_=>none
theorem R.arith{e:BinOp}{t u:TypeId}{x y:Operand}{k:IntKind}{a b c c':Int}(U:cW L x=some (.int k a))(F:cW L y=some (.int k b))(K:Pm.arith e a b=some c)(H:k.wrap c=c')(w:ai C ops r ⟨al ((d,(.int k c'))::L) Y,h⟩ Q):
  ai C ops (⟨some d,.binOp e t x y u,ty,pos,af,none⟩::r) ⟨al L Y,h⟩ Q:=by
 refine ai.fO (λX=>?_) w;simp only[ar,aD,ak U,ak F]
 cases e <;>simp only[Pm.arith,agx,reduceCtorEq]at K <;>subst K <;>simp[fS,ja,H]
theorem R.YF{t u:TypeId}{b:ByteArray}(U:cW L x=some (.str a))(F:cW L y=some (.str b))(f:a.toList=b.toList->ai C ops r ⟨al ((d,(.bool true))::L) Y,h⟩ Q)(A:a.toList≠b.toList->ai C ops r ⟨al ((d,(.bool false))::L) Y,h⟩ Q):
  ai C ops (⟨some d,.binOp .eql t x y u,ty,pos,af,none⟩::r) ⟨al L Y,h⟩ Q:=by
 by_cases e:a.toList=b.toList
 exact ai.fO (λX=>by simp[ar,aD,ak U,ak F,fS,pL,e]) (f e);exact ai.fO (λX=>by simp[ar,aD,ak U,ak F,fS,pL,e]) (A e)
def Tu:BinOp->ByteArray->ByteArray->Option Bool
 | .lss,a,b=>some (Op.bytesLess a.toList b.toList)
 | .gtr,a,b=>some (!(Op.bytesLess a.toList b.toList ||a.toList==b.toList))
 | .neq,a,b=>some (!(a.toList==b.toList))
 |_,_,_=>none
theorem R.ZQ{e:BinOp}{t u:TypeId}{b:ByteArray}{p:Bool}(U:cW L x=some (.str a))(F:cW L y=some (.str b))(K:Tu e a b=some p)
  (f:p=true->ai C ops r ⟨al ((d,.bool true)::L) Y,h⟩ Q) (A:p=false->ai C ops r ⟨al ((d,.bool false)::L) Y,h⟩ Q):
  ai C ops (⟨some d,.binOp e t x y u,ty,pos,af,none⟩::r) ⟨al L Y,h⟩ Q:=by
 have H:∀X,ar C X 2 (.binOp e t x y u) (al L Y) h=some (.bool p,h):=λX=>by
  simp only[ar,aD,ak U,ak F]
  cases e <;>simp only[Tu,agx,reduceCtorEq]at K <;>subst K <;>simp[fS,pL]
 cases p with
 |false=>exact ai.fO H (A rfl)
 |true=>exact ai.fO H (f rfl)
theorem R.not{t:TypeId}{x:Operand}{b g:Bool}(U:cW L x=some (.bool b))(W:(!b)=g)(k:ai C ops r ⟨al ((d,(.bool g))::L) Y,h⟩ Q):ai C ops (⟨some d,.unOp .not t x,ty,pos,af,none⟩::r) ⟨al L Y,h⟩ Q:=
 ai.fO (λX=>by simp[ar,aD,ak U,Zi,W]) k
theorem R.nilCheck{x:Operand}{V ep i o:Nat}(U:cW L x=some (.ptr V ep i o))(k:ai C ops r ⟨al ((d,(.ptr V ep i o))::L) Y,h⟩ Q):ai C ops (⟨some d,.nilCheck x,ty,pos,af,none⟩::r) ⟨al L Y,h⟩ Q:=
 ai.fO (λX=>by simp[ar,aD,ak U]) k
theorem R.extract{x:Operand}{i:Nat}{vs:List PV}{v:PV}(U:cW L x=some (.b8 vs))(J:vs[i]?=some v)(k:ai C ops r ⟨al ((d,v)::L) Y,h⟩ Q):ai C ops (⟨some d,.extract x i,ty,pos,af,none⟩::r) ⟨al L Y,h⟩ Q:=
 ai.fO (λX=>by simp[ar,aD,ak U,J]) k
theorem R.lj{t el:TypeId}{v:PV}(U:cW L x=some (.aa full es))(B:cW L Z=some (.int k (i:Int)))(g:T.kd t=some (.sl el))(S:T.ts el=some (sz+1))
  (J:es[i]?=some v) (G:cells v=cs) (A:cs.length=sz+1) (w:ai C ops r ⟨al ((d,(.eX cs))::L) Y,h⟩ Q):ai C ops (⟨some d,.indexAddr t x Z,ty,pos,af,none⟩::r) ⟨al L Y,h⟩ Q:=by
 have F:i<es.length:=by
  rcases agM i es.length with h |h;exact h;rw[agr h]at J;cases J
 subst G;have q:es[i]=v:=by rw[agd F]at J;exact af7 J
 exact ai.fO (λX=>by simp[ar,aD,ak U,ak B,cT,bG (T.dA _ _ g),T.eT _ _ S,F,q,A]) w
theorem R.Et{t el:TypeId}(U:cW L x=some (.an V ep off len))(B:cW L Z=some (.int k (i:Int)))(g:T.kd t=some (.sl el))(f:getM h V ep=some o)(S:T.ts el=some o.bQ)(F:i<len)(hle:off+len<=o.es.length)
  (w:ai C ops r ⟨al ((d,(.ptr V ep (off+i) 0))::L) Y,h⟩ Q):ai C ops (⟨some d,.indexAddr t x Z,ty,pos,af,none⟩::r) ⟨al L Y,h⟩ Q:=
 ai.fO (λX=>by simp[ar,aD,ak U,ak B,cT,bG (T.dA _ _ g),T.eT _ _ S,f,F,hle]) w
theorem R.Kt{t:TypeId}{ts:List TypeId}{s:ByteArray}(U:cW L x=some (.str s))(g:T.kd t=some .str)(k:ai C ops r ⟨al ((d,(.int .i64 s.size))::L) Y,h⟩ Q):
  ai C ops (⟨some d,.call ⟨.builtin .len,(x::xs).toArray,(t::ts).toArray⟩,ty,pos,af,none⟩::r) ⟨al L Y,h⟩ Q:=
 ai.fO (λX=>by simp[ar,ak U,bA,qz,qX (T.dA _ _ g)]) k
theorem R.xp{t el:TypeId}{ts:List TypeId}(U:cW L x=some (.aa full es))(g:T.kd t=some (.sl el))(k:ai C ops r ⟨al ((d,(.int .i64 es.length))::L) Y,h⟩ Q):
  ai C ops (⟨some d,.call ⟨.builtin .len,(x::xs).toArray,(t::ts).toArray⟩,ty,pos,af,none⟩::r) ⟨al L Y,h⟩ Q:=
 ai.fO (λX=>by simp[ar,ak U,bA,qz,bG (T.dA _ _ g)]) k
theorem R.QA{t el:TypeId}{ts:List TypeId}(U:cW L x=some (.an V ep off len))(g:T.kd t=some (.sl el))(f:getM h V ep=some o)(hle:off+len<=o.es.length)(k:ai C ops r ⟨al ((d,(.int .i64 len))::L) Y,h⟩ Q):
  ai C ops (⟨some d,.call ⟨.builtin .len,(x::xs).toArray,(t::ts).toArray⟩,ty,pos,af,none⟩::r) ⟨al L Y,h⟩ Q:=
 ai.fO (λX=>by simp[ar,ak U,bA,qz,bG (T.dA _ _ g),f,hle]) k
theorem R.call{x:Operand}{xs:List Operand}{J:Array TypeId}{f:FuncId}{M args:List PV}(u:cW L x=some (.fn f M))(j:Bw L xs=some args)
  (G:ah C 2 f (args++M) h (λv h'=>ai C ops r ⟨al ((d,v)::L) Y,h'⟩ Q)):ai C ops (⟨some d,.call ⟨.value x,xs.toArray,J⟩,ty,pos,af,none⟩::r) ⟨al L Y,h⟩ Q:=
 ai.acH (args:=args++M) rfl rfl (ak u Y) (by simp[gV j]) (by simpa only[cy]using G)
theorem Ev.ie{a b:Code}{Q:Ex->St->Prop}(G:cW L c=some (.bool t))(k:Ev C (bif t then a else b) ⟨al L Y,h⟩ Q):Ev C (.cond c a b) ⟨al L Y,h⟩ Q:=by
 cases t
 exact Ev.LS (ak G Y) k;exact Ev.LQ (ak G Y) k
theorem oQ{n:Int}(h1: -9223372036854775808<=n)(X:n<=9223372036854775807):IntKind.i64.wrap n=n:=by
 rw[IntKind.wrap_i64];omega
def Bx:Nat->List PV->List (Nat×PV)
 |_,[]=>[]
 |n,a::f=>(n,a)::Bx (n+1) f
theorem iE(args:List PV):pP args=al (Bx 0 args) (λ_=>.undef):=by
 have H:∀(f:List PV) (n t:Nat),al (Bx n f) (λ_=>PV.undef) t=if n<=t then f.getD (t - n) .undef else .undef:=by
  intro f
  induction f with
  |nil=>intro n t;simp[Bx,al]
  |cons a f P=>
   intro n t
   simp only[Bx,al,P]
   by_cases h:t=n
   subst h;simp
   ·rw[if_neg h]
    by_cases X:n<=t
    rw[if_pos X,if_pos yxa,show t - n=(t - (n+1))+1 by omega,ain];rw[if_neg X,if_neg yxa]
 funext t
 rw[H];simp[pP]
def aL(C:cA)(i:Func)(Q:PV->ab->Prop)(A:Ex)(s:St):Prop:=(A=.normal\/A=.ret)/\∃W,dM C.P s.h s.Y i.results.toList=some W/\Q (bo W) s.h
theorem ay.gk{f:FuncId}{i:Func}{c:Code}{args:List PV}{Q:PV->ab->Prop}(u:C.P.funcs[f]?=some i)(W:i.body=some c)
  (e:Ev C c ⟨al (Bx 0 args) (λ_=>.undef),h⟩ (aL C i Q)):ay C f args h Q:=ay.body u W (by rw[iE];exact e)
def O9(L:List (Nat×PV)):List ResultVar->Option (List PV)
 |[]=>some []
 | .tmp t::r=>match lk L t,O9 L r with
  |some v,some W=>some (v::W)
  |_,_=>none
 |_=>none
theorem gq{P:Program}{L:List (Nat×PV)}{h:ab}{Y:Nat->PV}:∀{l:List ResultVar} {vs:List PV},O9 L l=some vs->dM P h (al L Y) l=some vs
 |[],vs,e=>by simp[O9]at e;subst e;rfl
 | .tmp t::r,vs,e=>by
  simp only[O9]at e
  split at e
  ·rename_i v n O X
   obtain rfl:=af7 e;simp[dM,fi O,gq X]
  cases e
 | .cell _ _::r,vs,e=>by simp[O9]at e
theorem aL.ret{i:Func}{Q:PV->ab->Prop}{vs:List PV}(z:O9 L i.results.toList=some vs)(q:Q (bo vs) h):aL C i Q .ret ⟨al L Y,h⟩:=⟨.inr rfl,vs,gq z,q⟩
theorem aE.normal{b:Code}{Q:Ex->St->Prop}{s:St}(k:Ev C b s Q):aE C b Q .normal s:=k
theorem aE.ret{b:Code}{Q:Ex->St->Prop}{s:St}(k:Q .ret s):aE C b Q .ret s:=k
theorem aE.exit{b:Code}{Q:Ex->St->Prop}{s:St}{V:Nat}(k:Q (.exit V) s):aE C b Q (.exit V) s:=k
theorem az.normal{V:Nat}{Q:Ex->St->Prop}{s:St}(k:Q .normal s):az V Q .normal s:=k
theorem az.ret{V:Nat}{Q:Ex->St->Prop}{s:St}(k:Q .ret s):az V Q .ret s:=k
theorem az.UC{Q:Ex->St->Prop}(k:Q .normal s):az V Q (.exit V) s:=by simp only[az,if_true];exact k
theorem az.RG{S:Nat}{Q:Ex->St->Prop}(h:(S==V)=false)(k:Q (.exit S) s):az V Q (.exit S) s:=by
 have:¬S=V:=by simpa using h
 simp only[az,if_neg this];exact k
theorem aO.normal{I:St->Prop}{Q:Ex->St->Prop}{s:St}(k:I s):aO I Q .normal s:=k
theorem aO.ret{I:St->Prop}{Q:Ex->St->Prop}{s:St}(k:Q .ret s):aO I Q .ret s:=k
theorem aO.exit{I:St->Prop}{Q:Ex->St->Prop}{s:St}{V:Nat}(k:Q (.exit V) s):aO I Q (.exit V) s:=k
def NU(L:List (Nat×PV)):List (Nat×PV)->Prop
 |[]=>True
 |(k,v)::r=>lk L k=some v/\NU L r
theorem Ih{L:List (Nat×PV)}:∀{u:List (Nat×PV)},NU L u->∀x∈u,lk L x.1=some x.2
 |[],_,x,U=>by cases U
 |(k,v)::r,h,x,U=>by
  rcases agi.1 U with rfl |U;exact h.1;exact Ih h.2 x U
theorem St.ba{u:List (Nat×PV)}(R:NU L u):(⟨al L Y,h⟩:St)=⟨al u (al L Y),h⟩:=by
 rw[Rb (al L Y) u (λx U=>fi (Ih R x U) Y)]
theorem R.abz{t:TypeId}{z:PV}(M:T.tz t=some z)(h1:(cells z).all bP=true)(A:(cells z).length=n+1)(k:ai C ops r ⟨al ((d,(.ptr h.length 0 0 0))::L) Y,h++[⟨.m,0,n+1,[z]⟩]⟩ Q):
  ai C ops (⟨some d,.alloc t,ty,pos,af,none⟩::r) ⟨al L Y,h⟩ Q:=
 ai.fO (λX=>by simp[ar,aD,T.pJ _ _ M,h1,A,newObj]) k
theorem R.afn{t:TypeId}{v:PV}(U:cW L x=some v)(h1:(cells v).all bP=true)(A:(cells v).length=n+1)(k:ai C ops r ⟨al ((d,(.ptr h.length 0 0 0))::L) Y,h++[⟨.m,0,n+1,[v]⟩]⟩ Q):
  ai C ops (⟨some d,.box t x,ty,pos,af,none⟩::r) ⟨al L Y,h⟩ Q:=
 ai.fO (λX=>by simp[ar,aD,ak U,h1,A,newObj]) k
theorem l9:getM (h++[⟨.m,0,n,es⟩]) h.length 0=some ⟨.m,0,n,es⟩:=by simp[getM]
theorem R.abA{t:TypeId}{a:Operand}{v:PV}(j:cW L a=some (.ptr h.length 0 0 0))(U:cW L x=some v)(S:T.ts t=some n)(A:(cells v).length=n)(h1:(cells v).all bP=true)(q:(cells e).length=n)
  (k:ai C ops r ⟨al L Y,h++[⟨.m,0,n,[v]⟩]⟩ Q):ai C ops (⟨none,.store t a x,ty,pos,af,none⟩::r) ⟨al L Y,h++[⟨.m,0,n,[e]⟩]⟩ Q:=by
 have B:ai C ops r ⟨bZ (al L Y) none .undef,h++[(⟨.m,0,n,[v]⟩:ax)]⟩ Q:=k;refine ai.val (v:=.undef) (h':=h++[(⟨.m,0,n,[v]⟩:ax)]) rfl (λX=>?_) B;have z:gw 0 n e v=v:=by unfold gw;rw[if_pos ⟨rfl,q.symm⟩]
 simp[ar,aD,ak j,ak U,jc,T.eT _ _ S,l9,A,q,z];simpa using h1
theorem pcN:dP (h++[⟨.m,0,n,[e]⟩]) (.ptr h.length 0 0 0)=some (cells e):=by simp[dP,l9]
theorem afo:dP (h++[⟨.m,0,n,[e]⟩]) (.ptr h.length 0 0 off)=some ((cells e).drop off):=by simp[dP,l9]
theorem R.Fl{t:TypeId}(U:cW L x=some (.ptr h.length 0 0 0))(S:T.ts t=some (sz+1))(Z:T.ta t=some true)(G:ug (sz+1) (cells e) f)
  (k:ai C ops r ⟨al ((d,(.agg f))::L) Y,h++[⟨.m,0,n,[e]⟩]⟩ Q):ai C ops (⟨some d,.load t x,ty,pos,af,none⟩::r) ⟨al L Y,h++[⟨.m,0,n,[e]⟩]⟩ Q:=
 R.vK T U S Z pcN G k
end Go.Pm
namespace Go.Pm
variable{i lv m n:Nat}{f:FuncId}{args:List PV}{h h0:ab}{x:PV×ab}{ops:Array Oper}{o:Oper}{U s:St}{b:List Nat}
def iK(r i:hZ):Prop:=∀f V h x,r f V h=some x->i f V h=some x
variable{C:cA}{run run':hZ}
theorem pE(L:iK run run')(e:dL run lv f args h=some x):dL run' lv f args h=some x:=by
 unfold dL at e ⊢
 split at e
 ·rename_i J
  rw[if_pos J]
  cases z:run f (aY args) []with
  |none=>rw[z]at e;cases e
  |some y=>rw[z]at e;rw[L _ _ _ _ z];exact e
 ·rename_i J
  rw[if_neg J]
  cases j:iR h args with
  |none=>
   rw[j]at e;simp only at e ⊢
   cases b:fT (mW 8 h) args with
   |none=>rw[b]at e;cases e
   |some a=>
    rw[b]at e;simp only at e ⊢
    cases z:run f (aY a) []with
    |none=>rw[z]at e;cases e
    |some y=>rw[z]at e;rw[L _ _ _ _ z];exact e
  |some a=>
   rw[j]at e;simp only at e ⊢
   cases z:run f (aY a) []with
   |none=>rw[z]at e;cases e
   |some y=>rw[z]at e;rw[L _ _ _ _ z];exact e
theorem lU{g V:List PV->ab->Option (PV×ab)}(L:∀a h x,g a h=some x->V a h=some x)(e:eP g lv args h=some x):eP V lv args h=some x:=by
 unfold eP at e ⊢
 split at e
 ·rename_i X;rw[if_pos X];exact L _ _ _ e
 ·rename_i X
  rw[if_neg X]
  split at e
  ·rename_i O
   rw[if_pos O]
   cases z:g args (h.map cm)with
   |none=>rw[z]at e;cases e
   |some y=>rw[z]at e;rw[L _ _ _ z];exact e
  cases e
theorem pF(L:iK run run')(e:jj run lv f args h=some x):jj run' lv f args h=some x:=by
 unfold jj at e ⊢
 cases z:eP (run f) lv args h with
 |none=>rw[z]at e;cases e
 |some y=>rw[z]at e;rw[lU (λa h x=>L f a h x) z];exact e
theorem A6(L:iK run run')(e:dG C run lv f args h=some x):dG C run' lv f args h=some x:=by
 unfold dG at e ⊢
 cases d:C.mode f <;>simp only[d]at e ⊢
 cases e
 exact pE L e;exact pF L e;exact e;exact lU (λ_ _ _ x=>x) e;exact e
theorem gS(L:iK run run'){H:Op}{Y:Nat->PV}(e:ar C run lv H Y h=some x):ar C run' lv H Y h=some x:=by
 unfold ar at e ⊢
 split at e
 ·split at e
  ·unfold gp at e ⊢
   split at e
   exact A6 L e;exact A6 L e
   cases e
  ·exact e
  ·cases e
 exact e
theorem HA(L:iK run run')(e:gL C run ops o s=some U):gL C run' ops o s=some U:=by
 unfold gL at e ⊢
 split at e
 ·cases z:ar C run 2 o.op s.Y s.h with
  |none=>rw[z]at e;cases e
  |some y=>rw[z]at e;rw[gS L z];exact e
 exact e
 cases e
theorem wo(L:iK run run'){ops:Array Oper}:∀{l:List Oper} {s U:St},eB C run ops l s=some U->eB C run' ops l s=some U
 |[],s,U,e=>e
 |o::l,s,U,e=>by
  simp only[eB]at e ⊢
  cases z:gL C run ops o s with
  |none=>rw[z]at e;cases e
  |some y=>
   rw[z]at e;rw[HA L z];exact wo L e
theorem E8(L:iK run run'){s U:zd}(e:cM C run ops b i o s=some U):cM C run' ops b i o s=some U:=by
 unfold cM at e ⊢
 split at e
 ·split at e
  ·rename_i R
   rw[if_pos R]
   cases z:ar C run 1 o.op s.s.Y s.s.h with
   |none=>rw[z]at e;cases e
   |some y=>rw[z]at e;rw[gS L z];exact e
  ·rename_i R
   rw[if_neg R]
   split at e
   ·rename_i A
    rw[if_pos A]
    cases z:ar C run 2 o.op s.s.Y s.s.h with
    |none=>rw[z]at e;cases e
    |some y=>rw[z]at e;rw[gS L z];exact e
   ·rename_i A
    rw[if_neg A];simp only at e ⊢
    split at e
    ·rename_i G
     rw[if_pos G]
     cases z:ar C run 1 o.op s.s.Y (cO (b.getD i 0).testBit s.L0 s.own s.s.h)with
     |none=>rw[z]at e;cases e
     |some y=>rw[z]at e;rw[gS L z];exact e
    cases e
 exact e
 cases e
theorem ud(L:iK run run'){ops:Array Oper}{b:List Nat}:∀{l:List Oper} {i:Nat} {s U:zd},dQ C run ops b i l s=some U->dQ C run' ops b i l s=some U
 |[],i,s,U,e=>e
 |o::l,i,s,U,e=>by
  simp only[dQ]at e ⊢
  cases z:cM C run ops b i o s with
  |none=>rw[z]at e;cases e
  |some y=>
   rw[z]at e;rw[E8 L z];exact ud L e
theorem E9(L:iK run run')(e:du C run ops b h0 i o s=some U):du C run' ops b h0 i o s=some U:=by
 unfold du at e ⊢
 split at e
 ·split at e
  ·rename_i R
   rw[if_pos R]
   cases z:ar C run 1 o.op s.Y s.h with
   |none=>rw[z]at e;cases e
   |some y=>rw[z]at e;rw[gS L z];exact e
  ·rename_i R
   rw[if_neg R]
   split at e
   ·rename_i A
    rw[if_pos A];exact e
   ·rename_i A
    rw[if_neg A]
    cases S:(if k9 o.op then aD C.P 1 o.op s.Y s.h else none)with
    |some y=>rw[S]at e;exact e
    |none=>
     rw[S]at e;simp only at e ⊢
     split at e
     ·rename_i g
      rw[if_pos g]
      cases z:ar C run 2 o.op s.Y s.h with
      |none=>rw[z]at e;cases e
      |some y=>rw[z]at e;rw[gS L z];exact e
     cases e
 exact e
 cases e
theorem ue(L:iK run run'){ops:Array Oper}{b:List Nat}{h0:ab}:∀{l:List Oper} {i:Nat} {s U:St},cF C run ops b h0 i l s=some U->cF C run' ops b h0 i l s=some U
 |[],i,s,U,e=>e
 |o::l,i,s,U,e=>by
  simp only[cF]at e ⊢
  cases z:du C run ops b h0 i o s with
  |none=>rw[z]at e;cases e
  |some y=>
   rw[z]at e;rw[E9 L z];exact ue L e
theorem Kp(L:iK run run')(e:ka C run ops s=some U):ka C run' ops s=some U:=by
 unfold ka at e ⊢
 cases z:cF C run ops (before ops) (cJ (iS ops (before ops) s.Y) s.h) 0 ops.toList ⟨s.Y,cJ (iS ops (before ops) s.Y) s.h⟩with
 |none=>rw[z]at e;cases e
 |some y=>rw[z]at e;rw[ue L z];exact e
theorem _root_.za7{P:Prop}(h:P:=by
 rename_i G
 rw[if_pos G]
 split at e
 ·rename_i S
  rw[if_pos S]
  cases z:ar C run 1 o.op s.Y s.h with
  |none=>rw[z]at e;cases e
  |some y=>rw[z]at e;rw[gS L z];exact e
 cases e):P:=h
theorem Fa(L:iK run run'){W:List Nat}(e:fe C run W h0 o s=some U):fe C run' W h0 o s=some U:=by
 unfold fe at e ⊢
 split at e
 ·rename_i R
  rw[if_pos R]
  cases z:ar C run 1 o.op s.Y s.h with
  |none=>rw[z]at e;cases e
  |some y=>rw[z]at e;rw[gS L z];exact e
 ·rename_i R
  rw[if_neg R]
  split at e
  ·rename_i A
   rw[if_pos A];exact e
  ·rename_i A
   rw[if_neg A]
   split at e
   ·exact za7
   ·rename_i G
    rw[if_neg G]
    split at e
    ·exact za7
    ·rename_i G
     rw[if_neg G];exact e
theorem uf(L:iK run run'){W:List Nat}{h0:ab}:∀{l:List Oper} {s U:St},eQ C run W h0 l s=some U->eQ C run' W h0 l s=some U
 |[],s,U,e=>e
 |o::l,s,U,e=>by
  simp only[eQ]at e ⊢
  cases z:fe C run W h0 o s with
  |none=>rw[z]at e;cases e
  |some y=>
   rw[z]at e;rw[Fa L z];exact uf L e
theorem te{f F:St->Option (Ex×St)}(L:∀s x,f s=some x->F s=some x):∀{n m:Nat} {s:St} {x:Ex×St},n<=m->iter f n s=some x->iter F m s=some x
 |0,m,s,x,_,e=>by simp[iter]at e
 |n+1,m,s,x,d,e=>by
  obtain⟨m,rfl⟩:∃k,m=k+1:=⟨m - 1,by omega⟩;simp only[iter]at e ⊢
  cases z:f s with
  |none=>rw[z]at e;cases e
  |some y=>
   rw[z]at e;rw[L _ _ z];obtain⟨A,U⟩:=y
   cases A with
   |normal=>exact te L yxa e
   |exit V=>exact e
   |ret=>exact e
theorem _root_.zcc{P:Prop}(h:P:=by
 
 rw[z]at e;rw[i z];obtain⟨A,U⟩:=y
 cases A with
 |normal=>exact f e
 |exit V=>exact e
 |ret=>exact e):P:=h
theorem zS(L:iK run run')(v:n<=m):∀(c:Code) {s:St} {x:Ex×St},bT C run n c s=some x->bT C run' m c s=some x:=by
 intro c
 induction c with
 |region V O D=>
  intro s x e
  simp only[bT]at e ⊢
  cases D with
  |false=>
   simp only[agn,if_false]at e ⊢
   cases z:eB C run O O.toList s with
   |none=>rw[z]at e;cases e
   |some y=>rw[z]at e;rw[wo L z];exact e
  |true=>
   simp only[if_true]at e ⊢
   by_cases g:pO O=true
   ·simp only[g,if_true]at e ⊢
    cases z:ka C run O s with
    |none=>rw[z]at e;cases e
    |some y=>rw[z]at e;rw[Kp L z];exact e
   ·simp only[g]at e ⊢
    by_cases u:kb O=true
    ·simp only[u,if_true]at e ⊢
     cases z:eQ C run (Eh O s.Y) s.h O.toList s with
     |none=>rw[z]at e;simp at e
     |some y=>rw[z]at e;rw[uf L z];exact e
    simp only[u]at e ⊢
    cases z:dQ C run O (before O) 0 O.toList ⟨s,s.h.length,[]⟩with
    |none=>rw[z]at e;simp at e
    |some y=>rw[z]at e;rw[ud L z];exact e
 |seq a b i f=>
  intro s x e
  simp only[bT]at e ⊢
  cases z:bT C run n a s with
  |none=>rw[z]at e;cases e
  |some y=>exact zcc
 |cond c a b i f=>
  intro s x e
  simp only[bT]at e ⊢
  split at e
  exact i e;exact f e
  cases e
 |block V c P=>
  intro s x e
  simp only[bT]at e ⊢
  cases z:bT C run n c s with
  |none=>rw[z]at e;cases e
  |some y=>rw[z]at e;rw[P z];exact e
 |loop c P=>
  intro s x e
  simp only[bT]at e ⊢;exact te (λs x=>P) v e
 |scope c P=>
  intro s x e
  simp only[bT]at e ⊢;exact P e
 |_=>
  intro s x e
  first
   |exact e
   |(simp[bT]at e;done)
   |(simp only[bT]at e ⊢;exact e)
theorem Kq(L:iK run run')(v:n<=m):iK (rj C run n) (rj C run' m):=by
 intro f V h x e
 unfold rj at e ⊢
 cases u:C.P.funcs[f]? with
 |none=>rw[u]at e;cases e
 |some i=>
  rw[u]at e;simp only at e ⊢
  cases W:i.body with
  |none=>rw[W]at e;cases e
  |some c=>
   rw[W]at e;simp only at e ⊢
   cases z:bT C run n c ⟨pP V,h⟩with
   |none=>rw[z]at e;cases e
   |some y=>rw[z]at e;rw[zS L v c z];exact e
theorem DB(C:cA):∀n,iK (dC C n) (dC C (n+1))
 |0=>λf V h x e=>by cases e
 |n+1=>Kq (DB C n) (ahz n)
theorem Dp(C:cA)(h:n<=m):iK (dC C n) (dC C m):=by
 induction h with
 |refl=>exact λf V h x e=>e
 |step _ P=>exact λf V h x e=>DB C _ f V h x (P f V h x e)
theorem aT.pw{r:PV}(e:Pm.rk C n f args=some r):aT C f args r:=by
 unfold Pm.rk at e
 cases z:dC C n f args []with
 |none=>rw[z]at e;cases e
 |some y=>
  obtain⟨R,G⟩:=y;rw[z]at e
  cases X:yb G R with
  |none=>simp[X]at e
  |some b=>
   simp[X]at e;exact⟨n,λm d=>⟨R,G,b,Dp C d f args [] _ z,X,e⟩⟩
end Go.Pm
