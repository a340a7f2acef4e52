/-
  Pm, a part. Conditions: none.
-/
import Derived.Test.YtimogkojklpdnaaGreatDoorPyAD
set_option linter.unusedVariables false
set_option linter.unusedSimpArgs false
set_option linter.unnecessarySimpa false
set_option linter.unusedSectionVars false
namespace Go.Pm
abbrev Al:=List (Nat×PV)
inductive Rn(p:Prop):Prop
 |go (k:p)
theorem Rn.out{p:Prop}(h:Rn p):p:=h.casesOn id
inductive rQ(p a b:Prop):Prop
 |tt (k:Rn a) (h:p:=by first |assumption |omega |decide)
 |ff (k:Rn b) (h:¬p:=by first |assumption |omega |decide)
 |mk (t:p->Rn a) (f:¬p->Rn b)
theorem rQ.out{p a b:Prop}(h:rQ p a b):(p/\a)\/(¬p/\b):=by
 cases h with
 |tt k h=>exact .inl ⟨h,k.out⟩
 |ff k h=>exact .inr ⟨h,k.out⟩
 |mk t f=>
  by_cases hp:p
  exact .inl ⟨hp,(t hp).out⟩;exact .inr ⟨hp,(f hp).out⟩
inductive Wr(k:IntKind)(c:Int)(K:Int->Prop):Prop
 |mk (kk:Rn (K c)) (h:k.wrap c=c:=by first |exact mf (by omega) (by omega)|exact SJ (by omega) (by omega))
 |raw (c':Int) (h:k.wrap c=c') (kk:Rn (K c'))
theorem Wr.out{k:IntKind}{c:Int}{K:Int->Prop}(h:Wr k c K):K (k.wrap c):=by
 cases h with
 |mk kk h=>rw[h];exact kk.out
 |raw c' h kk=>rw[h];exact kk.out
inductive Sd(p a:Prop):Prop
 |mk (k:Rn a) (h:p:=by first |assumption |omega |decide |rfl |(dsimp only;omega)|(simp;done)|(simp;omega))
theorem Sd.out{p a:Prop}(h:Sd p a):p/\a:=by cases h with |mk k h=>exact⟨h,k.out⟩
theorem qh{h J:ab}{id ep:Nat}{o:au}(e:getM h id ep=some o):getM (h++J) id ep=some o:=by
 obtain⟨h1,h2,h3⟩:=getM_some e;exact bm (by rw[aa3 (ag h1)];exact h1) h2 h3
inductive EU(h:ab)(id ep:Nat)(K:au->Prop):Prop
 |mk {o:au} (kk:Rn (K o)) (ho:getM h id ep=some o:=by first |exact bm (by assumption) rfl (by first |assumption |simp)|rfl |exact lB |exact qh (bm (by assumption) rfl (by first |assumption |simp))|exact qh lB |exact qh (qh (bm (by assumption) rfl (by first |assumption |simp))))
theorem EU.out{h:ab}{id ep:Nat}{K:au->Prop}(x:EU h id ep K):∃o,getM h id ep=some o/\K o:=by cases x with |mk kk ho=>exact⟨_,ho,kk.out⟩
inductive Su(es:List PV)(i:Int)(sz:Nat)(K:List PV->Prop):Prop
 |mk {n:Nat} {v:PV} (kk:Rn (K (cells v))) (hi:i=(n:Int):=by first |rfl |exact(Int.natCast_succ _).symm |exact(adE (by omega)).symm) (hv:es[n]?=some v:=by first |assumption |rfl) (hl:(cells v).length=sz:=by rfl)
theorem Su.out{es:List PV}{i:Int}{sz:Nat}{K:List PV->Prop}(x:Su es i sz K):∃(n:Nat) (v:PV),i=n/\es[n]?=some v/\(cells v).length=sz/\K (cells v):=by
 cases x with |mk kk h1 h2 h3=>exact⟨_,_,h1,h2,h3,kk.out⟩
inductive ByX(s:ByteArray)(i:Int)(K:UInt8->Prop):Prop
 |mk {n:Nat} {b:UInt8} (kk:Rn (K b)) (hi:i=(n:Int):=by first |rfl |exact(Int.natCast_succ _).symm |exact(adE (by omega)).symm) (hv:s[n]?=some b:=by first |assumption |rfl)
theorem ByX.out{s:ByteArray}{i:Int}{K:UInt8->Prop}(x:ByX s i K):∃(n:Nat) (b:UInt8),i=n/\s[n]?=some b/\K b:=by cases x with |mk kk h1 h2=>exact⟨_,_,h1,h2,kk.out⟩
inductive PI(o:au):ab->ab->Nat->Prop
 |nil:PI o [] [o] 0
 |cons {x:au} {l l':ab} {n:Nat}:PI o l l' n->PI o (x::l) (x::l') (n+1)
 |gen {l:ab}:PI o l (l++[o]) l.length
theorem PI.eq{o:au}{l l':ab}{n:Nat}(a:PI o l l' n):l'=l++[o]/\n=l.length:=by
 induction a with
 |nil=>exact⟨rfl,rfl⟩
 |cons _ ih=>obtain⟨rfl,rfl⟩:=ih;exact⟨rfl,rfl⟩
 |gen=>exact⟨rfl,rfl⟩
inductive vM(h:ab)(o:au)(K:Nat->ab->Prop):Prop
 |mk {n:Nat} {h':ab} (kk:Rn (K n h')) (ha:PI o h h' n:=by repeat(first |exact .nil |apply PI.cons |exact .gen))
theorem vM.out{h:ab}{o:au}{K:Nat->ab->Prop}(x:vM h o K):K h.length (h++[o]):=by
 cases x with |mk kk ha=>obtain⟨rfl,rfl⟩:=ha.eq;exact kk.out
def HR(h:ab):Prop:=∀o∈h,o.mu≠.x/\bL (λi=>decide (i<h.length)) o.es=true
mutual
theorem xG{f g:Nat->Bool}(hi:∀i,f i=true->g i=true):∀p,bw f p=true->bw g p=true
 | .int ..,_ | .bool _,_ | .str _,_ | .eJ,_ | .aI,_ | .gL,_ | .aa ..,_ | .eg _,_ | .undef,_ | .any,_=>rfl
 | .aj ..,h=>by simp only[bw]at h ⊢;exact hi _ h
 | .ptr ..,h=>by simp only[bw]at h ⊢;exact hi _ h
 | .cM _,h=>by simp only[bw]at h ⊢;exact hi _ h
 | .agg cs,h=>by simp only[bw]at h ⊢;exact eQ hi cs h
 | .cy cs,h=>by simp only[bw]at h ⊢;exact eQ hi cs h
 | .fn _ cs,h=>by simp only[bw]at h ⊢;exact eQ hi cs h
 | .nK _ _ cs,h=>by simp only[bw]at h ⊢;exact eQ hi cs h
theorem eQ{f g:Nat->Bool}(hi:∀i,f i=true->g i=true):∀cs,bL f cs=true->bL g cs=true
 |[],_=>rfl
 |c::r,h=>by
  simp only[bL,abb]at h ⊢;exact⟨xG hi c h.1,eQ hi r h.2⟩
end
theorem HR.PA{h:ab}(H:HR h){i:Nat}(hi:i<h.length):aO h i=true:=by
 unfold aO;rw[aa6 hi];simpa using(H _ (abF hi)).1
theorem HR.closed{h:ab}(H:HR h):aY h=true:=by
 unfold aY;rw[aa4]
 intro o ho
 rw[eQ (λi hi=>H.PA (of_decide_eq_true hi)) _ (H o ho).2];simp
theorem HV.hr{h:ab}(H:HV h):HR h:=λo ho=>⟨(H o ho).1,bt _ _ (H o ho).2⟩
theorem HR.c8{h J:ab}(H:HR h)(hJ:∀o∈J,o.mu≠.x/\bL (λi=>decide (i<h.length+J.length)) o.es=true):HR (h++J):=by
 intro o ho
 rw[aba];rcases aa9.1 ho with ho |ho;exact⟨(H o ho).1,eQ (λi hi=>by have:=of_decide_eq_true hi;exact decide_eq_true (by omega)) _ (H o ho).2⟩;exact hJ o ho
theorem HR.dg{h J:ab}(H:HR h)(hJ:HV J):HR (h++J):=H.c8 λo ho=>⟨(hJ o ho).1,bt _ _ (hJ o ho).2⟩
theorem HR.Nj{h:ab}(H:HR h){o:au}(h1:o.mu≠.x:=by simp)(h2:bL (λi=>decide (i<h.length+1)) o.es=true:=by simp[bL,bw];omega):HR (h++[o]):=H.c8 λo' ho=>by
 obtain rfl:=abC.1 ho;exact⟨h1,h2⟩
theorem HR.set{h:ab}(H:HR h)(id:Nat){o:au}(h1:o.mu≠.x:=by simp)(h2:bL (λi=>decide (i<h.length)) o.es=true:=by simp[bL,bw];omega):HR (h.set id o):=by
 intro o' ho
 rw[adx];rcases acx ho with ho |rfl;exact H o' ho;exact⟨h1,h2⟩
structure LR(H:ab)(v:PV)(sz:Nat)(es':List PV)(r:PV)(h':ab):Prop where
 out:Out sz h' r es'
 hr:HR h'
 len:H.length<=h'.length
 fr:∀j,j<H.length->(∀ep n,v≠.aj j ep 0 n)->h'[j]?=H[j]?
 ref:∀j ep n,r=.aj j ep 0 n->(∃h9 n',v=.aj j h9 0 n')\/H.length<=j
 mu:∀(j:Nat) (o:au),h'[j]?=some o->H[j]?=some o\/o.mu=.m
theorem We{h:ab}{x:au}(hx:x.mu=.m)(j:Nat)(o:au)(e:(h++[x])[j]?=some o):h[j]?=some o\/o.mu=.m:=by
 by_cases hj:j<h.length
 rw[aa3 hj]at e;exact .inl e
 ·rw[abd (by omega)]at e;have:=abh e;simp at this;subst this;exact .inr hx
theorem Wf{h:ab}{id:Nat}{x:au}(hx:x.mu=.m)(j:Nat)(o:au)(e:(h.set id x)[j]?=some o):h[j]?=some o\/o.mu=.m:=by
 by_cases hj:id=j
 ·subst hj;have hl:=ag e;rw[aa7 (by simpa using hl)]at e;obtain rfl:=aa2 e;exact .inr hx
 rw[aa8 hj]at e;exact .inl e
inductive Sv(h:ab)(sz:Nat)(v:PV)(ys:List PV)(K:PV->ab->Prop):Prop
 |lp {es:List PV} (kk:∀v' h',LP h v sz (es++ys) v' h'->Rn (K v' h')) (ho:Out sz h v es:=by first |assumption |exact .inl ⟨rfl,rfl⟩) (wU:dj sz ys:=by first |rfl |(simp;done)) (hn:es.length+ys.length<1000000000:=by first |omega |(simp only[abg,abH];omega))
   (Ga:ao (es++ys)=true:=by simp) (hH:HV h:=by first |assumption |exact HV.nil)
 |lr {es:List PV} (kk:∀v' h',LR h v sz (es++ys) v' h'->Rn (K v' h')) (ho:Out sz h v es:=by first |assumption |exact .inl ⟨rfl,rfl⟩) (wU:dj sz ys:=by first |rfl |(simp;done)) (hn:es.length+ys.length<1000000000:=by first |omega |(simp only[abg,abH];omega))
   (Ga:bL (λi=>decide (i<h.length)) (es++ys)=true:=by first |exact bt _ _ (by simp)|(simp[bL,bw];done)) (hH:HR h:=by assumption)
 |nn {full:Bool} {es:List PV} (kk:Rn (K (.aa full es) h)) (oY:ys=[]) (hv:v=.aa full es:=by rfl)
 |sn {es:List PV} (kk:Rn (K (.aj h.length 0 0 (es.length+ys.length)) (h++[⟨.m,0,sz,es++ys⟩]))) (bN:ys.isEmpty=false) (hn:es.length+ys.length<1000000000) (hv:v=.aa true es:=by rfl) (wU:dj sz ys:=by first |rfl |(simp;done)) (heo:dj sz es:=by first |rfl |(simp;done))
inductive Dl(C:cG)(op:Op)(L:Al)(h:ab)(K:PV->ab->Prop):Prop
 |mk {v:PV} {h':ab} (hc:∀run Y,ar C run 2 op (al L Y) h=some (v,h')) (kk:Rn (K v h'))
theorem Dl.out{C:cG}{op:Op}{L:Al}{h:ab}{K:PV->ab->Prop}(x:Dl C op L h K):∃v h',(∀run Y,ar C run 2 op (al L Y) h=some (v,h'))/\K v h':=by cases x with |mk hc kk=>exact⟨_,_,hc,kk.out⟩
inductive Cv(C:cG)(op:Op)(L:Al)(K:PV->Prop):Prop
 |mk {v:PV} (hc:∀run lv Y h,ar C run lv op (al L Y) h=some (v,h)) (kk:Rn (K v))
theorem Cv.out{C:cG}{op:Op}{L:Al}{K:PV->Prop}(x:Cv C op L K):∃v,(∀run lv Y h,ar C run lv op (al L Y) h=some (v,h))/\K v:=by cases x with |mk hc kk=>exact⟨_,hc,kk.out⟩
inductive pD(C:cG)(op:Op)(L:Al)(h:ab)(K:PV->Prop):Prop
 |mk {v:PV} (hc:∀run lv Y,ar C run lv op (al L Y) h=some (v,h)) (kk:Rn (K v))
theorem pD.out{C:cG}{op:Op}{L:Al}{h:ab}{K:PV->Prop}(x:pD C op L h K):∃v,(∀run lv Y,ar C run lv op (al L Y) h=some (v,h))/\K v:=by cases x with |mk hc kk=>exact⟨_,hc,kk.out⟩
def zI{α:Type}:List α->Nat->Option α
 |[],_=>none
 |a::_,0=>some a
 |_::l,n+1=>zI l n
theorem qI{α:Type}:∀(l:List α) (n:Nat),zI l n=l[n]?
 |[],n=>by simp[zI]
 |a::l,0=>by simp[zI]
 |a::l,n+1=>by simp[zI,qI l n]
def oJ:Nat->List PV->(List PV->Prop)->Prop
 |0,l,k=>k l
 |n+1,_::l,k=>oJ n l k
 |_+1,[],_=>False
theorem iZ:∀{n:Nat} {l:List PV} {k:List PV->Prop},oJ n l k->n<=l.length/\k (l.drop n)
 |0,l,k,h=>⟨by omega,h⟩
 |n+1,_::l,k,h=>by obtain⟨h1,h2⟩:=iZ (n:=n) h;exact⟨by simp;omega,h2⟩
 |_+1,[],_,h=>h.elim
def yS:Nat->List PV->(List PV->Prop)->Prop
 |0,_,k=>k []
 |n+1,c::l,k=>yS n l λr=>k (c::r)
 |_+1,[],_=>False
theorem nI:∀{n:Nat} {l:List PV} {k:List PV->Prop},yS n l k->n<=l.length/\k (l.take n)
 |0,l,k,h=>⟨by omega,h⟩
 |n+1,c::l,k,h=>by obtain⟨h1,h2⟩:=nI (n:=n) h;exact⟨by simp;omega,h2⟩
 |_+1,[],_,h=>h.elim
def Lf:Nat->List PV->List PV->(List PV->Prop)->Prop
 |0,cs,[],k=>k cs
 |0,_::cs,v::vs,k=>Lf 0 cs vs λr=>k (v::r)
 |n+1,c::cs,vs,k=>Lf n cs vs λr=>k (c::r)
 |0,[],_::_,_=>False
 |_+1,[],_,_=>False
theorem tD:∀{n:Nat} {cs vs:List PV} {k:List PV->Prop},Lf n cs vs k->n+vs.length<=cs.length/\k (cs.take n++vs++cs.drop (n+vs.length))
 |0,cs,[],k,h=>⟨by simp,by simpa[Lf]using h⟩
 |0,_::cs,v::vs,k,h=>by obtain⟨h1,h2⟩:=tD (n:=0) (cs:=cs) h;exact⟨by simp at h1 ⊢;omega,by simpa using h2⟩
 |n+1,c::cs,vs,k,h=>by
  obtain⟨h1,h2⟩:=tD (n:=n) h;exact⟨by simp;omega,by rw[show n+1+vs.length=(n+vs.length)+1 by omega];simpa using h2⟩
 |0,[],_::_,_,h=>h.elim
 |_+1,[],_,_,h=>h.elim
def oO(L:Al):List Operand->(List PV->Prop)->Prop
 |[],k=>k []
 |x::xs,k=>match cO L x with
  |some v=>oO L xs λr=>k (v::r)
  |none=>False
theorem ja{L:Al}:∀{xs:List Operand} {k:List PV->Prop},oO L xs k->∃vs,vI L xs=some vs/\k vs
 |[],k,h=>⟨[],rfl,h⟩
 |x::xs,k,h=>by
  unfold oO at h
  split at h
  ·rename_i v hv
   obtain⟨vs,e,hk⟩:=ja h;exact⟨v::vs,by simp[vI,hv,e],hk⟩
  exact h.elim
def vN:List PV->List PV->(List PV->Prop)->Prop
 |[],b,k=>k b
 |a::l,b,k=>vN l b λr=>k (a::r)
theorem kD:∀{a b:List PV} {k:List PV->Prop},vN a b k->k (a++b)
 |[],_,_,h=>h
 |_::l,b,k,h=>kD (a:=l) h
variable{C:cG}(T:kJ C.P)
section
variable{Y:Nat->PV}{L:Al}{h:ab}
theorem Sw(a:Int):a.fdiv (2^ (min (1:Int).toNat 64))=a / 2:=by
 show a.fdiv 2=a / 2;rw[Int.fdiv_eq_ediv_of_nonneg _ (by omega)]
inductive Sx(a b:Int)(bits:Nat)(K:Int->Prop):Prop
 |mk {c:Int} (kk:Rn (K c)) (h:a.fdiv (2^ (min b.toNat bits))=c:=by first |exact Sw _ |rfl) (h0:0<=b:=by omega)
theorem Sx.out{a b:Int}{bits:Nat}{K:Int->Prop}(x:Sx a b bits K):0<=b/\K (a.fdiv (2^ (min b.toNat bits))):=by
 cases x with |mk kk h h0=>rw[h];exact⟨h0,kk.out⟩
inductive TT(k:IntKind)(c:Int)(K:Int->Prop):Prop
 |mk (c':Int) (h:k.wrap c=c') (kk:Rn (K c'))
theorem TT.out{k:IntKind}{c:Int}{K:Int->Prop}(h:TT k c K):K (k.wrap c):=by
 cases h with
 |mk c' h kk=>rw[h];exact kk.out
inductive Sz(k:IntKind)(a b:Int)(K:Int->Prop):Prop
 |mk (c:Int) (h:k.wrap (a * 2^ (min b.toNat k.bits))=c) (h0:0<=b) (kk:Rn (K c))
theorem Sz.out{k:IntKind}{a b:Int}{K:Int->Prop}(x:Sz k a b K):0<=b/\K (k.wrap (a * 2^ (min b.toNat k.bits))):=by
 cases x with |mk c h h0 kk=>rw[h];exact⟨h0,kk.out⟩
def Zl(k:IntKind)(op:BinOp)(a b:Int)(K:PV->Prop):Prop:=
 match op with
 | .eql=>rQ (a=b) (K (.bool true)) (K (.bool false))
 | .neq=>rQ (a=b) (K (.bool false)) (K (.bool true))
 | .lss=>rQ (a<b) (K (.bool true)) (K (.bool false))
 | .leq=>rQ (a<=b) (K (.bool true)) (K (.bool false))
 | .gtr=>rQ (b<a) (K (.bool true)) (K (.bool false))
 | .geq=>rQ (b<=a) (K (.bool true)) (K (.bool false))
 | .add=>Wr k (a+b) λc=>K (.int k c)
 | .sub=>Wr k (a - b) λc=>K (.int k c)
 | .mul=>Wr k (a * b) λc=>K (.int k c)
 | .quo=>Sd (b≠0) (Wr k (a.tdiv b) λc=>K (.int k c))
 | .rem=>Sd (b≠0) (K (.int k (a.tmod b)))
 | .and=>TT k (BitVec.ofInt k.bits a&&&BitVec.ofInt k.bits b).toNat λc=>K (.int k c)
 | .or=>TT k (BitVec.ofInt k.bits a |||BitVec.ofInt k.bits b).toNat λc=>K (.int k c)
 | .xor=>TT k (BitVec.ofInt k.bits a^^^BitVec.ofInt k.bits b).toNat λc=>K (.int k c)
 |_=>False
theorem kS{p:Prop}{x:PV->Prop}{u v c:Bool}(h:rQ p (x (.bool u)) (x (.bool v)))(h1:p->c=u)(h2:¬p->c=v):x (.bool c):=by
 rcases h.out with⟨h3,h4⟩|⟨h3,h4⟩;rw[h1 h3];exact h4;rw[h2 h3];exact h4
theorem Pg{k:IntKind}{op:BinOp}{a b:Int}{K:PV->Prop}(h:Zl k op a b K):∃v,(∀t,fF C.P op t (.int k a) (.int k b)=some v)/\K v:=by
 cases op with
 |eql=>exact⟨_,λt=>by simp only[fF,gT];rfl,kS h (λh=>by simp[h]) (λh=>by simp[h])⟩
 |neq=>exact⟨_,λt=>by simp only[fF,gT];rfl,kS h (λh=>by simp[h]) (λh=>by simp[h])⟩
 |lss=>exact⟨_,λt=>by simp only[fF,gT];rfl,kS h (λh=>by simp[h]) (λh=>by simp[h])⟩
 |leq=>exact⟨_,λt=>by simp only[fF,gT];rfl,kS h (λh=>by simp[h]) (λh=>by simp[h])⟩
 |gtr=>exact⟨_,λt=>by simp only[fF,gT];rfl,kS h (λh=>by simp[h]) (λh=>by simp[h])⟩
 |geq=>exact⟨_,λt=>by simp only[fF,gT];rfl,kS h (λh=>by simp[h]) (λh=>by simp[h])⟩
 |add=>exact⟨_,λt=>by simp only[fF,gT];rfl,Wr.out h⟩
 |sub=>exact⟨_,λt=>by simp only[fF,gT];rfl,Wr.out h⟩
 |mul=>exact⟨_,λt=>by simp only[fF,gT];rfl,Wr.out h⟩
 |quo=>obtain⟨h1,h2⟩:=Sd.out h;exact⟨_,λt=>by simp only[fF,gT,if_true,if_neg h1],Wr.out h2⟩
 |rem=>obtain⟨h1,h2⟩:=Sd.out h;exact⟨_,λt=>by simp only[fF,gT,if_true,if_neg h1],h2⟩
 |and=>exact⟨_,λt=>by simp only[fF,gT];rfl,TT.out h⟩
 |or=>exact⟨_,λt=>by simp only[fF,gT];rfl,TT.out h⟩
 |xor=>exact⟨_,λt=>by simp only[fF,gT];rfl,TT.out h⟩
 |_=>exact False.elim h
def Zm(op:BinOp)(a b:ByteArray)(K:PV->Prop):Prop:=
 match op with
 | .eql=>rQ (a.toList=b.toList) (K (.bool true)) (K (.bool false))
 | .neq=>rQ (a.toList=b.toList) (K (.bool false)) (K (.bool true))
 | .lss=>rQ (Op.bytesLess a.toList b.toList=true) (K (.bool true)) (K (.bool false))
 | .gtr=>rQ ((!(Op.bytesLess a.toList b.toList ||a.toList==b.toList))=true) (K (.bool true)) (K (.bool false))
 | .leq=>rQ ((Op.bytesLess a.toList b.toList ||a.toList==b.toList)=true) (K (.bool true)) (K (.bool false))
 | .geq=>rQ (Op.bytesLess a.toList b.toList=true) (K (.bool false)) (K (.bool true))
 | .add=>Sd (a.size+b.size<1000000000) (K (.str (a++b)))
 |_=>False
theorem Ph{op:BinOp}{a b:ByteArray}{K:PV->Prop}(h:Zm op a b K):∃v,(∀t,fF C.P op t (.str a) (.str b)=some v)/\K v:=by
 cases op with
 |eql=>exact⟨_,λt=>by simp only[fF,l8];rfl,kS h (λh=>by simp[h]) (λh=>by simp[h])⟩
 |neq=>exact⟨_,λt=>by simp only[fF,l8];rfl,kS h (λh=>by simp[h]) (λh=>by simp[h])⟩
 |lss=>exact⟨_,λt=>by simp only[fF,l8],kS h (λh=>h) (λh=>by simpa using h)⟩
 |gtr=>exact⟨_,λt=>by simp only[fF,l8],kS h (λh=>h) (λh=>by simpa using h)⟩
 |leq=>exact⟨_,λt=>by simp only[fF,l8],kS h (λh=>h) (λh=>by simpa using h)⟩
 |geq=>exact⟨_,λt=>by simp only[fF,l8];rfl,kS h (λh=>by simp[h]) (λh=>by simpa using h)⟩
 |add=>
  obtain⟨h1,h2⟩:=Sd.out h;exact⟨_,λt=>by simp only[fF,l8];rw[if_neg (by show¬((a.size+b.size:Nat):Int)>9223372036854775807;omega)],h2⟩
 |_=>exact False.elim h
def lV(L:Al)(x:Operand)(K:PV->Prop):Prop:=match cO L x with |some v=>K v |none=>False
theorem bG{x:Operand}{K:PV->Prop}(h:lV L x K):∃v,cO L x=some v/\K v:=by
 unfold lV at h
 split at h
 exact⟨_,by assumption,h⟩;exact h.elim
def Pj(t:TypeId)(cs:List PV)(off:Nat)(K:PV->Prop):Prop:=
 match T.ta t,T.ts t with
 |some false,some _=>oJ off cs λr=>match r with |c::_=>K c |[]=>False
 |some true,some sz=>oJ off cs λr=>yS sz r λl=>K (.agg l)
 |_,_=>False
theorem Lg{t:TypeId}{cs:List PV}{off:Nat}{K:PV->Prop}(h:Pj T t cs off K):∃v,wm C.P t cs off=some v/\K v:=by
 unfold Pj at h
 split at h
 ·rename_i h1 h2
  obtain⟨h3,h4⟩:=iZ h
  cases hd:cs.drop off with
  |nil=>rw[hd]at h4;exact h4.elim
  |cons c r=>
   rw[hd]at h4;refine⟨c,?_,h4⟩
   have:cs[off]?=some c:=by
    have:=congrArg List.head? hd;simpa[List.head?_drop]using this
   simp[wm,T.OJ _ _ h1,T.eA _ _ h2,this]
 ·rename_i sz h1 h2
  obtain⟨h3,h4⟩:=iZ h;obtain⟨h5,h6⟩:=nI h4;refine⟨_,?_,h6⟩;simp only[wm,T.OJ _ _ h1,T.eA _ _ h2];rw[if_pos];simp at h5;omega
 exact h.elim
def Pk(os:List (Nat×TypeId)):List (Nat×Operand)->List PV->Al->(List PV->Prop)->Prop
 |[],cs,_,K=>K cs
 |(i,x)::r,cs,L,K=>lV L x λv=>match zI os i with
  |some (off,ty)=>match T.ts ty with
   |some sz=>match Nat.beq (cells v).length sz,(cells v).all bC with
    |true,true=>Lf off cs (cells v) λjx=>Pk os r jx L K
    |_,_=>False
   |none=>False
  |none=>False
theorem Bj{os:List (Nat×TypeId)}:∀{ps:List (Nat×Operand)} {cs:List PV} {K:List PV->Prop},Pk T os ps cs L K->∃vs jx,kQ L ps=some vs/\kc (qD T.ts os) cs vs=some jx/\K jx
 |[],cs,K,h=>⟨[],cs,rfl,rfl,h⟩
 |(i,x)::r,cs,K,h=>by
  obtain⟨v,h1,h2⟩:=bG h
  split at h2
  ·rename_i off ty h3
   split at h2
   ·rename_i sz h4
    split at h2
    ·rename_i h5 h6
     obtain⟨h7,h8⟩:=tD h2;obtain⟨vs,jx,e1,e2,e3⟩:=Bj h8;have h5:=abR h5;refine⟨(i,v)::vs,jx,by simp[kQ,h1,e1],?_,e3⟩;rw[qI]at h3;simp only[kc,qD,h3,h4,abf];rw[if_pos ⟨h5,h6,by omega⟩];exact e2
    exact h2.elim
   exact h2.elim
  exact h2.elim
def Zn(os:List (Nat×TypeId)):Bool:=os.all λo=>(T.ts o.2).isSome
theorem SA{n:Nat}{cs l:List PV}{c:PV}(h:cs.drop n=c::l):n<cs.length:=by
 rcases abJ n cs.length with h1 |h1;exact h1;rw[abG h1]at h;cases h
theorem Wg{fs:Array Field}{f off:Nat}{ft:TypeId}(h:(fs.toList.map λf=>(f.offset,f.type))[f]?=some (off,ft)):∃fl,fs[f]?=some fl/\fl.offset=off/\fl.type=ft:=by
 rw[abm]at h
 cases V7:fs.toList[f]? with
 |none=>rw[V7]at h;cases h
 |some fl=>
  rw[V7]at h;simp at h;exact⟨fl,by simpa using V7,h.1,h.2⟩
def xa(op:Op)(L:Al)(K:PV->Prop):Prop:=
 match op with
 | .move x | .assign x=>lV L x K
 | .pick c a b=>lV L c λv=>match v with
  | .bool true=>lV L a K
  | .bool false=>lV L b K
  |_=>False
 | .binOp op t x y _=>lV L x λv=>lV L y λu=>match v,u with
  | .int k a,.int k' b=>match op with
   | .shr=>Sx a b k.bits λc=>K (.int k c)
   | .shl=>Sz k a b λc=>K (.int k c)
   |op=>match decide (k=k')with
    |true=>Zl k op a b K
    |false=>False
  | .str a,.str b=>Zm op a b K
  | .bool a,.bool b=>match T.kd t with
   |some .bool=>match op with
    | .eql=>K (.bool (a==b))
    | .neq=>K (.bool !(a==b))
    |_=>False
   |_=>False
  |_,_=>False
 | .unOp .neg _ x=>lV L x λv=>match v with
  | .int k n=>Wr k (0 - n) λc=>K (.int k c)
  |_=>False
 | .unOp .not _ x=>lV L x λv=>match v with
  | .bool true=>K (.bool false)
  | .bool false=>K (.bool true)
  |_=>False
 | .convert s d x=>lV L x λv=>match v,T.kd s,T.kd d with
  | .int _ n,some _,some (.int k)=>Wr k n λc=>K (.int k c)
  | .str s,some _,some .str=>K (.str s)
  | .aa _ es,some (.sl e),some .str=>match T.kd e,nM es with
   |some (.int .u8),some l=>K (.str (TU l))
   |_,_=>False
  |_,_,_=>False
 | .extract x i=>lV L x λv=>match v with
  | .cy vs=>match zI vs i with
   |some u=>K u
   |none=>False
  |_=>False
 | .makeFunc (.func f) first dy=>match first.toList with
  |[]=>oO L dy.toList λl=>K (.fn f l)
  |x::r=>oO L (x::r) λl=>oO L dy.toList λl2=>vN l l2 λl3=>K (.nK f l.length l3)
 | .nilCheck x=>lV L x λv=>match v with
  | .ptr id ep i o=>K (.ptr id ep i o)
  | .eg cs=>K (.eg cs)
  | .fn f cs=>K (.fn f cs)
  |_=>False
 | .field s x f=>lV L x λv=>match v,T.kd s with
  | .agg cs,some (.st os)=>match zI os f with
   |some (off,ft)=>Pj T ft cs off K
   |none=>False
  |_,_=>False
 | .fieldAddr s x f=>lV L x λv=>match T.kd s with
  |some (.st os)=>match zI os f with
   |some (off,ft)=>match T.ts ft with
    |some (_+1)=>match v with
     | .eg cs=>oJ off cs λr=>match r with |c::l=>K (.eg (c::l))|[]=>False
     | .ptr id ep i o=>K (.ptr id ep i (o+off))
     |_=>False
    |_=>False
   |none=>False
  |_=>False
 | .index t x ix=>lV L x λv=>lV L ix λu=>match v,u,T.kd t with
  | .str s,.int _ i,some .str=>ByX s i λb=>K (.int .u8 b.toNat)
  |_,_,_=>False
 | .build t parts=>match T.tz t,T.kd t with
  |some z,some (.st os)=>match Zn T os,(cells z).all bC with
   |true,true=>Pk T os parts.toList (cells z) L λcs=>K (.agg cs)
   |_,_=>False
  |some _,some (.arr _ _)=>Cv C op L K
  |_,_=>False
 |_=>False
theorem qo{op:Op}{K:PV->Prop}(hs:xa T op L K):c9 op=false/\∃v,(∀run lv Y h,ar C run lv op (al L Y) h=some (v,h))/\K v:=by
 unfold xa at hs
 split at hs
 ·obtain⟨v,e,k⟩:=bG hs;exact⟨rfl,v,λrun lv Y h=>by simp only[ar,aC,an e],k⟩
 ·obtain⟨v,e,k⟩:=bG hs;exact⟨rfl,v,λrun lv Y h=>by simp only[ar,aC,an e],k⟩
 ·obtain⟨v,e,k⟩:=bG hs
  split at k
  ·obtain⟨u,e2,k⟩:=bG k;exact⟨rfl,u,λrun lv Y h=>by simp only[ar,aC,an e,an e2,if_true],k⟩
  ·obtain⟨u,e2,k⟩:=bG k;exact⟨rfl,u,λrun lv Y h=>by simp only[ar,aC,an e,an e2,abi,if_false],k⟩
  exact k.elim
 ·obtain⟨v,e,k⟩:=bG hs;obtain⟨u,e2,k⟩:=bG k
  split at k
  ·split at k
   ·obtain⟨h0,k⟩:=Sx.out k;exact⟨rfl,_,λrun lv Y h=>by simp only[ar,aC,an e,an e2,fF,qj];rw[if_neg (by omega)];rfl,k⟩
   ·obtain⟨h0,k⟩:=Sz.out k;exact⟨rfl,_,λrun lv Y h=>by simp only[ar,aC,an e,an e2,fF,qj];rw[if_neg (by omega)];rfl,k⟩
   ·split at k
    ·rename_i hk
     obtain rfl:=of_decide_eq_true hk;obtain⟨w,e3,k⟩:=Pg (C:=C) k;exact⟨rfl,w,λrun lv Y h=>by simp only[ar,aC,an e,an e2,e3,abf],k⟩
    ·exact k.elim
  ·obtain⟨w,e3,k⟩:=Ph (C:=C) k;exact⟨rfl,w,λrun lv Y h=>by simp only[ar,aC,an e,an e2,e3,abf],k⟩
  ·split at k
   ·rename_i hk
    have hu:=Ca (T.cQ _ _ hk)
    split at k
    exact⟨rfl,_,λrun lv Y h=>by simp only[ar,aC,an e,an e2,fF,hu,abf],k⟩;exact⟨rfl,_,λrun lv Y h=>by simp only[ar,aC,an e,an e2,fF,hu,abf],k⟩;exact k.elim
   ·exact k.elim
  exact k.elim
 ·obtain⟨v,e,k⟩:=bG hs
  split at k
  exact⟨rfl,_,λrun lv Y h=>by simp only[ar,aC,an e,SH,abf],k.out⟩;exact k.elim
 ·obtain⟨v,e,k⟩:=bG hs
  split at k
  exact⟨rfl,_,λrun lv Y h=>by simp only[ar,aC,an e,SH,abf,ac4],k⟩;exact⟨rfl,_,λrun lv Y h=>by simp only[ar,aC,an e,SH,abf,adh],k⟩;exact k.elim
 ·obtain⟨v,e,k⟩:=bG hs
  split at k
  ·rename_i h1 h2
   obtain⟨u,h3,_⟩:=mC (T.cQ _ _ h1);exact⟨rfl,_,λrun lv Y h=>by simp only[ar,aC,an e,wk,h3,pp (T.cQ _ _ h2),abf],k.out⟩
  ·rename_i h1 h2
   obtain⟨u,h3,_⟩:=mC (T.cQ _ _ h1);exact⟨rfl,_,λrun lv Y h=>by simp only[ar,aC,an e,wk,h3,oC (T.cQ _ _ h2),abf],k⟩
  ·rename_i h1 h2
   split at k
   ·rename_i h3 h4
    exact⟨rfl,_,λrun lv Y h=>by simp only[ar,aC,an e,wk,bp (T.cQ _ _ h1),oC (T.cQ _ _ h2),pp (T.cQ _ _ h3),h4,abf],k⟩
   exact k.elim
  exact k.elim
 ·obtain⟨v,e,k⟩:=bG hs
  split at k
  ·split at k
   ·rename_i h1
    rw[qI]at h1;exact⟨rfl,_,λrun lv Y h=>by simp only[ar,aC,an e,h1],k⟩
   ·exact k.elim
  exact k.elim
 ·split at hs
  ·rename_i hf
   obtain⟨vs,e,k⟩:=ja hs;refine⟨rfl,_,λrun lv Y h=>?_,k⟩;have hf:=Array.isEmpty_iff.2 (Array.toList_eq_nil_iff.1 hf);simp only[ar,aC,hf,if_true,gq e]
  ·rename_i first _ _ x r hf
   obtain⟨vs,e,k⟩:=ja hs;obtain⟨us,e2,k⟩:=ja k;have k:=kD k;refine⟨rfl,_,λrun lv Y h=>?_,k⟩;have h1:=gq (Y:=Y) e;have h2:=gq (Y:=Y) e2;rw[<-hf]at h1
   have bN:¬first.isEmpty=true:=λhh=>by
    have:=Array.isEmpty_iff.1 hh;rw[this]at hf;cases hf
   have hl:first.size=vs.length:=by rw[<-h1];simp
   simp only[ar,aC,if_neg bN,abT,h1,h2,hl]
 ·obtain⟨v,e,k⟩:=bG hs
  split at k
  exact⟨rfl,_,λrun lv Y h=>by simp only[ar,aC,an e],k⟩;exact⟨rfl,_,λrun lv Y h=>by simp only[ar,aC,an e],k⟩;exact⟨rfl,_,λrun lv Y h=>by simp only[ar,aC,an e],k⟩;exact k.elim
 ·obtain⟨v,e,k⟩:=bG hs
  split at k
  ·rename_i cs os h1
   split at k
   ·rename_i off ft h2
    obtain⟨u,e2,k⟩:=Lg T k;obtain⟨fs,h3,h4⟩:=IA (T.cQ _ _ h1);rw[qI,<-h4]at h2;refine⟨rfl,u,λrun lv Y h=>?_,k⟩;obtain⟨fl,h5,rfl,rfl⟩:=Wg h2;simp only[ar,aC,an e,Bl,h3,h5,e2,abf]
   exact k.elim
  exact k.elim
 ·obtain⟨v,e,k⟩:=bG hs
  split at k
  ·rename_i os h1
   split at k
   ·rename_i off ft h2
    split at k
    ·rename_i sz h3
     rw[qI]at h2;have hf:=mz T h1 h2 h3
     split at k
     ·obtain⟨h4,k2⟩:=iZ k;clear k
      split at k2
      ·rename_i h5
       exact⟨rfl,_,λrun lv Y h=>by simp only[ar,aC,an e,gu,hf,if_pos (SA h5),h5,abf],k2⟩
      exact k2.elim
     exact⟨rfl,_,λrun lv Y h=>by simp only[ar,aC,an e,gu,hf,abf],k⟩;exact k.elim
    exact k.elim
   exact k.elim
  exact k.elim
 ·obtain⟨v,e,k0⟩:=bG hs;obtain⟨u,e2,k⟩:=bG k0;clear k0
  split at k
  ·rename_i h1
   obtain⟨n,b,rfl,h2,k⟩:=ByX.out k;exact⟨rfl,_,λrun lv Y h=>by simp[ar,aC,an e,an e2,wo,oC (T.cQ _ _ h1),h2],k⟩
  exact k.elim
 ·split at hs
  ·rename_i h1 h2
   split at hs
   ·rename_i h3 h4
    obtain⟨vs,jx,e1,e2,k⟩:=Bj T hs;refine⟨rfl,_,λrun lv Y h=>?_,k⟩;have:=uz T h1 h2 h3 h4 e2;have e:=iW (Y:=Y) e1;simp only[ar,aC,e,this,abf]
   exact hs.elim
  ·obtain⟨v,h1,k⟩:=Cv.out hs;exact⟨rfl,v,h1,k⟩
  ·exact hs.elim
 exact hs.elim
def SB:Option Kd->PV->Bool
 |some (.int k),.int k' _=>decide (k'=k)
 |some .str,.str _ |some .bool,.bool _=>true
 |_,_=>false
theorem yT{t:TypeId}{u:PV}(e:SB (T.kd t) u=true):zj C.P t u=true:=by
 unfold SB at e
 split at e
 ·rename_i k k' n hk
  simp only[zj,pp (T.cQ _ _ hk)];exact e
 ·rename_i s hk
  simp only[zj,oC (T.cQ _ _ hk)]
 ·rename_i s hk
  simp only[zj,Ca (T.cQ _ _ hk)]
 cases e
theorem Cw{h:ab}{id:Nat}{mu:Mu}{es:List PV}(e:h[id]?=some ⟨mu,0,0,es⟩)(hm:mu≠.x):CL h id=some ⟨mu,0,0,es⟩:=by
 simp[CL,getM,e,hm]
inductive LkX(h:ab)(v u:PV)(K:Option PV->Prop):Prop
 |nil (kk:Rn (K none)) (hv:v=.gL:=by rfl)
 |hit {id i:Nat} {mu:Mu} {es:List PV} {p:PV} (hf:mN u es 0=some (some (i,p))) (kk:Rn (K (some p))) (ho:h[id]?=some ⟨mu,0,0,es⟩:=by first |assumption |rfl) (hm:mu≠.x:=by simp) (hv:v=.cM id:=by rfl)
 |JC {id:Nat} {mu:Mu} {es:List PV} (hf:mN u es 0=some none) (kk:Rn (K none)) (ho:h[id]?=some ⟨mu,0,0,es⟩:=by first |assumption |rfl) (hm:mu≠.x:=by simp) (hv:v=.cM id:=by rfl)
theorem LkX.out{v u:PV}{K:Option PV->Prop}(x:LkX h v u K){t kt et:TypeId}{z:PV}(ht:C.P.underlying t=some (.map kt et))(hz:je C.P et=some z)(hk:zj C.P kt u=true)(ok:Bool):
  ∃r:Option PV,nN C.P h t v u ok=some (match r with |some p=>gd ok p true |none=>gd ok z false)/\K r:=by
 cases x with
 |nil kk hv=>subst hv;exact⟨none,by simp only[nN,ht,hz,hk,if_true],kk.out⟩
 |hit hf kk ho hm hv=>subst hv;exact⟨some _,by simp only[nN,ht,hz,hk,if_true,Cw ho hm,hf],kk.out⟩
 |JC hf kk ho hm hv=>subst hv;exact⟨none,by simp only[nN,ht,hz,hk,if_true,Cw ho hm,hf],kk.out⟩
inductive Lt(i:Int)(K:Nat->Prop):Prop
 |mk {n:Nat} (kk:Rn (K n)) (hi:i=(n:Int):=by first |rfl |exact(Int.natCast_succ _).symm |exact(adE (by omega)).symm)
theorem Lt.out{i:Int}{K:Nat->Prop}(x:Lt i K):∃n:Nat,i=n/\K n:=by cases x with |mk kk h=>exact⟨_,h,kk.out⟩
inductive Lh(es:List PV)(i:Nat)(K:PV->Prop):Prop
 |mk {e:PV} (kk:Rn (K e)) (h:es[i]?=some e:=by first |assumption |rfl)
theorem Lh.out{es:List PV}{i:Nat}{K:PV->Prop}(x:Lh es i K):∃e,es[i]?=some e/\K e:=by cases x with |mk kk h=>exact⟨_,h,kk.out⟩
inductive SC(h:ab)(v:PV)(K:Int->Prop):Prop
 |mk {full:Bool} {es:List PV} (kk:Rn (K (es.length:Int))) (hv:v=.aa full es:=by rfl)
 |m2 {sz:Nat} {es:List PV} (kk:Rn (K (es.length:Int))) (ho:Out sz h v es:=by assumption)
 |m3 {id ep off len:Nat} {o:au} (kk:Rn (K (len:Int))) (hv:v=.aj id ep off len:=by rfl) (ho:getM h id ep=some o:=by first |exact bm (by assumption) rfl (by first |assumption |simp)|rfl |exact lB |exact qh (bm (by assumption) rfl (by first |assumption |simp))) (hl:off+len<=o.es.length:=by first |omega |(simp;done)|(simp;omega))
theorem SC.out{v:PV}{K:Int->Prop}{t el:TypeId}(x:SC h v K)(hk:C.P.underlying t=some (.slice el)):∃n:Int,pe C.P h t v=some (.int .i64 n)/\K n:=by
 cases x with
 |mk kk hv=>subst hv;exact⟨_,by simp only[pe,hk],kk.out⟩
 |m2 kk ho=>
  rcases ho with⟨rfl,rfl⟩|⟨id,ep,rfl,e2⟩;exact⟨_,by simp only[pe,hk],kk.out⟩;exact⟨_,by simp only[pe,hk,bm e2 rfl (by simp:Mu.m≠Mu.x)];rw[if_pos (by simp)],kk.out⟩
 |m3 kk hv ho hl=>subst hv;exact⟨_,by simp only[pe,hk,ho];rw[if_pos hl],kk.out⟩
def xR(t:TypeId)(cs:List PV)(K:PV->Prop):Prop:=
 match T.ta t,T.ts t with
 |some false,some _=>match cs with |c::_=>K c |[]=>False
 |some true,some (sz+1)=>yS (sz+1) cs λl=>K (.agg l)
 |_,_=>False
theorem yU{t:TypeId}{p:PV}{cs:List PV}{K:PV->Prop}(hp:cR h p=some cs)(x:xR T t cs K):∃v,iK C.P h t p=some v/\K v:=by
 unfold xR at x
 split at x
 ·rename_i h1 h2
  split at x
  exact⟨_,by simp only[iK,T.OJ _ _ h1,T.eA _ _ h2,hp],x⟩;exact x.elim
 ·rename_i sz h1 h2
  obtain⟨h5,h6⟩:=nI x;exact⟨_,by simp only[iK,T.OJ _ _ h1,T.eA _ _ h2,hp];rw[if_pos ⟨by omega,h5⟩],h6⟩
 exact x.elim
def W8(L:Al)(x:Option Operand)(dflt:Nat)(K:Nat->Prop):Prop:=
 match x with
 |none=>K dflt
 |some x=>lV L x λv=>match v with
  | .int _ i=>Lt i K
  |_=>False
theorem wg{x:Option Operand}{dflt:Nat}{K:Nat->Prop}(hh:W8 L x dflt K):∃n:Nat,K n/\∀(Y:Nat->PV) top,(n<=top->cN (x.map (ev (al L Y))) dflt top=some n):=by
 unfold W8 at hh
 split at hh
 exact⟨_,hh,λ_ _ _=>rfl⟩
 ·obtain⟨v,e,k⟩:=bG hh
  split at k
  ·obtain⟨n,hi,k2⟩:=Lt.out k;clear k;subst hi;refine⟨n,k2,λY top ht=>?_⟩;simp only[abf,an e,cN];rw[if_pos ⟨by omega,by omega⟩];simp
  exact k.elim
theorem Zo{id ep i off:Nat}{o:au}{e:PV}(h1:getM h id ep=some o)(h2:o.es[i]?=some e):cR h (.ptr id ep i off)=some ((cells e).drop off):=by simp only[cR,h1,h2]
def so(op:Op)(L:Al)(h:ab)(K:PV->Prop):Prop:=
 match op with
 | .load t x=>lV L x λp=>match p with
  | .eg cs=>xR T t cs K
  | .ptr id ep i off=>EU h id ep λo=>Lh o.es i λe=>oJ off (cells e) λcs=>xR T t cs K
  |_=>False
 | .indexAddr t x ix=>lV L x λv=>lV L ix λu=>match T.kd t,v,u with
  |some (.sl el),.aa _ es,.int _ i=>match T.ts el with
   |some (sz+1)=>Su es i (sz+1) λcs=>K (.eg cs)
   |_=>False
  |some (.sl el),.aj id ep off len,.int _ i=>match T.ts el with
   |some sz=>EU h id ep λo=>Lt i λn=>Sd (n<len/\off+len<=o.es.length/\sz=o.bA) (K (.ptr id ep (off+n) 0))
   |_=>False
  |some (.arr m el),.eg cs,.int _ i=>match T.ts el with
   |some sz=>Lt i λn=>Sd (n<m/\n * sz<cs.length) (oJ (n * sz) cs λr=>K (.eg r))
   |_=>False
  |some (.arr m el),.ptr id ep j off,.int _ i=>match T.ts el with
   |some sz=>Lt i λn=>Sd (n<m) (K (.ptr id ep j (off+n * sz)))
   |_=>False
  |_,_,_=>False
 | .call ⟨.builtin b,args,zf⟩=>match b,args.toList,zf.toList with
  | .len,x::_,t::_=>lV L x λv=>match T.kd t with
   |some .str=>match v with
    | .str s=>K (.int .i64 s.size)
    |_=>False
   |some (.sl _)=>SC h v λn=>K (.int .i64 n)
   |_=>False
  | .max,[x,y],_=>lV L x λv=>lV L y λu=>match v,u with
   | .int k a,.int _ b=>K (.int k (max a b))
   |_,_=>False
  | .min,[x,y],_=>lV L x λv=>lV L y λu=>match v,u with
   | .int k a,.int _ b=>K (.int k (min a b))
   |_,_=>False
  |_,_,_=>False
 | .slice t x lo hi none=>lV L x λv=>match T.kd t,v with
  |some .str,.str s=>W8 L hi s.size λb=>W8 L lo 0 λa=>Sd (a<=b/\b<=s.size) (K (.str (s.extract a b)))
  |some (.sl el),.aa full es=>match T.ts el with
   |some sz=>W8 L hi es.length λb=>W8 L lo 0 λa=>Sd ((a<=b/\b<=es.length)/\(es[a]?).all (λv=>(cells v).length==sz)=true) (K (.aa (full&&b==es.length) ((es.drop a).take (b - a))))
   |_=>False
  |some (.sl _),.aj _ _ _ _=>pD C op L h K
  |_,_=>False
 | .lookup t m k ok=>lV L m λv=>lV L k λu=>match T.kd t with
  |some (.mp kt et)=>match T.tz et,SB (T.kd kt) u with
   |some z,true=>LkX h v u λr=>match r with
    |some p=>K (gd ok p true)
    |none=>K (gd ok z false)
   |_,_=>False
  |_=>False
 |_=>False
theorem jN{op:Op}{K:PV->Prop}(hs:so T op L h K):c9 op=true/\∃v,(∀run lv Y,ar C run lv op (al L Y) h=some (v,h))/\K v:=by
 unfold so at hs
 split at hs
 ·obtain⟨p,e,k⟩:=bG hs
  split at k
  ·obtain⟨v,e2,k⟩:=yU T (h:=h) (p:=.eg _) rfl k;exact⟨rfl,v,λrun lv Y=>by simp only[ar,aC,an e,e2,abf],k⟩
  ·obtain⟨o,e3,k⟩:=EU.out k;obtain⟨el,e4,k⟩:=Lh.out k;obtain⟨_,k⟩:=iZ k;obtain⟨v,e2,k⟩:=yU T (h:=h) (Zo e3 e4) k;exact⟨rfl,v,λrun lv Y=>by simp only[ar,aC,an e,e2,abf],k⟩
  exact k.elim
 ·obtain⟨v,e,k0⟩:=bG hs;obtain⟨u,e2,k⟩:=bG k0;clear k0
  split at k
  ·rename_i hk
   split at k
   ·rename_i sz eA
    obtain⟨n,w,rfl,h2,h3,k⟩:=Su.out k;refine⟨rfl,_,λrun lv Y=>?_,k⟩;have cL:=ag h2;simp only[ar,aC,an e,an e2,cF,bp (T.cQ _ _ hk),T.eA _ _ eA];rw[if_pos ⟨by omega,by omega⟩];simp only[acr,h2];rw[if_pos ⟨by omega,h3⟩];rfl
   exact k.elim
  ·rename_i hk
   split at k
   ·rename_i sz eA
    obtain⟨o,e3,k⟩:=EU.out k;obtain⟨n,hi,k2⟩:=Lt.out k;clear k;subst hi;obtain⟨⟨h1,h2,h3⟩,k⟩:=Sd.out k2;refine⟨rfl,_,λrun lv Y=>?_,k⟩;simp only[ar,aC,an e,an e2,cF,bp (T.cQ _ _ hk),T.eA _ _ eA,e3];rw[if_pos ⟨by omega,by omega,h3,h2⟩];rfl
   exact k.elim
  ·rename_i hk
   split at k
   ·rename_i sz eA
    obtain⟨n,hi,k2⟩:=Lt.out k;clear k;subst hi;obtain⟨⟨h1,h2⟩,k⟩:=Sd.out k2;obtain⟨_,k⟩:=iZ k;refine⟨rfl,_,λrun lv Y=>?_,k⟩;simp only[ar,aC,an e,an e2,cF,OK (T.cQ _ _ hk),T.eA _ _ eA];rw[if_pos ⟨by omega,by omega,by simpa using h2⟩];rfl
   exact k.elim
  ·rename_i hk
   split at k
   ·rename_i sz eA
    obtain⟨n,hi,k2⟩:=Lt.out k;clear k;subst hi;obtain⟨h1,k⟩:=Sd.out k2;refine⟨rfl,_,λrun lv Y=>?_,k⟩;simp only[ar,aC,an e,an e2,cF,OK (T.cQ _ _ hk),T.eA _ _ eA];rw[if_pos ⟨by omega,by omega⟩];rfl
   exact k.elim
  exact k.elim
 ·split at hs
  ·rename_i ha ht
   obtain⟨v,e,k⟩:=bG hs
   split at k
   ·rename_i hk
    split at k
    ·refine⟨rfl,_,λrun lv Y=>?_,k⟩;simp only[ar,ha,ht,abk,an e,br,pe,oC (T.cQ _ _ hk),abf]
    exact k.elim
   ·rename_i hk
    obtain⟨n,h1,k⟩:=SC.out k (bp (T.cQ _ _ hk));refine⟨rfl,_,λrun lv Y=>?_,k⟩;simp only[ar,ha,ht,abk,an e,br,h1,abf]
   exact k.elim
  ·rename_i ha
   obtain⟨v,e,k0⟩:=bG hs;obtain⟨u,e2,k⟩:=bG k0;clear k0
   split at k
   ·rename_i a _ b
    refine⟨rfl,_,λrun lv Y=>?_,k⟩;have:(if b>a then b else a)=Max.max a b:=by split <;>omega
    simp only[ar,ha,abk,abx,an e,an e2,br,Lw,this,abf]
   exact k.elim
  ·rename_i ha
   obtain⟨v,e,k0⟩:=bG hs;obtain⟨u,e2,k⟩:=bG k0;clear k0
   split at k
   ·rename_i a _ b
    refine⟨rfl,_,λrun lv Y=>?_,k⟩;have:(if b<a then b else a)=Min.min a b:=by split <;>omega
    simp only[ar,ha,abk,abx,an e,an e2,br,PJ,this,abf]
   exact k.elim
  ·exact hs.elim
 ·obtain⟨v,e,k⟩:=bG hs
  split at k
  ·rename_i hk
   obtain⟨b,k,hb⟩:=wg k;obtain⟨a,k,ha⟩:=wg k;obtain⟨⟨h1,h2⟩,k⟩:=Sd.out k;refine⟨rfl,_,λrun lv Y=>?_,k⟩;simp only[ar,aC,an e,cd,oC (T.cQ _ _ hk),ac9,hb Y _ h2,ha Y _ h1]
   rfl
  ·rename_i hk
   split at k
   ·rename_i sz eA
    obtain⟨b,k,hb⟩:=wg k;obtain⟨a,k,ha⟩:=wg k;obtain⟨⟨⟨h1,h2⟩,h3⟩,k⟩:=Sd.out k;refine⟨rfl,_,λrun lv Y=>?_,k⟩;simp only[ar,aC,an e,cd,bp (T.cQ _ _ hk),T.eA _ _ eA,ac9];rw[show∀n:Nat,cN none n n=some n from λ_=>rfl];simp only[hb Y _ h2,ha Y _ h1];rw[if_pos ⟨rfl,h3⟩]
    rfl
   exact k.elim
  ·obtain⟨w,h1,k⟩:=pD.out k;exact⟨rfl,w,h1,k⟩
  exact k.elim
 ·rename_i ok
  obtain⟨v,e,k0⟩:=bG hs;obtain⟨u,e2,k⟩:=bG k0;clear k0
  split at k
  ·rename_i hk
   split at k
   ·rename_i hz hkx
    obtain⟨r,h1,k2⟩:=LkX.out (C:=C) k (IM (T.cQ _ _ hk)) (T.mM _ _ hz) (yT T hkx) ok
    cases r with
    |none=>exact⟨rfl,_,λrun lv Y=>by simp only[ar,aC,an e,an e2,h1,abf],k2⟩
    |some p=>exact⟨rfl,_,λrun lv Y=>by simp only[ar,aC,an e,an e2,h1,abf],k2⟩
   exact k.elim
  exact k.elim
 exact hs.elim
inductive yV{α:Type}:List α->Nat->α->List α->Prop
 |zero {x y:α} {l:List α}:yV (x::l) 0 y (y::l)
 |succ {x y:α} {l l':List α} {n:Nat}:yV l n y l'->yV (x::l) (n+1) y (x::l')
 |last {x y:α} {l:List α}:yV (l++[x]) l.length y (l++[y])
 |gen {l:List α} {n:Nat} {y:α}:yV l n y (l.set n y)
theorem yV.eq{α:Type}{l l':List α}{n:Nat}{y:α}(a:yV l n y l'):l'=l.set n y:=by
 induction a with
 |zero=>rfl
 |succ _ ih=>rw[ih];rfl
 |last=>simp
 |gen=>rfl
inductive SE(h:ab)(id ep bA:Nat)(es:List PV)(i:Nat)(e':PV)(K:ab->Prop):Prop
 |mk {es':List PV} {h':ab} (kk:Rn (K h')) (h1:yV es i e' es':=by repeat(first |exact .zero |apply yV.succ |exact .last |exact .gen)) (h2:yV h id ⟨.m,ep,bA,es'⟩ h':=by repeat(first |exact .zero |apply yV.succ |exact .last |exact .gen))
theorem SE.out{id i ep bA:Nat}{es:List PV}{e':PV}{K:ab->Prop}(x:SE h id ep bA es i e' K):K (h.set id ⟨.m,ep,bA,es.set i e'⟩):=by
 cases x with |mk kk h1 h2=>obtain rfl:=h1.eq;obtain rfl:=h2.eq;exact kk.out
def rcX(off sz:Nat)(e v:PV)(K:PV->Prop):Prop:=
 match off,Nat.beq sz (cells e).length with
 |0,true=>K v
 |_,_=>Lf off (cells e) (cells v) λcs=>K (.agg cs)
theorem SF{off sz:Nat}{e v:PV}{K:PV->Prop}(hl:(cells v).length=sz)(x:rcX off sz e v K):off+sz<=(cells e).length/\(K (eZ off sz e v)\/(∃cs,K (.agg cs)/\cs=(cells e).take off++cells v++(cells e).drop (off+sz)/\¬(off=0/\sz=(cells e).length))):=by
 unfold rcX at x
 split at x
 ·rename_i h2
  have:=abR h2;refine⟨by omega,.inl ?_⟩;rw[eZ,if_pos ⟨rfl,this⟩];exact x
 ·rename_i hn
  obtain⟨h1,h2⟩:=tD x;rw[hl]at h1 h2;refine⟨h1,.inr ⟨_,h2,rfl,λhh=>?_⟩⟩;obtain⟨rfl,h3⟩:=hh;exact hn rfl (by rw[<-h3];exact Nat.beq_refl _)
theorem Pl{off sz:Nat}{e v:PV}{K:PV->Prop}(hl:(cells v).length=sz)(x:rcX off sz e v K):off+sz<=(cells e).length/\K (eZ off sz e v):=by
 obtain⟨h1,h2 |⟨cs,h3,rfl,h4⟩⟩:=SF hl x;exact⟨h1,h2⟩;exact⟨h1,by rw[eZ,if_neg h4];exact h3⟩
def Cx(n sz:Nat):List (Nat×Operand)->List PV->Al->(List PV->Prop)->Prop
 |[],es,_,K=>K es
 |(i,x)::r,es,L,K=>lV L x λv=>match Nat.beq (cells v).length sz,(cells v).all bC,Nat.ble (i+1) n with
  |true,true,true=>Pn es i v λes'=>Cx n sz r es' L K
  |_,_,_=>False
 where Pn:List PV->Nat->PV->(List PV->Prop)->Prop
 |[],_,_,_=>False
 |_::l,0,v,k=>k (v::l)
 |e::l,i+1,v,k=>Pn l i v λr=>k (e::r)
theorem Bk:∀{es:List PV} {i:Nat} {v:PV} {k:List PV->Prop},Cx.Pn es i v k->k (es.set i v)
 |[],_,_,_,h=>h.elim
 |_::l,0,v,k,h=>h
 |e::l,i+1,v,k,h=>Bk (es:=l) h
theorem yW{n sz:Nat}:∀{ps:List (Nat×Operand)} {es:List PV} {K:List PV->Prop},Cx n sz ps es L K->∃vs,kQ L ps=some vs/\vs.all (yG sz n)=true/\K (vs.foldl (λes x=>es.set x.1 x.2) es)
 |[],es,K,h=>⟨[],rfl,rfl,h⟩
 |(i,x)::r,es,K,h=>by
  obtain⟨v,h1,h2⟩:=bG h
  split at h2
  ·rename_i h3 h4 h5
   obtain⟨vs,e1,e2,e3⟩:=yW (Bk h2);refine⟨(i,v)::vs,by simp[kQ,h1,e1],?_,e3⟩;rw[abZ,e2,acU];simp only[yG,h4,acU,abb,decide_eq_true_eq];exact⟨abR h3,aca h5⟩
  exact h2.elim
def Wh:Nat->PV->(List PV->Prop)->Prop
 |0,_,k=>k []
 |n+1,z,k=>Wh n z λl=>k (z::l)
theorem EV:∀{n:Nat} {z:PV} {k:List PV->Prop},Wh n z k->k (List.replicate n z)
 |0,_,_,h=>h
 |n+1,z,k,h=>EV (n:=n) h
inductive BsX(h:ab)(sz:Nat)(es:List PV)(K:PV->ab->Prop):Prop
 |mk (kk:Rn (K (.aa true es) h)) (hv:ao es=true:=by first |rfl |(simp <;>fail))
 |m2 {n:Nat} {h':ab} (kk:Rn (K (.aj n 0 0 es.length) h')) (hv:ao es=false:=by first |rfl |(simp <;>fail)) (ha:PI ⟨.m,0,sz,es⟩ h h' n:=by repeat(first |exact .nil |apply PI.cons |exact .gen))
def zp(t:TypeId)(n:Nat)(ps:List (Nat×Operand))(L:Al)(K:Nat->List PV->Prop):Prop:=
 match T.kd t with
 |some (.sl el)=>match T.ts el,T.tz el with
  |some (sz+1),some z=>match Nat.ble (n * (sz+1)) 16777216,Nat.beq (cells z).length (sz+1),(cells z).all bC with
   |true,true,true=>Wh n z λes=>Cx n (sz+1) ps es L λes'=>K (sz+1) es'
   |_,_,_=>False
  |_,_=>False
 |_=>False
theorem mZ{t:TypeId}{n:Nat}{ps:List (Nat×Operand)}{K:Nat->List PV->Prop}(x:zp T t n ps L K):∃sz es,K sz es/\∀(Y:Nat->PV) (h:ab) (lv:Nat),
  dE C.P lv h t n (ps.map λ(i,x)=>(i,ev (al L Y) x))=if ao es=true then some (.aa true es,h)else if 2<=lv then some (.aj h.length 0 0 n,newObj h sz es)else none:=by
 unfold zp at x
 split at x
 ·rename_i el hk
  split at x
  ·rename_i sz z eA mM
   split at x
   ·rename_i h1 h2 h3
    obtain⟨vs,e1,e2,e3⟩:=yW (EV x);refine⟨_,_,e3,λY h lv=>?_⟩;rw[iW e1];simp only[dE,bp (T.cQ _ _ hk),T.eA _ _ eA,T.mM _ _ mM];rw[if_pos ⟨by omega,aca h1,abR h2,h3,e2⟩]
    rfl
   exact x.elim
  exact x.elim
 exact x.elim
inductive UpX(h:ab)(id:Nat)(u y:PV)(K:ab->Prop):Prop
 |mk {es es':List PV} (hp:Lv u y es=some es') (kk:Rn (K (h.set id ⟨.m,0,0,es'⟩))) (ho:h[id]?=some ⟨.m,0,0,es⟩:=by first |assumption |rfl)
theorem UpX.out{id:Nat}{u y:PV}{K:ab->Prop}(x:UpX h id u y K){t kt et:TypeId}(ht:C.P.underlying t=some (.map kt et))(hk:zj C.P kt u=true):∃h',nO C.P h t (.cM id) u y=some h'/\K h':=by
 cases x with
 |mk hp kk ho=>exact⟨_,by simp only[nO,ht,Cw ho (by simp:Mu.m≠Mu.x),hk,hp,and_self,if_true],kk.out⟩
def vt(op:Op)(L:Al)(h:ab)(K:PV->ab->Prop):Prop:=
 match op with
 | .store t a x=>lV L a λp=>lV L x λv=>match p,T.ts t with
  | .ptr id ep i off,some sz=>match Nat.beq (cells v).length sz,(cells v).all bC with
   |true,true=>EU h id ep λo=>match o with
    |⟨.m,ep,bA,es⟩=>Lh es i λe=>rcX off sz e v λe'=>SE h id ep bA es i e' λh'=>K .undef h'
    |_=>False
   |_,_=>False
  |_,_=>False
 | .alloc t=>match T.tz t,T.ts t with
  |some z,some sz=>match(cells z).all bC,Nat.beq (cells z).length sz,Nat.ble 1 sz with
   |true,true,true=>vM h ⟨.m,0,sz,[z]⟩ λn h'=>K (.ptr n 0 0 0) h'
   |_,_,_=>False
  |_,_=>Dl C (.alloc t) L h K
 | .box t x=>lV L x λz=>match T.ts t with
  |some sz=>match(cells z).all bC,Nat.beq (cells z).length sz,Nat.ble 1 sz with
   |true,true,true=>vM h ⟨.m,0,sz,[z]⟩ λn h'=>K (.ptr n 0 0 0) h'
   |_,_,_=>False
  |_=>False
 | .makeSlice t l c=>lV L l λu=>lV L c λv=>match T.kd t,u,v with
  |some (.sl el),.int _ a,.int _ b=>match T.ts el,T.tb el,T.tz el with
   |some (sz+1),some fY,some z=>match Nat.ble fY 1000,Nat.beq (cells z).length (sz+1),(cells z).all bC with
    |true,true,true=>Lt a λn=>Sd (a<=b/\b<=1073741824) (vM h ⟨.m,0,sz+1,List.replicate n z⟩ λm h'=>K (.aj m 0 0 n) h')
    |_,_,_=>False
   |_,_,_=>False
  |_,_,_=>False
 | .call ⟨.builtin .append,args,zf⟩=>match args.toList,zf.toList with
  |[x,y],[st,xt]=>lV L y λu=>match u with
   | .aa full ys=>match T.kd st,T.kd xt with
    |some (.sl el),some (.sl _)=>match T.ts el,T.tb el,T.tz el with
     |some (sz+1),some fY,some z=>match Nat.ble fY 1000,Nat.beq (cells z).length (sz+1),(cells z).all bC with
      |true,true,true=>lV L x λv=>Sv h (sz+1) v ys K
      |_,_,_=>False
     |_,_,_=>False
    |_,_=>False
   |_=>Dl C op L h K
  |_,_=>Dl C op L h K
 | .buildSlice t n ps=>zp T t n ps.toList L λsz es=>match Nat.beq es.length n with
  |true=>BsX h sz es K
  |false=>False
 | .makeMap t none=>vM h ⟨.m,0,0,[]⟩ λn h'=>K (.cM n) h'
 | .makeMap t (some x)=>lV L x λv=>match v,T.kd t with
  | .int _ _,some (.mp _ _)=>vM h ⟨.m,0,0,[]⟩ λn h'=>K (.cM n) h'
  |_,_=>False
 | .mapUpdate t m k x | .insert t m k x=>lV L m λv=>lV L k λu=>lV L x λy=>match v,T.kd t with
  | .cM id,some (.mp kt _)=>match SB (T.kd kt) u with
   |true=>UpX h id u y λh'=>K .undef h'
   |false=>False
  |_,_=>False
 |op=>Dl C op L h K
theorem Sv.out{st xt el oQ:TypeId}{sz fY:Nat}{z:PV}{full:Bool}{ys:List PV}{x y:Operand}{v:PV}{K:PV->ab->Prop}(a:Sv h (sz+1) v ys K)(hx:cO L x=some v)(hy:cO L y=some (.aa full ys))(hk:T.kd st=some (.sl el))(gf:T.kd xt=some (.sl oQ))(hs:T.ts el=some (sz+1))(hb:T.tb el=some fY)(hz:T.tz el=some z)
  (jb:fY<=1000) (hl:(cells z).length=sz+1) (ho:(cells z).all bC=true):
  ∃v' h',(∀run Y,ar C run 2 (.call ⟨.builtin .append,#[x,y],#[st,xt]⟩) (al L Y) h=some (v',h'))/\K v' h':=by
 cases a with
 | @nn fl es kk oY hv=>
  subst hv oY;refine⟨_,_,λrun Y=>?_,kk.out⟩;simp only[ar,br,abk,abx,an hx,an hy,bJ,bp (T.cQ _ _ hk),bp (T.cQ _ _ gf),T.eA _ _ hs,T.rS _ _ hb,T.mM _ _ hz,cA,cf];rw[if_pos ⟨by omega,by omega,⟨hl,ho⟩,rfl⟩]
  rfl
 | @sn es kk bN hn hv wU heo=>
  subst hv;refine⟨_,_,λrun Y=>?_,kk.out⟩;unfold dj at wU heo;simp only[ar,br,abk,abx,an hx,an hy,bJ,bp (T.cQ _ _ hk),bp (T.cQ _ _ gf),T.eA _ _ hs,T.rS _ _ hb,T.mM _ _ hz,cA,cf];rw[if_pos ⟨by omega,by omega,⟨hl,ho⟩,wU⟩,if_neg (by rw[bN];simp),if_pos ⟨trivial,by omega,im hn jb,heo⟩]
  rfl
 | @lp es kk o wU hn Ga hH=>
  by_cases bN:ys.isEmpty=true
  ·have oY:ys=[]:=by simpa using bN
   subst oY;refine⟨v,h,λrun Y=>?_,(kk v h ⟨by simpa using o,hH,aa5 _,λj _ _=>rfl,λj ep n hh=>.inl ⟨ep,n,hh⟩⟩).out⟩;rcases o with⟨rfl,rfl⟩|⟨id,ep,rfl,e2⟩
   ·simp only[ar,br,abk,abx,an hx,an hy,bJ,bp (T.cQ _ _ hk),bp (T.cQ _ _ gf),T.eA _ _ hs,T.rS _ _ hb,T.mM _ _ hz,cA,cf];rw[if_pos ⟨by omega,by omega,⟨hl,ho⟩,rfl⟩];rfl
   ·simp only[ar,br,abk,abx,an hx,an hy,bJ,bp (T.cQ _ _ hk),bp (T.cQ _ _ gf),T.eA _ _ hs,T.rS _ _ hb,T.mM _ _ hz,cA,cf,bm e2 rfl (by simp:Mu.m≠Mu.x)];rw[if_pos ⟨by omega,by omega,⟨hl,ho⟩,rfl⟩,if_pos ⟨by simp,trivial⟩];rfl
  have bN:ys.isEmpty=false:=by simpa using bN
  rcases o with⟨rfl,rfl⟩|⟨id,ep,rfl,e2⟩
  ·refine⟨.aj h.length 0 0 ys.length,h++[⟨.m,0,sz+1,ys⟩],λrun Y=>?_,(kk (.aj h.length 0 0 ys.length) (h++[⟨.m,0,sz+1,ys⟩]) ⟨.inr ⟨h.length,0,by simp,by simp⟩,hH.c8 (HV.one (by simpa using Ga)),by simp,λj hj _=>aa3 hj,λj ep n hh=>?_⟩).out⟩
   ·have:=gE T (h:=h) (lv:=2) (full:=full) (by omega) hk gf hs hb hz jb hl ho wU bN (by simpa using hn);simp only[ar,br,abk,abx,an hx,an hy,this]
   ·cases hh;exact .inr (aa5 _)
  ·have cL:=ag e2;refine⟨.aj id (ep+1) 0 (es.length+ys.length),h.set id ⟨.m,ep+1,sz+1,es++ys⟩,λrun Y=>?_,(kk (.aj id (ep+1) 0 (es.length+ys.length)) (h.set id ⟨.m,ep+1,sz+1,es++ys⟩) ⟨.inr ⟨id,ep+1,by simp,aa7 cL⟩,hH.set id (by simp) Ga,by simp,λj hj bN=>aa8 (λhh=>bN ep es.length (by rw[hh])),λj h9 n hh=>?_⟩).out⟩
   ·have:=lc T (h:=h) (full:=full) (len:=es.length) hk gf hs hb hz jb hl ho wU bN hn (bm e2 rfl (by simp)) rfl rfl (aa5 _);simp only[ar,br,abk,abx,an hx,an hy,this,ab2]
   cases hh;exact .inl ⟨ep,es.length,rfl⟩
 | @lr es kk o wU hn Ga hH=>
  by_cases bN:ys.isEmpty=true
  ·have oY:ys=[]:=by simpa using bN
   subst oY;refine⟨v,h,λrun Y=>?_,(kk v h ⟨by simpa using o,hH,aa5 _,λj _ _=>rfl,λj ep n hh=>.inl ⟨ep,n,hh⟩,λj o e=>.inl e⟩).out⟩;rcases o with⟨rfl,rfl⟩|⟨id,ep,rfl,e2⟩
   ·simp only[ar,br,abk,abx,an hx,an hy,bJ,bp (T.cQ _ _ hk),bp (T.cQ _ _ gf),T.eA _ _ hs,T.rS _ _ hb,T.mM _ _ hz,cA,cf];rw[if_pos ⟨by omega,by omega,⟨hl,ho⟩,rfl⟩];rfl
   ·simp only[ar,br,abk,abx,an hx,an hy,bJ,bp (T.cQ _ _ hk),bp (T.cQ _ _ gf),T.eA _ _ hs,T.rS _ _ hb,T.mM _ _ hz,cA,cf,bm e2 rfl (by simp:Mu.m≠Mu.x)];rw[if_pos ⟨by omega,by omega,⟨hl,ho⟩,rfl⟩,if_pos ⟨by simp,trivial⟩];rfl
  have bN:ys.isEmpty=false:=by simpa using bN
  rcases o with⟨rfl,rfl⟩|⟨id,ep,rfl,e2⟩
  ·refine⟨.aj h.length 0 0 ys.length,h++[⟨.m,0,sz+1,ys⟩],λrun Y=>?_,(kk (.aj h.length 0 0 ys.length) (h++[⟨.m,0,sz+1,ys⟩]) ⟨.inr ⟨h.length,0,by simp,by simp⟩,hH.Nj (by simp) (eQ (f:=λi=>decide (i<h.length)) (λi hi=>by have:=of_decide_eq_true hi;exact decide_eq_true (by omega)) _ (by simpa using Ga)),by simp,λj hj _=>aa3 hj,λj ep n hh=>?_,We rfl⟩).out⟩
   ·have:=gE T (h:=h) (lv:=2) (full:=full) (by omega) hk gf hs hb hz jb hl ho wU bN (by simpa using hn);simp only[ar,br,abk,abx,an hx,an hy,this]
   ·cases hh;exact .inr (aa5 _)
  ·have cL:=ag e2;refine⟨.aj id (ep+1) 0 (es.length+ys.length),h.set id ⟨.m,ep+1,sz+1,es++ys⟩,λrun Y=>?_,(kk (.aj id (ep+1) 0 (es.length+ys.length)) (h.set id ⟨.m,ep+1,sz+1,es++ys⟩) ⟨.inr ⟨id,ep+1,by simp,aa7 cL⟩,hH.set id (by simp) Ga,by simp,λj hj bN=>aa8 (λhh=>bN ep es.length (by rw[hh])),λj h9 n hh=>?_,Wf rfl⟩).out⟩
   ·have:=lc T (h:=h) (full:=full) (len:=es.length) hk gf hs hb hz jb hl ho wU bN hn (bm e2 rfl (by simp)) rfl rfl (aa5 _);simp only[ar,br,abk,abx,an hx,an hy,this,ab2]
   cases hh;exact .inl ⟨ep,es.length,rfl⟩
theorem qH{op:Op}{K:PV->ab->Prop}(hs:vt T op L h K):∃v h',(∀run Y,ar C run 2 op (al L Y) h=some (v,h'))/\K v h':=by
 unfold vt at hs
 split at hs
 ·obtain⟨p,e,k0⟩:=bG hs;obtain⟨v,e2,k⟩:=bG k0;clear k0
  split at k
  ·rename_i eA
   split at k
   ·rename_i hl h1
    obtain⟨o,e3,k⟩:=EU.out k
    split at k
    ·obtain⟨el,e4,k⟩:=Lh.out k;have hl:=abR hl;obtain⟨h5,k⟩:=Pl hl k;refine⟨_,_,λrun Y=>?_,SE.out k⟩;simp only[ar,aC,an e,an e2,gV,T.eA _ _ eA,e3,e4,aa5,if_true];rw[if_pos ⟨trivial,hl,h1,h5⟩];rfl
    exact k.elim
   exact k.elim
  exact k.elim
 ·split at hs
  ·rename_i hz eA
   split at hs
   ·rename_i h1 h2 h3
    have h2:=abR h2;have h3:=aca h3;refine⟨_,_,λrun Y=>?_,vM.out hs⟩;simp only[ar,aC,T.mM _ _ hz];rw[if_pos ⟨by omega,h1,by omega⟩,newObj,h2]
   exact hs.elim
  ·exact hs.out
 ·obtain⟨z,e,k⟩:=bG hs
  split at k
  ·rename_i eA
   split at k
   ·rename_i h1 h2 h3
    have h2:=abR h2;have h3:=aca h3;refine⟨_,_,λrun Y=>?_,vM.out k⟩;simp only[ar,aC,an e];rw[if_pos ⟨by omega,h1,by omega⟩,newObj,h2]
   exact k.elim
  exact k.elim
 ·obtain⟨u,e,k0⟩:=bG hs;obtain⟨v,e2,k⟩:=bG k0;clear k0
  split at k
  ·rename_i hk
   split at k
   ·rename_i eA rS mM
    split at k
    ·rename_i h1 h2 h3
     obtain⟨n,hi,k2⟩:=Lt.out k;clear k;subst hi;obtain⟨⟨h4,h5⟩,k⟩:=Sd.out k2;have h1:=aca h1;refine⟨_,_,λrun Y=>?_,vM.out k⟩;simp only[ar,aC,an e,an e2,jE,bp (T.cQ _ _ hk),T.eA _ _ eA,T.rS _ _ rS,T.mM _ _ mM];rw[if_pos ⟨by omega,by omega,h4,h5,by omega,by omega,abR h2,h3⟩];simp[newObj]
    exact k.elim
   exact k.elim
  exact k.elim
 ·split at hs
  ·rename_i x y st xt ha ht
   obtain⟨u,e,k⟩:=bG hs
   split at k
   ·split at k
    ·rename_i hk gf
     split at k
     ·rename_i eA rS mM
      split at k
      ·rename_i h1 h2 h3
       obtain⟨v,e2,k⟩:=bG k;obtain⟨v',h',h5,h6⟩:=Sv.out T k e2 e hk gf eA rS mM (aca h1) (abR h2) h3;refine⟨v',h',λrun Y=>?_,h6⟩;rw[<-h5 run Y];simp only[ar,ha,ht]
      exact k.elim
     exact k.elim
    ·exact k.elim
   exact k.out.imp λv a=>a.imp λh' b=>b
  ·obtain⟨v,h',b⟩:=hs.out;exact⟨v,h',b⟩
 ·obtain⟨sz,es,k,hb⟩:=mZ T hs
  split at k
  ·rename_i hn
   have hn:=abR hn
   cases k with
   |mk kk hv=>exact⟨_,_,λrun Y=>by simp only[ar,aC,hb];rw[if_pos hv],kk.out⟩
   |m2 kk hv ha=>
    obtain⟨rfl,rfl⟩:=ha.eq;refine⟨_,_,λrun Y=>?_,kk.out⟩;simp only[ar,aC,hb];rw[if_neg (by rw[hv];simp),if_pos (aa5 2),newObj,hn]
  exact k.elim
 exact⟨_,_,λrun Y=>by simp only[ar,aC,mO,ac9];rw[if_pos (by omega)];rfl,vM.out hs⟩
 ·obtain⟨v,e,k⟩:=bG hs
  split at k
  ·rename_i hk
   exact⟨_,_,λrun Y=>by simp only[ar,aC,mO,abf,an e,IM (T.cQ _ _ hk)];rw[if_pos (by omega)];rfl,vM.out k⟩
  exact k.elim
 ·obtain⟨v,e,k0⟩:=bG hs;obtain⟨u,e2,k1⟩:=bG k0;obtain⟨y,e3,k⟩:=bG k1;clear k0 k1
  split at k
  ·rename_i hk
   split at k
   ·rename_i hkx
    obtain⟨h',h1,k2⟩:=UpX.out (C:=C) k (IM (T.cQ _ _ hk)) (yT T hkx);exact⟨_,h',λrun Y=>by simp only[ar,aC,an e,an e2,an e3,h1,aa5,if_true,abf],k2⟩
   exact k.elim
  exact k.elim
 ·obtain⟨v,e,k0⟩:=bG hs;obtain⟨u,e2,k1⟩:=bG k0;obtain⟨y,e3,k⟩:=bG k1;clear k0 k1
  split at k
  ·rename_i hk
   split at k
   ·rename_i hkx
    obtain⟨h',h1,k2⟩:=UpX.out (C:=C) k (IM (T.cQ _ _ hk)) (yT T hkx);exact⟨_,h',λrun Y=>by simp only[ar,aC,an e,an e2,an e3,h1,aa5,if_true,abf],k2⟩
   exact k.elim
  exact k.elim
 obtain⟨v,h',b⟩:=hs.out;exact⟨v,h',b⟩
def push(d:Option Nat)(v:PV)(L:Al):Al:=match d with |some d=>(d,v)::L |none=>L
def fP(d:Option Nat)(v:PV)(L:Al)(K:Al->Prop):Prop:=match d with |some d=>K ((d,v)::L)|none=>K L
theorem gk{d:Option Nat}{v:PV}{K:Al->Prop}(h:fP d v L K):K (push d v L):=by
 unfold fP at h
 split at h <;>exact h
theorem kb(d:Option Nat)(v:PV):bY (al L Y) d v=al (push d v L) Y:=by
 cases d with
 |none=>rfl
 |some d=>exact b8 d v L Y
def W9(ops:List Oper)(g:Option (Nat×Bool))(L:Al):Option Bool:=
 match g with
 |none=>some true
 |some (j,want)=>match zI ops j with
  |some o=>match o.dst with
   |some d=>match lk L d with
    |some (.bool true)=>some want
    |some (.bool false)=>match want with |true=>some false |false=>some true
    |some .undef=>some false
    |_=>none
   |none=>some false
  |none=>some false
theorem wh{ops:Array Oper}{o:Oper}{b:Bool}(hh:W9 ops.toList o.guard L=some b):bu ops o (al L Y)=some b:=by
 unfold W9 at hh;unfold bu
 split at hh
 ·rename_i hg;rw[hg];exact hh
 ·rename_i j want hg
  rw[hg];simp only;rw[qI]at hh
  cases ho:ops.toList[j]? with
  |none=>rw[ho]at hh;simpa using hh
  |some o'=>
   rw[ho]at hh;simp only[Option.bind_some]at hh ⊢
   cases hd:o'.dst with
   |none=>rw[hd]at hh;simpa using hh
   |some d=>
    rw[hd]at hh;simp only at hh ⊢
    split at hh
    ·rename_i hl;rw[dn hl Y];simp at hh;subst hh;cases want <;>rfl
    ·rename_i hl;rw[dn hl Y];cases want <;>simp at hh <;>subst hh <;>rfl
    ·rename_i hl;rw[dn hl Y];simpa using hh
    cases hh
def yX(op:Op):Option (Operand×List Operand):=match op with | .call ⟨.value f,args,_⟩=>some (f,args.toList)|_=>none
def Wi(op:Op):Bool:=match op with | .load .. | .indexAddr .. | .slice .. | .lookup ..=>true | .call ⟨.builtin .len,_,_⟩| .call ⟨.builtin .max,_,_⟩| .call ⟨.builtin .min,_,_⟩=>true |_=>false
def Po(op:Op)(L:Al)(h:ab)(K:PV->ab->Prop):Prop:=
 match yX op with
 |some (f,args)=>lV L f λv=>match v with
  | .fn f dy=>oO L args λus=>vN us dy λus=>ai C 2 f us h λv h'=>Rn (K v h')
  | .nK f k cs=>oO L args λus=>yS k cs λa=>oJ k cs λb=>vN a us λus=>vN us b λus=>ai C 2 f us h λv h'=>Rn (K v h')
  |_=>False
 |none=>match c9 op with
  |false=>xa T op L λv=>K v h
  |true=>match Wi op with
   |true=>so T op L h λv=>K v h
   |false=>vt T op L h K
def Hs(ops:List Oper)(l:List Oper):Al->ab->(Al->ab->Prop)->Prop:=
 List.rec (motive:=λ_=>Al->ab->(Al->ab->Prop)->Prop) (λL h Q=>Q L h)
  (λo _ ih L h Q=>match W9 ops o.guard L with
   |some true=>Po T o.op L h λv h'=>fP o.dst v L λL=>ih L h' Q
   |some false=>fP o.dst .undef L λL=>ih L h Q
   |none=>False) l
theorem Li{ops:List Oper}{o:Oper}{r:List Oper}{L:Al}{h:ab}{Q:Al->ab->Prop}:Hs T ops (o::r) L h Q=match W9 ops o.guard L with
  |some true=>Po T o.op L h λv h'=>fP o.dst v L λL=>Hs T ops r L h' Q
  |some false=>fP o.dst .undef L λL=>Hs T ops r L h Q
  |none=>False:=rfl
theorem ai.mono{lv:Nat}{f:FuncId}{args:List PV}{h:ab}{Q Q':PV->ab->Prop}(a:ai C lv f args h Q)(hq:∀r h,Q r h->Q' r h):ai C lv f args h Q':=by
 obtain⟨r,h',q,e⟩:=a;exact⟨r,h',hq _ _ q,e⟩
theorem ah.Zp{ops:Array Oper}{o:Oper}{r:List Oper}{s:St}{Q:St->Prop}{c:Call}{x:Operand}{f:FuncId}{k:Nat}{cs args:List PV}(hw:bu ops o s.Y=some true)(ho:o.op=.call c)(hx:c.callee=.value x)(hf:ev s.Y x=.nK f k cs)
  (ha:cs.take k++c.args.toList.map (ev s.Y)++cs.drop k=args) (hc:ai C 2 f args s.h (λv h'=>ah C ops r ⟨bY s.Y o.dst v,h'⟩ Q)):ah C ops (o::r) s Q:=by
 obtain⟨v,h',⟨s',q,n1,CZ⟩,n0,hn⟩:=hc;refine⟨s',q,max n0 n1,λn h1=>?_⟩
 have:ar C (fa C n) 2 o.op s.Y s.h=some (v,h'):=by
  rw[ho];simp only[ar,hx,fQ,hf,ha];exact hn n (by omega)
 simp only[dH,fR,hw,this,CZ n (by omega)]
theorem qi{ops:Array Oper}{Q:St->Prop}:∀{l:List Oper} {L:Al} {h:ab} {K:Al->ab->Prop},Hs T ops.toList l L h K->(∀L' h',K L' h'->Q ⟨al L' Y,h'⟩)->ah C ops l ⟨al L Y,h⟩ Q
 |[],L,h,K,x,hq=>ah.nil (hq _ _ x)
 |o::r,L,h,K,x,hq=>by
  rw[Li]at x
  split at x
  ·rename_i hg
   have hw:=wh (Y:=Y) hg
   have plain:∀{v:PV} {h':ab},(∀run Y,ar C run 2 o.op (al L Y) h=some (v,h'))->(fP o.dst v L λL=>Hs T ops.toList r L h' K)->ah C ops (o::r) ⟨al L Y,h⟩ Q:=λ{v h'} hv k=>
    ah.step (s1:=⟨bY (al L Y) o.dst v,h'⟩) (λrun=>by simp only[fR,hw,hv run Y]) (by rw[kb];exact qi (gk k) hq)
   unfold Po at x
   split at x
   ·rename_i f args hc
    obtain⟨v,e,k⟩:=bG x
    split at k
    ·obtain⟨us,e2,k⟩:=ja k;have k:=kD k
     have lz:∃c:Call,o.op=.call c/\c.callee=.value f/\c.args.toList=args:=by
      unfold yX at hc
      split at hc
      ·rename_i h1
       obtain⟨rfl,rfl⟩:=abe (aa2 hc);exact⟨_,h1,rfl,rfl⟩
      cases hc
     obtain⟨c,c1,c2,c3⟩:=lz;refine ah.call hw c1 c2 (an e Y) (by rw[c3,gq e2]) (k.mono λv h' kk=>?_);rw[kb];exact qi (gk kk.out) hq
    ·obtain⟨us,e2,k⟩:=ja k;obtain⟨_,k⟩:=nI k;obtain⟨_,k⟩:=iZ k;have k:=kD (kD k)
     have lz:∃c:Call,o.op=.call c/\c.callee=.value f/\c.args.toList=args:=by
      unfold yX at hc
      split at hc
      ·rename_i h1
       obtain⟨rfl,rfl⟩:=abe (aa2 hc);exact⟨_,h1,rfl,rfl⟩
      cases hc
     obtain⟨c,c1,c2,c3⟩:=lz;refine ah.Zp hw c1 c2 (an e Y) (by rw[c3,gq e2]) (k.mono λv h' kk=>?_);rw[kb];exact qi (gk kk.out) hq
    exact k.elim
   ·split at x
    ·obtain⟨_,v,h1,k⟩:=qo T x;exact plain (λrun Y=>h1 run 2 Y h) k
    ·split at x
     ·obtain⟨_,v,h1,k⟩:=jN T x;exact plain (λrun Y=>h1 run 2 Y) k
     ·obtain⟨v,h',h1,k⟩:=qH T x;exact plain h1 k
  ·rename_i hg
   have hw:=wh (Y:=Y) hg;exact ah.step (s1:=⟨bY (al L Y) o.dst .undef,h⟩) (λrun=>by simp only[fR,hw]) (by rw[kb];exact qi (gk x) hq)
  exact x.elim
def Zq(h:ab)(v:PV):Prop:=match v with
 | .ptr id _ _ _=>aO h id=true
 | .aj id _ _ _=>aO h id=true
 |v=>bw (aO h) v=true
def KT(L:Al)(h:ab):List Operand->Prop
 |[]=>True
 |y::r=>match cO L y with
  |some v=>Zq h v/\KT L h r
  |none=>False
theorem jS{id:Nat}{o:au}(e:h[id]?=some o)(h1:o.mu≠.x):aO h id=true:=by simp[aO,e,h1]
theorem IS{o:au}(h1:o.mu≠.x):aO (h++[o]) h.length=true:=by simp[aO,h1]
theorem wi{J:ab}{id:Nat}(e:aO h id=true):aO (h++J) id=true:=by
 unfold aO at e ⊢
 split at e
 ·rename_i o ho
  rw[aa3 (ag ho),ho];exact e
 cases e
theorem IT{Y:Nat->PV}:∀{l:List Operand},KT L h l->∀y∈l,bw (aO h) (ev (al L Y) y)=true
 |[],_,y,hy=>by cases hy
 |x::l,a,y,hy=>by
  unfold KT at a
  split at a
  ·rename_i v hv
   rcases abc.1 hy with rfl |hy
   ·rw[an hv];have a1:=a.1;unfold Zq at a1
    split at a1
    simpa only[bw]using a1;simpa only[bw]using a1;exact a1
   exact IT a.2 y hy
  exact a.elim
inductive DRd(ops:Array Oper)(i:Nat)(op:Op)(L:Al)(h:ab)(a:Prop):Prop
 |mk (k:Rn a) (hc:aY h=true:=by first |exact HV.closed (by assumption)|exact HR.closed (by assumption)|assumption |rfl |((refine HV.closed ?_;repeat' (first |assumption |apply HV.c8 |(refine HV.one ?_;simp <;>fail)|exact HV.nil)) <;>fail))
   (hv:KT L h op.operands.toList:=by(repeat' (first |exact trivial |refine⟨?_,?_⟩|rfl |exact jS (by assumption) (by first |assumption |simp)|exact IS (by simp)|exact wi (jS (by assumption) (by first |assumption |simp))|exact wi (IS (by simp))|exact wi (wi (jS (by assumption) (by first |assumption |simp))))) <;>fail)
 |m2 (k:Rn a) (hl:level ops (before ops) i=2:=by rfl)
inductive DTw(ops:Array Oper)(i:Nat)(a:Prop):Prop
 |mk (k:Rn a) (hl:level ops (before ops) i=2:=by rfl)
inductive Wj(C:cG)(ops:Array Oper)(i:Nat)(L:Al)(f:FuncId)(xs:List Operand)(us:List PV)(h:ab)(K:PV->ab->Prop):Prop
 |m2 (k:ai C 2 f us h λv h'=>Rn (K v h')) (hl:level ops (before ops) i=2:=by rfl)
 |o1 (r:PV) (a:ax C f us (h.map bI) (λr' h'=>r'=r/\h'.length=h.length)) (kk:Rn (K r h)) (hv:bL (aO h) us=true) (hm:C.mode f=.opened:=by rfl) (hl:level ops (before ops) i=1:=by rfl)
   (hc:aY h=true:=by first |exact HV.closed (by assumption)|exact HR.closed (by assumption)|assumption)
 |mk (r:PV) (a:aL C f (aU us) r) (kk:Rn (K r h)) (hm:C.mode f=.pure:=by rfl) (hv:ao us=true:=by simp) (hc:aY h=true:=by first |exact HV.closed (by assumption)|exact HR.closed (by assumption)|assumption |rfl |((refine HV.closed ?_;repeat' (first |assumption |apply HV.c8 |(refine HV.one ?_;simp <;>fail)|exact HV.nil)) <;>fail))
inductive DBs(ops:Array Oper)(i:Nat)(op:Op)(L:Al)(h:ab)(es:List PV)(p q:Prop):Prop
 |mk (k:Rn q) (hv:ao es=false:=by rfl) (hl:level ops (before ops) i=2:=by rfl)
 |m2 (k:DRd ops i op L h p) (hv:ao es=true:=by first |rfl |(simp <;>fail))
theorem Hd{op:Op}(hv:KT L h op.operands.toList):(op.operands.toList.all λy=>bw (aO h) (ev (al L Y) y))=true:=by
 rw[aa4];exact IT hv
def dX(ops:Array Oper)(i:Nat)(l:List Oper):Al->ab->(Al->ab->Prop)->Prop:=
 List.rec (motive:=λ_=>Nat->Al->ab->(Al->ab->Prop)->Prop) (λ_ L h Q=>Q L h)
  (λo _ ih i L h Q=>match W9 ops.toList o.guard L with
  |some true=>match yX o.op with
   |some (f,args)=>lV L f λv=>match v with
    | .fn f dy=>oO L args λus=>vN us dy λus=>Wj C ops i L f args us h λv h'=>fP o.dst v L λL=>ih (i+1) L h' Q
    | .nK f k cs=>oO L args λus=>yS k cs λa=>oJ k cs λb=>vN a us λus=>vN us b λus=>Wj C ops i L f args us h λv h'=>fP o.dst v L λL=>ih (i+1) L h' Q
    |_=>False
   |none=>match c9 o.op with
    |false=>xa T o.op L λv=>fP o.dst v L λL=>ih (i+1) L h Q
    |true=>match Wi o.op with
     |true=>DRd ops i o.op L h (so T o.op L h λv=>fP o.dst v L λL=>ih (i+1) L h Q)
     |false=>match o.op with
      | .buildSlice t n ps=>zp T t n ps.toList L λsz es=>match Nat.beq es.length n with
       |true=>DBs ops i o.op L h es (fP o.dst (.aa true es) L λL=>ih (i+1) L h Q) (vt T o.op L h λv h'=>fP o.dst v L λL=>ih (i+1) L h' Q)
       |false=>False
      |op=>DTw ops i (vt T op L h λv h'=>fP o.dst v L λL=>ih (i+1) L h' Q)
  |some false=>fP o.dst .undef L λL=>ih (i+1) L h Q
  |none=>False) l i
theorem SG{ops:Array Oper}{i:Nat}{o:Oper}{r:List Oper}{L:Al}{h:ab}{Q:Al->ab->Prop}:dX T ops i (o::r) L h Q=(
  match W9 ops.toList o.guard L with
  |some true=>match yX o.op with
   |some (f,args)=>lV L f λv=>match v with
    | .fn f dy=>oO L args λus=>vN us dy λus=>Wj C ops i L f args us h λv h'=>fP o.dst v L λL=>dX T ops (i+1) r L h' Q
    | .nK f k cs=>oO L args λus=>yS k cs λa=>oJ k cs λb=>vN a us λus=>vN us b λus=>Wj C ops i L f args us h λv h'=>fP o.dst v L λL=>dX T ops (i+1) r L h' Q
    |_=>False
   |none=>match c9 o.op with
    |false=>xa T o.op L λv=>fP o.dst v L λL=>dX T ops (i+1) r L h Q
    |true=>match Wi o.op with
     |true=>DRd ops i o.op L h (so T o.op L h λv=>fP o.dst v L λL=>dX T ops (i+1) r L h Q)
     |false=>match o.op with
      | .buildSlice t n ps=>zp T t n ps.toList L λsz es=>match Nat.beq es.length n with
       |true=>DBs ops i o.op L h es (fP o.dst (.aa true es) L λL=>dX T ops (i+1) r L h Q) (vt T o.op L h λv h'=>fP o.dst v L λL=>dX T ops (i+1) r L h' Q)
       |false=>False
      |op=>DTw ops i (vt T op L h λv h'=>fP o.dst v L λL=>dX T ops (i+1) r L h' Q)
  |some false=>fP o.dst .undef L λL=>dX T ops (i+1) r L h Q
  |none=>False):=rfl
theorem IU{ops:Array Oper}{i:Nat}{o:Oper}{r:List Oper}{c:Call}{f:Operand}{g:FuncId}{us us0 fvs:List PV}{Q:St->Prop}{K:PV->ab->Prop}(hw:bu ops o (al L Y)=some true)(c1:o.op=.call c)(c2:c.callee=.value f)
  (hfv:∀F:Nat->Bool,bw F (ev (al L Y) f)=bL F fvs) (e2:vI L c.args.toList=some us0) (Zr:∀y,y∈us0\/y∈fvs->y∈us) (jJ:∀run lv,ar C run lv o.op (al L Y) h=di C run lv g us h) {xs:List Operand} (k:Wj C ops i L g xs us h K)
  (hk:∀v h',K v h'->aZ C ops (i+1) r ⟨⟨bY (al L Y) o.dst v,h'⟩,h'.length,[]⟩ Q):aZ C ops i (o::r) ⟨⟨al L Y,h⟩,h.length,[]⟩ Q:=by
 have hh:c9 o.op=true:=by rw[c1];rfl
 have hM:cB ((before ops).getD i 0).testBit h.length [] h=h:=by simp[cB]
 have lz:bL (aO h) us=true->(o.op.operands.toList.all λy=>bw (aO h) (ev (al L Y) y))=true:=λhv=>by
  rw[gj,aa4]at hv;rw[c1,aa4]
  intro y hy
  simp[Op.operands,Call.operands,c2]at hy;rcases hy with rfl |hy
  ·rw[hfv,gj,aa4];exact λx hx=>hv x (Zr x (.inr hx))
  ·refine hv _ (Zr _ (.inl ?_));rw[<-gq (Y:=Y) e2];exact abB.2 ⟨y,by simpa using hy,rfl⟩
 cases k with
 |m2 k hl=>
  obtain⟨v,h',kk,n0,hn⟩:=k;exact aZ.step (x1:=⟨⟨bY (al L Y) o.dst v,h'⟩,h'.length,[]⟩) ⟨n0,λn h1=>by simp only[ct,hw,hh,abL,if_false,hl,if_true,jJ,hn n h1]⟩ (hk _ _ kk.out)
 |o1 v a kk hv hm hl hc=>
  obtain⟨v',h',⟨rfl,hd⟩,n0,hn⟩:=a;have hd:h'.drop h.length=[]:=abG (by omega);refine aZ.step (x1:=⟨⟨bY (al L Y) o.dst v',h⟩,h.length,[]⟩) ⟨n0,λn h1=>?_⟩ (hk _ _ kk.out)
  have EK:di C (fa C n) 1 g us h=some (v',h):=by
   unfold di;simp[hm,ig,dI,hn n h1,hd]
  simp only[ct,hw,hh,abL,if_false,hl,hM,hc,lz hv,and_self,if_true,jJ,EK];simp
 |mk r' a kk hm hv hc=>
  have EK:∃n0,∀n lv,n0<=n->1<=lv->di C (fa C n) lv g us h=some (r',h):=by
   obtain⟨n0,hn⟩:=a;refine⟨n0,λn lv h1 _=>?_⟩;obtain⟨r0,hc,r1,e1,e2,e3⟩:=hn n h1;unfold di;rw[hm];simp only[dV,hv,if_true,e1,e2,e3]
  obtain⟨n0,hn⟩:=EK;refine aZ.step (x1:=⟨⟨bY (al L Y) o.dst r',h⟩,h.length,[]⟩) ⟨n0,λn h1=>?_⟩ (hk _ _ kk.out)
  by_cases hl:level ops (before ops) i=2
  simp only[ct,hw,hh,abL,if_false,hl,if_true,jJ,hn n 2 h1 (by omega)]
  ·simp only[ct,hw,hh,abL,if_false,hl,hM,hc,lz (bt _ _ hv),and_self,if_true,jJ,hn n 1 h1 (aa5 _)];simp
theorem rR{ops:Array Oper}{Q:St->Prop}:∀{l:List Oper} {i:Nat} {L:Al} {h:ab} {K:Al->ab->Prop},dX T ops i l L h K->(∀L' h',K L' h'->Q ⟨al L' Y,h'⟩)->aZ C ops i l ⟨⟨al L Y,h⟩,h.length,[]⟩ Q
 |[],i,L,h,K,x,hq=>aZ.nil (hq _ _ x)
 |o::r,i,L,h,K,x,hq=>by
  rw[SG]at x
  split at x
  ·rename_i hg
   have hw:=wh (Y:=Y) hg
   have plain:∀{v:PV},c9 o.op=false->(∀run,ar C run 1 o.op (al L Y) h=some (v,h))->(fP o.dst v L λL=>dX T ops (i+1) r L h K)->aZ C ops i (o::r) ⟨⟨al L Y,h⟩,h.length,[]⟩ Q:=λ{v} hh hv k=>
    aZ.step (x1:=⟨⟨bY (al L Y) o.dst v,h⟩,h.length,[]⟩) ⟨0,λn _=>by simp only[ct,hw,hh,if_true,hv]⟩ (by rw[kb];exact rR (gk k) hq)
   have two:∀{v:PV} {h':ab},c9 o.op=true->level ops (before ops) i=2->(∃n0,∀n,n0<=n->ar C (fa C n) 2 o.op (al L Y) h=some (v,h'))->(fP o.dst v L λL=>dX T ops (i+1) r L h' K)->aZ C ops i (o::r) ⟨⟨al L Y,h⟩,h.length,[]⟩ Q:=λ{v h'} hh hl hv k=>by
    obtain⟨n0,hn⟩:=hv;refine aZ.step (x1:=⟨⟨bY (al L Y) o.dst v,h'⟩,h'.length,[]⟩) ⟨n0,λn h1=>?_⟩ (by rw[kb];exact rR (gk k) hq);simp only[ct,hw,hh,abL,if_false,hl,if_true,hn n h1]
   have one:∀{v:PV},c9 o.op=true->aY h=true->(o.op.operands.toList.all λy=>bw (aO h) (ev (al L Y) y))=true->(∃n0,∀n lv,n0<=n->1<=lv->ar C (fa C n) lv o.op (al L Y) h=some (v,h))->(fP o.dst v L λL=>dX T ops (i+1) r L h K)->aZ C ops i (o::r) ⟨⟨al L Y,h⟩,h.length,[]⟩ Q:=λ{v} hh dG lz hv k=>by
    by_cases hl:level ops (before ops) i=2
    ·obtain⟨n0,hn⟩:=hv;exact two hh hl ⟨n0,λn h1=>hn n 2 h1 (by omega)⟩ k
    ·obtain⟨n0,hn⟩:=hv;refine aZ.step (x1:=⟨⟨bY (al L Y) o.dst v,h⟩,h.length,[]⟩) ⟨n0,λn h1=>?_⟩ (by rw[kb];exact rR (gk k) hq);have hM:cB ((before ops).getD i 0).testBit h.length [] h=h:=by simp[cB]
     simp only[ct,hw,hh,abL,if_false,hl,hM,dG,lz,and_self,if_true,hn n 1 h1 (aa5 _)];simp
   split at x
   ·rename_i f args hc
    obtain⟨v,e,k⟩:=bG x
    split at k
    ·rename_i dy
     obtain⟨us,e2,k⟩:=ja k;have k:=kD k
     have lz:∃c:Call,o.op=.call c/\c.callee=.value f/\c.args.toList=args:=by
      unfold yX at hc
      split at hc
      ·rename_i h1
       obtain⟨rfl,rfl⟩:=abe (aa2 hc);exact⟨_,h1,rfl,rfl⟩
      cases hc
     obtain⟨c,c1,c2,c3⟩:=lz
     refine IU hw c1 c2 (fvs:=dy) (λF=>by rw[an e];rfl) (us0:=us) (by rw[c3];exact e2) (λy hy=>aa9.2 hy) (λrun lv=>by
      rw[c1];simp only[ar,c2,fQ,an e,c3,gq e2]) k (λv h' kk=>?_)
     rw[kb];exact rR (gk kk) hq
    ·rename_i kk cs
     obtain⟨us,e2,k⟩:=ja k;obtain⟨_,k⟩:=nI k;obtain⟨_,k⟩:=iZ k;have k:=kD (kD k)
     have lz:∃c:Call,o.op=.call c/\c.callee=.value f/\c.args.toList=args:=by
      unfold yX at hc
      split at hc
      ·rename_i h1
       obtain⟨rfl,rfl⟩:=abe (aa2 hc);exact⟨_,h1,rfl,rfl⟩
      cases hc
     obtain⟨c,c1,c2,c3⟩:=lz
     refine IU hw c1 c2 (fvs:=cs) (λF=>by rw[an e];rfl) (us0:=us) (by rw[c3];exact e2) (λy hy=>by
      rcases hy with hy |hy;simp[hy]
      ·have:y∈cs.take kk++cs.drop kk:=by rw[acJ];exact hy
       rcases aa9.1 this with h |h;exact aa9.2 (.inl (aa9.2 (.inl h)))
       ·exact aa9.2 (.inr h)) (λrun lv=>by
      rw[c1];simp only[ar,c2,fQ,an e,c3,gq e2]) k (λv h' kk=>?_)
     rw[kb];exact rR (gk kk) hq
    exact k.elim
   ·split at x
    ·obtain⟨hh,v,h1,k⟩:=qo T x;exact plain hh (λrun=>h1 run 1 Y h) k
    ·split at x
     ·rename_i hh _ _
      cases x with
      |mk k hc hv=>
       obtain⟨_,v,h1,k⟩:=jN T k.out;exact one hh hc (Hd hv) ⟨0,λn lv _ _=>h1 _ lv Y⟩ k
      |m2 k hl=>
       obtain⟨_,v,h1,k⟩:=jN T k.out;exact two hh hl ⟨0,λn _=>h1 _ 2 Y⟩ k
     ·rename_i hh _ _
      split at x
      ·rename_i lz
       obtain⟨sz,es,k,hb⟩:=mZ T x
       split at k
       ·have hb:∀run lv,ao es=true->ar C run lv o.op (al L Y) h=some (.aa true es,h):=λrun lv hv=>by
         rw[lz];simp only[ar,aC,hb];rw[if_pos hv]
        cases k with
        |m2 k Ga=>
         cases k with
         |mk k hc hv=>exact one hh hc (Hd hv) ⟨0,λn lv _ _=>hb _ lv Ga⟩ k.out
         |m2 k hl=>exact two hh hl ⟨0,λn _=>hb _ 2 Ga⟩ k.out
        |mk k _ hl=>
         obtain⟨v,h',h1,k⟩:=qH T k.out;exact two hh hl ⟨0,λn _=>h1 _ Y⟩ k
       exact k.elim
      ·cases x with
       |mk k hl=>
        obtain⟨v,h',h1,k⟩:=qH T k.out;exact two hh hl ⟨0,λn _=>h1 _ Y⟩ k
  ·rename_i hg
   have hw:=wh (Y:=Y) hg;refine aZ.step (x1:=⟨⟨bY (al L Y) o.dst .undef,h⟩,h.length,[]⟩) ⟨0,λn _=>by simp only[ct,hw]⟩ (by rw[kb];exact rR (gk x) hq)
  exact x.elim
inductive SY(ops:Array Oper)(L:Al)(h:ab)(Q:Al->ab->Prop):Prop
 |mk (k:Rn (dX T ops 0 ops.toList L h Q)) (hk:rY ops=false:=by rfl)
 |raw (k:∀Y,aZ C ops 0 ops.toList ⟨⟨al L Y,h⟩,h.length,[]⟩ (λs=>∃L' h',s=⟨al L' Y,h'⟩/\Q L' h')) (hk:rY ops=false:=by rfl)
 |calm (L':Al) (h':ab) (e:∀run Y,jg C run ops ⟨al L Y,h⟩=some ⟨al L' Y,h'⟩) (kk:Rn (Q L' h')) (hk:rY ops=true:=by rfl)
inductive uE(C:cG) where
 |top (Q:Ex->St->Prop)
 |fn (f:Func) (Q:PV->ab->Prop)
 |seq (b:Code) (k:uE C)
 |block (id:Nat) (k:uE C)
 |loop (I:Al->ab->Prop) (k:uE C)
theorem kI{k:IntKind}{a b:Int}(h:a=b):some (PV.int k a)=some (PV.int k b):=by rw[h]
inductive Nx(I:Al->ab->Prop)(L:Al)(h:ab):Prop
 |nx {L':Al} (a:I L' h) (hk:RW L L':=by repeat(first |exact trivial |refine⟨?_,?_⟩|rfl |exact kI (by first |(simp;done)|(simp;omega)|omega)))
def NxS(I:Al->ab->Prop)(s:St):Prop:=∃L Y,s.Y=al L Y/\I L s.h
theorem Nx.out{I:Al->ab->Prop}{L:Al}{h:ab}(x:Nx I L h)(Y:Nat->PV):NxS I ⟨al L Y,h⟩:=by
 cases x with |nx a hk=>exact⟨_,al L Y,congrArg St.Y (St.aR (h:=h) hk),a⟩
def uE.den:uE C->Ex->St->Prop
 | .top Q=>Q
 | .fn f Q=>aG C f Q
 | .seq b k=>aD C b k.den
 | .block id k=>ay id k.den
 | .loop I k=>aJ (NxS I) k.den
inductive Wk(L:Al)(h:ab)(l:List ResultVar)(Q:PV->ab->Prop):Prop
 |mk {vs:List PV} (kk:Rn (Q (aT vs) h)) (hr:yH T L h l=some vs:=by rfl)
def Ht(L:Al):List ResultVar->(List PV->Prop)->Option Prop
 |[],k=>some (k [])
 | .tmp t::r,k=>match lk L t with
  |some v=>Ht L r λl=>k (v::l)
  |none=>none
 | .cell _ _::_,_=>none
theorem EW{L:Al}{Y:Nat->PV}{h:ab}:∀{l:List ResultVar} {k:List PV->Prop} {p:Prop},Ht L l k=some p->p->∃vs,dz C.P h (al L Y) l=some vs/\k vs
 |[],k,p,e,x=>⟨[],rfl,by rw[<-aa2 e]at x;exact x⟩
 | .tmp t::r,k,p,e,x=>by
  simp only[Ht]at e
  split at e
  ·rename_i v hv
   obtain⟨vs,h1,h2⟩:=EW (Y:=Y) (h:=h) e x;exact⟨v::vs,by simp[dz,dn hv,h1],h2⟩
  cases e
 | .cell _ _::_,k,p,e,x=>by simp[Ht]at e
inductive dw(c:Code)(L:Al)(Y:Nat->PV)(h:ab)(k:uE C):Prop
 |lpx (e:Ev C (.loop c) ⟨al L Y,h⟩ k.den)
inductive Tk where
 |c (c:Code)
 |e (e:Ex)
def kE(n:Nat):Tk->uE C->Al->(Nat->PV)->ab->Prop:=
 Nat.rec (motive:=λ_=>Tk->uE C->Al->(Nat->PV)->ab->Prop) (λ_ _ _ _ _=>False)
  (λn ih tk k L Y h=>match tk with
   | .c c=>match c with
    | .skip=>ih (.e .normal) k L Y h
    | .label _=>ih (.e .normal) k L Y h
    | .region _ ops false=>Hs T ops.toList ops.toList L h λL' h'=>ih (.e .normal) k L' Y h'
    | .region _ ops true=>SY T ops L h λL' h'=>ih (.e .normal) k L' Y h'
    | .seq a b=>ih (.c a) (.seq b k) L Y h
    | .cond c a b=>lV L c λv=>match v with
     | .bool true=>ih (.c a) k L Y h
     | .bool false=>ih (.c b) k L Y h
     |_=>False
    | .block id c=>ih (.c c) (.block id k) L Y h
    | .loop c=>dw c L Y h k
    | .scope c=>ih (.c c) k L Y h
    | .exit id=>ih (.e (.exit id)) k L Y h
    | .ret=>ih (.e .ret) k L Y h
    |_=>False
   | .e ex=>match k with
    | .top Q=>Q ex ⟨al L Y,h⟩
    | .fn f Q=>match ex with
     | .exit _=>False
     |_=>match Ht L f.results.toList λvs=>Q (aT vs) h with
      |some p=>p
      |none=>Wk T L h f.results.toList Q
    | .seq b k=>match ex with
     | .normal=>ih (.c b) k L Y h
     |ex=>ih (.e ex) k L Y h
    | .block id k=>match ex with
     | .exit dF=>match Nat.beq dF id with
      |true=>ih (.e .normal) k L Y h
      |false=>ih (.e (.exit dF)) k L Y h
     |ex=>ih (.e ex) k L Y h
    | .loop I k=>match ex with
     | .normal=>Nx I L h
     |ex=>ih (.e ex) k L Y h) n
theorem Wl{n:Nat}{c:Code}{k:uE C}{L:Al}{Y:Nat->PV}{h:ab}:kE T (n+1) (.c c) k L Y h=(match c with
  | .skip=>kE T n (.e .normal) k L Y h
  | .label _=>kE T n (.e .normal) k L Y h
  | .region _ ops false=>Hs T ops.toList ops.toList L h λL' h'=>kE T n (.e .normal) k L' Y h'
  | .region _ ops true=>SY T ops L h λL' h'=>kE T n (.e .normal) k L' Y h'
  | .seq a b=>kE T n (.c a) (.seq b k) L Y h
  | .cond c a b=>lV L c λv=>match v with
   | .bool true=>kE T n (.c a) k L Y h
   | .bool false=>kE T n (.c b) k L Y h
   |_=>False
  | .block id c=>kE T n (.c c) (.block id k) L Y h
  | .loop c=>dw c L Y h k
  | .scope c=>kE T n (.c c) k L Y h
  | .exit id=>kE T n (.e (.exit id)) k L Y h
  | .ret=>kE T n (.e .ret) k L Y h
  |_=>False):=rfl
theorem Wm{n:Nat}{ex:Ex}{k:uE C}{L:Al}{Y:Nat->PV}{h:ab}:kE T (n+1) (.e ex) k L Y h=(match k with
  | .top Q=>Q ex ⟨al L Y,h⟩
  | .fn f Q=>match ex with
   | .exit _=>False
   |_=>match Ht L f.results.toList λvs=>Q (aT vs) h with
    |some p=>p
    |none=>Wk T L h f.results.toList Q
  | .seq b k=>match ex with
   | .normal=>kE T n (.c b) k L Y h
   |ex=>kE T n (.e ex) k L Y h
  | .block id k=>match ex with
   | .exit dF=>match Nat.beq dF id with
    |true=>kE T n (.e .normal) k L Y h
    |false=>kE T n (.e (.exit dF)) k L Y h
   |ex=>kE T n (.e ex) k L Y h
  | .loop I k=>match ex with
   | .normal=>Nx I L h
   |ex=>kE T n (.e ex) k L Y h):=rfl
theorem dN:∀{n:Nat} {t:Tk} {k:uE C} {L:Al} {Y:Nat->PV} {h:ab},kE T n t k L Y h->match t with | .c c=>Ev C c ⟨al L Y,h⟩ k.den | .e ex=>k.den ex ⟨al L Y,h⟩
 |0,_,_,_,_,_,x=>x.elim
 |n+1,.c c,k,L,Y,h,x=>by
  have nx:∀{L':Al} {h':ab},kE T n (.e .normal) k L' Y h'->k.den .normal ⟨al L' Y,h'⟩:=λy=>dN (n:=n) (t:=.e .normal) y
  show Ev C c ⟨al L Y,h⟩ k.den;rw[Wl]at x
  split at x
  exact Ev.skip (nx x);exact Ev.label (nx x);exact Ev.region (qi T x λ_ _ y=>nx y)
  ·cases x with
   |mk x hk=>exact Ev.mg (rR T x.out λ_ _ y=>nx y) hk
   |raw x hk=>
    obtain⟨y,⟨L',h',e,q⟩,n0,hn⟩:=x Y;exact Ev.mg ⟨y,by rw[e];exact nx q,n0,hn⟩ hk
   |calm L' h' e kk hk=>exact⟨.normal,⟨al L' Y,h'⟩,nx kk.out,0,λn m _ _=>by simp only[bS,if_true,hk,e]⟩
  exact Ev.seq (dN (n:=n) (t:=.c _) (k:=.seq _ k) x)
  ·obtain⟨v,e,k⟩:=bG x
   split at k
   exact Ev.Tj (an e Y) (dN (n:=n) (t:=.c _) k);exact Ev.Tl (an e Y) (dN (n:=n) (t:=.c _) k);exact k.elim
  exact Ev.block (dN (n:=n) (t:=.c _) (k:=.block _ k) x)
  cases x with |lpx e=>exact e
  exact Ev.scope (dN (n:=n) (t:=.c _) x);exact Ev.exit (dN (n:=n) (t:=.e _) x);exact Ev.ret (dN (n:=n) (t:=.e _) x);exact x.elim
 |n+1,.e ex,k,L,Y,h,x=>by
  show k.den ex ⟨al L Y,h⟩;rw[Wm]at x
  split at x
  exact x
  ·have fin:∀{ex:Ex} {f:Func} {Q:PV->ab->Prop},(ex=.normal\/ex=.ret)->(match Ht L f.results.toList λvs=>Q (aT vs) h with |some p=>p |none=>Wk T L h f.results.toList Q)->aG C f Q ex ⟨al L Y,h⟩:=λ{ex f Q} hex y=>by
    split at y
    ·rename_i p hp
     obtain⟨vs,h1,h2⟩:=EW (C:=C) (Y:=Y) (h:=h) hp y;exact⟨hex,vs,h1,h2⟩
    cases y with |mk kk hr=>exact⟨hex,_,wb T hr,kk.out⟩
   split at x
   exact x.elim
   ·rename_i bN
    refine fin ?_ x
    cases ex with
    |normal=>exact .inl rfl
    |ret=>exact .inr rfl
    |exit id=>exact absurd rfl (bN id)
  ·split at x
   ·exact aD.normal (dN (n:=n) (t:=.c _) x)
   ·have:=dN (n:=n) (t:=.e _) x
    cases ex with
    |normal=>simp_all
    |ret=>exact aD.ret this
    |exit id=>exact aD.exit this
  ·split at x
   ·split at x
    ·rename_i hb
     have:=abR hb;subst this;exact ay.hit (dN (n:=n) (t:=.e _) x)
    ·rename_i hb
     exact ay.JC (by rw[beq_eq_false_iff_ne];rintro rfl;rw[Nat.beq_refl]at hb;cases hb) (dN (n:=n) (t:=.e _) x)
   ·have:=dN (n:=n) (t:=.e _) x
    cases ex with
    |normal=>exact ay.normal this
    |ret=>exact ay.ret this
    |exit id=>simp_all
  ·split at x
   ·exact x.out Y
   ·have:=dN (n:=n) (t:=.e _) x
    cases ex with
    |normal=>simp_all
    |ret=>exact aJ.ret this
    |exit id=>exact aJ.exit this
theorem ai.p{lv:Nat}{f:FuncId}{args args':List PV}{r:PV}{h:ab}{Q:PV->ab->Prop}(a:aL C f args' r)(q:Q r h)(hm:C.mode f=.pure:=by rfl)(hv:ao args=true:=by simp)(hn:aU args=args':=by simp):ai C lv f args h Q:=
 ai.pure hm hv (hn▸a) q
theorem Wj.p{ops:Array Oper}{i:Nat}{L:Al}{f:FuncId}{xs:List Operand}{us us':List PV}{h:ab}{K:PV->ab->Prop}{r:PV}(a:aL C f us' r)(kk:Rn (K r h))(hm:C.mode f=.pure:=by rfl)(hv:ao us=true:=by simp)(hn:aU us=us':=by simp)
  (hc:aY h=true:=by first |exact HV.closed (by assumption)|exact HR.closed (by assumption)|assumption |rfl |((refine HV.closed ?_;repeat' (first |assumption |apply HV.c8 |(refine HV.one ?_;simp <;>fail)|exact HV.nil)) <;>fail)):Wj C ops i L f xs us h K:=.mk r (hn▸a) kk hm hv hc
theorem ax.x{f:FuncId}{fn:Func}{c:Code}{args:List PV}{h:ab}{Q:PV->ab->Prop}(hf:C.P.funcs[f]?=some fn)(hb:fn.body=some c)
  (k:Rn (kE T 10000 (.c c) (.fn fn Q) (EA 0 args) (λ_=>.undef) h)):ax C f args h Q:=ax.dK hf hb (dN T k.out)
theorem aL.x{f:FuncId}{fn:Func}{c:Code}{args:List PV}{r:PV}(hf:C.P.funcs[f]?=some fn)(hb:fn.body=some c)
  (k:Rn (kE T 10000 (.c c) (.fn fn λr0 hc=>∃r1,rb hc r0=some r1/\bW r1=r) (EA 0 args) (λ_=>.undef) [])):aL C f args r:=aL.of (ax.x T hf hb k)
theorem jX{h:ab}:∀{l:List PV},ao l=true->ie h l=some l:=by
 have one:∀{c:PV},aV c=true->oE h c=some c:=λ{c} hc=>by
  unfold oE
  split
  simp[aV]at hc;rw[if_pos hc]
 have key:∀cs:List PV,ao cs=true->nP h cs=some cs:=by
  intro cs
  induction cs with
  |nil=>intro _;rfl
  |cons c cs ih=>
   intro hh
   simp only[ao,abb]at hh;simp only[nP,one hh.1,ih hh.2]
 intro l
 induction l with
 |nil=>intro _;rfl
 |cons c l ih=>
  intro hl
  simp only[ao,abb]at hl
  have:kY h c=some c:=by
   unfold kY
   split
   rw[key _ (by simpa[aV]using hl.1)];rfl;exact one hl.1
  simp only[ie,ih hl.2,this]
theorem ai.po{f:FuncId}{sz:Nat}{v:PV}{h:ab}{es es' rest pW:List PV}{rv:PV}{Q:PV->ab->Prop}(o:Out sz h v es)(a:aL C f (.aa false es'::pW) rv)(q:∀h',(h'=h\/∃id ep,v=.aj id ep 0 es.length/\h'=h.set id ⟨.f,ep,sz,es⟩)->Q rv h')
  (hm:C.mode f=.pure:=by rfl) (hv:ao es=true:=by simp) (hr:ao rest=true:=by simp) (hn:aU es=es':=by simp) (Mo:aU rest=pW:=by simp):ai C 2 f (v::rest) h Q:=by
 subst hn Mo;rcases o with⟨rfl,rfl⟩|⟨id,ep,rfl,e2⟩;exact ai.pure hm (by simp[ao,aV,hr]) (by simpa[aU,bW]using a) (q h (.inl rfl))
 ·obtain⟨n0,hn⟩:=a
  by_cases hs:eT rv=true
  ·refine⟨rv,h,q h (.inl rfl),n0,λn h1=>?_⟩;obtain⟨r0,hc,r1,e1,e3,e4⟩:=hn n h1;have Cz:eT r1=true:=by have:=li r1;rw[e4]at this;rw[<-this];exact hs
   have hb:ie h (.aj id ep 0 es.length::rest)=some (.aa false es::rest):=by
    simp[ie,kY,oE,getM,e2,hv,jX hr]
   unfold di;rw[hm];have vC:ao (.aj id ep 0 es.length::rest)=false:=rfl;have W5:aU (PV.aa false es::rest)=.aa false (aU es)::aU rest:=rfl;simp only[dV,vC,abi,if_false,hb,W5,e1,e3,Cz,ade,if_true,e4]
  ·have hs:eT rv=false:=by simpa using hs
   refine⟨rv,h.set id ⟨.f,ep,sz,es⟩,q _ (.inr ⟨id,ep,rfl,rfl⟩),n0,λn h1=>?_⟩;obtain⟨r0,hc,r1,e1,e3,e4⟩:=hn n h1;have Cz:eT r1=false:=by have:=li r1;rw[e4]at this;rw[<-this];exact hs
   have hb:ie h (.aj id ep 0 es.length::rest)=some (.aa false es::rest):=by
    simp[ie,kY,oE,getM,e2,hv,jX hr]
   have W5:aU (PV.aa false es::rest)=.aa false (aU es)::aU rest:=rfl
   have i0:∀l:List PV,ao l=true->jA l=[]:=by
    have i1:∀c:PV,aV c=true->rX c=[]:=λc hc=>by cases c <;>first |rfl |simp[aV]at hc
    intro l
    induction l with
    |nil=>intro _;rfl
    |cons c l ih=>
     intro hh
     simp only[ao,abb]at hh
     have:(cells c).flatMap rX=[]:=by
      rw[List.flatMap_eq_nil_iff]
      intro x hx
      cases c with
      |agg cs=>
       refine i1 x ?_;have h2:ao cs=true:=by simpa[aV]using hh.1
       rw[bj,aa4]at h2;exact h2 x hx
      |_=>simp[cells]at hx;subst hx;exact i1 _ hh.1
     simp only[jA,acM]at ih ⊢;rw[this,ih hh.2];rfl
   have Fh:jA (PV.aj id ep 0 es.length::rest)=[id]:=by
    have:=i0 rest hr;simp only[jA,acM]at this ⊢;rw[this];rfl
   have Ws:ql h [id]=false:=by simp[ql,e2]
   have E7:fG h [id]=some (h.set id ⟨.f,ep,sz,es⟩):=by simp[fG,kU,e2,hv]
   unfold di;rw[hm];have vC:ao (.aj id ep 0 es.length::rest)=false:=rfl;simp only[dV,vC,abi,if_false,hb,W5,e1,e3,Fh,Cz,Ws,Bool.or_self,aa5,if_true,E7,abf,e4]
def fW(H h':ab):Prop:=∃J,HV J/\h'=H++J
theorem aL.ex{C:cG}{f:FuncId}{args:List PV}{Q:PV->Prop}{F:PV->PV}(a:ax C f args [] (λr0 hc=>∃x,Q x/\∃r1,rb hc r0=some r1/\bW r1=F x)):∃x,Q x/\aL C f args (F x):=by
 obtain⟨r,h,⟨x,q,r1,e1,e2⟩,e⟩:=a;exact⟨x,q,aL.of ⟨r,h,⟨r1,e1,e2⟩,e⟩⟩
theorem fW.refl(H:ab):fW H H:=⟨[],HV.nil,by simp⟩
theorem fW.trans{a b c:ab}(x:fW a b)(y:fW b c):fW a c:=by
 obtain⟨J,hJ,rfl⟩:=x;obtain⟨K,hK,rfl⟩:=y;exact⟨J++K,hJ.c8 hK,by rw[abu]⟩
theorem fW.c8{H h:ab}(x:fW H h){J:ab}(hJ:HV J):fW H (h++J):=x.trans ⟨J,hJ,rfl⟩
theorem fW.at{H h:ab}(x:fW H h){i:Nat}{o:au}(e:H[i]?=some o):h[i]?=some o:=by
 obtain⟨J,_,rfl⟩:=x;rw[aa3 (ag e)];exact e
theorem fW.hv{H h:ab}(x:fW H h)(hH:HV H):HV h:=by
 obtain⟨J,hJ,rfl⟩:=x;exact hH.c8 hJ
theorem ai.ex{f:FuncId}{args:List PV}{H:ab}{v:PV}{Q:PV->ab->Prop}(a:ax C f args H (λr h'=>r=v/\fW H h'))(q:∀h',fW H h'->Q v h')(hm:C.mode f=.opened:=by rfl):ai C 2 f args H Q:=by
 refine ai.opened hm (a.mono λr k hr=>?_);obtain⟨rfl,J,hJ,rfl⟩:=hr
 split
 ·rw[List.take_left];exact q _ (fW.refl _)
 exact q _ ⟨J,hJ,rfl⟩
def Fz(sz:Nat)(h:ab)(v:PV)(es:List PV)(h':ab):Prop:=h'=h\/∃id ep,v=.aj id ep 0 es.length/\h'=h.set id ⟨.f,ep,sz,es⟩
theorem Fz.hv{sz:Nat}{h h':ab}{v:PV}{es:List PV}(z:Fz sz h v es h')(H:HV h)(hv:ao es=true):HV h':=by
 rcases z with rfl |⟨id,ep,_,rfl⟩;exact H;exact H.set id (by simp) hv
theorem ai.pl{f:FuncId}{sz:Nat}{v:PV}{h:ab}{es es' rest pW:List PV}{rv:PV}{Q:PV->ab->Prop}(o:Ls sz h v es)(a:aL C f (.aa false es'::pW) rv)(q:∀h',Fz sz h v es h'->Q rv h')
  (hm:C.mode f=.pure:=by rfl) (hv:ao es=true:=by simp) (hr:ao rest=true:=by simp) (hn:aU es=es':=by simp) (Mo:aU rest=pW:=by simp):ai C 2 f (v::rest) h Q:=by
 rcases o with o |⟨fl,rfl⟩;exact ai.po o a q hm hv hr hn Mo
 ·subst hn Mo;exact ai.pure hm (by simp[ao,aV,hv,hr]) (by simpa[aU,bW]using a) (q h (.inl rfl))
theorem ai.plS{f:FuncId}{sz:Nat}{v:PV}{h:ab}{es es' rest pW:List PV}{rv:PV}{Q:PV->ab->Prop}(o:Ls sz h v es)(a:aL C f (.aa false es'::pW) rv)(q:Q rv h)(hs:eT rv=true:=by rfl)
  (hm:C.mode f=.pure:=by rfl) (hv:ao es=true:=by simp) (hr:ao rest=true:=by simp) (hn:aU es=es':=by simp) (Mo:aU rest=pW:=by simp):ai C 2 f (v::rest) h Q:=by
 subst hn Mo;rcases o with o |⟨fl,rfl⟩;exact ai.out hm o hv hr a hs q;exact ai.pure hm (by simp[ao,aV,hv,hr]) (by simpa[aU,bW]using a) q
theorem Ls.kY{sz:Nat}{h:ab}{v:PV}{es:List PV}(o:Ls sz h v es)(hv:ao es=true):∃r1,Pm.kY h v=some r1/\bW r1=.aa false (aU es):=by
 rcases o with o |⟨f,rfl⟩;exact o.kY hv;exact⟨.aa f es,by simp[Pm.kY,oE,aV,hv],rfl⟩
theorem Ls.QF{sz:Nat}{h:ab}{v:PV}{es es':List PV}{k:IntKind}{n:Int}(o:Ls sz h v es)(hv:ao es=true:=by simp)(hn:aU es=es':=by simp):∃r1,rb h (aT [v,.int k n])=some r1/\bW r1=.cy [.aa false es',.int k n]:=by
 obtain⟨r1,h1,h2⟩:=o.kY hv;refine⟨.cy [r1,.int k n],by simp only[aT,rb,ie,h1];rfl,?_⟩;simp only[bW,aU,h2,hn]
theorem Ls.Jf{sz:Nat}{h:ab}{v:PV}{es es':List PV}(o:Ls sz h v es)(hv:ao es=true:=by simp)(hn:aU es=es':=by simp):∃r1,rb h (aT [v])=some r1/\bW r1=.aa false es':=by
 obtain⟨r1,h1,h2⟩:=o.kY hv;rw[hn]at h2;rcases o with(⟨rfl,rfl⟩|⟨id,ep,rfl,e⟩)|⟨f,rfl⟩ <;>exact⟨r1,h1,h2⟩
theorem dw.nat{c:Code}{L:Al}{Y:Nat->PV}{h:ab}{k:uE C}(I:Nat->Al->ab->Prop)(n:Nat)(h0:Nx (I n) L h)
  (step:∀n L h Y,I n L h->Rn (kE T 10000 (.c c) (.loop (λL h=>∃j,j<n/\I j L h) k) L Y h)):dw c L Y h k:=by
 refine⟨Ev.loop (λn=>NxS (I n)) n (h0.out Y) ?_⟩;rintro n ⟨Ys,hs⟩ ⟨L,Y,e,hI⟩;have e:Ys=al L Y:=e;subst e;obtain⟨ex,s',q,hn⟩:=dN T (step n L hs Y hI).out;refine⟨ex,s',?_,hn⟩
 cases ex with
 |normal=>
  obtain⟨L',Y',h1,j,h2,h3⟩:=q;exact⟨j,h2,L',Y',h1,h3⟩
 |ret=>exact q
 |exit id=>exact q
theorem dw.zip{α:Type}{c:Code}{L:Al}{Y:Nat->PV}{h:ab}{k:uE C}(l:List α)(I:List α->List α->Al->ab->Prop)(h0:Nx (I [] l) L h)
  (step:∀p a q L h Y,l=p++a::q->I p (a::q) L h->Rn (kE T 10000 (.c c) (.loop (I (p++[a]) q) k) L Y h))
  (last:∀L h Y,I l [] L h->Rn (kE T 10000 (.c c) (.loop (λ_ _=>False) k) L Y h)):dw c L Y h k:=by
 refine⟨Ev.loop (λn s=>∃p q,l=p++q/\q.length=n/\NxS (I p q) s) l.length ⟨[],l,rfl,rfl,h0.out Y⟩ ?_⟩;rintro n ⟨Ys,hs⟩ ⟨p,q,e,hn,L,Y,e2,hI⟩;have e2:Ys=al L Y:=e2;subst e2
 cases q with
 |nil=>
  rw[abv]at e;subst e;obtain⟨ex,s',q,hn⟩:=dN T (last L hs Y hI).out;refine⟨ex,s',?_,hn⟩
  cases ex with
  |normal=>obtain⟨_,_,_,hf⟩:=q;exact hf.elim
  |ret=>exact q
  |exit id=>exact q
 |cons a q=>
  obtain⟨ex,s',qq,Mo⟩:=dN T (step p a q L hs Y e hI).out;refine⟨ex,s',?_,Mo⟩
  cases ex with
  |normal=>exact⟨q.length,by simp at hn;omega,p++[a],q,by simp[e],rfl,qq⟩
  |ret=>exact qq
  |exit id=>exact qq
end
end Go.Pm
namespace Go.Pm
open Go.Proofs
attribute [local irreducible] aD ay aJ aG Ev ah ai ax aZ
set_option maxRecDepth 4000
set_option maxHeartbeats 4000000
theorem zY(l:List Tm)(t:Tm):ae l++[enc t]=ae (l++[t]):=by rw[de,de];simp
theorem xI{B:Nat}:∀{l:List Tm},(∀t∈l,az t<=B)->bF l<=l.length * B
 |[],_=>by simp[bF]
 |t::l,h=>by
  have h1:=h t (by simp);have h2:=xI (l:=l) (λu hu=>h u (by simp[hu]));simp only[bF,abg,Nat.succ_mul];omega
end Go.Pm
namespace Go.Pm
variable[iD:Inhabited Prop]
variable{P:Program}{w:World}{F:Nat->Prop}{Z:List (Nat×Nat)}{h:ab}
def Alike(h h':ab):Prop:=h.length=h'.length/\∀(id:Nat) (o o':au),h[id]?=some o->h'[id]?=some o'->o.ep=o'.ep/\o.bA=o'.bA/\o.es=o'.es/\(o.mu=.x↔o'.mu=.x)
theorem mV{α:Type}{l:List α}{i:Nat}(h:i<l.length):∃x,l[i]?=some x:=⟨l[i],aa6 h⟩
theorem Alike.UD{h':ab}(a:Alike h h')(Z:List (Nat×Nat)):Ie h Z h' Z:=by
 intro id o bc e1 e2 e3
 have hid:=ag e1;obtain⟨o',ho⟩:=mV (l:=h') (i:=id) (by rw[<-a.1];exact hid);obtain⟨p1,p2,p3,p4⟩:=a.2 id o o' e1 ho;exact⟨o',bc,ho,e2,λhh=>e3 (p4.2 hh),⟨by omega,λhz=>by omega⟩,λ_=>⟨p2.symm,λ_=>by rw[p3],rfl⟩⟩
theorem aE.alike{h':ab}(a:Alike h h'){A A':Nat->Prop}(hA:∀b,A' b->A b){v:Value}{p:PV}(r:aE w A Z h v p):aE w A' Z h' v p:=
 r.UD (a.UD Z) (λ_ _ _=>rfl) (λb _ hn ha=>hn (hA b ha))
theorem jK.alike{h':ab}(a:Alike h h'){A A':Nat->Prop}(hA:∀b,A' b->A b){o o':au}{bc:Nat×Nat}(e1:o.bA=o'.bA)(e2:o.es=o'.es)(r:jK w A Z h o bc):jK w A' Z h' o' bc:=by
 rcases r with⟨T,cs,h1,h2,h3,h4,h5⟩|⟨h0,es,clock,h1,h2,h3⟩
 ·refine .inl ⟨T,cs,h1,by rw[<-e2];exact h2,by rw[<-e1];exact h3,by rw[<-e1];exact h4,λi e he=>?_⟩;rw[<-e2]at he;obtain⟨k1,k2⟩:=h5 i e he;refine⟨by rw[<-e1];exact k1,λj p hp=>?_⟩;obtain⟨v,m1,m2⟩:=k2 j p hp;exact⟨v,by rw[<-e1];exact m1,m2.alike a hA⟩
 ·refine .inr ⟨by rw[<-e1];exact h0,es,clock,h1,by rw[<-e2];exact h2,λi e he=>?_⟩;rw[<-e2]at he;obtain⟨k,v,m,q1,q2,q3,q4⟩:=h3 i e he;exact⟨k,v,m,q1,q2,q3.alike a hA,q4.alike a hA⟩
theorem bM(o:au):(bI o).ep=o.ep/\(bI o).bA=o.bA/\(bI o).es=o.es/\((bI o).mu=.x↔o.mu=.x)/\(bI o).mu≠.m/\((bI o).mu=.f↔o.mu=.f):=by
 cases o with
 |mk mu ep bA es=>cases mu <;>simp[bI]
theorem gI(h:ab):Alike h (h.map bI):=by
 refine⟨by simp,λid o o' e1 e2=>?_⟩;rw[abm,e1]at e2;obtain rfl:=aa2 e2;obtain⟨p1,p2,p3,p4,_⟩:=bM o;exact⟨p1.symm,p2.symm,p3.symm,p4.symm⟩
theorem js(h:ab)(Z:List (Nat×Nat))(b:Nat):¬Mb (h.map bI) Z b:=by
 rintro⟨id,o,bc,e1,e2,e3,e4⟩;rw[abm]at e1
 cases hh:h[id]? with
 |none=>rw[hh]at e1;cases e1
 |some o2=>
  rw[hh]at e1;obtain rfl:=aa2 e1;exact(bM o2).2.2.2.2.1 e3
theorem Ce{h:ab}{id:Nat}{o:au}(e:(h.map bI)[id]?=some o):∃o2,h[id]?=some o2/\o=bI o2:=by
 rw[abm]at e
 cases hh:h[id]? with
 |none=>rw[hh]at e;cases e
 |some o2=>rw[hh]at e;exact⟨o2,rfl,(aa2 e).symm⟩
theorem ba.lock(H:ba w F Z h):ba w (Av F h Z) Z (h.map bI):=by
 have hA:∀b,Av (Av F h Z) (h.map bI) Z b->Av F h Z b:=λb hb=>hb.elim id (λhm=>absurd hm (js h Z b))
 refine⟨by simp[H.len],λb hb=>Av.lt H hb,?_,?_,?_,H.fA.kL hA⟩
 ·intro id o bc e1 e2 e3
  obtain⟨o2,f1,rfl⟩:=Ce e1;obtain⟨p1,p2,p3,p4,_⟩:=bM o2;exact(H.obj id o2 bc f1 e2 (λhh=>e3 (p4.2 hh))).alike (gI h) hA p2.symm p3.symm
 ·intro id dF o o' bc cK bN e1 e2 e3 e4 m1 m2
  obtain⟨o2,f1,rfl⟩:=Ce e1;exact absurd m1 (bM o2).2.2.2.2.1
 ·intro id o bc e1 e2 e3
  obtain⟨o2,f1,rfl⟩:=Ce e1;obtain⟨p1,p2,p3,p4,p5,p6⟩:=bM o2;rcases e3 with e3 |e3;exact absurd e3 p5;exact wN H f1 e2 (p6.1 e3)
theorem ba.unlock(H:ba w F Z h){w':World}{h1:ab}{Z1:List (Nat×Nat)}(q2:ba w' (Av F h Z) Z1 h1)(q3:dU w (h.map bI) Z w' h1 Z1)(zU:(h1.drop h.length).all (λo=>decide (o.mu≠.l))=true):
  (∀(v:Value) (p:PV),aE w' (Av (Av F h Z) h1 Z1) Z1 h1 v p->aE w' (Av F (h++h1.drop h.length) Z1) Z1 (h++h1.drop h.length) v p)/\ba w' F Z1 (h++h1.drop h.length)/\dU w h Z w' (h++h1.drop h.length) Z1/\dD w w':=by
 have hn:h.length<=h1.length:=by have:=q3.len;simpa using this
 have xg:Z1.length=h1.length:=q2.len
 have old:∀(id:Nat) (o:au),h[id]?=some o->h1[id]?=some (bI o)/\Z1[id]?=Z[id]?:=λid o ho=>by
  have e1:(h.map bI)[id]?=some (bI o):=by rw[abm,ho];rfl
  exact q3.Lk id (bI o) e1 (bM o).2.2.2.2.1
 have yo:∀(id:Nat),id<h.length->(h++h1.drop h.length)[id]?=h[id]?:=λid hid=>aa3 hid
 have Cf:∀(id:Nat),h.length<=id->(h++h1.drop h.length)[id]?=h1[id]?:=λid hid=>by
  rw[abd hid,abI];congr 1;omega
 have al:Alike h1 (h++h1.drop h.length):=by
  refine⟨by simp;omega,λid o o' e1 e2=>?_⟩
  by_cases hid:id<h.length
  ·rw[yo id hid]at e2;rw[(old id o' e2).1]at e1;obtain rfl:=aa2 e1;obtain⟨p1,p2,p3,p4,_⟩:=bM o';exact⟨p1,p2,p3,p4⟩
  ·rw[Cf id (by omega)]at e2;rw[e1]at e2;obtain rfl:=aa2 e2;exact⟨rfl,rfl,rfl,Iff.rfl⟩
 have Bu:∀b,Av F (h++h1.drop h.length) Z1 b->Av (Av F h Z) h1 Z1 b:=by
  rintro b (hb |⟨id,o,bc,e1,e2,e3,e4⟩);exact .inl (.inl hb)
  ·by_cases hid:id<h.length
   ·rw[yo id hid]at e1;rw[(old id o e1).2]at e2;exact .inl (.inr ⟨id,o,bc,e1,e2,e3,e4⟩)
   ·rw[Cf id (by omega)]at e1;exact .inr ⟨id,o,bc,e1,e2,e3,e4⟩
 have newmu:∀(id:Nat) (o:au),h.length<=id->h1[id]?=some o->o.mu≠.l:=λid o hid ho=>by
  have:o∈h1.drop h.length:=by
   apply abh (i:=id - h.length);rw[abI];rw[show h.length+(id - h.length)=id by omega];exact ho
  have:=aa4.1 zU o this;simpa using this
 refine⟨λv p q1=>q1.alike al Bu,⟨by rw[xg,<-al.1],λb hb=>abO (H.fin b hb) q3.size,?_,?_,?_,q2.fA.kL Bu⟩,?_,⟨q3.size,λb hb=>q3.aR b hb (js h Z b),q3.os,q3.tape,q3.output,q3.drawn⟩⟩
 ·intro id o bc e1 e2 e3
  by_cases hid:id<h.length
  ·rw[yo id hid]at e1;obtain⟨p1,p2,p3,p4,_⟩:=bM o;exact(q2.obj id (bI o) bc (old id o e1).1 e2 (λhh=>e3 (p4.1 hh))).alike al Bu p2 p3
  ·rw[Cf id (by omega)]at e1;exact(q2.obj id o bc e1 e2 e3).alike al Bu rfl rfl
 ·intro id dF o o' bc cK bN e1 e2 e3 e4 m1 m2
  by_cases hid:id<h.length <;>by_cases Qw:dF<h.length
  ·rw[yo id hid]at e1;rw[yo dF Qw]at e2;rw[(old id o e1).2]at e3;rw[(old dF o' e2).2]at e4;exact H.gY id dF o o' bc cK bN e1 e2 e3 e4 m1 m2
  ·rw[yo id hid]at e1;rw[Cf dF (by omega)]at e2;have nl:=newmu dF o' (by omega) e2
   cases hm:o'.mu with
   |m=>
    have:=q2.gY dF id o' (bI o) cK bc (abW bN) e2 (old id o e1).1 e4 e3 hm (λhh=>by rw[(bM o).2.2.2.1]at hh;rw[m1]at hh;cases hh);exact abW this
   |l=>exact absurd hm nl
   |f=>
    have PL:=q2.out dF o' cK e2 e4 (.inr hm);rw[(old id o e1).2]at e3
    intro heq
    exact PL (.inr ⟨id,o,bc,e1,e3,m1,heq⟩)
   |x=>exact absurd hm m2
  ·rw[Cf id (by omega)]at e1;rw[yo dF Qw]at e2;exact q2.gY id dF o (bI o') bc cK bN e1 (old dF o' e2).1 e3 e4 m1 (λhh=>m2 ((bM o').2.2.2.1.1 hh))
  ·rw[Cf id (by omega)]at e1;rw[Cf dF (by omega)]at e2;exact q2.gY id dF o o' bc cK bN e1 e2 e3 e4 m1 m2
 ·intro id o bc e1 e2 e3
  by_cases hid:id<h.length
  ·rw[yo id hid]at e1;rw[(old id o e1).2]at e2;exact H.out id o bc e1 e2 e3
  ·rw[Cf id (by omega)]at e1;exact λhf=>q2.out id o bc e1 e2 e3 (.inl hf)
 ·refine⟨q3.size,by simp,λb hb _=>q3.aR b hb (js h Z b),?_,?_,?_,q3.os,q3.tape,q3.output,q3.drawn⟩
  ·rintro b hb ⟨id,o,bc,e1,e2,e3,e4⟩
   by_cases hid:id<h.length
   ·rw[yo id hid]at e1;rw[(old id o e1).2]at e2;exact⟨id,o,bc,e1,e2,e3,e4⟩
   ·rw[Cf id (by omega)]at e1;exact absurd (q3.shr b hb ⟨id,o,bc,e1,e2,e3,e4⟩) (js h Z b)
  ·intro id o bc e1 e2 e3
   have hid:=ag e1;exact⟨o,bc,by rw[yo id hid];exact e1,by rw[(old id o e1).2];exact e2,e3,⟨aa5 _,λh=>h⟩,λ_=>⟨rfl,λ_=>rfl,rfl⟩⟩
  ·intro id o e1 _
   exact⟨by rw[yo id (ag e1)];exact e1,(old id o e1).2⟩
theorem tj{f:FuncId}{g:List PV->ab->Option (PV×ab)}(S:eE P f g){lv:Nat}{args:List PV}{r:PV}{h':ab}(e:dI g lv args h=some (r,h'))(H:ba w F Z h){vs:List Value}
  (ha:L2 (aE w (Av F h Z) Z h) vs args):kM P lv w F Z h f vs r h':=by
 unfold dI at e
 split at e
 ·rename_i E5
  refine(S args h r h' e w F Z vs H ha).mono ?_;rintro en w' ⟨v,Z1,q0,q1,q2,q3,q4⟩;exact⟨v,Z1,q0,q1,q2,q3,λhh=>by omega⟩
 ·split at e
  ·split at e
   ·rename_i r0 h1 he
    split at e
    ·rename_i zU
     obtain⟨rfl,rfl⟩:=abe (aa2 e);have PE:∀b,Av (Av F h Z) (h.map bI) Z b->Av F h Z b:=λb hb=>hb.elim id (λhm=>absurd hm (js h Z b))
     refine(S args (h.map bI) r0 h1 he w (Av F h Z) Z vs H.lock ⟨ha.1,λj hj=>(ha.2 j hj).alike (gI h) PE⟩).mono ?_;rintro en w' ⟨v,Z1,rfl,q1,q2,q3,q4⟩;obtain⟨u1,u2,u3,u4⟩:=H.unlock q2 q3 zU;exact⟨v,Z1,rfl,u1 v _ q1,u2,u3,λ_=>u4⟩
    cases e
   ·cases e
  ·cases e
theorem iC{α:Type}{l:List α}{n i:Nat}{x:α}(e:(l.take n)[i]?=some x):i<n/\l[i]?=some x:=by
 rw[abn]at e
 split at e
 exact⟨by assumption,e⟩
 cases e
theorem aE.yp{A A':Nat->Prop}(hA:∀b,A' b->A b){n:Nat}(hn:n<=h.length){v:Value}{p:PV}(r:aE w A Z h v p)(hb:eK n p=true):aE w A' (Z.take n) (h.take n) v p:=by
 cases p with
 |aj id ep off len=>
  have hid:id<n:=by simpa[eK]using hb
  cases r with
  |val hs=>cases hs
  |aj _ _ _ _ _ o bc h0 h1 h2 h3 h4 h5=>
   exact .aj v id ep off len o bc h0 (by rw[abn,if_pos hid];exact h1) (by rw[abn,if_pos hid];exact h2) h3 h4 h5
 |ptr id ep i off=>
  have hid:id<n:=by simpa[eK]using hb
  cases r with
  |val hs=>cases hs
  |ptr _ _ _ _ _ o bc h0 h1 h2 h3 h4 h5=>
   exact .ptr v id ep i off o bc h0 (by rw[abn,if_pos hid];exact h1) (by rw[abn,if_pos hid];exact h2) h3 h4 h5
 |_=>exact .val ((r.EZ (by simpa[eK]using hb)).kL hA)
theorem aE.OC{A A':Nat->Prop}(hA:∀b,A' b->A b){n:Nat}(hn:n<=h.length){v:Value}{p:PV}(r:aE w A Z h v p)(hb:cS n p=true):aE w A' (Z.take n) (h.take n) v p:=by
 unfold cS at hb
 split at hb
 ·obtain⟨vs,rfl,hl,hh⟩:=r.sc;exact .agg vs _ hl (λj hj=>(hh j hj).yp hA hn (fJ hb hj))
 exact r.yp hA hn hb
theorem aE.V0{A A':Nat->Prop}(hA:∀b,A' b->A b){n:Nat}(hn:n<=h.length){v:Value}{p:PV}(r:aE w A Z h v p)(hb:eL n p=true):aE w A' (Z.take n) (h.take n) v p:=by
 unfold eL at hb
 split at hb
 ·obtain⟨vs,rfl,hl,hh⟩:=r.vQ;exact .cy vs _ hl (λj hj=>(hh j hj).OC hA hn (fJ hb hj))
 exact r.OC hA hn hb
theorem p9{n:Nat}{e q:PV}(hb:cS n e=true)(hq:q∈Pm.cells e):eK n q=true:=by
 cases e <;>first
  |(simp only[Pm.cells,abC]at hq;subst hq;exact hb)
  |(simp only[cS]at hb;exact aa4.1 hb q hq)
theorem Ch{run:gW}{f:FuncId}(S:eE P f (run f)){lv:Nat}{args:List PV}{r:PV}{h':ab}(e:ig run lv f args h=some (r,h'))(H:ba w F Z h){vs:List Value}
  (ha:L2 (aE w (Av F h Z) Z h) vs args):kM P lv w F Z h f vs r h':=by
 unfold ig at e
 split at e
 ·rename_i r0 h1 he
  have C:=tj S he H ha
  split at e
  ·rename_i hc
   obtain⟨rfl,rfl⟩:=abe (aa2 e);simp only[abb]at hc;refine C.mono ?_;rintro en w' ⟨v,Z1,rfl,q1,q2,q3,q4⟩;have hn:=q3.len
   have hA:∀b,Av F (h1.take h.length) (Z1.take h.length) b->Av F h1 Z1 b:=by
    rintro b (hb |⟨id,o,bc,e1,e2,e3,e4⟩);exact .inl hb;exact .inr ⟨id,o,bc,(iC e1).2,(iC e2).2,e3,e4⟩
   refine⟨v,Z1.take h.length,rfl,q1.V0 hA hn hc.1,⟨by simp[q2.len],q2.fin,?_,?_,?_,q2.fA.kL hA⟩,?_,q4⟩
   ·intro id o bc e1 e2 e3
    have fy:o∈h1.take h.length:=abh e1;have ek:=aa4.1 (aa4.1 hc.2 o fy);rcases q2.obj id o bc (iC e1).2 (iC e2).2 e3 with⟨T,cs,k1,k2,k3,k4,k5⟩|⟨k0,es,clock,k1,k2,k3⟩
    ·refine .inl ⟨T,cs,k1,k2,k3,k4,λi el cz=>⟨(k5 i el cz).1,λj p hp=>?_⟩⟩;obtain⟨u,m1,m2⟩:=(k5 i el cz).2 j p hp;exact⟨u,m1,m2.yp hA hn (p9 (ek el (abh cz)) (abh hp))⟩
    ·refine .inr ⟨k0,es,clock,k1,k2,λi el cz=>?_⟩;obtain⟨k,v,m,g1,g2,g3,g4⟩:=k3 i el cz;have hb:=ek el (abh cz);subst g1;exact⟨k,v,m,rfl,g2,g3.yp hA hn (p9 hb (by simp[Pm.cells])),g4.yp hA hn (p9 hb (by simp[Pm.cells]))⟩
   ·intro id dF o o' bc cK bN e1 e2 e3 e4 m1 m2
    exact q2.gY id dF o o' bc cK bN (iC e1).2 (iC e2).2 (iC e3).2 (iC e4).2 m1 m2
   ·intro id o bc e1 e2 e3
    exact q2.out id o bc (iC e1).2 (iC e2).2 e3
   ·refine⟨q3.size,by simp;omega,q3.aR,?_,?_,?_,q3.os,q3.tape,q3.output,q3.drawn⟩
    ·rintro b hb ⟨id,o,bc,e1,e2,e3,e4⟩;exact q3.shr b hb ⟨id,o,bc,(iC e1).2,(iC e2).2,e3,e4⟩
    ·intro id o bc e1 e2 e3
     obtain⟨o',cK,f1,f2,f3,f4,f5⟩:=q3.refs id o bc e1 e2 e3;have hid:=ag e1;exact⟨o',cK,by rw[abn,if_pos hid];exact f1,by rw[abn,if_pos hid];exact f2,f3,f4,f5⟩
    ·intro id o e1 e2
     obtain⟨f1,f2⟩:=q3.Lk id o e1 e2;have hid:=ag e1;exact⟨by rw[abn,if_pos hid];exact f1,by rw[abn,if_pos hid];exact f2⟩
  ·obtain⟨rfl,rfl⟩:=abe (aa2 e);exact C
 cases e
def dT(P:Program)(f:FuncId)(g:List PV->Option PV):Prop:=
 ∀args r,g args=some r->∀(w:World) (A:Nat->Prop) (vs:List Value),(∀b,A b->b<w.heap.size)->L2 (bZ w A) vs args->
  Calls P f vs.toArray w λe w'=>∃v,e=.returned v/\bZ w' A v r/\dD w w'
structure eY(C:cG):Prop where
 enters : ∀ f, (∀ h : C.mode f = .no, False) → (∀ g, C.mode f ≠ .ext g) → ∃ fn, C.P.funcs[f]? = some fn ∧ fn.body.isSome = true ∧ (fn.name == "runtime.NumGoroutine") = false
 pf:∀f g,C.mode f=.pf g->dT C.P f g
 cD:∀f g,C.mode f=.cD g->eE C.P f g
 ext:∀f g,C.mode f=.ext g->∀args r,g args=some r->∀(w:World) (A:Nat->Prop) (vs:List Value),L2 (bZ w A) vs args->∃v,(callFunc f vs.toArray).run C.P w=.ok (.value v) w/\bZ w A v r
theorem zZ{C:cG}(K:eY C){run:gW}{f:FuncId}(S:C.mode f=.pure\/C.mode f=.opened->eE C.P f (run f)){lv:Nat}{args:List PV}{r:PV}{h':ab}(e:di C run lv f args h=some (r,h'))(H:ba w F Z h){vs:List Value}
  (ha:L2 (aE w (Av F h Z) Z h) vs args) (bN:∀g,C.mode f≠.ext g):kM C.P lv w F Z h f vs r h'/\C.mode f≠.no:=by
 unfold di at e
 split at e
 cases e
 ·rename_i hm
  exact⟨Bs (S (.inl hm)) e H ha,by rw[hm];simp⟩
 ·rename_i hm
  exact⟨Ch (S (.inr hm)) e H ha,by rw[hm];simp⟩
 ·rename_i g hm
  refine⟨?_,by rw[hm];simp⟩
  split at e
  ·rename_i hv
   obtain⟨e1,rfl⟩:=dM e;rw[bj]at hv;refine(K.pf f g hm (aU args) r e1 w (Av F h' Z) vs (λb hb=>Av.lt H hb) ⟨by simp[cJ,ha.1],λj hj=>?_⟩).mono ?_
   ·rw[fX];have E2:j<args.length:=by simpa[cJ]using hj
    exact((ha.2 j E2).EZ (fJ hv E2)).bW
   ·rintro en w' ⟨v,rfl,q1,q2⟩;exact⟨v,Z,rfl,.val q1,H.I3 q2,q2.Cy h' Z,λ_=>q2⟩
  cases e
 ·rename_i g hm
  exact⟨tj (K.cD f g hm) e H ha,by rw[hm];simp⟩
 ·rename_i g hm
  exact absurd hm (bN g)
end Go.Pm
namespace Go.Pm
variable[iD:Inhabited Prop]
variable{w:World}{F:Nat->Prop}{Z:List (Nat×Nat)}{h:ab}
theorem ss{C:cG}(K:eY C){f:FuncId}(hm:C.mode f≠.no)(bN:∀g,C.mode f≠.ext g)(args:Array Value)(w:World):(callFunc f args).run C.P w=.ok (.enter f args) w:=by
 obtain⟨fn,h1,h2,h3⟩:=K.enters f hm bN;have hb:fn.body.isNone=false:=by cases hh:fn.body <;>simp_all
 simp only[callFunc,Sem.run_bind,run_program,Result.andThen_ok,h1,h3,hb,abi,if_false,Sem.run_pure]
def gz(C:cG)(run:gW):Prop:=∀f,(C.mode f=.pure\/C.mode f=.opened)->eE C.P f (run f)
theorem L2.append{R:Value->PV->Prop}{vs us:List Value}{cs ds:List PV}(a:L2 R vs cs)(b:L2 R us ds):L2 R (vs++us) (cs++ds):=by
 obtain⟨a1,a2⟩:=a;obtain⟨b1,b2⟩:=b;refine⟨by simp[a1,b1],λj hj=>?_⟩
 by_cases XD:j<cs.length
 ·have:=a2 j XD;simp only[List.getD]at this ⊢;rwa[aa3 (by omega),aa3 XD]
 ·have:=b2 (j - cs.length) (by simp at hj;omega);simp only[List.getD]at this ⊢;rwa[abd (by omega),abd (by omega),a1]
theorem L2.take{R:Value->PV->Prop}{vs:List Value}{cs:List PV}(a:L2 R vs cs)(k:Nat):L2 R (vs.take k) (cs.take k):=by
 refine⟨by simp[a.1],λj hj=>?_⟩;simp only[ab7]at hj;have:=a.2 j (by omega);simp only[List.getD]at this ⊢;rwa[abn,abn,if_pos (by omega),if_pos (by omega)]
theorem L2.drop{R:Value->PV->Prop}{vs:List Value}{cs:List PV}(a:L2 R vs cs)(k:Nat):L2 R (vs.drop k) (cs.drop k):=by
 refine⟨by simp[a.1],λj hj=>?_⟩;simp only[ac3]at hj;have:=a.2 (k+j) (by omega);simp only[List.getD]at this ⊢;rwa[abI,abI]
theorem ji{C:cG}(K:eY C){run:gW}(S:gz C run)(H:ba w F Z h){a:Act}{Y:Nat->PV}(R:gZ w (Av F h Z) Z h a Y){lv:Nat}{o:Oper}{p:PV}{h':ab}(e:ar C run lv o.op Y h=some (p,h'))
  {next:Act->World->Prop} {Q:Exit->Act->World->Prop} (hK:∀v w' Z',aE w' (Av F h' Z') Z' h' v p->ba w' F Z' h'->dU w h Z w' h' Z'->(lv<=1->dD w w')->next (a.put o.dst v) w'):o.wp C.P a w next Q:=by
 have simple:tQ C.P lv w F Z h (execOp a.eval o) p h'->o.wp C.P a w next Q:=by
  rintro⟨v,w',Z',h1,h2,h3,h4,h5⟩;unfold Oper.wp;rcases h1 with h1 |⟨h1,rfl⟩;rw[h1];exact hK v w' Z' h2 h3 h4 h5;rw[h1];exact hK undef w' Z' h2 h3 h4 h5
 unfold ar at e
 split at e
 ·rename_i c lz
  have hex:execOp a.eval o=(do let d<-resolve a.eval c o.type;invoke d.target d.args):=by
   cases o;simp only at lz;subst lz;rfl
  split at e
  ·rename_i f EX
   unfold fQ at e
   split at e
   ·rename_i g dy hf
    have hv:=R.ev H.fA f;rw[hf]at hv;obtain⟨cv,c1,c2,c3⟩:=hv.Fw;have qR:=(R.LM H.fA c.args.toList).append (show L2 (aE w (Av F h Z) Z h) cv dy from⟨c2,c3⟩)
    by_cases hx:∃q,C.mode g=.ext q
    ·obtain⟨q,hq⟩:=hx;unfold di at e;rw[hq]at e;simp only at e
     split at e
     ·rename_i vC
      obtain⟨e1,rfl⟩:=dM e;rw[bj]at vC
      obtain⟨v,x1,x2⟩:=K.ext g q hq _ p e1 w (Av F h' Z) (c.args.toList.map a.eval++cv) ⟨by simp only[cJ,ace];exact qR.1,λj hj=>by
       rw[fX];have E2:j<(c.args.toList.map (Pm.ev Y)++dy).length:=by simpa[cJ]using hj
       exact((qR.2 j E2).EZ (fJ vC E2)).bW⟩
      refine simple ⟨v,w,Z,.inl ?_,.val x2,H,dU.refl w h' Z,λ_=>dD.refl w⟩;rw[hex];simp only[resolve,EX,c1,Deferred.ofValue,Sem.run_bind,Sem.run_pure,Result.andThen_ok,invoke];rw[<-x1]
      congr 2
      apply acy;simp
     cases e
    have bN:∀q,C.mode g≠.ext q:=λq hq=>hx ⟨q,hq⟩
    obtain⟨cs,hm⟩:=zZ K (S g) e H qR bN
    have gm:(execOp a.eval o).run C.P w=.ok (.enter g ((c.args.toList.map a.eval)++cv).toArray) w:=by
     rw[hex];simp only[resolve,EX,c1,Deferred.ofValue,Sem.run_bind,Sem.run_pure,Result.andThen_ok,invoke];rw[ss K hm bN]
     congr 2
     apply acy;simp
    unfold Oper.wp;rw[gm];refine cs.mono ?_;rintro en w' ⟨v,Z',rfl,q1,q2,q3,q4⟩;exact hK v w' Z' q1 q2 q3 q4
   ·rename_i g kk dy hf
    have hv:=R.ev H.fA f;rw[hf]at hv;obtain⟨cv,c1,c2,c3⟩:=hv.Qh;have E3:L2 (aE w (Av F h Z) Z h) cv dy:=⟨c2,c3⟩;have qR:=((E3.take kk).append (R.LM H.fA c.args.toList)).append (E3.drop kk)
    by_cases hx:∃q,C.mode g=.ext q
    ·obtain⟨q,hq⟩:=hx;unfold di at e;rw[hq]at e;simp only at e
     split at e
     ·rename_i vC
      obtain⟨e1,rfl⟩:=dM e;rw[bj]at vC
      obtain⟨v,x1,x2⟩:=K.ext g q hq _ p e1 w (Av F h' Z) (cv.take kk++c.args.toList.map a.eval++cv.drop kk) ⟨by simp only[cJ,ace];exact qR.1,λj hj=>by
       rw[fX];have E2:j<(dy.take kk++c.args.toList.map (Pm.ev Y)++dy.drop kk).length:=by simpa[cJ]using hj
       exact((qR.2 j E2).EZ (fJ vC E2)).bW⟩
      refine simple ⟨v,w,Z,.inl ?_,.val x2,H,dU.refl w h' Z,λ_=>dD.refl w⟩;rw[hex];simp only[resolve,EX,c1,Deferred.ofValue,Sem.run_bind,Sem.run_pure,Result.andThen_ok,invoke];rw[<-x1]
      congr 2
      apply acy;simp
     cases e
    have bN:∀q,C.mode g≠.ext q:=λq hq=>hx ⟨q,hq⟩
    obtain⟨cs,hm⟩:=zZ K (S g) e H qR bN
    have gm:(execOp a.eval o).run C.P w=.ok (.enter g (cv.take kk++c.args.toList.map a.eval++cv.drop kk).toArray) w:=by
     rw[hex];simp only[resolve,EX,c1,Deferred.ofValue,Sem.run_bind,Sem.run_pure,Result.andThen_ok,invoke];rw[ss K hm bN]
     congr 2
     apply acy;simp
    unfold Oper.wp;rw[gm];refine cs.mono ?_;rintro en w' ⟨v,Z',rfl,q1,q2,q3,q4⟩;exact hK v w' Z' q1 q2 q3 q4
   cases e
  ·rename_i b hcb
   refine simple ?_
   have hb:∀cb cb',builtin b c.argTypes o.type cb (c.args.map a.eval)=builtin b c.argTypes o.type cb' (c.args.map a.eval):=by
    intro cb cb'
    cases b <;>first |rfl |simp[br]at e
   have gm:(execOp a.eval o).run C.P w=(builtin b c.argTypes o.type #[] (c.args.map a.eval)).run C.P w:=by
    rw[hex];simp only[resolve,hcb,Sem.run_bind,Sem.run_pure,Result.andThen_ok,invoke];rw[hb _ #[]]
   obtain⟨v,w',Z',h1,h2⟩:=C' (ty:=o.type) (cb:=#[]) H R e;refine⟨v,w',Z',?_,h2⟩;rw[gm];exact h1
  cases e
 ·rename_i hnc
  exact simple (Fx H R hnc e)
structure SR(N:Nat)(w:World)(F:Nat->Prop)(Z:List (Nat×Nat))(s:St)(a:Act):Prop where
 hr:ba w F Z s.h
 er:gZ w (Av F s.h Z) Z s.h a s.Y
 df:a.defers=[]
 sz:N<=a.tmps.size
theorem Mf(a:Act)(d:Option Nat)(v:Value)(t:Nat)(N:Nat)(hd:∀k,d=some k->k<a.tmps.size):(a.put d v).tmps.getD t undef=if d=some t then v else a.tmps.getD t undef:=by
 cases d with
 |none=>simp[Act.put]
 |some k=>
  have:=hd k rfl
  by_cases hk:k=t
  subst hk;simp[Act.put,this]
  ·have:¬(some k=some t):=λh=>hk (aa2 h)
   simp[Act.put,this,hk]
theorem nV(Y:Nat->PV)(d:Option Nat)(p:PV)(t:Nat):bY Y d p t=if d=some t then p else Y t:=by
 cases d with
 |none=>simp[bY]
 |some k=>
  by_cases hk:t=k
  subst hk;simp[bY,nL]
  ·have:¬(some k=some t):=λh=>hk (aa2 h).symm
   simp[bY,nL,hk,this]
theorem gA(a:Act)(d:Option Nat)(v:Value):(a.put d v).tmps.size=a.tmps.size:=by cases d <;>simp[Act.put]
theorem dY(a:Act)(d:Option Nat)(v:Value):(a.put d v).defers=a.defers:=by cases d <;>simp[Act.put]
theorem gZ.put{A:Nat->Prop}{a:Act}{Y:Nat->PV}(r:gZ w A Z h a Y){d:Option Nat}(hd:∀k,d=some k->k<a.tmps.size){v:Value}{p:PV}(hv:aE w A Z h v p):gZ w A Z h (a.put d v) (bY Y d p):=by
 intro t
 rw[Mf a d v t 0 hd,nV]
 split
 exact hv;exact r t
theorem gZ.mono{w':World}{h':ab}{Z':List (Nat×Nat)}(s:dU w h Z w' h' Z'){a:Act}{Y:Nat->PV}(r:gZ w (Av F h Z) Z h a Y):gZ w' (Av F h' Z') Z' h' a Y:=λt=>(r t).mono s
theorem cY{A:Nat->Prop}{a:Act}{Y:Nat->PV}(r:gZ w A Z h a Y){ops:Array Oper}{o:Oper}{b:Bool}(e:bu ops o Y=some b):Region.wanted o (yielded ops a.tmps)=b:=by
 unfold bu at e;unfold Region.wanted
 split at e
 ·rename_i hg
  rw[hg];exact aa2 e
 ·rename_i j want hg
  rw[hg];simp only
  split at e
  ·rename_i hd
   obtain rfl:=aa2 e;have:((ops[j]?).bind (·.dst))=none:=by simpa using hd
   simp[yielded,this]
  ·rename_i d hd
   have CW:((ops[j]?).bind (·.dst))=some d:=by simpa using hd
   have hr:=r d
   split at e
   ·rename_i bb hb
    obtain rfl:=aa2 e;rw[hb]at hr;have hv:=hr.gF
    have:a.tmps[d]?=some (.bool bb):=by
     rcases abJ d a.tmps.size with cL |z7;simp[cL]at hv;simp[cL,hv];simp[acY z7,undef]at hv
    simp[yielded,CW,this]
   ·rename_i hb
    obtain rfl:=aa2 e;rw[hb]at hr;have hv:=hr.Jd;rcases abJ d a.tmps.size with cL |z7;simp[cL]at hv;simp[yielded,CW,cL,hv];simp[yielded,CW,acY z7]
   cases e
def jC(N:Nat)(o:Oper):Bool:=match o.dst with |some d=>decide (d<N)|none=>true
theorem il{N:Nat}{o:Oper}(hd:jC N o=true){a:Act}(hs:N<=a.tmps.size):∀k,o.dst=some k->k<a.tmps.size:=by
 intro k hk
 have:k<N:=by simpa[jC,hk]using hd
 exact abO this hs
theorem z8{C:cG}(K:eY C){run:gW}(S:gz C run){N:Nat}{s s':St}{a:Act}(R:SR N w F Z s a){ops:Array Oper}{o:Oper}(hd:jC N o=true)(e:fR C run ops o s=some s')
  {next:Act->World->Prop} {Q:Exit->Act->World->Prop} (hK:∀a' w' Z',SR N w' F Z' s' a'->dU w s.h Z w' s'.h Z'->next a' w'):
  if Region.wanted o (yielded ops a.tmps)then o.wp C.P a w next Q else next (a.put o.dst undef) w:=by
 unfold fR at e;have Fy:=il hd R.sz
 split at e
 ·rename_i hw
  rw[cY R.er hw,if_pos rfl]
  split at e
  ·rename_i v h' hv
   obtain rfl:=aa2 e;refine ji K S R.hr R.er hv (λu w' Z' q1 q2 q3 _=>hK _ w' Z' ⟨q2,(R.er.mono q3).put Fy q1,by rw[dY];exact R.df,by rw[gA];exact R.sz⟩ q3)
  cases e
 ·rename_i hw
  rw[cY R.er hw,if_neg (by simp)];obtain rfl:=aa2 e;exact hK _ w Z ⟨R.hr,R.er.put Fy .undef,by rw[dY];exact R.df,by rw[gA];exact R.sz⟩ (dU.refl w s.h Z)
 cases e
theorem FA{C:cG}(K:eY C){run:gW}(S:gz C run){N:Nat}{ops:Array Oper}{Q:Exit->Act->World->Prop}(hd:ops.toList.all (jC N)=true):
  ∀(l:List Oper) (k:Nat) {w:World} {Z:List (Nat×Nat)} {s s':St} {a:Act},ops.toList.drop k=l->SR N w F Z s a->dH C run ops l s=some s'->
   (∀a' w' Z',SR N w' F Z' s' a'->dU w s.h Z w' s'.h Z'->Q .normal a' w')->wpOps C.P ops Q (List.map (·+k) (List.range l.length)) a w:=by
 intro l
 induction l with
 |nil=>
  intro k w Z s s' a hl R e hQ
  simp[dH]at e;subst e;simpa[wpOps]using hQ a w Z R (dU.refl w s.h Z)
 |cons o r ih=>
  intro k w Z s s' a hl R e hQ
  simp only[dH]at e
  have hk:ops[k]?=some o:=by
   rw[<-abD];have:(ops.toList.drop k)[0]?=some o:=by rw[hl];rfl
   rwa[abI]at this
  have hr:ops.toList.drop (k+1)=r:=by
   have:=congrArg (List.drop 1) hl;rwa[List.drop_drop]at this
  have xb:List.map (·+k) (List.range (o::r).length)=k::List.map (·+(k+1)) (List.range r.length):=by
   rw[abg,adn];simp only[abk,abp,adf]
   congr 1
   apply acg
   intro x _
   simp;omega
  rw[xb];simp only[wpOps,hk]
  split at e
  ·rename_i s1 he
   have XE:jC N o=true:=aa4.1 hd o (by
    have:o∈ops.toList.drop k:=by rw[hl];simp
    exact abM this)
   have:=z8 K S R XE he (Q:=Q) (next:=wpOps C.P ops Q (List.map (·+(k+1)) (List.range r.length))) (λa' w' Z' R' S'=>ih (k+1) hr R' e (λa2 w2 Z2 R2 S2=>hQ a2 w2 Z2 R2 (S'.trans S2)))
   split
   ·rename_i hw;rw[if_pos hw]at this;exact .inl this
   ·rename_i hw;rw[if_neg hw]at this;exact this
  cases e
theorem Je{C:cG}(K:eY C){run:gW}(S:gz C run){N:Nat}{ops:Array Oper}{id:Nat}{Q:Exit->Act->World->Prop}(hd:ops.toList.all (jC N)=true){s s':St}{a:Act}(R:SR N w F Z s a)
  (e:dH C run ops ops.toList s=some s') (hQ:∀a' w' Z',SR N w' F Z' s' a'->dU w s.h Z w' s'.h Z'->Q .normal a' w'):(Code.region id ops false).wp C.P Q a w:=by
 refine wp_region ?_;have:=FA K S hd ops.toList 0 (by simp) R e hQ;simpa using this
end Go.Pm
