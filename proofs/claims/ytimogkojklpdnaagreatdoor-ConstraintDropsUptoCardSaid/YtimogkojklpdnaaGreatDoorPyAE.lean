/-
  A part of the library Pm (joined by program). Conditions: none.
-/
import Derived.Test.YtimogkojklpdnaaGreatDoorPyAA
import Derived.Test.YtimogkojklpdnaaGreatDoorPyAC
import Derived.Test.YtimogkojklpdnaaGreatDoorPyAD
set_option linter.unusedVariables false
set_option linter.unusedSimpArgs false
set_option linter.unnecessarySimpa false
namespace Go.Pm
abbrev Al:=List (Nat×PV)
inductive Rn(p:Prop):Prop
 |go (k:p)
theorem Rn.out{p:Prop}(h:Rn p):p:=h.casesOn id
inductive rr(p a b:Prop):Prop
 |tt (k:Rn a) (h:p:=by first |assumption |omega |decide)
 |ff (k:Rn b) (h:¬p:=by first |assumption |omega |decide)
 |mk (t:p->Rn a) (f:¬p->Rn b)
theorem rr.out{p a b:Prop}(h:rr p a b):(p/\a)\/(¬p/\b):=by
 cases h with
 |tt k h=>exact .inl ⟨h,k.out⟩
 |ff k h=>exact .inr ⟨h,k.out⟩
 |mk t f=>
  by_cases hp:p
  ·exact .inl ⟨hp,(t hp).out⟩
  ·exact .inr ⟨hp,(f hp).out⟩
inductive Wr(k:IntKind)(c:Int)(K:Int->Prop):Prop
 |mk (kk:Rn (K c)) (h:k.wrap c=c:=by first |exact ju (by omega) (by omega)|exact Qb (by omega) (by omega))
 |raw (c':Int) (h:k.wrap c=c') (kk:Rn (K c'))
theorem Wr.out{k:IntKind}{c:Int}{K:Int->Prop}(h:Wr k c K):K (k.wrap c):=by
 cases h with
 |mk kk h=>rw[h];exact kk.out
 |raw c' h kk=>rw[h];exact kk.out
inductive Sd(p a:Prop):Prop
 |mk (k:Rn a) (h:p:=by first |assumption |omega |decide |rfl |(dsimp only;omega)|(simp;done)|(simp;omega))
theorem Sd.out{p a:Prop}(h:Sd p a):p/\a:=by cases h with |mk k h=>exact⟨h,k.out⟩
theorem pN{h J:ab}{id ep:Nat}{o:au}(e:getM h id ep=some o):getM (h++J) id ep=some o:=by
 obtain⟨h1,h2,h3⟩:=getM_some e;exact bg (by rw[Z0 (ag h1)];exact h1) h2 h3
inductive DM(h:ab)(id ep:Nat)(K:au->Prop):Prop
 |mk {o:au} (kk:Rn (K o)) (ho:getM h id ep=some o:=by first |exact bg (by assumption) rfl (by first |assumption |simp)|rfl |exact kX |exact pN (bg (by assumption) rfl (by first |assumption |simp))|exact pN kX |exact pN (pN (bg (by assumption) rfl (by first |assumption |simp))))
theorem DM.out{h:ab}{id ep:Nat}{K:au->Prop}(x:DM h id ep K):∃o,getM h id ep=some o/\K o:=by cases x with |mk kk ho=>exact⟨_,ho,kk.out⟩
inductive PW(es:List PV)(i:Int)(sz:Nat)(K:List PV->Prop):Prop
 |mk {n:Nat} {v:PV} (kk:Rn (K (cells v))) (hi:i=(n:Int):=by first |rfl |exact(Int.natCast_succ _).symm |exact(aco (by omega)).symm) (hv:es[n]?=some v:=by first |assumption |rfl) (hl:(cells v).length=sz:=by rfl)
theorem PW.out{es:List PV}{i:Int}{sz:Nat}{K:List PV->Prop}(x:PW es i sz K):∃(n:Nat) (v:PV),i=n/\es[n]?=some v/\(cells v).length=sz/\K (cells v):=by
 cases x with |mk kk h1 h2 h3=>exact⟨_,_,h1,h2,h3,kk.out⟩
inductive Yg(s:ByteArray)(i:Int)(K:UInt8->Prop):Prop
 |mk {n:Nat} {b:UInt8} (kk:Rn (K b)) (hi:i=(n:Int):=by first |rfl |exact(Int.natCast_succ _).symm |exact(aco (by omega)).symm) (hv:s[n]?=some b:=by first |assumption |rfl)
theorem Yg.out{s:ByteArray}{i:Int}{K:UInt8->Prop}(x:Yg s i K):∃(n:Nat) (b:UInt8),i=n/\s[n]?=some b/\K b:=by cases x with |mk kk h1 h2=>exact⟨_,_,h1,h2,kk.out⟩
inductive NQ(o:au):ab->ab->Nat->Prop
 |nil:NQ o [] [o] 0
 |cons {x:au} {l l':ab} {n:Nat}:NQ o l l' n->NQ o (x::l) (x::l') (n+1)
 |gen {l:ab}:NQ o l (l++[o]) l.length
theorem NQ.eq{o:au}{l l':ab}{n:Nat}(a:NQ o l l' n):l'=l++[o]/\n=l.length:=by
 induction a with
 |nil=>exact⟨rfl,rfl⟩
 |cons _ ih=>obtain⟨rfl,rfl⟩:=ih;exact⟨rfl,rfl⟩
 |gen=>exact⟨rfl,rfl⟩
inductive uX(h:ab)(o:au)(K:Nat->ab->Prop):Prop
 |mk {n:Nat} {h':ab} (kk:Rn (K n h')) (ha:NQ o h h' n:=by repeat(first |exact .nil |apply NQ.cons |exact .gen))
theorem uX.out{h:ab}{o:au}{K:Nat->ab->Prop}(x:uX h o K):K h.length (h++[o]):=by
 cases x with |mk kk ha=>obtain⟨rfl,rfl⟩:=ha.eq;exact kk.out
def HR(h:ab):Prop:=∀o∈h,o.mu≠.x/\bz (λi=>decide (i<h.length)) o.es=true
mutual
theorem wK{f g:Nat->Bool}(hi:∀i,f i=true->g i=true):∀p,bt f p=true->bt g p=true
 | .int ..,_ | .bool _,_ | .str _,_ | .ek,_ | .aG,_ | .gm,_ | .aa ..,_ | .eH _,_ | .undef,_ | .any,_=>rfl
 | .ak ..,h=>by simp only[bt]at h ⊢;exact hi _ h
 | .ptr ..,h=>by simp only[bt]at h ⊢;exact hi _ h
 | .cB _,h=>by simp only[bt]at h ⊢;exact hi _ h
 | .agg cs,h=>by simp only[bt]at h ⊢;exact eG hi cs h
 | .cx cs,h=>by simp only[bt]at h ⊢;exact eG hi cs h
 | .fn _ cs,h=>by simp only[bt]at h ⊢;exact eG hi cs h
 | .ni _ _ cs,h=>by simp only[bt]at h ⊢;exact eG hi cs h
theorem eG{f g:Nat->Bool}(hi:∀i,f i=true->g i=true):∀cs,bz f cs=true->bz g cs=true
 |[],_=>rfl
 |c::r,h=>by
  simp only[bz,Z9]at h ⊢;exact⟨wK hi c h.1,eG hi r h.2⟩
end
theorem HR.Qz{h:ab}(H:HR h){i:Nat}(hi:i<h.length):aL h i=true:=by
 unfold aL;rw[Z3 hi];simpa using(H _ (aay hi)).1
theorem HR.closed{h:ab}(H:HR h):aT h=true:=by
 unfold aT;rw[Z1]
 intro o ho
 rw[eG (λi hi=>H.Qz (of_decide_eq_true hi)) _ (H o ho).2];simp
theorem HV.hr{h:ab}(H:HV h):HR h:=λo ho=>⟨(H o ho).1,br _ _ (H o ho).2⟩
theorem HR.cC{h J:ab}(H:HR h)(hJ:∀o∈J,o.mu≠.x/\bz (λi=>decide (i<h.length+J.length)) o.es=true):HR (h++J):=by
 intro o ho
 rw[Z2];rcases Z8.1 ho with ho |ho
 ·exact⟨(H o ho).1,eG (λi hi=>by have:=of_decide_eq_true hi;exact decide_eq_true (by omega)) _ (H o ho).2⟩
 ·exact hJ o ho
theorem HR.dq{h J:ab}(H:HR h)(hJ:HV J):HR (h++J):=H.cC λo ho=>⟨(hJ o ho).1,br _ _ (hJ o ho).2⟩
theorem HR.K6{h:ab}(H:HR h){o:au}(h1:o.mu≠.x:=by simp)(h2:bz (λi=>decide (i<h.length+1)) o.es=true:=by simp[bz,bt];omega):HR (h++[o]):=H.cC λo' ho=>by
 obtain rfl:=aav.1 ho;exact⟨h1,h2⟩
theorem HR.set{h:ab}(H:HR h)(id:Nat){o:au}(h1:o.mu≠.x:=by simp)(h2:bz (λi=>decide (i<h.length)) o.es=true:=by simp[bz,bt];omega):HR (h.set id o):=by
 intro o' ho
 rw[ach];rcases abc ho with ho |rfl
 ·exact H o' ho
 ·exact⟨h1,h2⟩
structure LR(H:ab)(v:PV)(sz:Nat)(eT:List PV)(r:PV)(h':ab):Prop where
 out:Out sz h' r eT
 hr:HR h'
 len:H.length<=h'.length
 fr:∀j,j<H.length->(∀ep n,v≠.ak j ep 0 n)->h'[j]?=H[j]?
 ref:∀j ep n,r=.ak j ep 0 n->(∃h9 n',v=.ak j h9 0 n')\/H.length<=j
inductive PX(h:ab)(sz:Nat)(v:PV)(ys:List PV)(K:PV->ab->Prop):Prop
 |lp {es:List PV} (kk:∀v' h',LP h v sz (es++ys) v' h'->Rn (K v' h')) (ho:Out sz h v es:=by first |assumption |exact .inl ⟨rfl,rfl⟩) (zf:dB sz ys:=by first |rfl |(simp;done)) (hn:es.length+ys.length<1000000000:=by first |omega |(simp only[Z4,aaE];omega))
   (EM:ao (es++ys)=true:=by simp) (hH:HV h:=by first |assumption |exact HV.nil)
 |lr {es:List PV} (kk:∀v' h',LR h v sz (es++ys) v' h'->Rn (K v' h')) (ho:Out sz h v es:=by first |assumption |exact .inl ⟨rfl,rfl⟩) (zf:dB sz ys:=by first |rfl |(simp;done)) (hn:es.length+ys.length<1000000000:=by first |omega |(simp only[Z4,aaE];omega))
   (EM:bz (λi=>decide (i<h.length)) (es++ys)=true:=by first |exact br _ _ (by simp)|(simp[bz,bt];done)) (hH:HR h:=by assumption)
 |nn {full:Bool} {es:List PV} (kk:Rn (K (.aa full es) h)) (oh:ys=[]) (hv:v=.aa full es:=by rfl)
 |sn {es:List PV} (kk:Rn (K (.ak h.length 0 0 (es.length+ys.length)) (h++[⟨.m,0,sz,es++ys⟩]))) (bJ:ys.isEmpty=false) (hn:es.length+ys.length<1000000000) (hv:v=.aa true es:=by rfl) (zf:dB sz ys:=by first |rfl |(simp;done)) (heo:dB sz es:=by first |rfl |(simp;done))
inductive Cc(C:cP)(op:Op)(L:Al)(h:ab)(K:PV->ab->Prop):Prop
 |mk {v:PV} {h':ab} (hc:∀run ρ,ar C run 2 op (al L ρ) h=some (v,h')) (kk:Rn (K v h'))
theorem Cc.out{C:cP}{op:Op}{L:Al}{h:ab}{K:PV->ab->Prop}(x:Cc C op L h K):∃v h',(∀run ρ,ar C run 2 op (al L ρ) h=some (v,h'))/\K v h':=by cases x with |mk hc kk=>exact⟨_,_,hc,kk.out⟩
inductive Bt(C:cP)(op:Op)(L:Al)(K:PV->Prop):Prop
 |mk {v:PV} (hc:∀run lv ρ h,ar C run lv op (al L ρ) h=some (v,h)) (kk:Rn (K v))
theorem Bt.out{C:cP}{op:Op}{L:Al}{K:PV->Prop}(x:Bt C op L K):∃v,(∀run lv ρ h,ar C run lv op (al L ρ) h=some (v,h))/\K v:=by cases x with |mk hc kk=>exact⟨_,hc,kk.out⟩
inductive oR(C:cP)(op:Op)(L:Al)(h:ab)(K:PV->Prop):Prop
 |mk {v:PV} (hc:∀run lv ρ,ar C run lv op (al L ρ) h=some (v,h)) (kk:Rn (K v))
theorem oR.out{C:cP}{op:Op}{L:Al}{h:ab}{K:PV->Prop}(x:oR C op L h K):∃v,(∀run lv ρ,ar C run lv op (al L ρ) h=some (v,h))/\K v:=by cases x with |mk hc kk=>exact⟨_,hc,kk.out⟩
def yS{α:Type}:List α->Nat->Option α
 |[],_=>none
 |a::_,0=>some a
 |_::l,n+1=>yS l n
theorem qj{α:Type}:∀(l:List α) (n:Nat),yS l n=l[n]?
 |[],n=>by simp[yS]
 |a::l,0=>by simp[yS]
 |a::l,n+1=>by simp[yS,qj l n]
def nW:Nat->List PV->(List PV->Prop)->Prop
 |0,l,k=>k l
 |n+1,_::l,k=>nW n l k
 |_+1,[],_=>False
theorem iN:∀{n:Nat} {l:List PV} {k:List PV->Prop},nW n l k->n<=l.length/\k (l.drop n)
 |0,l,k,h=>⟨by omega,h⟩
 |n+1,_::l,k,h=>by obtain⟨h1,h2⟩:=iN (n:=n) h;exact⟨by simp;omega,h2⟩
 |_+1,[],_,h=>h.elim
def ya:Nat->List PV->(List PV->Prop)->Prop
 |0,_,k=>k []
 |n+1,c::l,k=>ya n l λr=>k (c::r)
 |_+1,[],_=>False
theorem m':∀{n:Nat} {l:List PV} {k:List PV->Prop},ya n l k->n<=l.length/\k (l.take n)
 |0,l,k,h=>⟨by omega,h⟩
 |n+1,c::l,k,h=>by obtain⟨h1,h2⟩:=m' (n:=n) h;exact⟨by simp;omega,h2⟩
 |_+1,[],_,h=>h.elim
def Jy:Nat->List PV->List PV->(List PV->Prop)->Prop
 |0,cs,[],k=>k cs
 |0,_::cs,v::vs,k=>Jy 0 cs vs λr=>k (v::r)
 |n+1,c::cs,vs,k=>Jy n cs vs λr=>k (c::r)
 |0,[],_::_,_=>False
 |_+1,[],_,_=>False
theorem sD:∀{n:Nat} {cs vs:List PV} {k:List PV->Prop},Jy n cs vs k->n+vs.length<=cs.length/\k (cs.take n++vs++cs.drop (n+vs.length))
 |0,cs,[],k,h=>⟨by simp,by simpa[Jy]using h⟩
 |0,_::cs,v::vs,k,h=>by obtain⟨h1,h2⟩:=sD (n:=0) (cs:=cs) h;exact⟨by simp at h1 ⊢;omega,by simpa using h2⟩
 |n+1,c::cs,vs,k,h=>by
  obtain⟨h1,h2⟩:=sD (n:=n) h;exact⟨by simp;omega,by rw[show n+1+vs.length=(n+vs.length)+1 by omega];simpa using h2⟩
 |0,[],_::_,_,h=>h.elim
 |_+1,[],_,_,h=>h.elim
def nZ(L:Al):List Operand->(List PV->Prop)->Prop
 |[],k=>k []
 |x::xs,k=>match cM L x with
  |some v=>nZ L xs λr=>k (v::r)
  |none=>False
theorem iO{L:Al}:∀{xs:List Operand} {k:List PV->Prop},nZ L xs k->∃vs,xU L xs=some vs/\k vs
 |[],k,h=>⟨[],rfl,h⟩
 |x::xs,k,h=>by
  unfold nZ at h
  split at h
  ·rename_i v hv
   obtain⟨vs,e,hk⟩:=iO h;exact⟨v::vs,by simp[xU,hv,e],hk⟩
  ·exact h.elim
def uY:List PV->List PV->(List PV->Prop)->Prop
 |[],b,k=>k b
 |a::l,b,k=>uY l b λr=>k (a::r)
theorem j9:∀{a b:List PV} {k:List PV->Prop},uY a b k->k (a++b)
 |[],_,_,h=>h
 |_::l,b,k,h=>j9 (a:=l) h
variable{C:cP}(T:lL C.P)
section
variable{ρ:Nat->PV}{L:Al}{h:ab}
theorem PY(a:Int):a.fdiv (2^ (min (1:Int).toNat 64))=a / 2:=by
 show a.fdiv 2=a / 2;rw[Int.fdiv_eq_ediv_of_nonneg _ (by omega)]
inductive PZ(a b:Int)(bits:Nat)(K:Int->Prop):Prop
 |mk {c:Int} (kk:Rn (K c)) (h:a.fdiv (2^ (min b.toNat bits))=c:=by first |exact PY _ |rfl) (h0:0<=b:=by omega)
theorem PZ.out{a b:Int}{bits:Nat}{K:Int->Prop}(x:PZ a b bits K):0<=b/\K (a.fdiv (2^ (min b.toNat bits))):=by
 cases x with |mk kk h h0=>rw[h];exact⟨h0,kk.out⟩
inductive Q7(k:IntKind)(c:Int)(K:Int->Prop):Prop
 |mk (c':Int) (h:k.wrap c=c') (kk:Rn (K c'))
theorem Q7.out{k:IntKind}{c:Int}{K:Int->Prop}(h:Q7 k c K):K (k.wrap c):=by
 cases h with
 |mk c' h kk=>rw[h];exact kk.out
inductive P0(k:IntKind)(a b:Int)(K:Int->Prop):Prop
 |mk (c:Int) (h:k.wrap (a * 2^ (min b.toNat k.bits))=c) (h0:0<=b) (kk:Rn (K c))
theorem P0.out{k:IntKind}{a b:Int}{K:Int->Prop}(x:P0 k a b K):0<=b/\K (k.wrap (a * 2^ (min b.toNat k.bits))):=by
 cases x with |mk c h h0 kk=>rw[h];exact⟨h0,kk.out⟩
def Xi(k:IntKind)(op:BinOp)(a b:Int)(K:PV->Prop):Prop:=
 match op with
 | .eql=>rr (a=b) (K (.bool true)) (K (.bool false))
 | .neq=>rr (a=b) (K (.bool false)) (K (.bool true))
 | .lss=>rr (a<b) (K (.bool true)) (K (.bool false))
 | .leq=>rr (a<=b) (K (.bool true)) (K (.bool false))
 | .gtr=>rr (b<a) (K (.bool true)) (K (.bool false))
 | .geq=>rr (b<=a) (K (.bool true)) (K (.bool false))
 | .add=>Wr k (a+b) λc=>K (.int k c)
 | .sub=>Wr k (a - b) λc=>K (.int k c)
 | .mul=>Wr k (a * b) λc=>K (.int k c)
 | .quo=>Sd (b≠0) (Wr k (a.tdiv b) λc=>K (.int k c))
 | .rem=>Sd (b≠0) (K (.int k (a.tmod b)))
 | .and=>Q7 k (BitVec.ofInt k.bits a&&&BitVec.ofInt k.bits b).toNat λc=>K (.int k c)
 | .or=>Q7 k (BitVec.ofInt k.bits a |||BitVec.ofInt k.bits b).toNat λc=>K (.int k c)
 | .xor=>Q7 k (BitVec.ofInt k.bits a^^^BitVec.ofInt k.bits b).toNat λc=>K (.int k c)
 |_=>False
theorem kq{p:Prop}{x:PV->Prop}{u v c:Bool}(h:rr p (x (.bool u)) (x (.bool v)))(h1:p->c=u)(h2:¬p->c=v):x (.bool c):=by
 rcases h.out with⟨h3,h4⟩|⟨h3,h4⟩
 ·rw[h1 h3];exact h4
 ·rw[h2 h3];exact h4
theorem Nk{k:IntKind}{op:BinOp}{a b:Int}{K:PV->Prop}(h:Xi k op a b K):∃v,(∀t,fj C.P op t (.int k a) (.int k b)=some v)/\K v:=by
 cases op with
 |eql=>exact⟨_,λt=>by simp only[fj,gD];rfl,kq h (λh=>by simp[h]) (λh=>by simp[h])⟩
 |neq=>exact⟨_,λt=>by simp only[fj,gD];rfl,kq h (λh=>by simp[h]) (λh=>by simp[h])⟩
 |lss=>exact⟨_,λt=>by simp only[fj,gD];rfl,kq h (λh=>by simp[h]) (λh=>by simp[h])⟩
 |leq=>exact⟨_,λt=>by simp only[fj,gD];rfl,kq h (λh=>by simp[h]) (λh=>by simp[h])⟩
 |gtr=>exact⟨_,λt=>by simp only[fj,gD];rfl,kq h (λh=>by simp[h]) (λh=>by simp[h])⟩
 |geq=>exact⟨_,λt=>by simp only[fj,gD];rfl,kq h (λh=>by simp[h]) (λh=>by simp[h])⟩
 |add=>exact⟨_,λt=>by simp only[fj,gD];rfl,Wr.out h⟩
 |sub=>exact⟨_,λt=>by simp only[fj,gD];rfl,Wr.out h⟩
 |mul=>exact⟨_,λt=>by simp only[fj,gD];rfl,Wr.out h⟩
 |quo=>obtain⟨h1,h2⟩:=Sd.out h;exact⟨_,λt=>by simp only[fj,gD,if_true,if_neg h1],Wr.out h2⟩
 |rem=>obtain⟨h1,h2⟩:=Sd.out h;exact⟨_,λt=>by simp only[fj,gD,if_true,if_neg h1],h2⟩
 |and=>exact⟨_,λt=>by simp only[fj,gD];rfl,Q7.out h⟩
 |or=>exact⟨_,λt=>by simp only[fj,gD];rfl,Q7.out h⟩
 |xor=>exact⟨_,λt=>by simp only[fj,gD];rfl,Q7.out h⟩
 |_=>exact False.elim h
def Xj(op:BinOp)(a b:ByteArray)(K:PV->Prop):Prop:=
 match op with
 | .eql=>rr (a.toList=b.toList) (K (.bool true)) (K (.bool false))
 | .neq=>rr (a.toList=b.toList) (K (.bool false)) (K (.bool true))
 | .lss=>rr (Op.bytesLess a.toList b.toList=true) (K (.bool true)) (K (.bool false))
 | .gtr=>rr ((!(Op.bytesLess a.toList b.toList ||a.toList==b.toList))=true) (K (.bool true)) (K (.bool false))
 | .leq=>rr ((Op.bytesLess a.toList b.toList ||a.toList==b.toList)=true) (K (.bool true)) (K (.bool false))
 | .geq=>rr (Op.bytesLess a.toList b.toList=true) (K (.bool false)) (K (.bool true))
 | .add=>Sd (a.size+b.size<1000000000) (K (.str (a++b)))
 |_=>False
theorem Nl{op:BinOp}{a b:ByteArray}{K:PV->Prop}(h:Xj op a b K):∃v,(∀t,fj C.P op t (.str a) (.str b)=some v)/\K v:=by
 cases op with
 |eql=>exact⟨_,λt=>by simp only[fj,lR];rfl,kq h (λh=>by simp[h]) (λh=>by simp[h])⟩
 |neq=>exact⟨_,λt=>by simp only[fj,lR];rfl,kq h (λh=>by simp[h]) (λh=>by simp[h])⟩
 |lss=>exact⟨_,λt=>by simp only[fj,lR],kq h (λh=>h) (λh=>by simpa using h)⟩
 |gtr=>exact⟨_,λt=>by simp only[fj,lR],kq h (λh=>h) (λh=>by simpa using h)⟩
 |leq=>exact⟨_,λt=>by simp only[fj,lR],kq h (λh=>h) (λh=>by simpa using h)⟩
 |geq=>exact⟨_,λt=>by simp only[fj,lR];rfl,kq h (λh=>by simp[h]) (λh=>by simpa using h)⟩
 |add=>
  obtain⟨h1,h2⟩:=Sd.out h;exact⟨_,λt=>by simp only[fj,lR];rw[if_neg (by show¬((a.size+b.size:Nat):Int)>9223372036854775807;omega)],h2⟩
 |_=>exact False.elim h
def lK(L:Al)(x:Operand)(K:PV->Prop):Prop:=match cM L x with |some v=>K v |none=>False
theorem bB{x:Operand}{K:PV->Prop}(h:lK L x K):∃v,cM L x=some v/\K v:=by
 unfold lK at h
 split at h
 ·exact⟨_,by assumption,h⟩
 ·exact h.elim
def Nn(t:TypeId)(cs:List PV)(off:Nat)(K:PV->Prop):Prop:=
 match T.ta t,T.ts t with
 |some false,some _=>nW off cs λr=>match r with |c::_=>K c |[]=>False
 |some true,some sz=>nW off cs λr=>ya sz r λl=>K (.agg l)
 |_,_=>False
theorem Jz{t:TypeId}{cs:List PV}{off:Nat}{K:PV->Prop}(h:Nn T t cs off K):∃v,vJ C.P t cs off=some v/\K v:=by
 unfold Nn at h
 split at h
 ·rename_i h1 h2
  obtain⟨h3,h4⟩:=iN h
  cases hd:cs.drop off with
  |nil=>rw[hd]at h4;exact h4.elim
  |cons c r=>
   rw[hd]at h4;refine⟨c,?_,h4⟩
   have:cs[off]?=some c:=by
    have:=congrArg List.head? hd;simpa[List.head?_drop]using this
   simp[vJ,T.MD _ _ h1,T.dT _ _ h2,this]
 ·rename_i sz h1 h2
  obtain⟨h3,h4⟩:=iN h;obtain⟨h5,h6⟩:=m' h4;refine⟨_,?_,h6⟩;simp only[vJ,T.MD _ _ h1,T.dT _ _ h2];rw[if_pos];simp at h5;omega
 ·exact h.elim
def No(os:List (Nat×TypeId)):List (Nat×Operand)->List PV->Al->(List PV->Prop)->Prop
 |[],cs,_,K=>K cs
 |(i,x)::r,cs,L,K=>lK L x λv=>match yS os i with
  |some (off,ty)=>match T.ts ty with
   |some sz=>match Nat.beq (cells v).length sz,(cells v).all bI with
    |true,true=>Jy off cs (cells v) λjo=>No os r jo L K
    |_,_=>False
   |none=>False
  |none=>False
theorem Ao{os:List (Nat×TypeId)}:∀{ps:List (Nat×Operand)} {cs:List PV} {K:List PV->Prop},No T os ps cs L K->∃vs jo,ko L ps=some vs/\jU (qe T.ts os) cs vs=some jo/\K jo
 |[],cs,K,h=>⟨[],cs,rfl,rfl,h⟩
 |(i,x)::r,cs,K,h=>by
  obtain⟨v,h1,h2⟩:=bB h
  split at h2
  ·rename_i off ty h3
   split at h2
   ·rename_i sz h4
    split at h2
    ·rename_i h5 h6
     obtain⟨h7,h8⟩:=sD h2;obtain⟨vs,jo,e1,e2,e3⟩:=Ao h8;have h5:=aaN h5;refine⟨(i,v)::vs,jo,by simp[ko,h1,e1],?_,e3⟩;rw[qj]at h3;simp only[jU,qe,h3,h4,aab];rw[if_pos ⟨h5,h6,by omega⟩];exact e2
    ·exact h2.elim
   ·exact h2.elim
  ·exact h2.elim
def Xk(os:List (Nat×TypeId)):Bool:=os.all λo=>(T.ts o.2).isSome
theorem P3{n:Nat}{cs l:List PV}{c:PV}(h:cs.drop n=c::l):n<cs.length:=by
 rcases aaD n cs.length with h1 |h1
 ·exact h1
 ·rw[aaz h1]at h;cases h
theorem Uc{fs:Array Field}{f off:Nat}{ft:TypeId}(h:(fs.toList.map λf=>(f.offset,f.type))[f]?=some (off,ft)):∃fl,fs[f]?=some fl/\fl.offset=off/\fl.type=ft:=by
 rw[aaj]at h
 cases T4:fs.toList[f]? with
 |none=>rw[T4]at h;cases h
 |some fl=>
  rw[T4]at h;simp at h;exact⟨fl,by simpa using T4,h.1,h.2⟩
def wh(op:Op)(L:Al)(K:PV->Prop):Prop:=
 match op with
 | .move x | .assign x=>lK L x K
 | .pick c a b=>lK L c λv=>match v with
  | .bool true=>lK L a K
  | .bool false=>lK L b K
  |_=>False
 | .binOp op t x y _=>lK L x λv=>lK L y λu=>match v,u with
  | .int k a,.int k' b=>match op with
   | .shr=>PZ a b k.bits λc=>K (.int k c)
   | .shl=>P0 k a b λc=>K (.int k c)
   |op=>match decide (k=k')with
    |true=>Xi k op a b K
    |false=>False
  | .str a,.str b=>Xj op a b K
  | .bool a,.bool b=>match T.kd t with
   |some .bool=>match op with
    | .eql=>K (.bool (a==b))
    | .neq=>K (.bool !(a==b))
    |_=>False
   |_=>False
  |_,_=>False
 | .unOp .neg _ x=>lK L x λv=>match v with
  | .int k n=>Wr k (0 - n) λc=>K (.int k c)
  |_=>False
 | .unOp .not _ x=>lK L x λv=>match v with
  | .bool true=>K (.bool false)
  | .bool false=>K (.bool true)
  |_=>False
 | .convert s d x=>lK L x λv=>match v,T.kd s,T.kd d with
  | .int _ n,some _,some (.int k)=>Wr k n λc=>K (.int k c)
  | .str s,some _,some .str=>K (.str s)
  | .aa _ es,some (.sl e),some .str=>match T.kd e,nk es with
   |some (.int .u8),some l=>K (.str (Q8 l))
   |_,_=>False
  |_,_,_=>False
 | .extract x i=>lK L x λv=>match v with
  | .cx vs=>match yS vs i with
   |some u=>K u
   |none=>False
  |_=>False
 | .makeFunc (.func f) first di=>match first.toList with
  |[]=>nZ L di.toList λl=>K (.fn f l)
  |x::r=>nZ L (x::r) λl=>nZ L di.toList λl2=>uY l l2 λl3=>K (.ni f l.length l3)
 | .nilCheck x=>lK L x λv=>match v with
  | .ptr id ep i o=>K (.ptr id ep i o)
  | .eH cs=>K (.eH cs)
  | .fn f cs=>K (.fn f cs)
  |_=>False
 | .field s x f=>lK L x λv=>match v,T.kd s with
  | .agg cs,some (.st os)=>match yS os f with
   |some (off,ft)=>Nn T ft cs off K
   |none=>False
  |_,_=>False
 | .fieldAddr s x f=>lK L x λv=>match T.kd s with
  |some (.st os)=>match yS os f with
   |some (off,ft)=>match T.ts ft with
    |some (_+1)=>match v with
     | .eH cs=>nW off cs λr=>match r with |c::l=>K (.eH (c::l))|[]=>False
     | .ptr id ep i o=>K (.ptr id ep i (o+off))
     |_=>False
    |_=>False
   |none=>False
  |_=>False
 | .index t x ix=>lK L x λv=>lK L ix λu=>match v,u,T.kd t with
  | .str s,.int _ i,some .str=>Yg s i λb=>K (.int .u8 b.toNat)
  |_,_,_=>False
 | .build t parts=>match T.tz t,T.kd t with
  |some z,some (.st os)=>match Xk T os,(cells z).all bI with
   |true,true=>No T os parts.toList (cells z) L λcs=>K (.agg cs)
   |_,_=>False
  |some _,some (.arr _ _)=>Bt C op L K
  |_,_=>False
 |_=>False
theorem pU{op:Op}{K:PV->Prop}(hs:wh T op L K):cV op=false/\∃v,(∀run lv ρ h,ar C run lv op (al L ρ) h=some (v,h))/\K v:=by
 unfold wh at hs
 split at hs
 ·obtain⟨v,e,k⟩:=bB hs;exact⟨rfl,v,λrun lv ρ h=>by simp only[ar,aC,an e],k⟩
 ·obtain⟨v,e,k⟩:=bB hs;exact⟨rfl,v,λrun lv ρ h=>by simp only[ar,aC,an e],k⟩
 ·obtain⟨v,e,k⟩:=bB hs
  split at k
  ·obtain⟨u,e2,k⟩:=bB k;exact⟨rfl,u,λrun lv ρ h=>by simp only[ar,aC,an e,an e2,if_true],k⟩
  ·obtain⟨u,e2,k⟩:=bB k;exact⟨rfl,u,λrun lv ρ h=>by simp only[ar,aC,an e,an e2,aad,if_false],k⟩
  ·exact k.elim
 ·obtain⟨v,e,k⟩:=bB hs;obtain⟨u,e2,k⟩:=bB k
  split at k
  ·split at k
   ·obtain⟨h0,k⟩:=PZ.out k;exact⟨rfl,_,λrun lv ρ h=>by simp only[ar,aC,an e,an e2,fj,pP];rw[if_neg (by omega)];rfl,k⟩
   ·obtain⟨h0,k⟩:=P0.out k;exact⟨rfl,_,λrun lv ρ h=>by simp only[ar,aC,an e,an e2,fj,pP];rw[if_neg (by omega)];rfl,k⟩
   ·split at k
    ·rename_i hk
     obtain rfl:=of_decide_eq_true hk;obtain⟨w,e3,k⟩:=Nk (C:=C) k;exact⟨rfl,w,λrun lv ρ h=>by simp only[ar,aC,an e,an e2,e3,aab],k⟩
    ·exact k.elim
  ·obtain⟨w,e3,k⟩:=Nl (C:=C) k;exact⟨rfl,w,λrun lv ρ h=>by simp only[ar,aC,an e,an e2,e3,aab],k⟩
  ·split at k
   ·rename_i hk
    have hu:=A9 (T.cU _ _ hk)
    split at k
    ·exact⟨rfl,_,λrun lv ρ h=>by simp only[ar,aC,an e,an e2,fj,hu,aab],k⟩
    ·exact⟨rfl,_,λrun lv ρ h=>by simp only[ar,aC,an e,an e2,fj,hu,aab],k⟩
    ·exact k.elim
   ·exact k.elim
  ·exact k.elim
 ·obtain⟨v,e,k⟩:=bB hs
  split at k
  ·exact⟨rfl,_,λrun lv ρ h=>by simp only[ar,aC,an e,P9,aab],k.out⟩
  ·exact k.elim
 ·obtain⟨v,e,k⟩:=bB hs
  split at k
  ·exact⟨rfl,_,λrun lv ρ h=>by simp only[ar,aC,an e,P9,aab,abU],k⟩
  ·exact⟨rfl,_,λrun lv ρ h=>by simp only[ar,aC,an e,P9,aab,ab6],k⟩
  ·exact k.elim
 ·obtain⟨v,e,k⟩:=bB hs
  split at k
  ·rename_i h1 h2
   obtain⟨u,h3,_⟩:=mg (T.cU _ _ h1);exact⟨rfl,_,λrun lv ρ h=>by simp only[ar,aC,an e,vI,h3,oF (T.cU _ _ h2),aab],k.out⟩
  ·rename_i h1 h2
   obtain⟨u,h3,_⟩:=mg (T.cU _ _ h1);exact⟨rfl,_,λrun lv ρ h=>by simp only[ar,aC,an e,vI,h3,pF (T.cU _ _ h2),aab],k⟩
  ·rename_i h1 h2
   split at k
   ·rename_i h3 h4
    exact⟨rfl,_,λrun lv ρ h=>by simp only[ar,aC,an e,vI,bp (T.cU _ _ h1),pF (T.cU _ _ h2),oF (T.cU _ _ h3),h4,aab],k⟩
   ·exact k.elim
  ·exact k.elim
 ·obtain⟨v,e,k⟩:=bB hs
  split at k
  ·split at k
   ·rename_i h1
    rw[qj]at h1;exact⟨rfl,_,λrun lv ρ h=>by simp only[ar,aC,an e,h1],k⟩
   ·exact k.elim
  ·exact k.elim
 ·split at hs
  ·rename_i hf
   obtain⟨vs,e,k⟩:=iO hs;refine⟨rfl,_,λrun lv ρ h=>?_,k⟩;have hf:=Array.isEmpty_iff.2 (Array.toList_eq_nil_iff.1 hf);simp only[ar,aC,hf,if_true,gC e]
  ·rename_i first _ _ x r hf
   obtain⟨vs,e,k⟩:=iO hs;obtain⟨us,e2,k⟩:=iO k;have k:=j9 k;refine⟨rfl,_,λrun lv ρ h=>?_,k⟩;have h1:=gC (ρ:=ρ) e;have h2:=gC (ρ:=ρ) e2;rw[<-hf]at h1
   have bJ:¬first.isEmpty=true:=λhh=>by
    have:=Array.isEmpty_iff.1 hh;rw[this]at hf;cases hf
   have hl:first.size=vs.length:=by rw[<-h1];simp
   simp only[ar,aC,if_neg bJ,aaS,h1,h2,hl]
 ·obtain⟨v,e,k⟩:=bB hs
  split at k
  ·exact⟨rfl,_,λrun lv ρ h=>by simp only[ar,aC,an e],k⟩
  ·exact⟨rfl,_,λrun lv ρ h=>by simp only[ar,aC,an e],k⟩
  ·exact⟨rfl,_,λrun lv ρ h=>by simp only[ar,aC,an e],k⟩
  ·exact k.elim
 ·obtain⟨v,e,k⟩:=bB hs
  split at k
  ·rename_i cs os h1
   split at k
   ·rename_i off ft h2
    obtain⟨u,e2,k⟩:=Jz T k;obtain⟨fs,h3,h4⟩:=MF (T.cU _ _ h1);rw[qj,<-h4]at h2;refine⟨rfl,u,λrun lv ρ h=>?_,k⟩;obtain⟨fl,h5,rfl,rfl⟩:=Uc h2;simp only[ar,aC,an e,Aq,h3,h5,e2,aab]
   ·exact k.elim
  ·exact k.elim
 ·obtain⟨v,e,k⟩:=bB hs
  split at k
  ·rename_i os h1
   split at k
   ·rename_i off ft h2
    split at k
    ·rename_i sz h3
     rw[qj]at h2;have hf:=ma T h1 h2 h3
     split at k
     ·obtain⟨h4,k2⟩:=iN k;clear k
      split at k2
      ·rename_i h5
       exact⟨rfl,_,λrun lv ρ h=>by simp only[ar,aC,an e,fU,hf,if_pos (P3 h5),h5,aab],k2⟩
      ·exact k2.elim
     ·exact⟨rfl,_,λrun lv ρ h=>by simp only[ar,aC,an e,fU,hf,aab],k⟩
     ·exact k.elim
    ·exact k.elim
   ·exact k.elim
  ·exact k.elim
 ·obtain⟨v,e,k0⟩:=bB hs;obtain⟨u,e2,k⟩:=bB k0;clear k0
  split at k
  ·rename_i h1
   obtain⟨n,b,rfl,h2,k⟩:=Yg.out k;exact⟨rfl,_,λrun lv ρ h=>by simp[ar,aC,an e,an e2,vK,pF (T.cU _ _ h1),h2],k⟩
  ·exact k.elim
 ·split at hs
  ·rename_i h1 h2
   split at hs
   ·rename_i h3 h4
    obtain⟨vs,jo,e1,e2,k⟩:=Ao T hs;refine⟨rfl,_,λrun lv ρ h=>?_,k⟩;have:=tK T h1 h2 h3 h4 e2;have e:=iL (ρ:=ρ) e1;simp only[ar,aC,e,this,aab]
   ·exact hs.elim
  ·obtain⟨v,h1,k⟩:=Bt.out hs;exact⟨rfl,v,h1,k⟩
  ·exact hs.elim
 ·exact hs.elim
def P4:Option Kd->PV->Bool
 |some (.int k),.int k' _=>decide (k'=k)
 |some .str,.str _ |some .bool,.bool _=>true
 |_,_=>false
theorem yb{t:TypeId}{u:PV}(e:P4 (T.kd t) u=true):yw C.P t u=true:=by
 unfold P4 at e
 split at e
 ·rename_i k k' n hk
  simp only[yw,oF (T.cU _ _ hk)];exact e
 ·rename_i s hk
  simp only[yw,pF (T.cU _ _ hk)]
 ·rename_i s hk
  simp only[yw,A9 (T.cU _ _ hk)]
 ·cases e
theorem Bu{h:ab}{id:Nat}{mu:Mu}{es:List PV}(e:h[id]?=some ⟨mu,0,0,es⟩)(hm:mu≠.x):BC h id=some ⟨mu,0,0,es⟩:=by
 simp[BC,getM,e,hm]
inductive Yh(h:ab)(v u:PV)(K:Option PV->Prop):Prop
 |nil (kk:Rn (K none)) (hv:v=.gm:=by rfl)
 |Lr {id i:Nat} {mu:Mu} {es:List PV} {p:PV} (hf:mr u es 0=some (some (i,p))) (kk:Rn (K (some p))) (ho:h[id]?=some ⟨mu,0,0,es⟩:=by first |assumption |rfl) (hm:mu≠.x:=by simp) (hv:v=.cB id:=by rfl)
 |Lt {id:Nat} {mu:Mu} {es:List PV} (hf:mr u es 0=some none) (kk:Rn (K none)) (ho:h[id]?=some ⟨mu,0,0,es⟩:=by first |assumption |rfl) (hm:mu≠.x:=by simp) (hv:v=.cB id:=by rfl)
theorem Yh.out{v u:PV}{K:Option PV->Prop}(x:Yh h v u K){t kt et:TypeId}{z:PV}(ht:C.P.underlying t=some (.map kt et))(hz:iQ C.P et=some z)(hk:yw C.P kt u=true)(ok:Bool):
  ∃r:Option PV,nm C.P h t v u ok=some (match r with |some p=>gp ok p true |none=>gp ok z false)/\K r:=by
 cases x with
 |nil kk hv=>subst hv;exact⟨none,by simp only[nm,ht,hz,hk,if_true],kk.out⟩
 |Lr hf kk ho hm hv=>subst hv;exact⟨some _,by simp only[nm,ht,hz,hk,if_true,Bu ho hm,hf],kk.out⟩
 |Lt hf kk ho hm hv=>subst hv;exact⟨none,by simp only[nm,ht,hz,hk,if_true,Bu ho hm,hf],kk.out⟩
inductive JM(i:Int)(K:Nat->Prop):Prop
 |mk {n:Nat} (kk:Rn (K n)) (hi:i=(n:Int):=by first |rfl |exact(Int.natCast_succ _).symm |exact(aco (by omega)).symm)
theorem JM.out{i:Int}{K:Nat->Prop}(x:JM i K):∃n:Nat,i=n/\K n:=by cases x with |mk kk h=>exact⟨_,h,kk.out⟩
inductive JA(es:List PV)(i:Nat)(K:PV->Prop):Prop
 |mk {e:PV} (kk:Rn (K e)) (h:es[i]?=some e:=by first |assumption |rfl)
theorem JA.out{es:List PV}{i:Nat}{K:PV->Prop}(x:JA es i K):∃e,es[i]?=some e/\K e:=by cases x with |mk kk h=>exact⟨_,h,kk.out⟩
inductive P5(h:ab)(v:PV)(K:Int->Prop):Prop
 |mk {full:Bool} {es:List PV} (kk:Rn (K (es.length:Int))) (hv:v=.aa full es:=by rfl)
 |m2 {sz:Nat} {es:List PV} (kk:Rn (K (es.length:Int))) (ho:Out sz h v es:=by assumption)
 |m3 {id ep off len:Nat} {o:au} (kk:Rn (K (len:Int))) (hv:v=.ak id ep off len:=by rfl) (ho:getM h id ep=some o:=by first |exact bg (by assumption) rfl (by first |assumption |simp)|rfl |exact kX |exact pN (bg (by assumption) rfl (by first |assumption |simp))) (hl:off+len<=o.es.length:=by first |omega |(simp;done)|(simp;omega))
theorem P5.out{v:PV}{K:Int->Prop}{t el:TypeId}(x:P5 h v K)(hk:C.P.underlying t=some (.slice el)):∃n:Int,ov C.P h t v=some (.int .i64 n)/\K n:=by
 cases x with
 |mk kk hv=>subst hv;exact⟨_,by simp only[ov,hk],kk.out⟩
 |m2 kk ho=>
  rcases ho with⟨rfl,rfl⟩|⟨id,ep,rfl,e2⟩
  ·exact⟨_,by simp only[ov,hk],kk.out⟩
  ·exact⟨_,by simp only[ov,hk,bg e2 rfl (by simp:Mu.m≠Mu.x)];rw[if_pos (by simp)],kk.out⟩
 |m3 kk hv ho hl=>subst hv;exact⟨_,by simp only[ov,hk,ho];rw[if_pos hl],kk.out⟩
def xh(t:TypeId)(cs:List PV)(K:PV->Prop):Prop:=
 match T.ta t,T.ts t with
 |some false,some _=>match cs with |c::_=>K c |[]=>False
 |some true,some (sz+1)=>ya (sz+1) cs λl=>K (.agg l)
 |_,_=>False
theorem yc{t:TypeId}{p:PV}{cs:List PV}{K:PV->Prop}(hp:cK h p=some cs)(x:xh T t cs K):∃v,iB C.P h t p=some v/\K v:=by
 unfold xh at x
 split at x
 ·rename_i h1 h2
  split at x
  ·exact⟨_,by simp only[iB,T.MD _ _ h1,T.dT _ _ h2,hp],x⟩
  ·exact x.elim
 ·rename_i sz h1 h2
  obtain⟨h5,h6⟩:=m' x;exact⟨_,by simp only[iB,T.MD _ _ h1,T.dT _ _ h2,hp];rw[if_pos ⟨by omega,h5⟩],h6⟩
 ·exact x.elim
def UX(L:Al)(x:Option Operand)(dflt:Nat)(K:Nat->Prop):Prop:=
 match x with
 |none=>K dflt
 |some x=>lK L x λv=>match v with
  | .int _ i=>JM i K
  |_=>False
theorem vE{x:Option Operand}{dflt:Nat}{K:Nat->Prop}(hh:UX L x dflt K):∃n:Nat,K n/\∀(ρ:Nat->PV) top,(n<=top->cF (x.map (ev (al L ρ))) dflt top=some n):=by
 unfold UX at hh
 split at hh
 ·exact⟨_,hh,λ_ _ _=>rfl⟩
 ·obtain⟨v,e,k⟩:=bB hh
  split at k
  ·obtain⟨n,hi,k2⟩:=JM.out k;clear k;subst hi;refine⟨n,k2,λρ top ht=>?_⟩;simp only[aab,an e,cF];rw[if_pos ⟨by omega,by omega⟩];simp
  ·exact k.elim
theorem Xl{id ep i off:Nat}{o:au}{e:PV}(h1:getM h id ep=some o)(h2:o.es[i]?=some e):cK h (.ptr id ep i off)=some ((cells e).drop off):=by simp only[cK,h1,h2]
def tZ(op:Op)(L:Al)(h:ab)(K:PV->Prop):Prop:=
 match op with
 | .load t x=>lK L x λp=>match p with
  | .eH cs=>xh T t cs K
  | .ptr id ep i off=>DM h id ep λo=>JA o.es i λe=>nW off (cells e) λcs=>xh T t cs K
  |_=>False
 | .indexAddr t x ix=>lK L x λv=>lK L ix λu=>match T.kd t,v,u with
  |some (.sl el),.aa _ es,.int _ i=>match T.ts el with
   |some (sz+1)=>PW es i (sz+1) λcs=>K (.eH cs)
   |_=>False
  |some (.sl el),.ak id ep off len,.int _ i=>match T.ts el with
   |some sz=>DM h id ep λo=>JM i λn=>Sd (n<len/\off+len<=o.es.length/\sz=o.bC) (K (.ptr id ep (off+n) 0))
   |_=>False
  |some (.arr m el),.eH cs,.int _ i=>match T.ts el with
   |some sz=>JM i λn=>Sd (n<m/\n * sz<cs.length) (nW (n * sz) cs λr=>K (.eH r))
   |_=>False
  |some (.arr m el),.ptr id ep j off,.int _ i=>match T.ts el with
   |some sz=>JM i λn=>Sd (n<m) (K (.ptr id ep j (off+n * sz)))
   |_=>False
  |_,_,_=>False
 | .call ⟨.builtin b,args,zM⟩=>match b,args.toList,zM.toList with
  | .len,x::_,t::_=>lK L x λv=>match T.kd t with
   |some .str=>match v with
    | .str s=>K (.int .i64 s.size)
    |_=>False
   |some (.sl _)=>P5 h v λn=>K (.int .i64 n)
   |_=>False
  | .max,[x,y],_=>lK L x λv=>lK L y λu=>match v,u with
   | .int k a,.int _ b=>K (.int k (max a b))
   |_,_=>False
  | .min,[x,y],_=>lK L x λv=>lK L y λu=>match v,u with
   | .int k a,.int _ b=>K (.int k (min a b))
   |_,_=>False
  |_,_,_=>False
 | .slice t x lo hi none=>lK L x λv=>match T.kd t,v with
  |some .str,.str s=>UX L hi s.size λb=>UX L lo 0 λa=>Sd (a<=b/\b<=s.size) (K (.str (s.extract a b)))
  |some (.sl el),.aa full es=>match T.ts el with
   |some sz=>UX L hi es.length λb=>UX L lo 0 λa=>Sd ((a<=b/\b<=es.length)/\(es[a]?).all (λv=>(cells v).length==sz)=true) (K (.aa (full&&b==es.length) ((es.drop a).take (b - a))))
   |_=>False
  |some (.sl _),.ak _ _ _ _=>oR C op L h K
  |_,_=>False
 | .lookup t m k ok=>lK L m λv=>lK L k λu=>match T.kd t with
  |some (.mp kt et)=>match T.tz et,P4 (T.kd kt) u with
   |some z,true=>Yh h v u λr=>match r with
    |some p=>K (gp ok p true)
    |none=>K (gp ok z false)
   |_,_=>False
  |_=>False
 |_=>False
theorem kL{op:Op}{K:PV->Prop}(hs:tZ T op L h K):cV op=true/\∃v,(∀run lv ρ,ar C run lv op (al L ρ) h=some (v,h))/\K v:=by
 unfold tZ at hs
 split at hs
 ·obtain⟨p,e,k⟩:=bB hs
  split at k
  ·obtain⟨v,e2,k⟩:=yc T (h:=h) (p:=.eH _) rfl k;exact⟨rfl,v,λrun lv ρ=>by simp only[ar,aC,an e,e2,aab],k⟩
  ·obtain⟨o,e3,k⟩:=DM.out k;obtain⟨el,e4,k⟩:=JA.out k;obtain⟨_,k⟩:=iN k;obtain⟨v,e2,k⟩:=yc T (h:=h) (Xl e3 e4) k;exact⟨rfl,v,λrun lv ρ=>by simp only[ar,aC,an e,e2,aab],k⟩
  ·exact k.elim
 ·obtain⟨v,e,k0⟩:=bB hs;obtain⟨u,e2,k⟩:=bB k0;clear k0
  split at k
  ·rename_i hk
   split at k
   ·rename_i sz dT
    obtain⟨n,w,rfl,h2,h3,k⟩:=PW.out k;refine⟨rfl,_,λrun lv ρ=>?_,k⟩;have cI:=ag h2;simp only[ar,aC,an e,an e2,cy,bp (T.cU _ _ hk),T.dT _ _ dT];rw[if_pos ⟨by omega,by omega⟩];simp only[abi,h2];rw[if_pos ⟨by omega,h3⟩];rfl
   ·exact k.elim
  ·rename_i hk
   split at k
   ·rename_i sz dT
    obtain⟨o,e3,k⟩:=DM.out k;obtain⟨n,hi,k2⟩:=JM.out k;clear k;subst hi;obtain⟨⟨h1,h2,h3⟩,k⟩:=Sd.out k2;refine⟨rfl,_,λrun lv ρ=>?_,k⟩;simp only[ar,aC,an e,an e2,cy,bp (T.cU _ _ hk),T.dT _ _ dT,e3];rw[if_pos ⟨by omega,by omega,h3,h2⟩];rfl
   ·exact k.elim
  ·rename_i hk
   split at k
   ·rename_i sz dT
    obtain⟨n,hi,k2⟩:=JM.out k;clear k;subst hi;obtain⟨⟨h1,h2⟩,k⟩:=Sd.out k2;obtain⟨_,k⟩:=iN k;refine⟨rfl,_,λrun lv ρ=>?_,k⟩;simp only[ar,aC,an e,an e2,cy,ME (T.cU _ _ hk),T.dT _ _ dT];rw[if_pos ⟨by omega,by omega,by simpa using h2⟩];rfl
   ·exact k.elim
  ·rename_i hk
   split at k
   ·rename_i sz dT
    obtain⟨n,hi,k2⟩:=JM.out k;clear k;subst hi;obtain⟨h1,k⟩:=Sd.out k2;refine⟨rfl,_,λrun lv ρ=>?_,k⟩;simp only[ar,aC,an e,an e2,cy,ME (T.cU _ _ hk),T.dT _ _ dT];rw[if_pos ⟨by omega,by omega⟩];rfl
   ·exact k.elim
  ·exact k.elim
 ·split at hs
  ·rename_i ha ht
   obtain⟨v,e,k⟩:=bB hs
   split at k
   ·rename_i hk
    split at k
    ·refine⟨rfl,_,λrun lv ρ=>?_,k⟩;simp only[ar,ha,ht,aah,an e,bo,ov,pF (T.cU _ _ hk),aab]
    ·exact k.elim
   ·rename_i hk
    obtain⟨n,h1,k⟩:=P5.out k (bp (T.cU _ _ hk));refine⟨rfl,_,λrun lv ρ=>?_,k⟩;simp only[ar,ha,ht,aah,an e,bo,h1,aab]
   ·exact k.elim
  ·rename_i ha
   obtain⟨v,e,k0⟩:=bB hs;obtain⟨u,e2,k⟩:=bB k0;clear k0
   split at k
   ·rename_i a _ b
    refine⟨rfl,_,λrun lv ρ=>?_,k⟩;have:(if b>a then b else a)=Max.max a b:=by split <;>omega
    simp only[ar,ha,aah,aas,an e,an e2,bo,JP,this,aab]
   ·exact k.elim
  ·rename_i ha
   obtain⟨v,e,k0⟩:=bB hs;obtain⟨u,e2,k⟩:=bB k0;clear k0
   split at k
   ·rename_i a _ b
    refine⟨rfl,_,λrun lv ρ=>?_,k⟩;have:(if b<a then b else a)=Min.min a b:=by split <;>omega
    simp only[ar,ha,aah,aas,an e,an e2,bo,NR,this,aab]
   ·exact k.elim
  ·exact hs.elim
 ·obtain⟨v,e,k⟩:=bB hs
  split at k
  ·rename_i hk
   obtain⟨b,k,hb⟩:=vE k;obtain⟨a,k,ha⟩:=vE k;obtain⟨⟨h1,h2⟩,k⟩:=Sd.out k;refine⟨rfl,_,λrun lv ρ=>?_,k⟩;simp only[ar,aC,an e,cg,pF (T.cU _ _ hk),ab0,hb ρ _ h2,ha ρ _ h1]
   rfl
  ·rename_i hk
   split at k
   ·rename_i sz dT
    obtain⟨b,k,hb⟩:=vE k;obtain⟨a,k,ha⟩:=vE k;obtain⟨⟨⟨h1,h2⟩,h3⟩,k⟩:=Sd.out k;refine⟨rfl,_,λrun lv ρ=>?_,k⟩;simp only[ar,aC,an e,cg,bp (T.cU _ _ hk),T.dT _ _ dT,ab0];rw[show∀n:Nat,cF none n n=some n from λ_=>rfl];simp only[hb ρ _ h2,ha ρ _ h1];rw[if_pos ⟨rfl,h3⟩]
    rfl
   ·exact k.elim
  ·obtain⟨w,h1,k⟩:=oR.out k;exact⟨rfl,w,h1,k⟩
  ·exact k.elim
 ·rename_i ok
  obtain⟨v,e,k0⟩:=bB hs;obtain⟨u,e2,k⟩:=bB k0;clear k0
  split at k
  ·rename_i hk
   split at k
   ·rename_i hz Xm
    obtain⟨r,h1,k2⟩:=Yh.out (C:=C) k (Hb (T.cU _ _ hk)) (T.na _ _ hz) (yb T Xm) ok
    cases r with
    |none=>exact⟨rfl,_,λrun lv ρ=>by simp only[ar,aC,an e,an e2,h1,aab],k2⟩
    |some p=>exact⟨rfl,_,λrun lv ρ=>by simp only[ar,aC,an e,an e2,h1,aab],k2⟩
   ·exact k.elim
  ·exact k.elim
 ·exact hs.elim
inductive yd{α:Type}:List α->Nat->α->List α->Prop
 |zero {x y:α} {l:List α}:yd (x::l) 0 y (y::l)
 |succ {x y:α} {l l':List α} {n:Nat}:yd l n y l'->yd (x::l) (n+1) y (x::l')
 |last {x y:α} {l:List α}:yd (l++[x]) l.length y (l++[y])
 |gen {l:List α} {n:Nat} {y:α}:yd l n y (l.set n y)
theorem yd.eq{α:Type}{l l':List α}{n:Nat}{y:α}(a:yd l n y l'):l'=l.set n y:=by
 induction a with
 |zero=>rfl
 |succ _ ih=>rw[ih];rfl
 |last=>simp
 |gen=>rfl
inductive P6(h:ab)(id ep bC:Nat)(es:List PV)(i:Nat)(e':PV)(K:ab->Prop):Prop
 |mk {eT:List PV} {h':ab} (kk:Rn (K h')) (h1:yd es i e' eT:=by repeat(first |exact .zero |apply yd.succ |exact .last |exact .gen)) (h2:yd h id ⟨.m,ep,bC,eT⟩ h':=by repeat(first |exact .zero |apply yd.succ |exact .last |exact .gen))
theorem P6.out{id i ep bC:Nat}{es:List PV}{e':PV}{K:ab->Prop}(x:P6 h id ep bC es i e' K):K (h.set id ⟨.m,ep,bC,es.set i e'⟩):=by
 cases x with |mk kk h1 h2=>obtain rfl:=h1.eq;obtain rfl:=h2.eq;exact kk.out
def Yi(off sz:Nat)(e v:PV)(K:PV->Prop):Prop:=
 match off,Nat.beq sz (cells e).length with
 |0,true=>K v
 |_,_=>Jy off (cells e) (cells v) λcs=>K (.agg cs)
theorem P7{off sz:Nat}{e v:PV}{K:PV->Prop}(hl:(cells v).length=sz)(x:Yi off sz e v K):off+sz<=(cells e).length/\(K (eI off sz e v)\/(∃cs,K (.agg cs)/\cs=(cells e).take off++cells v++(cells e).drop (off+sz)/\¬(off=0/\sz=(cells e).length))):=by
 unfold Yi at x
 split at x
 ·rename_i h2
  have:=aaN h2;refine⟨by omega,.inl ?_⟩;rw[eI,if_pos ⟨rfl,this⟩];exact x
 ·rename_i hn
  obtain⟨h1,h2⟩:=sD x;rw[hl]at h1 h2;refine⟨h1,.inr ⟨_,h2,rfl,λhh=>?_⟩⟩;obtain⟨rfl,h3⟩:=hh;exact hn rfl (by rw[<-h3];exact Nat.beq_refl _)
theorem Np{off sz:Nat}{e v:PV}{K:PV->Prop}(hl:(cells v).length=sz)(x:Yi off sz e v K):off+sz<=(cells e).length/\K (eI off sz e v):=by
 obtain⟨h1,h2 |⟨cs,h3,rfl,h4⟩⟩:=P7 hl x
 ·exact⟨h1,h2⟩
 ·exact⟨h1,by rw[eI,if_neg h4];exact h3⟩
def Bv(n sz:Nat):List (Nat×Operand)->List PV->Al->(List PV->Prop)->Prop
 |[],es,_,K=>K es
 |(i,x)::r,es,L,K=>lK L x λv=>match Nat.beq (cells v).length sz,(cells v).all bI,Nat.ble (i+1) n with
  |true,true,true=>Nq es i v λeT=>Bv n sz r eT L K
  |_,_,_=>False
where Nq:List PV->Nat->PV->(List PV->Prop)->Prop
 |[],_,_,_=>False
 |_::l,0,v,k=>k (v::l)
 |e::l,i+1,v,k=>Nq l i v λr=>k (e::r)
theorem Ap:∀{es:List PV} {i:Nat} {v:PV} {k:List PV->Prop},Bv.Nq es i v k->k (es.set i v)
 |[],_,_,_,h=>h.elim
 |_::l,0,v,k,h=>h
 |e::l,i+1,v,k,h=>Ap (es:=l) h
theorem ye{n sz:Nat}:∀{ps:List (Nat×Operand)} {es:List PV} {K:List PV->Prop},Bv n sz ps es L K->∃vs,ko L ps=some vs/\vs.all (xW sz n)=true/\K (vs.foldl (λes x=>es.set x.1 x.2) es)
 |[],es,K,h=>⟨[],rfl,rfl,h⟩
 |(i,x)::r,es,K,h=>by
  obtain⟨v,h1,h2⟩:=bB h
  split at h2
  ·rename_i h3 h4 h5
   obtain⟨vs,e1,e2,e3⟩:=ye (Ap h2);refine⟨(i,v)::vs,by simp[ko,h1,e1],?_,e3⟩;rw[aaX,e2,abv];simp only[xW,h4,abv,Z9,decide_eq_true_eq];exact⟨aaN h3,aa3 h5⟩
  ·exact h2.elim
def Ud:Nat->PV->(List PV->Prop)->Prop
 |0,_,k=>k []
 |n+1,z,k=>Ud n z λl=>k (z::l)
theorem DN:∀{n:Nat} {z:PV} {k:List PV->Prop},Ud n z k->k (List.replicate n z)
 |0,_,_,h=>h
 |n+1,z,k,h=>DN (n:=n) h
inductive BsX(h:ab)(sz:Nat)(es:List PV)(K:PV->ab->Prop):Prop
 |mk (kk:Rn (K (.aa true es) h)) (hv:ao es=true:=by first |rfl |(simp <;>fail))
 |m2 {n:Nat} {h':ab} (kk:Rn (K (.ak n 0 0 es.length) h')) (hv:ao es=false:=by first |rfl |(simp <;>fail)) (ha:NQ ⟨.m,0,sz,es⟩ h h' n:=by repeat(first |exact .nil |apply NQ.cons |exact .gen))
def yD(t:TypeId)(n:Nat)(ps:List (Nat×Operand))(L:Al)(K:Nat->List PV->Prop):Prop:=
 match T.kd t with
 |some (.sl el)=>match T.ts el,T.tz el with
  |some (sz+1),some z=>match Nat.ble (n * (sz+1)) 16777216,Nat.beq (cells z).length (sz+1),(cells z).all bI with
   |true,true,true=>Ud n z λes=>Bv n (sz+1) ps es L λeT=>K (sz+1) eT
   |_,_,_=>False
  |_,_=>False
 |_=>False
theorem mG{t:TypeId}{n:Nat}{ps:List (Nat×Operand)}{K:Nat->List PV->Prop}(x:yD T t n ps L K):∃sz es,K sz es/\∀(ρ:Nat->PV) (h:ab) (lv:Nat),
  dy C.P lv h t n (ps.map λ(i,x)=>(i,ev (al L ρ) x))=if ao es=true then some (.aa true es,h)else if 2<=lv then some (.ak h.length 0 0 n,newObj h sz es)else none:=by
 unfold yD at x
 split at x
 ·rename_i el hk
  split at x
  ·rename_i sz z dT na
   split at x
   ·rename_i h1 h2 h3
    obtain⟨vs,e1,e2,e3⟩:=ye (DN x);refine⟨_,_,e3,λρ h lv=>?_⟩;rw[iL e1];simp only[dy,bp (T.cU _ _ hk),T.dT _ _ dT,T.na _ _ na];rw[if_pos ⟨by omega,aa3 h1,aaN h2,h3,e2⟩]
    rfl
   ·exact x.elim
  ·exact x.elim
 ·exact x.elim
inductive Xn(h:ab)(id:Nat)(u y:PV)(K:ab->Prop):Prop
 |mk {es eT:List PV} (hp:JO u y es=some eT) (kk:Rn (K (h.set id ⟨.m,0,0,eT⟩))) (ho:h[id]?=some ⟨.m,0,0,es⟩:=by first |assumption |rfl)
theorem Xn.out{id:Nat}{u y:PV}{K:ab->Prop}(x:Xn h id u y K){t kt et:TypeId}(ht:C.P.underlying t=some (.map kt et))(hk:yw C.P kt u=true):∃h',np C.P h t (.cB id) u y=some h'/\K h':=by
 cases x with
 |mk hp kk ho=>exact⟨_,by simp only[np,ht,Bu ho (by simp:Mu.m≠Mu.x),hk,hp,and_self,if_true],kk.out⟩
def uC(op:Op)(L:Al)(h:ab)(K:PV->ab->Prop):Prop:=
 match op with
 | .store t a x=>lK L a λp=>lK L x λv=>match p,T.ts t with
  | .ptr id ep i off,some sz=>match Nat.beq (cells v).length sz,(cells v).all bI with
   |true,true=>DM h id ep λo=>match o with
    |⟨.m,ep,bC,es⟩=>JA es i λe=>Yi off sz e v λe'=>P6 h id ep bC es i e' λh'=>K .undef h'
    |_=>False
   |_,_=>False
  |_,_=>False
 | .alloc t=>match T.tz t,T.ts t with
  |some z,some sz=>match(cells z).all bI,Nat.beq (cells z).length sz,Nat.ble 1 sz with
   |true,true,true=>uX h ⟨.m,0,sz,[z]⟩ λn h'=>K (.ptr n 0 0 0) h'
   |_,_,_=>False
  |_,_=>Cc C (.alloc t) L h K
 | .box t x=>lK L x λz=>match T.ts t with
  |some sz=>match(cells z).all bI,Nat.beq (cells z).length sz,Nat.ble 1 sz with
   |true,true,true=>uX h ⟨.m,0,sz,[z]⟩ λn h'=>K (.ptr n 0 0 0) h'
   |_,_,_=>False
  |_=>False
 | .makeSlice t l c=>lK L l λu=>lK L c λv=>match T.kd t,u,v with
  |some (.sl el),.int _ a,.int _ b=>match T.ts el,T.tb el,T.tz el with
   |some (sz+1),some fZ,some z=>match Nat.ble fZ 1000,Nat.beq (cells z).length (sz+1),(cells z).all bI with
    |true,true,true=>JM a λn=>Sd (a<=b/\b<=1073741824) (uX h ⟨.m,0,sz+1,List.replicate n z⟩ λm h'=>K (.ak m 0 0 n) h')
    |_,_,_=>False
   |_,_,_=>False
  |_,_,_=>False
 | .call ⟨.builtin .append,args,zM⟩=>match args.toList,zM.toList with
  |[x,y],[st,xt]=>lK L y λu=>match u with
   | .aa full ys=>match T.kd st,T.kd xt with
    |some (.sl el),some (.sl _)=>match T.ts el,T.tb el,T.tz el with
     |some (sz+1),some fZ,some z=>match Nat.ble fZ 1000,Nat.beq (cells z).length (sz+1),(cells z).all bI with
      |true,true,true=>lK L x λv=>PX h (sz+1) v ys K
      |_,_,_=>False
     |_,_,_=>False
    |_,_=>False
   |_=>Cc C op L h K
  |_,_=>Cc C op L h K
 | .buildSlice t n ps=>yD T t n ps.toList L λsz es=>match Nat.beq es.length n with
  |true=>BsX h sz es K
  |false=>False
 | .makeMap t none=>uX h ⟨.m,0,0,[]⟩ λn h'=>K (.cB n) h'
 | .makeMap t (some x)=>lK L x λv=>match v,T.kd t with
  | .int _ _,some (.mp _ _)=>uX h ⟨.m,0,0,[]⟩ λn h'=>K (.cB n) h'
  |_,_=>False
 | .mapUpdate t m k x | .insert t m k x=>lK L m λv=>lK L k λu=>lK L x λy=>match v,T.kd t with
  | .cB id,some (.mp kt _)=>match P4 (T.kd kt) u with
   |true=>Xn h id u y λh'=>K .undef h'
   |false=>False
  |_,_=>False
 |op=>Cc C op L h K
theorem PX.out{st xt el ql:TypeId}{sz fZ:Nat}{z:PV}{full:Bool}{ys:List PV}{x y:Operand}{v:PV}{K:PV->ab->Prop}(a:PX h (sz+1) v ys K)(hx:cM L x=some v)(hy:cM L y=some (.aa full ys))(hk:T.kd st=some (.sl el))(fB:T.kd xt=some (.sl ql))(hs:T.ts el=some (sz+1))(hb:T.tb el=some fZ)(hz:T.tz el=some z)
  (jn:fZ<=1000) (hl:(cells z).length=sz+1) (ho:(cells z).all bI=true):
  ∃v' h',(∀run ρ,ar C run 2 (.call ⟨.builtin .append,#[x,y],#[st,xt]⟩) (al L ρ) h=some (v',h'))/\K v' h':=by
 cases a with
 | @nn fl es kk oh hv=>
  subst hv oh;refine⟨_,_,λrun ρ=>?_,kk.out⟩;simp only[ar,bo,aah,aas,an hx,an hy,bQ,bp (T.cU _ _ hk),bp (T.cU _ _ fB),T.dT _ _ hs,T.rI _ _ hb,T.na _ _ hz,cG,cw];rw[if_pos ⟨by omega,by omega,⟨hl,ho⟩,rfl⟩]
  rfl
 | @sn es kk bJ hn hv zf heo=>
  subst hv;refine⟨_,_,λrun ρ=>?_,kk.out⟩;unfold dB at zf heo;simp only[ar,bo,aah,aas,an hx,an hy,bQ,bp (T.cU _ _ hk),bp (T.cU _ _ fB),T.dT _ _ hs,T.rI _ _ hb,T.na _ _ hz,cG,cw];rw[if_pos ⟨by omega,by omega,⟨hl,ho⟩,zf⟩,if_neg (by rw[bJ];simp),if_pos ⟨trivial,by omega,iX hn jn,heo⟩]
  rfl
 | @lp es kk o zf hn EM hH=>
  by_cases bJ:ys.isEmpty=true
  ·have oh:ys=[]:=by simpa using bJ
   subst oh;refine⟨v,h,λrun ρ=>?_,(kk v h ⟨by simpa using o,hH,Z5 _,λj _ _=>rfl,λj ep n hh=>.inl ⟨ep,n,hh⟩⟩).out⟩;rcases o with⟨rfl,rfl⟩|⟨id,ep,rfl,e2⟩
   ·simp only[ar,bo,aah,aas,an hx,an hy,bQ,bp (T.cU _ _ hk),bp (T.cU _ _ fB),T.dT _ _ hs,T.rI _ _ hb,T.na _ _ hz,cG,cw];rw[if_pos ⟨by omega,by omega,⟨hl,ho⟩,rfl⟩];rfl
   ·simp only[ar,bo,aah,aas,an hx,an hy,bQ,bp (T.cU _ _ hk),bp (T.cU _ _ fB),T.dT _ _ hs,T.rI _ _ hb,T.na _ _ hz,cG,cw,bg e2 rfl (by simp:Mu.m≠Mu.x)];rw[if_pos ⟨by omega,by omega,⟨hl,ho⟩,rfl⟩,if_pos ⟨by simp,trivial⟩];rfl
  have bJ:ys.isEmpty=false:=by simpa using bJ
  rcases o with⟨rfl,rfl⟩|⟨id,ep,rfl,e2⟩
  ·refine⟨.ak h.length 0 0 ys.length,h++[⟨.m,0,sz+1,ys⟩],λrun ρ=>?_,(kk (.ak h.length 0 0 ys.length) (h++[⟨.m,0,sz+1,ys⟩]) ⟨.inr ⟨h.length,0,by simp,by simp⟩,hH.cC (HV.one (by simpa using EM)),by simp,λj hj _=>Z0 hj,λj ep n hh=>?_⟩).out⟩
   ·have:=gb T (h:=h) (lv:=2) (full:=full) (by omega) hk fB hs hb hz jn hl ho zf bJ (by simpa using hn);simp only[ar,bo,aah,aas,an hx,an hy,this]
   ·cases hh;exact .inr (Z5 _)
  ·have cI:=ag e2;refine⟨.ak id (ep+1) 0 (es.length+ys.length),h.set id ⟨.m,ep+1,sz+1,es++ys⟩,λrun ρ=>?_,(kk (.ak id (ep+1) 0 (es.length+ys.length)) (h.set id ⟨.m,ep+1,sz+1,es++ys⟩) ⟨.inr ⟨id,ep+1,by simp,Z6 cI⟩,hH.set id (by simp) EM,by simp,λj hj bJ=>Z7 (λhh=>bJ ep es.length (by rw[hh])),λj h9 n hh=>?_⟩).out⟩
   ·have:=kK T (h:=h) (full:=full) (len:=es.length) hk fB hs hb hz jn hl ho zf bJ hn (bg e2 rfl (by simp)) rfl rfl (Z5 _);simp only[ar,bo,aah,aas,an hx,an hy,this,aaW]
   ·cases hh;exact .inl ⟨ep,es.length,rfl⟩
 | @lr es kk o zf hn EM hH=>
  by_cases bJ:ys.isEmpty=true
  ·have oh:ys=[]:=by simpa using bJ
   subst oh;refine⟨v,h,λrun ρ=>?_,(kk v h ⟨by simpa using o,hH,Z5 _,λj _ _=>rfl,λj ep n hh=>.inl ⟨ep,n,hh⟩⟩).out⟩;rcases o with⟨rfl,rfl⟩|⟨id,ep,rfl,e2⟩
   ·simp only[ar,bo,aah,aas,an hx,an hy,bQ,bp (T.cU _ _ hk),bp (T.cU _ _ fB),T.dT _ _ hs,T.rI _ _ hb,T.na _ _ hz,cG,cw];rw[if_pos ⟨by omega,by omega,⟨hl,ho⟩,rfl⟩];rfl
   ·simp only[ar,bo,aah,aas,an hx,an hy,bQ,bp (T.cU _ _ hk),bp (T.cU _ _ fB),T.dT _ _ hs,T.rI _ _ hb,T.na _ _ hz,cG,cw,bg e2 rfl (by simp:Mu.m≠Mu.x)];rw[if_pos ⟨by omega,by omega,⟨hl,ho⟩,rfl⟩,if_pos ⟨by simp,trivial⟩];rfl
  have bJ:ys.isEmpty=false:=by simpa using bJ
  rcases o with⟨rfl,rfl⟩|⟨id,ep,rfl,e2⟩
  ·refine⟨.ak h.length 0 0 ys.length,h++[⟨.m,0,sz+1,ys⟩],λrun ρ=>?_,(kk (.ak h.length 0 0 ys.length) (h++[⟨.m,0,sz+1,ys⟩]) ⟨.inr ⟨h.length,0,by simp,by simp⟩,hH.K6 (by simp) (eG (f:=λi=>decide (i<h.length)) (λi hi=>by have:=of_decide_eq_true hi;exact decide_eq_true (by omega)) _ (by simpa using EM)),by simp,λj hj _=>Z0 hj,λj ep n hh=>?_⟩).out⟩
   ·have:=gb T (h:=h) (lv:=2) (full:=full) (by omega) hk fB hs hb hz jn hl ho zf bJ (by simpa using hn);simp only[ar,bo,aah,aas,an hx,an hy,this]
   ·cases hh;exact .inr (Z5 _)
  ·have cI:=ag e2;refine⟨.ak id (ep+1) 0 (es.length+ys.length),h.set id ⟨.m,ep+1,sz+1,es++ys⟩,λrun ρ=>?_,(kk (.ak id (ep+1) 0 (es.length+ys.length)) (h.set id ⟨.m,ep+1,sz+1,es++ys⟩) ⟨.inr ⟨id,ep+1,by simp,Z6 cI⟩,hH.set id (by simp) EM,by simp,λj hj bJ=>Z7 (λhh=>bJ ep es.length (by rw[hh])),λj h9 n hh=>?_⟩).out⟩
   ·have:=kK T (h:=h) (full:=full) (len:=es.length) hk fB hs hb hz jn hl ho zf bJ hn (bg e2 rfl (by simp)) rfl rfl (Z5 _);simp only[ar,bo,aah,aas,an hx,an hy,this,aaW]
   ·cases hh;exact .inl ⟨ep,es.length,rfl⟩
theorem qh{op:Op}{K:PV->ab->Prop}(hs:uC T op L h K):∃v h',(∀run ρ,ar C run 2 op (al L ρ) h=some (v,h'))/\K v h':=by
 unfold uC at hs
 split at hs
 ·obtain⟨p,e,k0⟩:=bB hs;obtain⟨v,e2,k⟩:=bB k0;clear k0
  split at k
  ·rename_i dT
   split at k
   ·rename_i hl h1
    obtain⟨o,e3,k⟩:=DM.out k
    split at k
    ·obtain⟨el,e4,k⟩:=JA.out k;have hl:=aaN hl;obtain⟨h5,k⟩:=Np hl k;refine⟨_,_,λrun ρ=>?_,P6.out k⟩;simp only[ar,aC,an e,an e2,gH,T.dT _ _ dT,e3,e4,Z5,if_true];rw[if_pos ⟨trivial,hl,h1,h5⟩];rfl
    ·exact k.elim
   ·exact k.elim
  ·exact k.elim
 ·split at hs
  ·rename_i hz dT
   split at hs
   ·rename_i h1 h2 h3
    have h2:=aaN h2;have h3:=aa3 h3;refine⟨_,_,λrun ρ=>?_,uX.out hs⟩;simp only[ar,aC,T.na _ _ hz];rw[if_pos ⟨by omega,h1,by omega⟩,newObj,h2]
   ·exact hs.elim
  ·exact hs.out
 ·obtain⟨z,e,k⟩:=bB hs
  split at k
  ·rename_i dT
   split at k
   ·rename_i h1 h2 h3
    have h2:=aaN h2;have h3:=aa3 h3;refine⟨_,_,λrun ρ=>?_,uX.out k⟩;simp only[ar,aC,an e];rw[if_pos ⟨by omega,h1,by omega⟩,newObj,h2]
   ·exact k.elim
  ·exact k.elim
 ·obtain⟨u,e,k0⟩:=bB hs;obtain⟨v,e2,k⟩:=bB k0;clear k0
  split at k
  ·rename_i hk
   split at k
   ·rename_i dT rI na
    split at k
    ·rename_i h1 h2 h3
     obtain⟨n,hi,k2⟩:=JM.out k;clear k;subst hi;obtain⟨⟨h4,h5⟩,k⟩:=Sd.out k2;have h1:=aa3 h1;refine⟨_,_,λrun ρ=>?_,uX.out k⟩;simp only[ar,aC,an e,an e2,jy,bp (T.cU _ _ hk),T.dT _ _ dT,T.rI _ _ rI,T.na _ _ na];rw[if_pos ⟨by omega,by omega,h4,h5,by omega,by omega,aaN h2,h3⟩];simp[newObj]
    ·exact k.elim
   ·exact k.elim
  ·exact k.elim
 ·split at hs
  ·rename_i x y st xt ha ht
   obtain⟨u,e,k⟩:=bB hs
   split at k
   ·split at k
    ·rename_i hk fB
     split at k
     ·rename_i dT rI na
      split at k
      ·rename_i h1 h2 h3
       obtain⟨v,e2,k⟩:=bB k;obtain⟨v',h',h5,h6⟩:=PX.out T k e2 e hk fB dT rI na (aa3 h1) (aaN h2) h3;refine⟨v',h',λrun ρ=>?_,h6⟩;rw[<-h5 run ρ];simp only[ar,ha,ht]
      ·exact k.elim
     ·exact k.elim
    ·exact k.elim
   ·exact k.out.imp λv a=>a.imp λh' b=>b
  ·obtain⟨v,h',b⟩:=hs.out;exact⟨v,h',b⟩
 ·obtain⟨sz,es,k,hb⟩:=mG T hs
  split at k
  ·rename_i hn
   have hn:=aaN hn
   cases k with
   |mk kk hv=>exact⟨_,_,λrun ρ=>by simp only[ar,aC,hb];rw[if_pos hv],kk.out⟩
   |m2 kk hv ha=>
    obtain⟨rfl,rfl⟩:=ha.eq;refine⟨_,_,λrun ρ=>?_,kk.out⟩;simp only[ar,aC,hb];rw[if_neg (by rw[hv];simp),if_pos (Z5 2),newObj,hn]
  ·exact k.elim
 ·exact⟨_,_,λrun ρ=>by simp only[ar,aC,ms,ab0];rw[if_pos (by omega)];rfl,uX.out hs⟩
 ·obtain⟨v,e,k⟩:=bB hs
  split at k
  ·rename_i hk
   exact⟨_,_,λrun ρ=>by simp only[ar,aC,ms,aab,an e,Hb (T.cU _ _ hk)];rw[if_pos (by omega)];rfl,uX.out k⟩
  ·exact k.elim
 ·obtain⟨v,e,k0⟩:=bB hs;obtain⟨u,e2,k1⟩:=bB k0;obtain⟨y,e3,k⟩:=bB k1;clear k0 k1
  split at k
  ·rename_i hk
   split at k
   ·rename_i Xm
    obtain⟨h',h1,k2⟩:=Xn.out (C:=C) k (Hb (T.cU _ _ hk)) (yb T Xm);exact⟨_,h',λrun ρ=>by simp only[ar,aC,an e,an e2,an e3,h1,Z5,if_true,aab],k2⟩
   ·exact k.elim
  ·exact k.elim
 ·obtain⟨v,e,k0⟩:=bB hs;obtain⟨u,e2,k1⟩:=bB k0;obtain⟨y,e3,k⟩:=bB k1;clear k0 k1
  split at k
  ·rename_i hk
   split at k
   ·rename_i Xm
    obtain⟨h',h1,k2⟩:=Xn.out (C:=C) k (Hb (T.cU _ _ hk)) (yb T Xm);exact⟨_,h',λrun ρ=>by simp only[ar,aC,an e,an e2,an e3,h1,Z5,if_true,aab],k2⟩
   ·exact k.elim
  ·exact k.elim
 ·obtain⟨v,h',b⟩:=hs.out;exact⟨v,h',b⟩
def push(d:Option Nat)(v:PV)(L:Al):Al:=match d with |some d=>(d,v)::L |none=>L
def fE(d:Option Nat)(v:PV)(L:Al)(K:Al->Prop):Prop:=match d with |some d=>K ((d,v)::L)|none=>K L
theorem fM{d:Option Nat}{v:PV}{K:Al->Prop}(h:fE d v L K):K (push d v L):=by
 unfold fE at h
 split at h <;>exact h
theorem jT(d:Option Nat)(v:PV):b9 (al L ρ) d v=al (push d v L) ρ:=by
 cases d with
 |none=>rfl
 |some d=>exact ck d v L ρ
def UY(ops:List Oper)(g:Option (Nat×Bool))(L:Al):Option Bool:=
 match g with
 |none=>some true
 |some (j,want)=>match yS ops j with
  |some o=>match o.dst with
   |some d=>match lk L d with
    |some (.bool true)=>some want
    |some (.bool false)=>match want with |true=>some false |false=>some true
    |some .undef=>some false
    |_=>none
   |none=>some false
  |none=>some false
theorem vF{ops:Array Oper}{o:Oper}{b:Bool}(hh:UY ops.toList o.guard L=some b):bm ops o (al L ρ)=some b:=by
 unfold UY at hh;unfold bm
 split at hh
 ·rename_i hg;rw[hg];exact hh
 ·rename_i j want hg
  rw[hg];simp only;rw[qj]at hh
  cases ho:ops.toList[j]? with
  |none=>rw[ho]at hh;simpa using hh
  |some o'=>
   rw[ho]at hh;simp only[Option.bind_some]at hh ⊢
   cases hd:o'.dst with
   |none=>rw[hd]at hh;simpa using hh
   |some d=>
    rw[hd]at hh;simp only at hh ⊢
    split at hh
    ·rename_i hl;rw[dz hl ρ];simp at hh;subst hh;cases want <;>rfl
    ·rename_i hl;rw[dz hl ρ];cases want <;>simp at hh <;>subst hh <;>rfl
    ·rename_i hl;rw[dz hl ρ];simpa using hh
    ·cases hh
def yf(op:Op):Option (Operand×List Operand):=match op with | .call ⟨.value f,args,_⟩=>some (f,args.toList)|_=>none
def Ue(op:Op):Bool:=match op with | .load .. | .indexAddr .. | .slice .. | .lookup ..=>true | .call ⟨.builtin .len,_,_⟩| .call ⟨.builtin .max,_,_⟩| .call ⟨.builtin .min,_,_⟩=>true |_=>false
def Nr(op:Op)(L:Al)(h:ab)(K:PV->ab->Prop):Prop:=
 match yf op with
 |some (f,args)=>lK L f λv=>match v with
  | .fn f di=>nZ L args λus=>uY us di λus=>ai C 2 f us h λv h'=>Rn (K v h')
  | .ni f k cs=>nZ L args λus=>ya k cs λa=>nW k cs λb=>uY a us λus=>uY us b λus=>ai C 2 f us h λv h'=>Rn (K v h')
  |_=>False
 |none=>match cV op with
  |false=>wh T op L λv=>K v h
  |true=>match Ue op with
   |true=>tZ T op L h λv=>K v h
   |false=>uC T op L h K
def FZ(ops:List Oper)(l:List Oper):Al->ab->(Al->ab->Prop)->Prop:=
 List.rec (motive:=λ_=>Al->ab->(Al->ab->Prop)->Prop) (λL h Q=>Q L h)
  (λo _ ih L h Q=>match UY ops o.guard L with
   |some true=>Nr T o.op L h λv h'=>fE o.dst v L λL=>ih L h' Q
   |some false=>fE o.dst .undef L λL=>ih L h Q
   |none=>False) l
theorem JB{ops:List Oper}{o:Oper}{r:List Oper}{L:Al}{h:ab}{Q:Al->ab->Prop}:FZ T ops (o::r) L h Q=match UY ops o.guard L with
  |some true=>Nr T o.op L h λv h'=>fE o.dst v L λL=>FZ T ops r L h' Q
  |some false=>fE o.dst .undef L λL=>FZ T ops r L h Q
  |none=>False:=rfl
theorem ai.mono{lv:Nat}{f:FuncId}{args:List PV}{h:ab}{Q Q':PV->ab->Prop}(a:ai C lv f args h Q)(hq:∀r h,Q r h->Q' r h):ai C lv f args h Q':=by
 obtain⟨r,h',q,e⟩:=a;exact⟨r,h',hq _ _ q,e⟩
theorem ah.Xo{ops:Array Oper}{o:Oper}{r:List Oper}{s:St}{Q:St->Prop}{c:Call}{x:Operand}{f:FuncId}{k:Nat}{cs args:List PV}(hw:bm ops o s.ρ=some true)(ho:o.op=.call c)(hx:c.callee=.value x)(hf:ev s.ρ x=.ni f k cs)
  (ha:cs.take k++c.args.toList.map (ev s.ρ)++cs.drop k=args) (hc:ai C 2 f args s.h (λv h'=>ah C ops r ⟨b9 s.ρ o.dst v,h'⟩ Q)):ah C ops (o::r) s Q:=by
 obtain⟨v,h',⟨s',q,n1,yj⟩,n0,hn⟩:=hc;refine⟨s',q,max n0 n1,λn h1=>?_⟩
 have:ar C (fe C n) 2 o.op s.ρ s.h=some (v,h'):=by
  rw[ho];simp only[ar,hx,fS,hf,ha];exact hn n (by omega)
 simp only[dC,fF,hw,this,yj n (by omega)]
theorem pO{ops:Array Oper}{Q:St->Prop}:∀{l:List Oper} {L:Al} {h:ab} {K:Al->ab->Prop},FZ T ops.toList l L h K->(∀L' h',K L' h'->Q ⟨al L' ρ,h'⟩)->ah C ops l ⟨al L ρ,h⟩ Q
 |[],L,h,K,x,hq=>ah.nil (hq _ _ x)
 |o::r,L,h,K,x,hq=>by
  rw[JB]at x
  split at x
  ·rename_i hg
   have hw:=vF (ρ:=ρ) hg
   have plain:∀{v:PV} {h':ab},(∀run ρ,ar C run 2 o.op (al L ρ) h=some (v,h'))->(fE o.dst v L λL=>FZ T ops.toList r L h' K)->ah C ops (o::r) ⟨al L ρ,h⟩ Q:=λ{v h'} hv k=>
    ah.step (s1:=⟨b9 (al L ρ) o.dst v,h'⟩) (λrun=>by simp only[fF,hw,hv run ρ]) (by rw[jT];exact pO (fM k) hq)
   unfold Nr at x
   split at x
   ·rename_i f args hc
    obtain⟨v,e,k⟩:=bB x
    split at k
    ·obtain⟨us,e2,k⟩:=iO k;have k:=j9 k
     have kV:∃c:Call,o.op=.call c/\c.callee=.value f/\c.args.toList=args:=by
      unfold yf at hc
      split at hc
      ·rename_i h1
       obtain⟨rfl,rfl⟩:=aaa (ZZ hc);exact⟨_,h1,rfl,rfl⟩
      ·cases hc
     obtain⟨c,c1,c2,c3⟩:=kV;refine ah.call hw c1 c2 (an e ρ) (by rw[c3,gC e2]) (k.mono λv h' kk=>?_);rw[jT];exact pO (fM kk.out) hq
    ·obtain⟨us,e2,k⟩:=iO k;obtain⟨_,k⟩:=m' k;obtain⟨_,k⟩:=iN k;have k:=j9 (j9 k)
     have kV:∃c:Call,o.op=.call c/\c.callee=.value f/\c.args.toList=args:=by
      unfold yf at hc
      split at hc
      ·rename_i h1
       obtain⟨rfl,rfl⟩:=aaa (ZZ hc);exact⟨_,h1,rfl,rfl⟩
      ·cases hc
     obtain⟨c,c1,c2,c3⟩:=kV;refine ah.Xo hw c1 c2 (an e ρ) (by rw[c3,gC e2]) (k.mono λv h' kk=>?_);rw[jT];exact pO (fM kk.out) hq
    ·exact k.elim
   ·split at x
    ·obtain⟨_,v,h1,k⟩:=pU T x;exact plain (λrun ρ=>h1 run 2 ρ h) k
    ·split at x
     ·obtain⟨_,v,h1,k⟩:=kL T x;exact plain (λrun ρ=>h1 run 2 ρ) k
     ·obtain⟨v,h',h1,k⟩:=qh T x;exact plain h1 k
  ·rename_i hg
   have hw:=vF (ρ:=ρ) hg;exact ah.step (s1:=⟨b9 (al L ρ) o.dst .undef,h⟩) (λrun=>by simp only[fF,hw]) (by rw[jT];exact pO (fM x) hq)
  ·exact x.elim
def Xp(h:ab)(v:PV):Prop:=match v with
 | .ptr id _ _ _=>aL h id=true
 | .ak id _ _ _=>aL h id=true
 |v=>bt (aL h) v=true
def Jb(L:Al)(h:ab):List Operand->Prop
 |[]=>True
 |y::r=>match cM L y with
  |some v=>Xp h v/\Jb L h r
  |none=>False
theorem A7{id:Nat}{o:au}(e:h[id]?=some o)(h1:o.mu≠.x):aL h id=true:=by simp[aL,e,h1]
theorem Hi{o:au}(h1:o.mu≠.x):aL (h++[o]) h.length=true:=by simp[aL,h1]
theorem vG{J:ab}{id:Nat}(e:aL h id=true):aL (h++J) id=true:=by
 unfold aL at e ⊢
 split at e
 ·rename_i o ho
  rw[Z0 (ag ho),ho];exact e
 ·cases e
theorem Hj{ρ:Nat->PV}:∀{l:List Operand},Jb L h l->∀y∈l,bt (aL h) (ev (al L ρ) y)=true
 |[],_,y,hy=>by cases hy
 |x::l,a,y,hy=>by
  unfold Jb at a
  split at a
  ·rename_i v hv
   rcases Z'.1 hy with rfl |hy
   ·rw[an hv];have a1:=a.1;unfold Xp at a1
    split at a1
    ·simpa only[bt]using a1
    ·simpa only[bt]using a1
    ·exact a1
   ·exact Hj a.2 y hy
  ·exact a.elim
inductive DRd(ops:Array Oper)(i:Nat)(op:Op)(L:Al)(h:ab)(a:Prop):Prop
 |mk (k:Rn a) (hc:aT h=true:=by first |exact HV.closed (by assumption)|exact HR.closed (by assumption)|assumption |rfl |((refine HV.closed ?_;repeat' (first |assumption |apply HV.cC |(refine HV.one ?_;simp <;>fail)|exact HV.nil)) <;>fail))
   (hv:Jb L h op.operands.toList:=by(repeat' (first |exact trivial |refine⟨?_,?_⟩|rfl |exact A7 (by assumption) (by first |assumption |simp)|exact Hi (by simp)|exact vG (A7 (by assumption) (by first |assumption |simp))|exact vG (Hi (by simp))|exact vG (vG (A7 (by assumption) (by first |assumption |simp))))) <;>fail)
 |m2 (k:Rn a) (hl:level ops (before ops) i=2:=by rfl)
inductive DTw(ops:Array Oper)(i:Nat)(a:Prop):Prop
 |mk (k:Rn a) (hl:level ops (before ops) i=2:=by rfl)
inductive Uf(C:cP)(ops:Array Oper)(i:Nat)(L:Al)(f:FuncId)(xs:List Operand)(us:List PV)(h:ab)(K:PV->ab->Prop):Prop
 |m2 (k:ai C 2 f us h λv h'=>Rn (K v h')) (hl:level ops (before ops) i=2:=by rfl)
 |o1 (r:PV) (a:ax C f us (h.map bR) (λr' h'=>r'=r/\h'.length=h.length)) (kk:Rn (K r h)) (hv:bz (aL h) us=true) (hm:C.mode f=.opened:=by rfl) (hl:level ops (before ops) i=1:=by rfl)
   (hc:aT h=true:=by first |exact HV.closed (by assumption)|exact HR.closed (by assumption)|assumption)
 |mk (r:PV) (a:aO C f (aQ us) r) (kk:Rn (K r h)) (hm:C.mode f=.pure:=by rfl) (hv:ao us=true:=by simp) (hc:aT h=true:=by first |exact HV.closed (by assumption)|exact HR.closed (by assumption)|assumption |rfl |((refine HV.closed ?_;repeat' (first |assumption |apply HV.cC |(refine HV.one ?_;simp <;>fail)|exact HV.nil)) <;>fail))
inductive DBs(ops:Array Oper)(i:Nat)(op:Op)(L:Al)(h:ab)(es:List PV)(p q:Prop):Prop
 |mk (k:Rn q) (hv:ao es=false:=by rfl) (hl:level ops (before ops) i=2:=by rfl)
 |m2 (k:DRd ops i op L h p) (hv:ao es=true:=by first |rfl |(simp <;>fail))
theorem FI{op:Op}(hv:Jb L h op.operands.toList):(op.operands.toList.all λy=>bt (aL h) (ev (al L ρ) y))=true:=by
 rw[Z1];exact Hj hv
def dX(ops:Array Oper)(i:Nat)(l:List Oper):Al->ab->(Al->ab->Prop)->Prop:=
 List.rec (motive:=λ_=>Nat->Al->ab->(Al->ab->Prop)->Prop) (λ_ L h Q=>Q L h)
  (λo _ ih i L h Q=>match UY ops.toList o.guard L with
  |some true=>match yf o.op with
   |some (f,args)=>lK L f λv=>match v with
    | .fn f di=>nZ L args λus=>uY us di λus=>Uf C ops i L f args us h λv h'=>fE o.dst v L λL=>ih (i+1) L h' Q
    | .ni f k cs=>nZ L args λus=>ya k cs λa=>nW k cs λb=>uY a us λus=>uY us b λus=>Uf C ops i L f args us h λv h'=>fE o.dst v L λL=>ih (i+1) L h' Q
    |_=>False
   |none=>match cV o.op with
    |false=>wh T o.op L λv=>fE o.dst v L λL=>ih (i+1) L h Q
    |true=>match Ue o.op with
     |true=>DRd ops i o.op L h (tZ T o.op L h λv=>fE o.dst v L λL=>ih (i+1) L h Q)
     |false=>match o.op with
      | .buildSlice t n ps=>yD T t n ps.toList L λsz es=>match Nat.beq es.length n with
       |true=>DBs ops i o.op L h es (fE o.dst (.aa true es) L λL=>ih (i+1) L h Q) (uC T o.op L h λv h'=>fE o.dst v L λL=>ih (i+1) L h' Q)
       |false=>False
      |op=>DTw ops i (uC T op L h λv h'=>fE o.dst v L λL=>ih (i+1) L h' Q)
  |some false=>fE o.dst .undef L λL=>ih (i+1) L h Q
  |none=>False) l i
theorem P8{ops:Array Oper}{i:Nat}{o:Oper}{r:List Oper}{L:Al}{h:ab}{Q:Al->ab->Prop}:dX T ops i (o::r) L h Q=(
  match UY ops.toList o.guard L with
  |some true=>match yf o.op with
   |some (f,args)=>lK L f λv=>match v with
    | .fn f di=>nZ L args λus=>uY us di λus=>Uf C ops i L f args us h λv h'=>fE o.dst v L λL=>dX T ops (i+1) r L h' Q
    | .ni f k cs=>nZ L args λus=>ya k cs λa=>nW k cs λb=>uY a us λus=>uY us b λus=>Uf C ops i L f args us h λv h'=>fE o.dst v L λL=>dX T ops (i+1) r L h' Q
    |_=>False
   |none=>match cV o.op with
    |false=>wh T o.op L λv=>fE o.dst v L λL=>dX T ops (i+1) r L h Q
    |true=>match Ue o.op with
     |true=>DRd ops i o.op L h (tZ T o.op L h λv=>fE o.dst v L λL=>dX T ops (i+1) r L h Q)
     |false=>match o.op with
      | .buildSlice t n ps=>yD T t n ps.toList L λsz es=>match Nat.beq es.length n with
       |true=>DBs ops i o.op L h es (fE o.dst (.aa true es) L λL=>dX T ops (i+1) r L h Q) (uC T o.op L h λv h'=>fE o.dst v L λL=>dX T ops (i+1) r L h' Q)
       |false=>False
      |op=>DTw ops i (uC T op L h λv h'=>fE o.dst v L λL=>dX T ops (i+1) r L h' Q)
  |some false=>fE o.dst .undef L λL=>dX T ops (i+1) r L h Q
  |none=>False):=rfl
theorem Hk{ops:Array Oper}{i:Nat}{o:Oper}{r:List Oper}{c:Call}{f:Operand}{g:FuncId}{us us0 fvs:List PV}{Q:St->Prop}{K:PV->ab->Prop}(hw:bm ops o (al L ρ)=some true)(c1:o.op=.call c)(c2:c.callee=.value f)
  (hfv:∀F:Nat->Bool,bt F (ev (al L ρ) f)=bz F fvs) (e2:xU L c.args.toList=some us0) (q8:∀y,y∈us0\/y∈fvs->y∈us) (jC:∀run lv,ar C run lv o.op (al L ρ) h=dg C run lv g us h) {xs:List Operand} (k:Uf C ops i L g xs us h K)
  (hk:∀v h',K v h'->aW C ops (i+1) r ⟨⟨b9 (al L ρ) o.dst v,h'⟩,h'.length,[]⟩ Q):aW C ops i (o::r) ⟨⟨al L ρ,h⟩,h.length,[]⟩ Q:=by
 have hh:cV o.op=true:=by rw[c1];rfl
 have hM:cr ((before ops).getD i 0).testBit h.length [] h=h:=by simp[cr]
 have kV:bz (aL h) us=true->(o.op.operands.toList.all λy=>bt (aL h) (ev (al L ρ) y))=true:=λhv=>by
  rw[fw,Z1]at hv;rw[c1,Z1]
  intro y hy
  simp[Op.operands,Call.operands,c2]at hy;rcases hy with rfl |hy
  ·rw[hfv,fw,Z1];exact λx hx=>hv x (q8 x (.inr hx))
  ·refine hv _ (q8 _ (.inl ?_));rw[<-gC (ρ:=ρ) e2];exact aak.2 ⟨y,by simpa using hy,rfl⟩
 cases k with
 |m2 k hl=>
  obtain⟨v,h',kk,n0,hn⟩:=k;exact aW.step (x1:=⟨⟨b9 (al L ρ) o.dst v,h'⟩,h'.length,[]⟩) ⟨n0,λn h1=>by simp only[ct,hw,hh,aaG,if_false,hl,if_true,jC,hn n h1]⟩ (hk _ _ kk.out)
 |o1 v a kk hv hm hl hc=>
  obtain⟨v',h',⟨rfl,hd⟩,n0,hn⟩:=a;have hd:h'.drop h.length=[]:=aaz (by omega);refine aW.step (x1:=⟨⟨b9 (al L ρ) o.dst v',h⟩,h.length,[]⟩) ⟨n0,λn h1=>?_⟩ (hk _ _ kk.out)
  have DF:dg C (fe C n) 1 g us h=some (v',h):=by
   unfold dg;simp[hm,gP,dV,hn n h1,hd]
  simp only[ct,hw,hh,aaG,if_false,hl,hM,hc,kV hv,and_self,if_true,jC,DF];simp
 |mk r' a kk hm hv hc=>
  have DF:∃n0,∀n lv,n0<=n->1<=lv->dg C (fe C n) lv g us h=some (r',h):=by
   obtain⟨n0,hn⟩:=a;refine⟨n0,λn lv h1 _=>?_⟩;obtain⟨r0,hc,r1,e1,e2,e3⟩:=hn n h1;unfold dg;rw[hm];simp only[dD,hv,if_true,e1,e2,e3]
  obtain⟨n0,hn⟩:=DF;refine aW.step (x1:=⟨⟨b9 (al L ρ) o.dst r',h⟩,h.length,[]⟩) ⟨n0,λn h1=>?_⟩ (hk _ _ kk.out)
  by_cases hl:level ops (before ops) i=2
  ·simp only[ct,hw,hh,aaG,if_false,hl,if_true,jC,hn n 2 h1 (by omega)]
  ·simp only[ct,hw,hh,aaG,if_false,hl,hM,hc,kV (br _ _ hv),and_self,if_true,jC,hn n 1 h1 (Z5 _)];simp
theorem ru{ops:Array Oper}{Q:St->Prop}:∀{l:List Oper} {i:Nat} {L:Al} {h:ab} {K:Al->ab->Prop},dX T ops i l L h K->(∀L' h',K L' h'->Q ⟨al L' ρ,h'⟩)->aW C ops i l ⟨⟨al L ρ,h⟩,h.length,[]⟩ Q
 |[],i,L,h,K,x,hq=>aW.nil (hq _ _ x)
 |o::r,i,L,h,K,x,hq=>by
  rw[P8]at x
  split at x
  ·rename_i hg
   have hw:=vF (ρ:=ρ) hg
   have plain:∀{v:PV},cV o.op=false->(∀run,ar C run 1 o.op (al L ρ) h=some (v,h))->(fE o.dst v L λL=>dX T ops (i+1) r L h K)->aW C ops i (o::r) ⟨⟨al L ρ,h⟩,h.length,[]⟩ Q:=λ{v} hh hv k=>
    aW.step (x1:=⟨⟨b9 (al L ρ) o.dst v,h⟩,h.length,[]⟩) ⟨0,λn _=>by simp only[ct,hw,hh,if_true,hv]⟩ (by rw[jT];exact ru (fM k) hq)
   have two:∀{v:PV} {h':ab},cV o.op=true->level ops (before ops) i=2->(∃n0,∀n,n0<=n->ar C (fe C n) 2 o.op (al L ρ) h=some (v,h'))->(fE o.dst v L λL=>dX T ops (i+1) r L h' K)->aW C ops i (o::r) ⟨⟨al L ρ,h⟩,h.length,[]⟩ Q:=λ{v h'} hh hl hv k=>by
    obtain⟨n0,hn⟩:=hv;refine aW.step (x1:=⟨⟨b9 (al L ρ) o.dst v,h'⟩,h'.length,[]⟩) ⟨n0,λn h1=>?_⟩ (by rw[jT];exact ru (fM k) hq);simp only[ct,hw,hh,aaG,if_false,hl,if_true,hn n h1]
   have one:∀{v:PV},cV o.op=true->aT h=true->(o.op.operands.toList.all λy=>bt (aL h) (ev (al L ρ) y))=true->(∃n0,∀n lv,n0<=n->1<=lv->ar C (fe C n) lv o.op (al L ρ) h=some (v,h))->(fE o.dst v L λL=>dX T ops (i+1) r L h K)->aW C ops i (o::r) ⟨⟨al L ρ,h⟩,h.length,[]⟩ Q:=λ{v} hh dp kV hv k=>by
    by_cases hl:level ops (before ops) i=2
    ·obtain⟨n0,hn⟩:=hv;exact two hh hl ⟨n0,λn h1=>hn n 2 h1 (by omega)⟩ k
    ·obtain⟨n0,hn⟩:=hv;refine aW.step (x1:=⟨⟨b9 (al L ρ) o.dst v,h⟩,h.length,[]⟩) ⟨n0,λn h1=>?_⟩ (by rw[jT];exact ru (fM k) hq);have hM:cr ((before ops).getD i 0).testBit h.length [] h=h:=by simp[cr]
     simp only[ct,hw,hh,aaG,if_false,hl,hM,dp,kV,and_self,if_true,hn n 1 h1 (Z5 _)];simp
   split at x
   ·rename_i f args hc
    obtain⟨v,e,k⟩:=bB x
    split at k
    ·rename_i di
     obtain⟨us,e2,k⟩:=iO k;have k:=j9 k
     have kV:∃c:Call,o.op=.call c/\c.callee=.value f/\c.args.toList=args:=by
      unfold yf at hc
      split at hc
      ·rename_i h1
       obtain⟨rfl,rfl⟩:=aaa (ZZ hc);exact⟨_,h1,rfl,rfl⟩
      ·cases hc
     obtain⟨c,c1,c2,c3⟩:=kV
     refine Hk hw c1 c2 (fvs:=di) (λF=>by rw[an e];rfl) (us0:=us) (by rw[c3];exact e2) (λy hy=>Z8.2 hy) (λrun lv=>by
      rw[c1];simp only[ar,c2,fS,an e,c3,gC e2]) k (λv h' kk=>?_)
     rw[jT];exact ru (fM kk) hq
    ·rename_i kk cs
     obtain⟨us,e2,k⟩:=iO k;obtain⟨_,k⟩:=m' k;obtain⟨_,k⟩:=iN k;have k:=j9 (j9 k)
     have kV:∃c:Call,o.op=.call c/\c.callee=.value f/\c.args.toList=args:=by
      unfold yf at hc
      split at hc
      ·rename_i h1
       obtain⟨rfl,rfl⟩:=aaa (ZZ hc);exact⟨_,h1,rfl,rfl⟩
      ·cases hc
     obtain⟨c,c1,c2,c3⟩:=kV
     refine Hk hw c1 c2 (fvs:=cs) (λF=>by rw[an e];rfl) (us0:=us) (by rw[c3];exact e2) (λy hy=>by
      rcases hy with hy |hy
      ·simp[hy]
      ·have:y∈cs.take kk++cs.drop kk:=by rw[abM];exact hy
       rcases Z8.1 this with h |h
       ·exact Z8.2 (.inl (Z8.2 (.inl h)))
       ·exact Z8.2 (.inr h)) (λrun lv=>by
      rw[c1];simp only[ar,c2,fS,an e,c3,gC e2]) k (λv h' kk=>?_)
     rw[jT];exact ru (fM kk) hq
    ·exact k.elim
   ·split at x
    ·obtain⟨hh,v,h1,k⟩:=pU T x;exact plain hh (λrun=>h1 run 1 ρ h) k
    ·split at x
     ·rename_i hh _ _
      cases x with
      |mk k hc hv=>
       obtain⟨_,v,h1,k⟩:=kL T k.out;exact one hh hc (FI hv) ⟨0,λn lv _ _=>h1 _ lv ρ⟩ k
      |m2 k hl=>
       obtain⟨_,v,h1,k⟩:=kL T k.out;exact two hh hl ⟨0,λn _=>h1 _ 2 ρ⟩ k
     ·rename_i hh _ _
      split at x
      ·rename_i kV
       obtain⟨sz,es,k,hb⟩:=mG T x
       split at k
       ·have hb:∀run lv,ao es=true->ar C run lv o.op (al L ρ) h=some (.aa true es,h):=λrun lv hv=>by
         rw[kV];simp only[ar,aC,hb];rw[if_pos hv]
        cases k with
        |m2 k EM=>
         cases k with
         |mk k hc hv=>exact one hh hc (FI hv) ⟨0,λn lv _ _=>hb _ lv EM⟩ k.out
         |m2 k hl=>exact two hh hl ⟨0,λn _=>hb _ 2 EM⟩ k.out
        |mk k _ hl=>
         obtain⟨v,h',h1,k⟩:=qh T k.out;exact two hh hl ⟨0,λn _=>h1 _ ρ⟩ k
       ·exact k.elim
      ·cases x with
       |mk k hl=>
        obtain⟨v,h',h1,k⟩:=qh T k.out;exact two hh hl ⟨0,λn _=>h1 _ ρ⟩ k
  ·rename_i hg
   have hw:=vF (ρ:=ρ) hg;refine aW.step (x1:=⟨⟨b9 (al L ρ) o.dst .undef,h⟩,h.length,[]⟩) ⟨0,λn _=>by simp only[ct,hw]⟩ (by rw[jT];exact ru (fM x) hq)
  ·exact x.elim
inductive Qn(ops:Array Oper)(L:Al)(h:ab)(Q:Al->ab->Prop):Prop
 |mk (k:Rn (dX T ops 0 ops.toList L h Q)) (hk:rC ops=false:=by rfl)
 |raw (k:∀ρ,aW C ops 0 ops.toList ⟨⟨al L ρ,h⟩,h.length,[]⟩ (λs=>∃L' h',s=⟨al L' ρ,h'⟩/\Q L' h')) (hk:rC ops=false:=by rfl)
 |calm (L':Al) (h':ab) (e:∀run ρ,iS C run ops ⟨al L ρ,h⟩=some ⟨al L' ρ,h'⟩) (kk:Rn (Q L' h')) (hk:rC ops=true:=by rfl)
inductive tP(C:cP) where
 |top (Q:Ex->St->Prop)
 |fn (f:Func) (Q:PV->ab->Prop)
 |seq (b:Code) (k:tP C)
 |block (id:Nat) (k:tP C)
 |loop (I:Al->ab->Prop) (k:tP C)
theorem kI{k:IntKind}{a b:Int}(h:a=b):some (PV.int k a)=some (PV.int k b):=by rw[h]
inductive Nx(I:Al->ab->Prop)(L:Al)(h:ab):Prop
 |nx {L':Al} (a:I L' h) (hk:PC L L':=by repeat(first |exact trivial |refine⟨?_,?_⟩|rfl |exact kI (by first |(simp;done)|(simp;omega)|omega)))
def Yj(I:Al->ab->Prop)(s:St):Prop:=∃L ρ,s.ρ=al L ρ/\I L s.h
theorem Nx.out{I:Al->ab->Prop}{L:Al}{h:ab}(x:Nx I L h)(ρ:Nat->PV):Yj I ⟨al L ρ,h⟩:=by
 cases x with |nx a hk=>exact⟨_,al L ρ,congrArg St.ρ (St.aR (h:=h) hk),a⟩
def tP.den:tP C->Ex->St->Prop
 | .top Q=>Q
 | .fn f Q=>aJ C f Q
 | .seq b k=>aE C b k.den
 | .block id k=>az id k.den
 | .loop I k=>aI (Yj I) k.den
inductive Ug(L:Al)(h:ab)(l:List ResultVar)(Q:PV->ab->Prop):Prop
 |mk {vs:List PV} (kk:Rn (Q (aY vs) h)) (hr:xY T L h l=some vs:=by rfl)
def F0(L:Al):List ResultVar->(List PV->Prop)->Option Prop
 |[],k=>some (k [])
 | .tmp t::r,k=>match lk L t with
  |some v=>F0 L r λl=>k (v::l)
  |none=>none
 | .cell _ _::_,_=>none
theorem DO{L:Al}{ρ:Nat->PV}{h:ab}:∀{l:List ResultVar} {k:List PV->Prop} {p:Prop},F0 L l k=some p->p->∃vs,dj C.P h (al L ρ) l=some vs/\k vs
 |[],k,p,e,x=>⟨[],rfl,by rw[<-ZZ e]at x;exact x⟩
 | .tmp t::r,k,p,e,x=>by
  simp only[F0]at e
  split at e
  ·rename_i v hv
   obtain⟨vs,h1,h2⟩:=DO (ρ:=ρ) (h:=h) e x;exact⟨v::vs,by simp[dj,dz hv,h1],h2⟩
  ·cases e
 | .cell _ _::_,k,p,e,x=>by simp[F0]at e
inductive eD(c:Code)(L:Al)(ρ:Nat->PV)(h:ab)(k:tP C):Prop
 |lpx (e:Ev C (.loop c) ⟨al L ρ,h⟩ k.den)
inductive Tk where
 |c (c:Code)
 |e (e:Ex)
def jP(n:Nat):Tk->tP C->Al->(Nat->PV)->ab->Prop:=
 Nat.rec (motive:=λ_=>Tk->tP C->Al->(Nat->PV)->ab->Prop) (λ_ _ _ _ _=>False)
  (λn ih tk k L ρ h=>match tk with
   | .c c=>match c with
    | .skip=>ih (.e .normal) k L ρ h
    | .label _=>ih (.e .normal) k L ρ h
    | .region _ ops false=>FZ T ops.toList ops.toList L h λL' h'=>ih (.e .normal) k L' ρ h'
    | .region _ ops true=>Qn T ops L h λL' h'=>ih (.e .normal) k L' ρ h'
    | .seq a b=>ih (.c a) (.seq b k) L ρ h
    | .cond c a b=>lK L c λv=>match v with
     | .bool true=>ih (.c a) k L ρ h
     | .bool false=>ih (.c b) k L ρ h
     |_=>False
    | .block id c=>ih (.c c) (.block id k) L ρ h
    | .loop c=>eD c L ρ h k
    | .scope c=>ih (.c c) k L ρ h
    | .exit id=>ih (.e (.exit id)) k L ρ h
    | .ret=>ih (.e .ret) k L ρ h
    |_=>False
   | .e ex=>match k with
    | .top Q=>Q ex ⟨al L ρ,h⟩
    | .fn f Q=>match ex with
     | .exit _=>False
     |_=>match F0 L f.results.toList λvs=>Q (aY vs) h with
      |some p=>p
      |none=>Ug T L h f.results.toList Q
    | .seq b k=>match ex with
     | .normal=>ih (.c b) k L ρ h
     |ex=>ih (.e ex) k L ρ h
    | .block id k=>match ex with
     | .exit dY=>match Nat.beq dY id with
      |true=>ih (.e .normal) k L ρ h
      |false=>ih (.e (.exit dY)) k L ρ h
     |ex=>ih (.e ex) k L ρ h
    | .loop I k=>match ex with
     | .normal=>Nx I L h
     |ex=>ih (.e ex) k L ρ h) n
theorem Uh{n:Nat}{c:Code}{k:tP C}{L:Al}{ρ:Nat->PV}{h:ab}:jP T (n+1) (.c c) k L ρ h=(match c with
  | .skip=>jP T n (.e .normal) k L ρ h
  | .label _=>jP T n (.e .normal) k L ρ h
  | .region _ ops false=>FZ T ops.toList ops.toList L h λL' h'=>jP T n (.e .normal) k L' ρ h'
  | .region _ ops true=>Qn T ops L h λL' h'=>jP T n (.e .normal) k L' ρ h'
  | .seq a b=>jP T n (.c a) (.seq b k) L ρ h
  | .cond c a b=>lK L c λv=>match v with
   | .bool true=>jP T n (.c a) k L ρ h
   | .bool false=>jP T n (.c b) k L ρ h
   |_=>False
  | .block id c=>jP T n (.c c) (.block id k) L ρ h
  | .loop c=>eD c L ρ h k
  | .scope c=>jP T n (.c c) k L ρ h
  | .exit id=>jP T n (.e (.exit id)) k L ρ h
  | .ret=>jP T n (.e .ret) k L ρ h
  |_=>False):=rfl
theorem Ui{n:Nat}{ex:Ex}{k:tP C}{L:Al}{ρ:Nat->PV}{h:ab}:jP T (n+1) (.e ex) k L ρ h=(match k with
  | .top Q=>Q ex ⟨al L ρ,h⟩
  | .fn f Q=>match ex with
   | .exit _=>False
   |_=>match F0 L f.results.toList λvs=>Q (aY vs) h with
    |some p=>p
    |none=>Ug T L h f.results.toList Q
  | .seq b k=>match ex with
   | .normal=>jP T n (.c b) k L ρ h
   |ex=>jP T n (.e ex) k L ρ h
  | .block id k=>match ex with
   | .exit dY=>match Nat.beq dY id with
    |true=>jP T n (.e .normal) k L ρ h
    |false=>jP T n (.e (.exit dY)) k L ρ h
   |ex=>jP T n (.e ex) k L ρ h
  | .loop I k=>match ex with
   | .normal=>Nx I L h
   |ex=>jP T n (.e ex) k L ρ h):=rfl
theorem dH:∀{n:Nat} {t:Tk} {k:tP C} {L:Al} {ρ:Nat->PV} {h:ab},jP T n t k L ρ h->match t with | .c c=>Ev C c ⟨al L ρ,h⟩ k.den | .e ex=>k.den ex ⟨al L ρ,h⟩
 |0,_,_,_,_,_,x=>x.elim
 |n+1,.c c,k,L,ρ,h,x=>by
  have nx:∀{L':Al} {h':ab},jP T n (.e .normal) k L' ρ h'->k.den .normal ⟨al L' ρ,h'⟩:=λy=>dH (n:=n) (t:=.e .normal) y
  show Ev C c ⟨al L ρ,h⟩ k.den;rw[Uh]at x
  split at x
  ·exact Ev.skip (nx x)
  ·exact Ev.label (nx x)
  ·exact Ev.region (pO T x λ_ _ y=>nx y)
  ·cases x with
   |mk x hk=>exact Ev.kG (ru T x.out λ_ _ y=>nx y) hk
   |raw x hk=>
    obtain⟨y,⟨L',h',e,q⟩,n0,hn⟩:=x ρ;exact Ev.kG ⟨y,by rw[e];exact nx q,n0,hn⟩ hk
   |calm L' h' e kk hk=>exact⟨.normal,⟨al L' ρ,h'⟩,nx kk.out,0,λn m _ _=>by simp only[bO,if_true,hk,e]⟩
  ·exact Ev.seq (dH (n:=n) (t:=.c _) (k:=.seq _ k) x)
  ·obtain⟨v,e,k⟩:=bB x
   split at k
   ·exact Ev.Qv (an e ρ) (dH (n:=n) (t:=.c _) k)
   ·exact Ev.Qw (an e ρ) (dH (n:=n) (t:=.c _) k)
   ·exact k.elim
  ·exact Ev.block (dH (n:=n) (t:=.c _) (k:=.block _ k) x)
  ·cases x with |lpx e=>exact e
  ·exact Ev.scope (dH (n:=n) (t:=.c _) x)
  ·exact Ev.exit (dH (n:=n) (t:=.e _) x)
  ·exact Ev.ret (dH (n:=n) (t:=.e _) x)
  ·exact x.elim
 |n+1,.e ex,k,L,ρ,h,x=>by
  show k.den ex ⟨al L ρ,h⟩;rw[Ui]at x
  split at x
  ·exact x
  ·have fin:∀{ex:Ex} {f:Func} {Q:PV->ab->Prop},(ex=.normal\/ex=.ret)->(match F0 L f.results.toList λvs=>Q (aY vs) h with |some p=>p |none=>Ug T L h f.results.toList Q)->aJ C f Q ex ⟨al L ρ,h⟩:=λ{ex f Q} hex y=>by
    split at y
    ·rename_i p hp
     obtain⟨vs,h1,h2⟩:=DO (C:=C) (ρ:=ρ) (h:=h) hp y;exact⟨hex,vs,h1,h2⟩
    ·cases y with |mk kk hr=>exact⟨hex,_,vA T hr,kk.out⟩
   split at x
   ·exact x.elim
   ·rename_i bJ
    refine fin ?_ x
    cases ex with
    |normal=>exact .inl rfl
    |ret=>exact .inr rfl
    |exit id=>exact absurd rfl (bJ id)
  ·split at x
   ·exact aE.normal (dH (n:=n) (t:=.c _) x)
   ·have:=dH (n:=n) (t:=.e _) x
    cases ex with
    |normal=>simp_all
    |ret=>exact aE.ret this
    |exit id=>exact aE.exit this
  ·split at x
   ·split at x
    ·rename_i hb
     have:=aaN hb;subst this;exact az.Lr (dH (n:=n) (t:=.e _) x)
    ·rename_i hb
     exact az.Lt (by rw[beq_eq_false_iff_ne];rintro rfl;rw[Nat.beq_refl]at hb;cases hb) (dH (n:=n) (t:=.e _) x)
   ·have:=dH (n:=n) (t:=.e _) x
    cases ex with
    |normal=>exact az.normal this
    |ret=>exact az.ret this
    |exit id=>simp_all
  ·split at x
   ·exact x.out ρ
   ·have:=dH (n:=n) (t:=.e _) x
    cases ex with
    |normal=>simp_all
    |ret=>exact aI.ret this
    |exit id=>exact aI.exit this
theorem ai.p{lv:Nat}{f:FuncId}{args args':List PV}{r:PV}{h:ab}{Q:PV->ab->Prop}(a:aO C f args' r)(q:Q r h)(hm:C.mode f=.pure:=by rfl)(hv:ao args=true:=by simp)(hn:aQ args=args':=by simp):ai C lv f args h Q:=
 ai.pure hm hv (hn▸a) q
theorem Uf.p{ops:Array Oper}{i:Nat}{L:Al}{f:FuncId}{xs:List Operand}{us us':List PV}{h:ab}{K:PV->ab->Prop}{r:PV}(a:aO C f us' r)(kk:Rn (K r h))(hm:C.mode f=.pure:=by rfl)(hv:ao us=true:=by simp)(hn:aQ us=us':=by simp)
  (hc:aT h=true:=by first |exact HV.closed (by assumption)|exact HR.closed (by assumption)|assumption |rfl |((refine HV.closed ?_;repeat' (first |assumption |apply HV.cC |(refine HV.one ?_;simp <;>fail)|exact HV.nil)) <;>fail)):Uf C ops i L f xs us h K:=.mk r (hn▸a) kk hm hv hc
theorem ax.x{f:FuncId}{fn:Func}{c:Code}{args:List PV}{h:ab}{Q:PV->ab->Prop}(hf:C.P.funcs[f]?=some fn)(hb:fn.body=some c)
  (k:Rn (jP T 10000 (.c c) (.fn fn Q) (Bl 0 args) (λ_=>.undef) h)):ax C f args h Q:=ax.dJ hf hb (dH T k.out)
theorem aO.xd{f:FuncId}{fn:Func}{c:Code}{args:List PV}{r:PV}(hf:C.P.funcs[f]?=some fn)(hb:fn.body=some c)
  (k:Rn (jP T 10000 (.c c) (.fn fn λr0 hc=>∃r1,yU hc r0=some r1/\cf r1=r) (Bl 0 args) (λ_=>.undef) [])):aO C f args r:=aO.ofX (ax.x T hf hb k)
theorem aO.x{f:FuncId}{fn:Func}{c:Code}{args:List PV}{r:PV}(hf:C.P.funcs[f]?=some fn)(hb:fn.body=some c)
  (k:Rn (jP T 10000 (.c c) (.fn fn λr0 hc=>∃r1,rb hc r0=some r1/\cf r1=r) (Bl 0 args) (λ_=>.undef) [])):aO C f args r:=aO.of (ax.x T hf hb k)
theorem mO{h:ab}:∀{l:List PV},ao l=true->gI h l=some l:=by
 have one:∀{c:PV},aV c=true->qs h c=some c:=λ{c} hc=>by
  unfold qs
  split
  ·simp[aV]at hc
  ·rw[if_pos hc]
 have key:∀cs:List PV,ao cs=true->oz h cs=some cs:=by
  intro cs
  induction cs with
  |nil=>intro _;rfl
  |cons c cs ih=>
   intro hh
   simp only[ao,Z9]at hh;simp only[oz,one hh.1,ih hh.2]
 intro l
 induction l with
 |nil=>intro _;rfl
 |cons c l ih=>
  intro hl
  simp only[ao,Z9]at hl
  have:j' h c=some c:=by
   unfold j'
   split
   ·rw[key _ (by simpa[aV]using hl.1)];rfl
   ·exact one hl.1
  simp only[gI,ih hl.2,this]
theorem ai.po{f:FuncId}{sz:Nat}{v:PV}{h:ab}{es eT rest pz:List PV}{rv:PV}{Q:PV->ab->Prop}(o:Out sz h v es)(a:aO C f (.aa false eT::pz) rv)(q:∀h',(h'=h\/∃id ep,v=.ak id ep 0 es.length/\h'=h.set id ⟨.f,ep,sz,es⟩)->Q rv h')
  (hm:C.mode f=.pure:=by rfl) (hv:ao es=true:=by simp) (hr:ao rest=true:=by simp) (hn:aQ es=eT:=by simp) (Gi:aQ rest=pz:=by simp):ai C 2 f (v::rest) h Q:=by
 subst hn Gi;rcases o with⟨rfl,rfl⟩|⟨id,ep,rfl,e2⟩
 ·exact ai.pure hm (by simp[ao,aV,hr]) (by simpa[aQ,cf]using a) (q h (.inl rfl))
 ·obtain⟨n0,hn⟩:=a
  by_cases hs:dU rv=true
  ·refine⟨rv,h,q h (.inl rfl),n0,λn h1=>?_⟩;obtain⟨r0,hc,r1,e1,e3,e4⟩:=hn n h1;have yZ:dU r1=true:=by have:=jI r1;rw[e4]at this;rw[<-this];exact hs
   have hb:gI h (.ak id ep 0 es.length::rest)=some (.aa false es::rest):=by
    simp[gI,j',qs,getM,e2,hv,mO hr]
   unfold dg;rw[hm];have rN:ao (.ak id ep 0 es.length::rest)=false:=rfl;have OR:aQ (PV.aa false es::rest)=.aa false (aQ es)::aQ rest:=rfl;simp only[dD,rN,aad,if_false,hb,OR,e1,e3,yZ,ab3,if_true,e4]
  ·have hs:dU rv=false:=by simpa using hs
   refine⟨rv,h.set id ⟨.f,ep,sz,es⟩,q _ (.inr ⟨id,ep,rfl,rfl⟩),n0,λn h1=>?_⟩;obtain⟨r0,hc,r1,e1,e3,e4⟩:=hn n h1;have yZ:dU r1=false:=by have:=jI r1;rw[e4]at this;rw[<-this];exact hs
   have hb:gI h (.ak id ep 0 es.length::rest)=some (.aa false es::rest):=by
    simp[gI,j',qs,getM,e2,hv,mO hr]
   have OR:aQ (PV.aa false es::rest)=.aa false (aQ es)::aQ rest:=rfl
   have i0:∀l:List PV,ao l=true->iD l=[]:=by
    have i1:∀c:PV,aV c=true->uG c=[]:=λc hc=>by cases c <;>first |rfl |simp[aV]at hc
    intro l
    induction l with
    |nil=>intro _;rfl
    |cons c l ih=>
     intro hh
     simp only[ao,Z9]at hh
     have:(cells c).flatMap uG=[]:=by
      rw[List.flatMap_eq_nil_iff]
      intro x hx
      cases c with
      |agg cs=>
       refine i1 x ?_;have h2:ao cs=true:=by simpa[aV]using hh.1
       rw[bu,Z1]at h2;exact h2 x hx
      |_=>simp[cells]at hx;subst hx;exact i1 _ hh.1
     simp only[iD,aa9]at ih ⊢;rw[this,ih hh.2];rfl
   have Ay:iD (PV.ak id ep 0 es.length::rest)=[id]:=by
    have:=i0 rest hr;simp only[iD,aa9]at this ⊢;rw[this];rfl
   have Ul:mv h [id]=false:=by simp[mv,e2]
   have Cm:fk h [id]=some (h.set id ⟨.f,ep,sz,es⟩):=by simp[fk,kz,e2,hv]
   unfold dg;rw[hm];have rN:ao (.ak id ep 0 es.length::rest)=false:=rfl;simp only[dD,rN,aad,if_false,hb,OR,e1,e3,Ay,yZ,Ul,Bool.or_self,Z5,if_true,Cm,aab,e4]
def fQ(H h':ab):Prop:=∃J,HV J/\h'=H++J
theorem aO.ex{C:cP}{f:FuncId}{args:List PV}{Q:PV->Prop}{F:PV->PV}(a:ax C f args [] (λr0 hc=>∃x,Q x/\∃r1,rb hc r0=some r1/\cf r1=F x)):∃x,Q x/\aO C f args (F x):=by
 obtain⟨r,h,⟨x,q,r1,e1,e2⟩,e⟩:=a;exact⟨x,q,aO.of ⟨r,h,⟨r1,e1,e2⟩,e⟩⟩
theorem fQ.refl(H:ab):fQ H H:=⟨[],HV.nil,by simp⟩
theorem fQ.trans{a b c:ab}(x:fQ a b)(y:fQ b c):fQ a c:=by
 obtain⟨J,hJ,rfl⟩:=x;obtain⟨K,hK,rfl⟩:=y;exact⟨J++K,hJ.cC hK,by rw[aat]⟩
theorem fQ.cC{H h:ab}(x:fQ H h){J:ab}(hJ:HV J):fQ H (h++J):=x.trans ⟨J,hJ,rfl⟩
theorem fQ.at{H h:ab}(x:fQ H h){i:Nat}{o:au}(e:H[i]?=some o):h[i]?=some o:=by
 obtain⟨J,_,rfl⟩:=x;rw[Z0 (ag e)];exact e
theorem fQ.hv{H h:ab}(x:fQ H h)(hH:HV H):HV h:=by
 obtain⟨J,hJ,rfl⟩:=x;exact hH.cC hJ
theorem ai.ex{f:FuncId}{args:List PV}{H:ab}{v:PV}{Q:PV->ab->Prop}(a:ax C f args H (λr h'=>r=v/\fQ H h'))(q:∀h',fQ H h'->Q v h')(hm:C.mode f=.opened:=by rfl):ai C 2 f args H Q:=by
 refine ai.opened hm (a.mono λr k hr=>?_);obtain⟨rfl,J,hJ,rfl⟩:=hr
 split
 ·rw[List.take_left];exact q _ (fQ.refl _)
 ·exact q _ ⟨J,hJ,rfl⟩
def Fz(sz:Nat)(h:ab)(v:PV)(es:List PV)(h':ab):Prop:=h'=h\/∃id ep,v=.ak id ep 0 es.length/\h'=h.set id ⟨.f,ep,sz,es⟩
theorem Fz.hv{sz:Nat}{h h':ab}{v:PV}{es:List PV}(z:Fz sz h v es h')(H:HV h)(hv:ao es=true):HV h':=by
 rcases z with rfl |⟨id,ep,_,rfl⟩
 ·exact H
 ·exact H.set id (by simp) hv
theorem ai.pl{f:FuncId}{sz:Nat}{v:PV}{h:ab}{es eT rest pz:List PV}{rv:PV}{Q:PV->ab->Prop}(o:Ls sz h v es)(a:aO C f (.aa false eT::pz) rv)(q:∀h',Fz sz h v es h'->Q rv h')
  (hm:C.mode f=.pure:=by rfl) (hv:ao es=true:=by simp) (hr:ao rest=true:=by simp) (hn:aQ es=eT:=by simp) (Gi:aQ rest=pz:=by simp):ai C 2 f (v::rest) h Q:=by
 rcases o with o |⟨fl,rfl⟩
 ·exact ai.po o a q hm hv hr hn Gi
 ·subst hn Gi;exact ai.pure hm (by simp[ao,aV,hv,hr]) (by simpa[aQ,cf]using a) (q h (.inl rfl))
theorem ai.plS{f:FuncId}{sz:Nat}{v:PV}{h:ab}{es eT rest pz:List PV}{rv:PV}{Q:PV->ab->Prop}(o:Ls sz h v es)(a:aO C f (.aa false eT::pz) rv)(q:Q rv h)(hs:dU rv=true:=by rfl)
  (hm:C.mode f=.pure:=by rfl) (hv:ao es=true:=by simp) (hr:ao rest=true:=by simp) (hn:aQ es=eT:=by simp) (Gi:aQ rest=pz:=by simp):ai C 2 f (v::rest) h Q:=by
 subst hn Gi;rcases o with o |⟨fl,rfl⟩
 ·exact ai.out hm o hv hr a hs q
 ·exact ai.pure hm (by simp[ao,aV,hv,hr]) (by simpa[aQ,cf]using a) q
theorem Ls.j'{sz:Nat}{h:ab}{v:PV}{es:List PV}(o:Ls sz h v es)(hv:ao es=true):∃r1,Pm.j' h v=some r1/\cf r1=.aa false (aQ es):=by
 rcases o with o |⟨f,rfl⟩
 ·exact o.j' hv
 ·exact⟨.aa f es,by simp[Pm.j',qs,aV,hv],rfl⟩
theorem Ls.TN{sz:Nat}{h:ab}{v:PV}{es eT:List PV}{k:IntKind}{n:Int}(o:Ls sz h v es)(hv:ao es=true:=by simp)(hn:aQ es=eT:=by simp):∃r1,rb h (aY [v,.int k n])=some r1/\cf r1=.cx [.aa false eT,.int k n]:=by
 obtain⟨r1,h1,h2⟩:=o.j' hv;refine⟨.cx [r1,.int k n],by simp only[aY,rb,gI,h1];rfl,?_⟩;simp only[cf,aQ,h2,hn]
theorem Ls.HJ{sz:Nat}{h:ab}{v:PV}{es eT:List PV}(o:Ls sz h v es)(hv:ao es=true:=by simp)(hn:aQ es=eT:=by simp):∃r1,rb h (aY [v])=some r1/\cf r1=.aa false eT:=by
 obtain⟨r1,h1,h2⟩:=o.j' hv;rw[hn]at h2;rcases o with(⟨rfl,rfl⟩|⟨id,ep,rfl,e⟩)|⟨f,rfl⟩ <;>exact⟨r1,h1,h2⟩
theorem eD.nat{c:Code}{L:Al}{ρ:Nat->PV}{h:ab}{k:tP C}(I:Nat->Al->ab->Prop)(n:Nat)(h0:Nx (I n) L h)
  (step:∀n L h ρ,I n L h->Rn (jP T 10000 (.c c) (.loop (λL h=>∃j,j<n/\I j L h) k) L ρ h)):eD c L ρ h k:=by
 refine⟨Ev.loop (λn=>Yj (I n)) n (h0.out ρ) ?_⟩;rintro n ⟨ρs,hs⟩ ⟨L,ρ,e,hI⟩;have e:ρs=al L ρ:=e;subst e;obtain⟨ex,s',q,hn⟩:=dH T (step n L hs ρ hI).out;refine⟨ex,s',?_,hn⟩
 cases ex with
 |normal=>
  obtain⟨L',ρ',h1,j,h2,h3⟩:=q;exact⟨j,h2,L',ρ',h1,h3⟩
 |ret=>exact q
 |exit id=>exact q
theorem eD.zip{α:Type}{c:Code}{L:Al}{ρ:Nat->PV}{h:ab}{k:tP C}(l:List α)(I:List α->List α->Al->ab->Prop)(h0:Nx (I [] l) L h)
  (step:∀p a q L h ρ,l=p++a::q->I p (a::q) L h->Rn (jP T 10000 (.c c) (.loop (I (p++[a]) q) k) L ρ h))
  (last:∀L h ρ,I l [] L h->Rn (jP T 10000 (.c c) (.loop (λ_ _=>False) k) L ρ h)):eD c L ρ h k:=by
 refine⟨Ev.loop (λn s=>∃p q,l=p++q/\q.length=n/\Yj (I p q) s) l.length ⟨[],l,rfl,rfl,h0.out ρ⟩ ?_⟩;rintro n ⟨ρs,hs⟩ ⟨p,q,e,hn,L,ρ,e2,hI⟩;have e2:ρs=al L ρ:=e2;subst e2
 cases q with
 |nil=>
  rw[aao]at e;subst e;obtain⟨ex,s',q,hn⟩:=dH T (last L hs ρ hI).out;refine⟨ex,s',?_,hn⟩
  cases ex with
  |normal=>obtain⟨_,_,_,hf⟩:=q;exact hf.elim
  |ret=>exact q
  |exit id=>exact q
 |cons a q=>
  obtain⟨ex,s',qq,Gi⟩:=dH T (step p a q L hs ρ e hI).out;refine⟨ex,s',?_,Gi⟩
  cases ex with
  |normal=>exact⟨q.length,by simp at hn;omega,p++[a],q,by simp[e],rfl,qq⟩
  |ret=>exact qq
  |exit id=>exact qq
end
end Go.Pm
namespace Go.Pm
open Go.Proofs
attribute [local irreducible] aE az aI aJ Ev ah ai ax aW
set_option maxRecDepth 4000
set_option maxHeartbeats 4000000
theorem zj(l:List Tm)(t:Tm):ae l++[enc t]=ae (l++[t]):=by rw[cZ,cZ];simp
theorem rV{B:Nat}:∀{l:List Tm},(∀t∈l,ay t<=B)->bF l<=l.length * B
 |[],_=>by simp[bF]
 |t::l,h=>by
  have h1:=h t (by simp);have h2:=rV (l:=l) (λu hu=>h u (by simp[hu]));simp only[bF,Z4,Nat.succ_mul];omega
end Go.Pm
namespace Go.Pm
variable{P:Program}{w:World}{F:Nat->Prop}{β:List (Nat×Nat)}{h:ab}
def Alike(h h':ab):Prop:=h.length=h'.length/\∀(id:Nat) (o o':au),h[id]?=some o->h'[id]?=some o'->o.ep=o'.ep/\o.bC=o'.bC/\o.es=o'.es/\(o.mu=.x↔o'.mu=.x)
theorem mB{α:Type}{l:List α}{i:Nat}(h:i<l.length):∃x,l[i]?=some x:=⟨l[i],Z3 h⟩
theorem Alike.RX{h':ab}(a:Alike h h')(β:List (Nat×Nat)):Gu h β h' β:=by
 intro id o bc e1 e2 e3
 have bU:=ag e1;obtain⟨o',ho⟩:=mB (l:=h') (i:=id) (by rw[<-a.1];exact bU);obtain⟨p1,p2,p3,p4⟩:=a.2 id o o' e1 ho;exact⟨o',bc,ho,e2,λhh=>e3 (p4.2 hh),⟨by omega,λhz=>by omega⟩,λ_=>⟨p2.symm,λ_=>by rw[p3],rfl⟩⟩
theorem aD.alike{h':ab}(a:Alike h h'){A A':Nat->Prop}(hA:∀b,A' b->A b){v:Value}{p:PV}(r:aD w A β h v p):aD w A' β h' v p:=
 r.RX (a.RX β) (λ_ _ _=>rfl) (λb _ hn ha=>hn (hA b ha))
theorem ke.alike{h':ab}(a:Alike h h'){A A':Nat->Prop}(hA:∀b,A' b->A b){o o':au}{bc:Nat×Nat}(e1:o.bC=o'.bC)(e2:o.es=o'.es)(r:ke w A β h o bc):ke w A' β h' o' bc:=by
 rcases r with⟨T,cs,h1,h2,h3,h4,h5⟩|⟨h0,es,clock,h1,h2,h3⟩
 ·refine .inl ⟨T,cs,h1,by rw[<-e2];exact h2,by rw[<-e1];exact h3,by rw[<-e1];exact h4,λi e he=>?_⟩;rw[<-e2]at he;obtain⟨k1,k2⟩:=h5 i e he;refine⟨by rw[<-e1];exact k1,λj p hp=>?_⟩;obtain⟨v,m1,m2⟩:=k2 j p hp;exact⟨v,by rw[<-e1];exact m1,m2.alike a hA⟩
 ·refine .inr ⟨by rw[<-e1];exact h0,es,clock,h1,by rw[<-e2];exact h2,λi e he=>?_⟩;rw[<-e2]at he;obtain⟨k,v,m,q1,q2,q3,q4⟩:=h3 i e he;exact⟨k,v,m,q1,q2,q3.alike a hA,q4.alike a hA⟩
theorem bD(o:au):(bR o).ep=o.ep/\(bR o).bC=o.bC/\(bR o).es=o.es/\((bR o).mu=.x↔o.mu=.x)/\(bR o).mu≠.m/\((bR o).mu=.f↔o.mu=.f):=by
 cases o with
 |mk mu ep bC es=>cases mu <;>simp[bR]
theorem gi(h:ab):Alike h (h.map bR):=by
 refine⟨by simp,λid o o' e1 e2=>?_⟩;rw[aaj,e1]at e2;obtain rfl:=ZZ e2;obtain⟨p1,p2,p3,p4,_⟩:=bD o;exact⟨p1.symm,p2.symm,p3.symm,p4.symm⟩
theorem ji(h:ab)(β:List (Nat×Nat))(b:Nat):¬Mb (h.map bR) β b:=by
 rintro⟨id,o,bc,e1,e2,e3,e4⟩;rw[aaj]at e1
 cases hh:h[id]? with
 |none=>rw[hh]at e1;cases e1
 |some o2=>
  rw[hh]at e1;obtain rfl:=ZZ e1;exact(bD o2).2.2.2.2.1 e3
theorem Bf{h:ab}{id:Nat}{o:au}(e:(h.map bR)[id]?=some o):∃o2,h[id]?=some o2/\o=bR o2:=by
 rw[aaj]at e
 cases hh:h[id]? with
 |none=>rw[hh]at e;cases e
 |some o2=>rw[hh]at e;exact⟨o2,rfl,(ZZ e).symm⟩
theorem aZ.lock(H:aZ w F β h):aZ w (Av F h β) β (h.map bR):=by
 have hA:∀b,Av (Av F h β) (h.map bR) β b->Av F h β b:=λb hb=>hb.elim id (λhm=>absurd hm (ji h β b))
 refine⟨by simp[H.len],λb hb=>Av.lt H hb,?_,?_,?_⟩
 ·intro id o bc e1 e2 e3
  obtain⟨o2,f1,rfl⟩:=Bf e1;obtain⟨p1,p2,p3,p4,_⟩:=bD o2;exact(H.obj id o2 bc f1 e2 (λhh=>e3 (p4.2 hh))).alike (gi h) hA p2.symm p3.symm
 ·intro id dY o o' bc de bJ e1 e2 e3 e4 m1 m2
  obtain⟨o2,f1,rfl⟩:=Bf e1;exact absurd m1 (bD o2).2.2.2.2.1
 ·intro id o bc e1 e2 e3
  obtain⟨o2,f1,rfl⟩:=Bf e1;obtain⟨p1,p2,p3,p4,p5,p6⟩:=bD o2;rcases e3 with e3 |e3
  ·exact absurd e3 p5
  ·exact vQ H f1 e2 (p6.1 e3)
theorem aZ.unlock(H:aZ w F β h){w':World}{h1:ab}{β1:List (Nat×Nat)}(q2:aZ w' (Av F h β) β1 h1)(q3:dS w (h.map bR) β w' h1 β1)(yA:(h1.drop h.length).all (λo=>decide (o.mu≠.l))=true):
  (∀(v:Value) (p:PV),aD w' (Av (Av F h β) h1 β1) β1 h1 v p->aD w' (Av F (h++h1.drop h.length) β1) β1 (h++h1.drop h.length) v p)/\aZ w' F β1 (h++h1.drop h.length)/\dS w h β w' (h++h1.drop h.length) β1/\dF w w':=by
 have hn:h.length<=h1.length:=by have:=q3.len;simpa using this
 have S9:β1.length=h1.length:=q2.len
 have old:∀(id:Nat) (o:au),h[id]?=some o->h1[id]?=some (bR o)/\β1[id]?=β[id]?:=λid o ho=>by
  have e1:(h.map bR)[id]?=some (bR o):=by rw[aaj,ho];rfl
  exact q3.JD id (bR o) e1 (bD o).2.2.2.2.1
 have xG:∀(id:Nat),id<h.length->(h++h1.drop h.length)[id]?=h[id]?:=λid bU=>Z0 bU
 have Bg:∀(id:Nat),h.length<=id->(h++h1.drop h.length)[id]?=h1[id]?:=λid bU=>by
  rw[aac bU,aaB];congr 1;omega
 have al:Alike h1 (h++h1.drop h.length):=by
  refine⟨by simp;omega,λid o o' e1 e2=>?_⟩
  by_cases bU:id<h.length
  ·rw[xG id bU]at e2;rw[(old id o' e2).1]at e1;obtain rfl:=ZZ e1;obtain⟨p1,p2,p3,p4,_⟩:=bD o';exact⟨p1,p2,p3,p4⟩
  ·rw[Bg id (by omega)]at e2;rw[e1]at e2;obtain rfl:=ZZ e2;exact⟨rfl,rfl,rfl,Iff.rfl⟩
 have BR:∀b,Av F (h++h1.drop h.length) β1 b->Av (Av F h β) h1 β1 b:=by
  rintro b (hb |⟨id,o,bc,e1,e2,e3,e4⟩)
  ·exact .inl (.inl hb)
  ·by_cases bU:id<h.length
   ·rw[xG id bU]at e1;rw[(old id o e1).2]at e2;exact .inl (.inr ⟨id,o,bc,e1,e2,e3,e4⟩)
   ·rw[Bg id (by omega)]at e1;exact .inr ⟨id,o,bc,e1,e2,e3,e4⟩
 have newmu:∀(id:Nat) (o:au),h.length<=id->h1[id]?=some o->o.mu≠.l:=λid o bU ho=>by
  have:o∈h1.drop h.length:=by
   apply aae (i:=id - h.length);rw[aaB];rw[show h.length+(id - h.length)=id by omega];exact ho
  have:=Z1.1 yA o this;simpa using this
 refine⟨λv p q1=>q1.alike al BR,⟨by rw[S9,<-al.1],λb hb=>aaK (H.fin b hb) q3.size,?_,?_,?_⟩,?_,⟨q3.size,λb hb=>q3.aR b hb (ji h β b),q3.os,q3.tape,q3.output,q3.drawn⟩⟩
 ·intro id o bc e1 e2 e3
  by_cases bU:id<h.length
  ·rw[xG id bU]at e1;obtain⟨p1,p2,p3,p4,_⟩:=bD o;exact(q2.obj id (bR o) bc (old id o e1).1 e2 (λhh=>e3 (p4.1 hh))).alike al BR p2 p3
  ·rw[Bg id (by omega)]at e1;exact(q2.obj id o bc e1 e2 e3).alike al BR rfl rfl
 ·intro id dY o o' bc de bJ e1 e2 e3 e4 m1 m2
  by_cases bU:id<h.length <;>by_cases SO:dY<h.length
  ·rw[xG id bU]at e1;rw[xG dY SO]at e2;rw[(old id o e1).2]at e3;rw[(old dY o' e2).2]at e4;exact H.ig id dY o o' bc de bJ e1 e2 e3 e4 m1 m2
  ·rw[xG id bU]at e1;rw[Bg dY (by omega)]at e2;have nl:=newmu dY o' (by omega) e2
   cases hm:o'.mu with
   |m=>
    have:=q2.ig dY id o' (bR o) de bc (aaR bJ) e2 (old id o e1).1 e4 e3 hm (λhh=>by rw[(bD o).2.2.2.1]at hh;rw[m1]at hh;cases hh);exact aaR this
   |l=>exact absurd hm nl
   |f=>
    have NT:=q2.out dY o' de e2 e4 (.inr hm);rw[(old id o e1).2]at e3
    intro heq
    exact NT (.inr ⟨id,o,bc,e1,e3,m1,heq⟩)
   |x=>exact absurd hm m2
  ·rw[Bg id (by omega)]at e1;rw[xG dY SO]at e2;exact q2.ig id dY o (bR o') bc de bJ e1 (old dY o' e2).1 e3 e4 m1 (λhh=>m2 ((bD o').2.2.2.1.1 hh))
  ·rw[Bg id (by omega)]at e1;rw[Bg dY (by omega)]at e2;exact q2.ig id dY o o' bc de bJ e1 e2 e3 e4 m1 m2
 ·intro id o bc e1 e2 e3
  by_cases bU:id<h.length
  ·rw[xG id bU]at e1;rw[(old id o e1).2]at e2;exact H.out id o bc e1 e2 e3
  ·rw[Bg id (by omega)]at e1;exact λhf=>q2.out id o bc e1 e2 e3 (.inl hf)
 ·refine⟨q3.size,by simp,λb hb _=>q3.aR b hb (ji h β b),?_,?_,?_,q3.os,q3.tape,q3.output,q3.drawn⟩
  ·rintro b hb ⟨id,o,bc,e1,e2,e3,e4⟩
   by_cases bU:id<h.length
   ·rw[xG id bU]at e1;rw[(old id o e1).2]at e2;exact⟨id,o,bc,e1,e2,e3,e4⟩
   ·rw[Bg id (by omega)]at e1;exact absurd (q3.shr b hb ⟨id,o,bc,e1,e2,e3,e4⟩) (ji h β b)
  ·intro id o bc e1 e2 e3
   have bU:=ag e1;exact⟨o,bc,by rw[xG id bU];exact e1,by rw[(old id o e1).2];exact e2,e3,⟨Z5 _,λh=>h⟩,λ_=>⟨rfl,λ_=>rfl,rfl⟩⟩
  ·intro id o e1 _
   exact⟨by rw[xG id (ag e1)];exact e1,(old id o e1).2⟩
theorem sw{f:FuncId}{g:List PV->ab->Option (PV×ab)}(S:fq P f g){lv:Nat}{args:List PV}{r:PV}{h':ab}(e:dV g lv args h=some (r,h'))(H:aZ w F β h){vs:List Value}
  (ha:L2 (aD w (Av F h β) β h) vs args):mh P lv w F β h f vs r h':=by
 unfold dV at e
 split at e
 ·rename_i yJ
  refine(S args h r h' e w F β vs H ha).mono ?_;rintro en w' ⟨v,β1,q0,q1,q2,q3,q4⟩;exact⟨v,β1,q0,q1,q2,q3,λhh=>by omega⟩
 ·split at e
  ·split at e
   ·rename_i r0 h1 he
    split at e
    ·rename_i yA
     obtain⟨rfl,rfl⟩:=aaa (ZZ e);have NK:∀b,Av (Av F h β) (h.map bR) β b->Av F h β b:=λb hb=>hb.elim id (λhm=>absurd hm (ji h β b))
     refine(S args (h.map bR) r0 h1 he w (Av F h β) β vs H.lock ⟨ha.1,λj hj=>(ha.2 j hj).alike (gi h) NK⟩).mono ?_;rintro en w' ⟨v,β1,rfl,q1,q2,q3,q4⟩;obtain⟨u1,u2,u3,u4⟩:=H.unlock q2 q3 yA;exact⟨v,β1,rfl,u1 v _ q1,u2,u3,λ_=>u4⟩
    ·cases e
   ·cases e
  ·cases e
theorem ie{α:Type}{l:List α}{n i:Nat}{x:α}(e:(l.take n)[i]?=some x):i<n/\l[i]?=some x:=by
 rw[aai]at e
 split at e
 ·exact⟨by assumption,e⟩
 ·cases e
theorem aD.xH{A A':Nat->Prop}(hA:∀b,A' b->A b){n:Nat}(hn:n<=h.length){v:Value}{p:PV}(r:aD w A β h v p)(hb:dP n p=true):aD w A' (β.take n) (h.take n) v p:=by
 cases p with
 |ak id ep off len=>
  have bU:id<n:=by simpa[dP]using hb
  cases r with
  |val hs=>cases hs
  |ak _ _ _ _ _ o bc h0 h1 h2 h3 h4 h5=>
   exact .ak v id ep off len o bc h0 (by rw[aai,if_pos bU];exact h1) (by rw[aai,if_pos bU];exact h2) h3 h4 h5
 |ptr id ep i off=>
  have bU:id<n:=by simpa[dP]using hb
  cases r with
  |val hs=>cases hs
  |ptr _ _ _ _ _ o bc h0 h1 h2 h3 h4 h5=>
   exact .ptr v id ep i off o bc h0 (by rw[aai,if_pos bU];exact h1) (by rw[aai,if_pos bU];exact h2) h3 h4 h5
 |_=>exact .val ((r.Hu (by simpa[dP]using hb)).uK hA)
theorem aD.Mw{A A':Nat->Prop}(hA:∀b,A' b->A b){n:Nat}(hn:n<=h.length){v:Value}{p:PV}(r:aD w A β h v p)(hb:cH n p=true):aD w A' (β.take n) (h.take n) v p:=by
 unfold cH at hb
 split at hb
 ·obtain⟨vs,rfl,hl,hh⟩:=r.rG;exact .agg vs _ hl (λj hj=>(hh j hj).xH hA hn (fp hb hj))
 ·exact r.xH hA hn hb
theorem aD.TY{A A':Nat->Prop}(hA:∀b,A' b->A b){n:Nat}(hn:n<=h.length){v:Value}{p:PV}(r:aD w A β h v p)(hb:dQ n p=true):aD w A' (β.take n) (h.take n) v p:=by
 unfold dQ at hb
 split at hb
 ·obtain⟨vs,rfl,hl,hh⟩:=r.u6;exact .cx vs _ hl (λj hj=>(hh j hj).Mw hA hn (fp hb hj))
 ·exact r.Mw hA hn hb
theorem pE{n:Nat}{e q:PV}(hb:cH n e=true)(hq:q∈Pm.cells e):dP n q=true:=by
 cases e <;>first
  |(simp only[Pm.cells,aav]at hq;subst hq;exact hb)
  |(simp only[cH]at hb;exact Z1.1 hb q hq)
theorem Bh{run:hZ}{f:FuncId}(S:fq P f (run f)){lv:Nat}{args:List PV}{r:PV}{h':ab}(e:gP run lv f args h=some (r,h'))(H:aZ w F β h){vs:List Value}
  (ha:L2 (aD w (Av F h β) β h) vs args):mh P lv w F β h f vs r h':=by
 unfold gP at e
 split at e
 ·rename_i r0 h1 he
  have C:=sw S he H ha
  split at e
  ·rename_i hc
   obtain⟨rfl,rfl⟩:=aaa (ZZ e);simp only[Z9]at hc;refine C.mono ?_;rintro en w' ⟨v,β1,rfl,q1,q2,q3,q4⟩;have hn:=q3.len
   have hA:∀b,Av F (h1.take h.length) (β1.take h.length) b->Av F h1 β1 b:=by
    rintro b (hb |⟨id,o,bc,e1,e2,e3,e4⟩)
    ·exact .inl hb
    ·exact .inr ⟨id,o,bc,(ie e1).2,(ie e2).2,e3,e4⟩
   refine⟨v,β1.take h.length,rfl,q1.TY hA hn hc.1,⟨by simp[q2.len],q2.fin,?_,?_,?_⟩,?_,q4⟩
   ·intro id o bc e1 e2 e3
    have ez:o∈h1.take h.length:=aae e1;have eF:=Z1.1 (Z1.1 hc.2 o ez);rcases q2.obj id o bc (ie e1).2 (ie e2).2 e3 with⟨T,cs,k1,k2,k3,k4,k5⟩|⟨k0,es,clock,k1,k2,k3⟩
    ·refine .inl ⟨T,cs,k1,k2,k3,k4,λi el cX=>⟨(k5 i el cX).1,λj p hp=>?_⟩⟩;obtain⟨u,m1,m2⟩:=(k5 i el cX).2 j p hp;exact⟨u,m1,m2.xH hA hn (pE (eF el (aae cX)) (aae hp))⟩
    ·refine .inr ⟨k0,es,clock,k1,k2,λi el cX=>?_⟩;obtain⟨k,v,m,g1,g2,g3,g4⟩:=k3 i el cX;have hb:=eF el (aae cX);subst g1;exact⟨k,v,m,rfl,g2,g3.xH hA hn (pE hb (by simp[Pm.cells])),g4.xH hA hn (pE hb (by simp[Pm.cells]))⟩
   ·intro id dY o o' bc de bJ e1 e2 e3 e4 m1 m2
    exact q2.ig id dY o o' bc de bJ (ie e1).2 (ie e2).2 (ie e3).2 (ie e4).2 m1 m2
   ·intro id o bc e1 e2 e3
    exact q2.out id o bc (ie e1).2 (ie e2).2 e3
   ·refine⟨q3.size,by simp;omega,q3.aR,?_,?_,?_,q3.os,q3.tape,q3.output,q3.drawn⟩
    ·rintro b hb ⟨id,o,bc,e1,e2,e3,e4⟩;exact q3.shr b hb ⟨id,o,bc,(ie e1).2,(ie e2).2,e3,e4⟩
    ·intro id o bc e1 e2 e3
     obtain⟨o',de,f1,f2,f3,f4,f5⟩:=q3.refs id o bc e1 e2 e3;have bU:=ag e1;exact⟨o',de,by rw[aai,if_pos bU];exact f1,by rw[aai,if_pos bU];exact f2,f3,f4,f5⟩
    ·intro id o e1 e2
     obtain⟨f1,f2⟩:=q3.JD id o e1 e2;have bU:=ag e1;exact⟨by rw[aai,if_pos bU];exact f1,by rw[aai,if_pos bU];exact f2⟩
  ·obtain⟨rfl,rfl⟩:=aaa (ZZ e);exact C
 ·cases e
def WU(P:Program)(f:FuncId)(g:List PV->Option PV):Prop:=
 ∀args r,g args=some r->∀(w:World) (A:Nat->Prop) (vs:List Value),(∀b,A b->b<w.heap.size)->L2 (cj w A) vs args->
  Calls P f vs.toArray w λe w'=>∃v,e=.returned v/\cj w' A v r/\dF w w'
structure fT(C:cP):Prop where
 enters : ∀ f, (∀ h : C.mode f = .no, False) → (∀ g, C.mode f ≠ .ext g) → ∃ fn, C.P.funcs[f]? = some fn ∧ fn.body.isSome = true ∧ (fn.name == "runtime.NumGoroutine") = false
 rA:∀f g,C.mode f=.rA g->WU C.P f g
 cz:∀f g,C.mode f=.cz g->fq C.P f g
 ext:∀f g,C.mode f=.ext g->∀args r,g args=some r->∀(w:World) (A:Nat->Prop) (vs:List Value),L2 (cj w A) vs args->∃v,(callFunc f vs.toArray).run C.P w=.ok (.value v) w/\cj w A v r
theorem zk{C:cP}(K:fT C){run:hZ}{f:FuncId}(S:C.mode f=.pure\/C.mode f=.opened->fq C.P f (run f)){lv:Nat}{args:List PV}{r:PV}{h':ab}(e:dg C run lv f args h=some (r,h'))(H:aZ w F β h){vs:List Value}
  (ha:L2 (aD w (Av F h β) β h) vs args) (bJ:∀g,C.mode f≠.ext g):mh C.P lv w F β h f vs r h'/\C.mode f≠.no:=by
 unfold dg at e
 split at e
 ·cases e
 ·rename_i hm
  exact⟨Aw (S (.inl hm)) e H ha,by rw[hm];simp⟩
 ·rename_i hm
  exact⟨Bh (S (.inr hm)) e H ha,by rw[hm];simp⟩
 ·rename_i g hm
  refine⟨?_,by rw[hm];simp⟩
  split at e
  ·rename_i hv
   obtain⟨e1,rfl⟩:=dG e;rw[bu]at hv;refine(K.rA f g hm (aQ args) r e1 w (Av F h' β) vs (λb hb=>Av.lt H hb) ⟨by simp[cL,ha.1],λj hj=>?_⟩).mono ?_
   ·rw[fI];have DR:j<args.length:=by simpa[cL]using hj
    exact((ha.2 j DR).Hu (fp hv DR)).cf
   ·rintro en w' ⟨v,rfl,q1,q2⟩;exact⟨v,β,rfl,.val q1,H.JY q2,q2.Qe h' β,λ_=>q2⟩
  ·cases e
 ·rename_i g hm
  exact⟨sw (K.cz f g hm) e H ha,by rw[hm];simp⟩
 ·rename_i g hm
  exact absurd hm (bJ g)
end Go.Pm
namespace Go.Pm
variable{w:World}{F:Nat->Prop}{β:List (Nat×Nat)}{h:ab}
theorem rM{C:cP}(K:fT C){f:FuncId}(hm:C.mode f≠.no)(bJ:∀g,C.mode f≠.ext g)(args:Array Value)(w:World):(callFunc f args).run C.P w=.ok (.enter f args) w:=by
 obtain⟨fn,h1,h2,h3⟩:=K.enters f hm bJ;have hb:fn.body.isNone=false:=by cases hh:fn.body <;>simp_all
 simp only[callFunc,Sem.run_bind,run_program,Result.andThen_ok,h1,h3,hb,aad,if_false,Sem.run_pure]
def gL(C:cP)(run:hZ):Prop:=∀f,(C.mode f=.pure\/C.mode f=.opened)->fq C.P f (run f)
theorem L2.append{R:Value->PV->Prop}{vs us:List Value}{cs ds:List PV}(a:L2 R vs cs)(b:L2 R us ds):L2 R (vs++us) (cs++ds):=by
 obtain⟨a1,a2⟩:=a;obtain⟨b1,b2⟩:=b;refine⟨by simp[a1,b1],λj hj=>?_⟩
 by_cases Vt:j<cs.length
 ·have:=a2 j Vt;simp only[List.getD]at this ⊢;rwa[Z0 (by omega),Z0 Vt]
 ·have:=b2 (j - cs.length) (by simp at hj;omega);simp only[List.getD]at this ⊢;rwa[aac (by omega),aac (by omega),a1]
theorem L2.take{R:Value->PV->Prop}{vs:List Value}{cs:List PV}(a:L2 R vs cs)(k:Nat):L2 R (vs.take k) (cs.take k):=by
 refine⟨by simp[a.1],λj hj=>?_⟩;simp only[aa0]at hj;have:=a.2 j (by omega);simp only[List.getD]at this ⊢;rwa[aai,aai,if_pos (by omega),if_pos (by omega)]
theorem L2.drop{R:Value->PV->Prop}{vs:List Value}{cs:List PV}(a:L2 R vs cs)(k:Nat):L2 R (vs.drop k) (cs.drop k):=by
 refine⟨by simp[a.1],λj hj=>?_⟩;simp only[abS]at hj;have:=a.2 (k+j) (by omega);simp only[List.getD]at this ⊢;rwa[aaB,aaB]
theorem iW{C:cP}(K:fT C){run:hZ}(S:gL C run)(H:aZ w F β h){a:Act}{ρ:Nat->PV}(R:gR w (Av F h β) β h a ρ){lv:Nat}{o:Oper}{p:PV}{h':ab}(e:ar C run lv o.op ρ h=some (p,h'))
  {next:Act->World->Prop} {Q:Exit->Act->World->Prop} (hK:∀v w' β',aD w' (Av F h' β') β' h' v p->aZ w' F β' h'->dS w h β w' h' β'->(lv<=1->dF w w')->next (a.put o.dst v) w'):o.wp C.P a w next Q:=by
 have simple:uN C.P lv w F β h (execOp a.eval o) p h'->o.wp C.P a w next Q:=by
  rintro⟨v,w',β',h1,h2,h3,h4,h5⟩;unfold Oper.wp;rcases h1 with h1 |⟨h1,rfl⟩
  ·rw[h1];exact hK v w' β' h2 h3 h4 h5
  ·rw[h1];exact hK undef w' β' h2 h3 h4 h5
 unfold ar at e
 split at e
 ·rename_i c kV
  have hex:execOp a.eval o=(do let d<-resolve a.eval c o.type;invoke d.target d.args):=by
   cases o;simp only at kV;subst kV;rfl
  split at e
  ·rename_i f DP
   unfold fS at e
   split at e
   ·rename_i g di hf
    have hv:=R.ev f;rw[hf]at hv;obtain⟨cv,c1,c2,c3⟩:=hv.Ei;have qu:=(R.J3 c.args.toList).append (show L2 (aD w (Av F h β) β h) cv di from⟨c2,c3⟩)
    by_cases hx:∃q,C.mode g=.ext q
    ·obtain⟨q,hq⟩:=hx;unfold dg at e;rw[hq]at e;simp only at e
     split at e
     ·rename_i rN
      obtain⟨e1,rfl⟩:=dG e;rw[bu]at rN
      obtain⟨v,x1,x2⟩:=K.ext g q hq _ p e1 w (Av F h' β) (c.args.toList.map a.eval++cv) ⟨by simp only[cL,aa6];exact qu.1,λj hj=>by
       rw[fI];have DR:j<(c.args.toList.map (Pm.ev ρ)++di).length:=by simpa[cL]using hj
       exact((qu.2 j DR).Hu (fp rN DR)).cf⟩
      refine simple ⟨v,w,β,.inl ?_,.val x2,H,dS.refl w h' β,λ_=>dF.refl w⟩;rw[hex];simp only[resolve,DP,c1,Deferred.ofValue,Sem.run_bind,Sem.run_pure,Result.andThen_ok,invoke];rw[<-x1]
      congr 2
      apply abq;simp
     ·cases e
    have bJ:∀q,C.mode g≠.ext q:=λq hq=>hx ⟨q,hq⟩
    obtain⟨cs,hm⟩:=zk K (S g) e H qu bJ
    have fP:(execOp a.eval o).run C.P w=.ok (.enter g ((c.args.toList.map a.eval)++cv).toArray) w:=by
     rw[hex];simp only[resolve,DP,c1,Deferred.ofValue,Sem.run_bind,Sem.run_pure,Result.andThen_ok,invoke];rw[rM K hm bJ]
     congr 2
     apply abq;simp
    unfold Oper.wp;rw[fP];refine cs.mono ?_;rintro en w' ⟨v,β',rfl,q1,q2,q3,q4⟩;exact hK v w' β' q1 q2 q3 q4
   ·rename_i g kk di hf
    have hv:=R.ev f;rw[hf]at hv;obtain⟨cv,c1,c2,c3⟩:=hv.Og;have DS:L2 (aD w (Av F h β) β h) cv di:=⟨c2,c3⟩;have qu:=((DS.take kk).append (R.J3 c.args.toList)).append (DS.drop kk)
    by_cases hx:∃q,C.mode g=.ext q
    ·obtain⟨q,hq⟩:=hx;unfold dg at e;rw[hq]at e;simp only at e
     split at e
     ·rename_i rN
      obtain⟨e1,rfl⟩:=dG e;rw[bu]at rN
      obtain⟨v,x1,x2⟩:=K.ext g q hq _ p e1 w (Av F h' β) (cv.take kk++c.args.toList.map a.eval++cv.drop kk) ⟨by simp only[cL,aa6];exact qu.1,λj hj=>by
       rw[fI];have DR:j<(di.take kk++c.args.toList.map (Pm.ev ρ)++di.drop kk).length:=by simpa[cL]using hj
       exact((qu.2 j DR).Hu (fp rN DR)).cf⟩
      refine simple ⟨v,w,β,.inl ?_,.val x2,H,dS.refl w h' β,λ_=>dF.refl w⟩;rw[hex];simp only[resolve,DP,c1,Deferred.ofValue,Sem.run_bind,Sem.run_pure,Result.andThen_ok,invoke];rw[<-x1]
      congr 2
      apply abq;simp
     ·cases e
    have bJ:∀q,C.mode g≠.ext q:=λq hq=>hx ⟨q,hq⟩
    obtain⟨cs,hm⟩:=zk K (S g) e H qu bJ
    have fP:(execOp a.eval o).run C.P w=.ok (.enter g (cv.take kk++c.args.toList.map a.eval++cv.drop kk).toArray) w:=by
     rw[hex];simp only[resolve,DP,c1,Deferred.ofValue,Sem.run_bind,Sem.run_pure,Result.andThen_ok,invoke];rw[rM K hm bJ]
     congr 2
     apply abq;simp
    unfold Oper.wp;rw[fP];refine cs.mono ?_;rintro en w' ⟨v,β',rfl,q1,q2,q3,q4⟩;exact hK v w' β' q1 q2 q3 q4
   ·cases e
  ·rename_i b hcb
   refine simple ?_
   have hb:∀cb cb',builtin b c.argTypes o.type cb (c.args.map a.eval)=builtin b c.argTypes o.type cb' (c.args.map a.eval):=by
    intro cb cb'
    cases b <;>first |rfl |simp[bo]at e
   have fP:(execOp a.eval o).run C.P w=(builtin b c.argTypes o.type #[] (c.args.map a.eval)).run C.P w:=by
    rw[hex];simp only[resolve,hcb,Sem.run_bind,Sem.run_pure,Result.andThen_ok,invoke];rw[hb _ #[]]
   obtain⟨v,w',β',h1,h2⟩:=BY (ty:=o.type) (cb:=#[]) H R e;refine⟨v,w',β',?_,h2⟩;rw[fP];exact h1
  ·cases e
 ·rename_i hnc
  exact simple (Ej H R hnc e)
structure SR(N:Nat)(w:World)(F:Nat->Prop)(β:List (Nat×Nat))(s:St)(a:Act):Prop where
 hr:aZ w F β s.h
 er:gR w (Av F s.h β) β s.h a s.ρ
 df:a.defers=[]
 sz:N<=a.tmps.size
theorem Kl(a:Act)(d:Option Nat)(v:Value)(t:Nat)(N:Nat)(hd:∀k,d=some k->k<a.tmps.size):(a.put d v).tmps.getD t undef=if d=some t then v else a.tmps.getD t undef:=by
 cases d with
 |none=>simp[Act.put]
 |some k=>
  have:=hd k rfl
  by_cases hk:k=t
  ·subst hk;simp[Act.put,this]
  ·have:¬(some k=some t):=λh=>hk (ZZ h)
   simp[Act.put,this,hk]
theorem nA(ρ:Nat->PV)(d:Option Nat)(p:PV)(t:Nat):b9 ρ d p t=if d=some t then p else ρ t:=by
 cases d with
 |none=>simp[b9]
 |some k=>
  by_cases hk:t=k
  ·subst hk;simp[b9,nj]
  ·have:¬(some k=some t):=λh=>hk (ZZ h).symm
   simp[b9,nj,hk,this]
theorem fY(a:Act)(d:Option Nat)(v:Value):(a.put d v).tmps.size=a.tmps.size:=by cases d <;>simp[Act.put]
theorem dM(a:Act)(d:Option Nat)(v:Value):(a.put d v).defers=a.defers:=by cases d <;>simp[Act.put]
theorem gR.put{A:Nat->Prop}{a:Act}{ρ:Nat->PV}(r:gR w A β h a ρ){d:Option Nat}(hd:∀k,d=some k->k<a.tmps.size){v:Value}{p:PV}(hv:aD w A β h v p):gR w A β h (a.put d v) (b9 ρ d p):=by
 intro t
 rw[Kl a d v t 0 hd,nA]
 split
 ·exact hv
 ·exact r t
theorem gR.mono{w':World}{h':ab}{β':List (Nat×Nat)}(s:dS w h β w' h' β'){a:Act}{ρ:Nat->PV}(r:gR w (Av F h β) β h a ρ):gR w' (Av F h' β') β' h' a ρ:=λt=>(r t).mono s
theorem cQ{A:Nat->Prop}{a:Act}{ρ:Nat->PV}(r:gR w A β h a ρ){ops:Array Oper}{o:Oper}{b:Bool}(e:bm ops o ρ=some b):Region.wanted o (yielded ops a.tmps)=b:=by
 unfold bm at e;unfold Region.wanted
 split at e
 ·rename_i hg
  rw[hg];exact ZZ e
 ·rename_i j want hg
  rw[hg];simp only
  split at e
  ·rename_i hd
   obtain rfl:=ZZ e;have:((ops[j]?).bind (·.dst))=none:=by simpa using hd
   simp[yielded,this]
  ·rename_i d hd
   have JE:((ops[j]?).bind (·.dst))=some d:=by simpa using hd
   have hr:=r d
   split at e
   ·rename_i bb hb
    obtain rfl:=ZZ e;rw[hb]at hr;have hv:=hr.gd
    have:a.tmps[d]?=some (.bool bb):=by
     rcases aaD d a.tmps.size with cI |BZ
     ·simp[cI]at hv;simp[cI,hv]
     ·simp[abJ BZ,undef]at hv
    simp[yielded,JE,this]
   ·rename_i hb
    obtain rfl:=ZZ e;rw[hb]at hr;have hv:=hr.HG;rcases aaD d a.tmps.size with cI |BZ
    ·simp[cI]at hv;simp[yielded,JE,cI,hv]
    ·simp[yielded,JE,abJ BZ]
   ·cases e
def jv(N:Nat)(o:Oper):Bool:=match o.dst with |some d=>decide (d<N)|none=>true
theorem gS{N:Nat}{o:Oper}(hd:jv N o=true){a:Act}(hs:N<=a.tmps.size):∀k,o.dst=some k->k<a.tmps.size:=by
 intro k hk
 have:k<N:=by simpa[jv,hk]using hd
 exact aaK this hs
theorem zl{C:cP}(K:fT C){run:hZ}(S:gL C run){N:Nat}{s s':St}{a:Act}(R:SR N w F β s a){ops:Array Oper}{o:Oper}(hd:jv N o=true)(e:fF C run ops o s=some s')
  {next:Act->World->Prop} {Q:Exit->Act->World->Prop} (hK:∀a' w' β',SR N w' F β' s' a'->dS w s.h β w' s'.h β'->next a' w'):
  if Region.wanted o (yielded ops a.tmps)then o.wp C.P a w next Q else next (a.put o.dst undef) w:=by
 unfold fF at e;have DT:=gS hd R.sz
 split at e
 ·rename_i hw
  rw[cQ R.er hw,if_pos rfl]
  split at e
  ·rename_i v h' hv
   obtain rfl:=ZZ e;refine iW K S R.hr R.er hv (λu w' β' q1 q2 q3 _=>hK _ w' β' ⟨q2,(R.er.mono q3).put DT q1,by rw[dM];exact R.df,by rw[fY];exact R.sz⟩ q3)
  ·cases e
 ·rename_i hw
  rw[cQ R.er hw,if_neg (by simp)];obtain rfl:=ZZ e;exact hK _ w β ⟨R.hr,R.er.put DT .undef,by rw[dM];exact R.df,by rw[fY];exact R.sz⟩ (dS.refl w s.h β)
 ·cases e
theorem Ek{C:cP}(K:fT C){run:hZ}(S:gL C run){N:Nat}{ops:Array Oper}{Q:Exit->Act->World->Prop}(hd:ops.toList.all (jv N)=true):
  ∀(l:List Oper) (k:Nat) {w:World} {β:List (Nat×Nat)} {s s':St} {a:Act},ops.toList.drop k=l->SR N w F β s a->dC C run ops l s=some s'->
   (∀a' w' β',SR N w' F β' s' a'->dS w s.h β w' s'.h β'->Q .normal a' w')->wpOps C.P ops Q (List.map (·+k) (List.range l.length)) a w:=by
 intro l
 induction l with
 |nil=>
  intro k w β s s' a hl R e hQ
  simp[dC]at e;subst e;simpa[wpOps]using hQ a w β R (dS.refl w s.h β)
 |cons o r ih=>
  intro k w β s s' a hl R e hQ
  simp only[dC]at e
  have hk:ops[k]?=some o:=by
   rw[<-aaw];have:(ops.toList.drop k)[0]?=some o:=by rw[hl];rfl
   rwa[aaB]at this
  have hr:ops.toList.drop (k+1)=r:=by
   have:=congrArg (List.drop 1) hl;rwa[List.drop_drop]at this
  have wj:List.map (·+k) (List.range (o::r).length)=k::List.map (·+(k+1)) (List.range r.length):=by
   rw[Z4,aca];simp only[aah,aan,ab4]
   congr 1
   apply aba
   intro x _
   simp;omega
  rw[wj];simp only[wpOps,hk]
  split at e
  ·rename_i s1 he
   have Vu:jv N o=true:=Z1.1 hd o (by
    have:o∈ops.toList.drop k:=by rw[hl];simp
    exact aaI this)
   have:=zl K S R Vu he (Q:=Q) (next:=wpOps C.P ops Q (List.map (·+(k+1)) (List.range r.length))) (λa' w' β' R' S'=>ih (k+1) hr R' e (λa2 w2 β2 R2 S2=>hQ a2 w2 β2 R2 (S'.trans S2)))
   split
   ·rename_i hw;rw[if_pos hw]at this;exact .inl this
   ·rename_i hw;rw[if_neg hw]at this;exact this
  ·cases e
theorem HI{C:cP}(K:fT C){run:hZ}(S:gL C run){N:Nat}{ops:Array Oper}{id:Nat}{Q:Exit->Act->World->Prop}(hd:ops.toList.all (jv N)=true){s s':St}{a:Act}(R:SR N w F β s a)
  (e:dC C run ops ops.toList s=some s') (hQ:∀a' w' β',SR N w' F β' s' a'->dS w s.h β w' s'.h β'->Q .normal a' w'):(Code.region id ops false).wp C.P Q a w:=by
 refine wp_region ?_;have:=Ek K S hd ops.toList 0 (by simp) R e hQ;simpa using this
end Go.Pm
