/-
  A part of the library Pm (joined by program). Conditions: none.
-/
import Derived.Test.YtimogkojklpdnaaGreatDoorPzAA
import Derived.Test.YtimogkojklpdnaaGreatDoorPzAC
import Derived.Test.YtimogkojklpdnaaGreatDoorPzAD
set_option linter.unusedVariables false
set_option linter.unusedSimpArgs false
set_option linter.unnecessarySimpa false
namespace Go.Pm
abbrev Al:=List (Nat×PV)
inductive Rn(p:Prop):Prop
 |go (k:p)
theorem Rn.out{p:Prop}(h:Rn p):p:=h.casesOn id
inductive qR(p a b:Prop):Prop
 |tt (k:Rn a) (h:p:=by first |assumption |omega |decide)
 |ff (k:Rn b) (h:¬p:=by first |assumption |omega |decide)
 |mk (t:p->Rn a) (f:¬p->Rn b)
theorem qR.out{p a b:Prop}(h:qR p a b):(p/\a)\/(¬p/\b):=by
 cases h with
 |tt k h=>exact .inl ⟨h,k.out⟩
 |ff k h=>exact .inr ⟨h,k.out⟩
 |mk t f=>
  by_cases hp:p
  ·exact .inl ⟨hp,(t hp).out⟩
  ·exact .inr ⟨hp,(f hp).out⟩
inductive Wr(k:IntKind)(c:Int)(K:Int->Prop):Prop
 |mk (kk:Rn (K c)) (h:k.wrap c=c:=by first |exact jh (by omega) (by omega)|exact Ph (by omega) (by omega))
 |raw (c':Int) (h:k.wrap c=c') (kk:Rn (K c'))
theorem Wr.out{k:IntKind}{c:Int}{K:Int->Prop}(h:Wr k c K):K (k.wrap c):=by
 cases h with
 |mk kk h=>rw[h];exact kk.out
 |raw c' h kk=>rw[h];exact kk.out
inductive Sd(p a:Prop):Prop
 |mk (k:Rn a) (h:p:=by first |assumption |omega |decide |rfl |(dsimp only;omega)|(simp;done)|(simp;omega))
theorem Sd.out{p a:Prop}(h:Sd p a):p/\a:=by cases h with |mk k h=>exact⟨h,k.out⟩
theorem pt{h J:ab}{id ep:Nat}{o:au}(e:getM h id ep=some o):getM (h++J) id ep=some o:=by
 obtain⟨h1,h2,h3⟩:=getM_some e;exact bg (by rw[Zv (ag h1)];exact h1) h2 h3
inductive C8(h:ab)(id ep:Nat)(K:au->Prop):Prop
 |mk {o:au} (kk:Rn (K o)) (ho:getM h id ep=some o:=by first |exact bg (by assumption) rfl (by first |assumption |simp)|rfl |exact kK |exact pt (bg (by assumption) rfl (by first |assumption |simp))|exact pt kK |exact pt (pt (bg (by assumption) rfl (by first |assumption |simp))))
theorem C8.out{h:ab}{id ep:Nat}{K:au->Prop}(x:C8 h id ep K):∃o,getM h id ep=some o/\K o:=by cases x with |mk kk ho=>exact⟨_,ho,kk.out⟩
inductive O5(es:List PV)(i:Int)(sz:Nat)(K:List PV->Prop):Prop
 |mk {n:Nat} {v:PV} (kk:Rn (K (cells v))) (hi:i=(n:Int):=by first |rfl |exact(Int.natCast_succ _).symm |exact(abQ (by omega)).symm) (hv:es[n]?=some v:=by first |assumption |rfl) (hl:(cells v).length=sz:=by rfl)
theorem O5.out{es:List PV}{i:Int}{sz:Nat}{K:List PV->Prop}(x:O5 es i sz K):∃(n:Nat) (v:PV),i=n/\es[n]?=some v/\(cells v).length=sz/\K (cells v):=by
 cases x with |mk kk h1 h2 h3=>exact⟨_,_,h1,h2,h3,kk.out⟩
inductive W7(s:ByteArray)(i:Int)(K:UInt8->Prop):Prop
 |mk {n:Nat} {b:UInt8} (kk:Rn (K b)) (hi:i=(n:Int):=by first |rfl |exact(Int.natCast_succ _).symm |exact(abQ (by omega)).symm) (hv:s[n]?=some b:=by first |assumption |rfl)
theorem W7.out{s:ByteArray}{i:Int}{K:UInt8->Prop}(x:W7 s i K):∃(n:Nat) (b:UInt8),i=n/\s[n]?=some b/\K b:=by cases x with |mk kk h1 h2=>exact⟨_,_,h1,h2,kk.out⟩
inductive MP(o:au):ab->ab->Nat->Prop
 |nil:MP o [] [o] 0
 |cons {x:au} {l l':ab} {n:Nat}:MP o l l' n->MP o (x::l) (x::l') (n+1)
 |gen {l:ab}:MP o l (l++[o]) l.length
theorem MP.eq{o:au}{l l':ab}{n:Nat}(a:MP o l l' n):l'=l++[o]/\n=l.length:=by
 induction a with
 |nil=>exact⟨rfl,rfl⟩
 |cons _ ih=>obtain⟨rfl,rfl⟩:=ih;exact⟨rfl,rfl⟩
 |gen=>exact⟨rfl,rfl⟩
inductive uq(h:ab)(o:au)(K:Nat->ab->Prop):Prop
 |mk {n:Nat} {h':ab} (kk:Rn (K n h')) (ha:MP o h h' n:=by repeat(first |exact .nil |apply MP.cons |exact .gen))
theorem uq.out{h:ab}{o:au}{K:Nat->ab->Prop}(x:uq h o K):K h.length (h++[o]):=by
 cases x with |mk kk ha=>obtain⟨rfl,rfl⟩:=ha.eq;exact kk.out
def HR(h:ab):Prop:=∀o∈h,o.mu≠.x/\bw (λi=>decide (i<h.length)) o.es=true
mutual
theorem vX{f g:Nat->Bool}(hi:∀i,f i=true->g i=true):∀p,br f p=true->br g p=true
 | .int ..,_ | .bool _,_ | .str _,_ | .dW,_ | .aG,_ | .gf,_ | .aa ..,_ | .eC _,_ | .undef,_ | .any,_=>rfl
 | .aj ..,h=>by simp only[br]at h ⊢;exact hi _ h
 | .ptr ..,h=>by simp only[br]at h ⊢;exact hi _ h
 | .cB _,h=>by simp only[br]at h ⊢;exact hi _ h
 | .agg cs,h=>by simp only[br]at h ⊢;exact eB hi cs h
 | .cm cs,h=>by simp only[br]at h ⊢;exact eB hi cs h
 | .fn _ cs,h=>by simp only[br]at h ⊢;exact eB hi cs h
 | .mR _ _ cs,h=>by simp only[br]at h ⊢;exact eB hi cs h
theorem eB{f g:Nat->Bool}(hi:∀i,f i=true->g i=true):∀cs,bw f cs=true->bw g cs=true
 |[],_=>rfl
 |c::r,h=>by
  simp only[bw,ZD]at h ⊢;exact⟨vX hi c h.1,eB hi r h.2⟩
end
theorem HR.PL{h:ab}(H:HR h){i:Nat}(hi:i<h.length):aL h i=true:=by
 unfold aL;rw[Zy hi];simpa using(H _ (Z2 hi)).1
theorem HR.closed{h:ab}(H:HR h):aR h=true:=by
 unfold aR;rw[Zw]
 intro o ho
 rw[eB (λi hi=>H.PL (of_decide_eq_true hi)) _ (H o ho).2];simp
theorem HV.hr{h:ab}(H:HV h):HR h:=λo ho=>⟨(H o ho).1,bq _ _ (H o ho).2⟩
theorem HR.ct{h J:ab}(H:HR h)(hJ:∀o∈J,o.mu≠.x/\bw (λi=>decide (i<h.length+J.length)) o.es=true):HR (h++J):=by
 intro o ho
 rw[Zx];rcases ZE.1 ho with ho |ho
 ·exact⟨(H o ho).1,eB (λi hi=>by have:=of_decide_eq_true hi;exact decide_eq_true (by omega)) _ (H o ho).2⟩
 ·exact hJ o ho
theorem HR.dE{h J:ab}(H:HR h)(hJ:HV J):HR (h++J):=H.ct λo ho=>⟨(hJ o ho).1,bq _ _ (hJ o ho).2⟩
theorem HR.Ka{h:ab}(H:HR h){o:au}(h1:o.mu≠.x:=by simp)(h2:bw (λi=>decide (i<h.length+1)) o.es=true:=by simp[bw,br];omega):HR (h++[o]):=H.ct λo' ho=>by
 obtain rfl:=ZY.1 ho;exact⟨h1,h2⟩
theorem HR.set{h:ab}(H:HR h)(id:Nat){o:au}(h1:o.mu≠.x:=by simp)(h2:bw (λi=>decide (i<h.length)) o.es=true:=by simp[bw,br];omega):HR (h.set id o):=by
 intro o' ho
 rw[abK];rcases aaQ ho with ho |rfl
 ·exact H o' ho
 ·exact⟨h1,h2⟩
structure LR(H:ab)(v:PV)(sz:Nat)(fq:List PV)(r:PV)(h':ab):Prop where
 out:Out sz h' r fq
 hr:HR h'
 len:H.length<=h'.length
 fr:∀j,j<H.length->(∀ep n,v≠.aj j ep 0 n)->h'[j]?=H[j]?
 ref:∀j ep n,r=.aj j ep 0 n->(∃gV n',v=.aj j gV 0 n')\/H.length<=j
inductive O6(h:ab)(sz:Nat)(v:PV)(ys:List PV)(K:PV->ab->Prop):Prop
 |lp {es:List PV} (kk:∀v' h',LP h v sz (es++ys) v' h'->Rn (K v' h')) (ho:Out sz h v es:=by first |assumption |exact .inl ⟨rfl,rfl⟩) (yy:du sz ys:=by first |rfl |(simp;done)) (hn:es.length+ys.length<1000000000:=by first |omega |(simp only[ZA,Z'];omega))
   (D6:ar (es++ys)=true:=by simp) (hH:HV h:=by first |assumption |exact HV.nil)
 |lr {es:List PV} (kk:∀v' h',LR h v sz (es++ys) v' h'->Rn (K v' h')) (ho:Out sz h v es:=by first |assumption |exact .inl ⟨rfl,rfl⟩) (yy:du sz ys:=by first |rfl |(simp;done)) (hn:es.length+ys.length<1000000000:=by first |omega |(simp only[ZA,Z'];omega))
   (D6:bw (λi=>decide (i<h.length)) (es++ys)=true:=by first |exact bq _ _ (by simp)|(simp[bw,br];done)) (hH:HR h:=by assumption)
 |nn {full:Bool} {es:List PV} (kk:Rn (K (.aa full es) h)) (nR:ys=[]) (hv:v=.aa full es:=by rfl)
 |sn {es:List PV} (kk:Rn (K (.aj h.length 0 0 (es.length+ys.length)) (h++[⟨.m,0,sz,es++ys⟩]))) (bI:ys.isEmpty=false) (hn:es.length+ys.length<1000000000) (hv:v=.aa true es:=by rfl) (yy:du sz ys:=by first |rfl |(simp;done)) (heo:du sz es:=by first |rfl |(simp;done))
inductive Bw(C:cK)(op:Op)(L:Al)(h:ab)(K:PV->ab->Prop):Prop
 |mk {v:PV} {h':ab} (hc:∀run ρ,ao C run 2 op (al L ρ) h=some (v,h')) (kk:Rn (K v h'))
theorem Bw.out{C:cK}{op:Op}{L:Al}{h:ab}{K:PV->ab->Prop}(x:Bw C op L h K):∃v h',(∀run ρ,ao C run 2 op (al L ρ) h=some (v,h'))/\K v h':=by cases x with |mk hc kk=>exact⟨_,_,hc,kk.out⟩
inductive AR(C:cK)(op:Op)(L:Al)(K:PV->Prop):Prop
 |mk {v:PV} (hc:∀run lv ρ h,ao C run lv op (al L ρ) h=some (v,h)) (kk:Rn (K v))
theorem AR.out{C:cK}{op:Op}{L:Al}{K:PV->Prop}(x:AR C op L K):∃v,(∀run lv ρ h,ao C run lv op (al L ρ) h=some (v,h))/\K v:=by cases x with |mk hc kk=>exact⟨_,hc,kk.out⟩
inductive oA(C:cK)(op:Op)(L:Al)(h:ab)(K:PV->Prop):Prop
 |mk {v:PV} (hc:∀run lv ρ,ao C run lv op (al L ρ) h=some (v,h)) (kk:Rn (K v))
theorem oA.out{C:cK}{op:Op}{L:Al}{h:ab}{K:PV->Prop}(x:oA C op L h K):∃v,(∀run lv ρ,ao C run lv op (al L ρ) h=some (v,h))/\K v:=by cases x with |mk hc kk=>exact⟨_,hc,kk.out⟩
def yi{α:Type}:List α->Nat->Option α
 |[],_=>none
 |a::_,0=>some a
 |_::l,n+1=>yi l n
theorem pS{α:Type}:∀(l:List α) (n:Nat),yi l n=l[n]?
 |[],n=>by simp[yi]
 |a::l,0=>by simp[yi]
 |a::l,n+1=>by simp[yi,pS l n]
def nJ:Nat->List PV->(List PV->Prop)->Prop
 |0,l,k=>k l
 |n+1,_::l,k=>nJ n l k
 |_+1,[],_=>False
theorem iI:∀{n:Nat} {l:List PV} {k:List PV->Prop},nJ n l k->n<=l.length/\k (l.drop n)
 |0,l,k,h=>⟨by omega,h⟩
 |n+1,_::l,k,h=>by obtain⟨h1,h2⟩:=iI (n:=n) h;exact⟨by simp;omega,h2⟩
 |_+1,[],_,h=>h.elim
def xw:Nat->List PV->(List PV->Prop)->Prop
 |0,_,k=>k []
 |n+1,c::l,k=>xw n l λr=>k (c::r)
 |_+1,[],_=>False
theorem mN:∀{n:Nat} {l:List PV} {k:List PV->Prop},xw n l k->n<=l.length/\k (l.take n)
 |0,l,k,h=>⟨by omega,h⟩
 |n+1,c::l,k,h=>by obtain⟨h1,h2⟩:=mN (n:=n) h;exact⟨by simp;omega,h2⟩
 |_+1,[],_,h=>h.elim
def IQ:Nat->List PV->List PV->(List PV->Prop)->Prop
 |0,cs,[],k=>k cs
 |0,_::cs,v::vs,k=>IQ 0 cs vs λr=>k (v::r)
 |n+1,c::cs,vs,k=>IQ n cs vs λr=>k (c::r)
 |0,[],_::_,_=>False
 |_+1,[],_,_=>False
theorem rS:∀{n:Nat} {cs vs:List PV} {k:List PV->Prop},IQ n cs vs k->n+vs.length<=cs.length/\k (cs.take n++vs++cs.drop (n+vs.length))
 |0,cs,[],k,h=>⟨by simp,by simpa[IQ]using h⟩
 |0,_::cs,v::vs,k,h=>by obtain⟨h1,h2⟩:=rS (n:=0) (cs:=cs) h;exact⟨by simp at h1 ⊢;omega,by simpa using h2⟩
 |n+1,c::cs,vs,k,h=>by
  obtain⟨h1,h2⟩:=rS (n:=n) h;exact⟨by simp;omega,by rw[show n+1+vs.length=(n+vs.length)+1 by omega];simpa using h2⟩
 |0,[],_::_,_,h=>h.elim
 |_+1,[],_,_,h=>h.elim
def nM(L:Al):List Operand->(List PV->Prop)->Prop
 |[],k=>k []
 |x::xs,k=>match cG L x with
  |some v=>nM L xs λr=>k (v::r)
  |none=>False
theorem iJ{L:Al}:∀{xs:List Operand} {k:List PV->Prop},nM L xs k->∃vs,xf L xs=some vs/\k vs
 |[],k,h=>⟨[],rfl,h⟩
 |x::xs,k,h=>by
  unfold nM at h
  split at h
  ·rename_i v hv
   obtain⟨vs,e,hk⟩:=iJ h;exact⟨v::vs,by simp[xf,hv,e],hk⟩
  ·exact h.elim
def ur:List PV->List PV->(List PV->Prop)->Prop
 |[],b,k=>k b
 |a::l,b,k=>ur l b λr=>k (a::r)
theorem jR:∀{a b:List PV} {k:List PV->Prop},ur a b k->k (a++b)
 |[],_,_,h=>h
 |_::l,b,k,h=>jR (a:=l) h
variable{C:cK}(T:lz C.P)
section
variable{ρ:Nat->PV}{L:Al}{h:ab}
theorem O7(a:Int):a.fdiv (2^ (min (1:Int).toNat 64))=a / 2:=by
 show a.fdiv 2=a / 2;rw[Int.fdiv_eq_ediv_of_nonneg _ (by omega)]
inductive O8(a b:Int)(bits:Nat)(K:Int->Prop):Prop
 |mk {c:Int} (kk:Rn (K c)) (h:a.fdiv (2^ (min b.toNat bits))=c:=by first |exact O7 _ |rfl) (h0:0<=b:=by omega)
theorem O8.out{a b:Int}{bits:Nat}{K:Int->Prop}(x:O8 a b bits K):0<=b/\K (a.fdiv (2^ (min b.toNat bits))):=by
 cases x with |mk kk h h0=>rw[h];exact⟨h0,kk.out⟩
inductive Qd(k:IntKind)(c:Int)(K:Int->Prop):Prop
 |mk (c':Int) (h:k.wrap c=c') (kk:Rn (K c'))
theorem Qd.out{k:IntKind}{c:Int}{K:Int->Prop}(h:Qd k c K):K (k.wrap c):=by
 cases h with
 |mk c' h kk=>rw[h];exact kk.out
inductive O9(k:IntKind)(a b:Int)(K:Int->Prop):Prop
 |mk (c:Int) (h:k.wrap (a * 2^ (min b.toNat k.bits))=c) (h0:0<=b) (kk:Rn (K c))
theorem O9.out{k:IntKind}{a b:Int}{K:Int->Prop}(x:O9 k a b K):0<=b/\K (k.wrap (a * 2^ (min b.toNat k.bits))):=by
 cases x with |mk c h h0 kk=>rw[h];exact⟨h0,kk.out⟩
def Wd(k:IntKind)(op:BinOp)(a b:Int)(K:PV->Prop):Prop:=
 match op with
 | .eql=>qR (a=b) (K (.bool true)) (K (.bool false))
 | .neq=>qR (a=b) (K (.bool false)) (K (.bool true))
 | .lss=>qR (a<b) (K (.bool true)) (K (.bool false))
 | .leq=>qR (a<=b) (K (.bool true)) (K (.bool false))
 | .gtr=>qR (b<a) (K (.bool true)) (K (.bool false))
 | .geq=>qR (b<=a) (K (.bool true)) (K (.bool false))
 | .add=>Wr k (a+b) λc=>K (.int k c)
 | .sub=>Wr k (a - b) λc=>K (.int k c)
 | .mul=>Wr k (a * b) λc=>K (.int k c)
 | .quo=>Sd (b≠0) (Wr k (a.tdiv b) λc=>K (.int k c))
 | .rem=>Sd (b≠0) (K (.int k (a.tmod b)))
 | .and=>Qd k (BitVec.ofInt k.bits a&&&BitVec.ofInt k.bits b).toNat λc=>K (.int k c)
 | .or=>Qd k (BitVec.ofInt k.bits a |||BitVec.ofInt k.bits b).toNat λc=>K (.int k c)
 | .xor=>Qd k (BitVec.ofInt k.bits a^^^BitVec.ofInt k.bits b).toNat λc=>K (.int k c)
 |_=>False
theorem jZ{p:Prop}{x:PV->Prop}{u v c:Bool}(h:qR p (x (.bool u)) (x (.bool v)))(h1:p->c=u)(h2:¬p->c=v):x (.bool c):=by
 rcases h.out with⟨h3,h4⟩|⟨h3,h4⟩
 ·rw[h1 h3];exact h4
 ·rw[h2 h3];exact h4
theorem Mn{k:IntKind}{op:BinOp}{a b:Int}{K:PV->Prop}(h:Wd k op a b K):∃v,(∀t,fe C.P op t (.int k a) (.int k b)=some v)/\K v:=by
 cases op with
 |eql=>exact⟨_,λt=>by simp only[fe,gy];rfl,jZ h (λh=>by simp[h]) (λh=>by simp[h])⟩
 |neq=>exact⟨_,λt=>by simp only[fe,gy];rfl,jZ h (λh=>by simp[h]) (λh=>by simp[h])⟩
 |lss=>exact⟨_,λt=>by simp only[fe,gy];rfl,jZ h (λh=>by simp[h]) (λh=>by simp[h])⟩
 |leq=>exact⟨_,λt=>by simp only[fe,gy];rfl,jZ h (λh=>by simp[h]) (λh=>by simp[h])⟩
 |gtr=>exact⟨_,λt=>by simp only[fe,gy];rfl,jZ h (λh=>by simp[h]) (λh=>by simp[h])⟩
 |geq=>exact⟨_,λt=>by simp only[fe,gy];rfl,jZ h (λh=>by simp[h]) (λh=>by simp[h])⟩
 |add=>exact⟨_,λt=>by simp only[fe,gy];rfl,Wr.out h⟩
 |sub=>exact⟨_,λt=>by simp only[fe,gy];rfl,Wr.out h⟩
 |mul=>exact⟨_,λt=>by simp only[fe,gy];rfl,Wr.out h⟩
 |quo=>obtain⟨h1,h2⟩:=Sd.out h;exact⟨_,λt=>by simp only[fe,gy,if_true,if_neg h1],Wr.out h2⟩
 |rem=>obtain⟨h1,h2⟩:=Sd.out h;exact⟨_,λt=>by simp only[fe,gy,if_true,if_neg h1],h2⟩
 |and=>exact⟨_,λt=>by simp only[fe,gy];rfl,Qd.out h⟩
 |or=>exact⟨_,λt=>by simp only[fe,gy];rfl,Qd.out h⟩
 |xor=>exact⟨_,λt=>by simp only[fe,gy];rfl,Qd.out h⟩
 |_=>exact False.elim h
def We(op:BinOp)(a b:ByteArray)(K:PV->Prop):Prop:=
 match op with
 | .eql=>qR (a.toList=b.toList) (K (.bool true)) (K (.bool false))
 | .neq=>qR (a.toList=b.toList) (K (.bool false)) (K (.bool true))
 | .lss=>qR (Op.bytesLess a.toList b.toList=true) (K (.bool true)) (K (.bool false))
 | .gtr=>qR ((!(Op.bytesLess a.toList b.toList ||a.toList==b.toList))=true) (K (.bool true)) (K (.bool false))
 | .leq=>qR ((Op.bytesLess a.toList b.toList ||a.toList==b.toList)=true) (K (.bool true)) (K (.bool false))
 | .geq=>qR (Op.bytesLess a.toList b.toList=true) (K (.bool false)) (K (.bool true))
 | .add=>Sd (a.size+b.size<1000000000) (K (.str (a++b)))
 |_=>False
theorem Mo{op:BinOp}{a b:ByteArray}{K:PV->Prop}(h:We op a b K):∃v,(∀t,fe C.P op t (.str a) (.str b)=some v)/\K v:=by
 cases op with
 |eql=>exact⟨_,λt=>by simp only[fe,lF];rfl,jZ h (λh=>by simp[h]) (λh=>by simp[h])⟩
 |neq=>exact⟨_,λt=>by simp only[fe,lF];rfl,jZ h (λh=>by simp[h]) (λh=>by simp[h])⟩
 |lss=>exact⟨_,λt=>by simp only[fe,lF],jZ h (λh=>h) (λh=>by simpa using h)⟩
 |gtr=>exact⟨_,λt=>by simp only[fe,lF],jZ h (λh=>h) (λh=>by simpa using h)⟩
 |leq=>exact⟨_,λt=>by simp only[fe,lF],jZ h (λh=>h) (λh=>by simpa using h)⟩
 |geq=>exact⟨_,λt=>by simp only[fe,lF];rfl,jZ h (λh=>by simp[h]) (λh=>by simpa using h)⟩
 |add=>
  obtain⟨h1,h2⟩:=Sd.out h;exact⟨_,λt=>by simp only[fe,lF];rw[if_neg (by show¬((a.size+b.size:Nat):Int)>9223372036854775807;omega)],h2⟩
 |_=>exact False.elim h
def lu(L:Al)(x:Operand)(K:PV->Prop):Prop:=match cG L x with |some v=>K v |none=>False
theorem bA{x:Operand}{K:PV->Prop}(h:lu L x K):∃v,cG L x=some v/\K v:=by
 unfold lu at h
 split at h
 ·exact⟨_,by assumption,h⟩
 ·exact h.elim
def Mp(t:TypeId)(cs:List PV)(off:Nat)(K:PV->Prop):Prop:=
 match T.ta t,T.ts t with
 |some false,some _=>nJ off cs λr=>match r with |c::_=>K c |[]=>False
 |some true,some sz=>nJ off cs λr=>xw sz r λl=>K (.agg l)
 |_,_=>False
theorem IR{t:TypeId}{cs:List PV}{off:Nat}{K:PV->Prop}(h:Mp T t cs off K):∃v,uW C.P t cs off=some v/\K v:=by
 unfold Mp at h
 split at h
 ·rename_i h1 h2
  obtain⟨h3,h4⟩:=iI h
  cases hd:cs.drop off with
  |nil=>rw[hd]at h4;exact h4.elim
  |cons c r=>
   rw[hd]at h4;refine⟨c,?_,h4⟩
   have:cs[off]?=some c:=by
    have:=congrArg List.head? hd;simpa[List.head?_drop]using this
   simp[uW,T.LG _ _ h1,T.dO _ _ h2,this]
 ·rename_i sz h1 h2
  obtain⟨h3,h4⟩:=iI h;obtain⟨h5,h6⟩:=mN h4;refine⟨_,?_,h6⟩;simp only[uW,T.LG _ _ h1,T.dO _ _ h2];rw[if_pos];simp at h5;omega
 ·exact h.elim
def Mq(os:List (Nat×TypeId)):List (Nat×Operand)->List PV->Al->(List PV->Prop)->Prop
 |[],cs,_,K=>K cs
 |(i,x)::r,cs,L,K=>lu L x λv=>match yi os i with
  |some (off,ty)=>match T.ts ty with
   |some sz=>match Nat.beq (cells v).length sz,(cells v).all bG with
    |true,true=>IQ off cs (cells v) λjd=>Mq os r jd L K
    |_,_=>False
   |none=>False
  |none=>False
theorem zF{os:List (Nat×TypeId)}:∀{ps:List (Nat×Operand)} {cs:List PV} {K:List PV->Prop},Mq T os ps cs L K->∃vs jd,jY L ps=some vs/\jI (pN T.ts os) cs vs=some jd/\K jd
 |[],cs,K,h=>⟨[],cs,rfl,rfl,h⟩
 |(i,x)::r,cs,K,h=>by
  obtain⟨v,h1,h2⟩:=bA h
  split at h2
  ·rename_i off ty h3
   split at h2
   ·rename_i sz h4
    split at h2
    ·rename_i h5 h6
     obtain⟨h7,h8⟩:=rS h2;obtain⟨vs,jd,e1,e2,e3⟩:=zF h8;have h5:=aah h5;refine⟨(i,v)::vs,jd,by simp[jY,h1,e1],?_,e3⟩;rw[pS]at h3;simp only[jI,pN,h3,h4,ZH];rw[if_pos ⟨h5,h6,by omega⟩];exact e2
    ·exact h2.elim
   ·exact h2.elim
  ·exact h2.elim
def Wf(os:List (Nat×TypeId)):Bool:=os.all λo=>(T.ts o.2).isSome
theorem O'{n:Nat}{cs l:List PV}{c:PV}(h:cs.drop n=c::l):n<cs.length:=by
 rcases Z8 n cs.length with h1 |h1
 ·exact h1
 ·rw[Z5 h1]at h;cases h
theorem Tl{fs:Array Field}{f off:Nat}{ft:TypeId}(h:(fs.toList.map λf=>(f.offset,f.type))[f]?=some (off,ft)):∃fl,fs[f]?=some fl/\fl.offset=off/\fl.type=ft:=by
 rw[ZP]at h
 cases Tc:fs.toList[f]? with
 |none=>rw[Tc]at h;cases h
 |some fl=>
  rw[Tc]at h;simp at h;exact⟨fl,by simpa using Tc,h.1,h.2⟩
def vB(op:Op)(L:Al)(K:PV->Prop):Prop:=
 match op with
 | .move x | .assign x=>lu L x K
 | .pick c a b=>lu L c λv=>match v with
  | .bool true=>lu L a K
  | .bool false=>lu L b K
  |_=>False
 | .binOp op t x y _=>lu L x λv=>lu L y λu=>match v,u with
  | .int k a,.int k' b=>match op with
   | .shr=>O8 a b k.bits λc=>K (.int k c)
   | .shl=>O9 k a b λc=>K (.int k c)
   |op=>match decide (k=k')with
    |true=>Wd k op a b K
    |false=>False
  | .str a,.str b=>We op a b K
  | .bool a,.bool b=>match T.kd t with
   |some .bool=>match op with
    | .eql=>K (.bool (a==b))
    | .neq=>K (.bool !(a==b))
    |_=>False
   |_=>False
  |_,_=>False
 | .unOp .neg _ x=>lu L x λv=>match v with
  | .int k n=>Wr k (0 - n) λc=>K (.int k c)
  |_=>False
 | .unOp .not _ x=>lu L x λv=>match v with
  | .bool true=>K (.bool false)
  | .bool false=>K (.bool true)
  |_=>False
 | .convert s d x=>lu L x λv=>match v,T.kd s,T.kd d with
  | .int _ n,some _,some (.int k)=>Wr k n λc=>K (.int k c)
  | .str s,some _,some .str=>K (.str s)
  | .aa _ es,some (.sl e),some .str=>match T.kd e,mS es with
   |some (.int .u8),some l=>K (.str (Qe l))
   |_,_=>False
  |_,_,_=>False
 | .extract x i=>lu L x λv=>match v with
  | .cm vs=>match yi vs i with
   |some u=>K u
   |none=>False
  |_=>False
 | .makeFunc (.func f) first da=>match first.toList with
  |[]=>nM L da.toList λl=>K (.fn f l)
  |x::r=>nM L (x::r) λl=>nM L da.toList λl2=>ur l l2 λl3=>K (.mR f l.length l3)
 | .nilCheck x=>lu L x λv=>match v with
  | .ptr id ep i o=>K (.ptr id ep i o)
  | .eC cs=>K (.eC cs)
  | .fn f cs=>K (.fn f cs)
  |_=>False
 | .field s x f=>lu L x λv=>match v,T.kd s with
  | .agg cs,some (.st os)=>match yi os f with
   |some (off,ft)=>Mp T ft cs off K
   |none=>False
  |_,_=>False
 | .fieldAddr s x f=>lu L x λv=>match T.kd s with
  |some (.st os)=>match yi os f with
   |some (off,ft)=>match T.ts ft with
    |some (_+1)=>match v with
     | .eC cs=>nJ off cs λr=>match r with |c::l=>K (.eC (c::l))|[]=>False
     | .ptr id ep i o=>K (.ptr id ep i (o+off))
     |_=>False
    |_=>False
   |none=>False
  |_=>False
 | .index t x ix=>lu L x λv=>lu L ix λu=>match v,u,T.kd t with
  | .str s,.int _ i,some .str=>W7 s i λb=>K (.int .u8 b.toNat)
  |_,_,_=>False
 | .build t parts=>match T.tz t,T.kd t with
  |some z,some (.st os)=>match Wf T os,(cells z).all bG with
   |true,true=>Mq T os parts.toList (cells z) L λcs=>K (.agg cs)
   |_,_=>False
  |some _,some (.arr _ _)=>AR C op L K
  |_,_=>False
 |_=>False
theorem pC{op:Op}{K:PV->Prop}(hs:vB T op L K):cR op=false/\∃v,(∀run lv ρ h,ao C run lv op (al L ρ) h=some (v,h))/\K v:=by
 unfold vB at hs
 split at hs
 ·obtain⟨v,e,k⟩:=bA hs;exact⟨rfl,v,λrun lv ρ h=>by simp only[ao,az,ak e],k⟩
 ·obtain⟨v,e,k⟩:=bA hs;exact⟨rfl,v,λrun lv ρ h=>by simp only[ao,az,ak e],k⟩
 ·obtain⟨v,e,k⟩:=bA hs
  split at k
  ·obtain⟨u,e2,k⟩:=bA k;exact⟨rfl,u,λrun lv ρ h=>by simp only[ao,az,ak e,ak e2,if_true],k⟩
  ·obtain⟨u,e2,k⟩:=bA k;exact⟨rfl,u,λrun lv ρ h=>by simp only[ao,az,ak e,ak e2,ZJ,if_false],k⟩
  ·exact k.elim
 ·obtain⟨v,e,k⟩:=bA hs;obtain⟨u,e2,k⟩:=bA k
  split at k
  ·split at k
   ·obtain⟨h0,k⟩:=O8.out k;exact⟨rfl,_,λrun lv ρ h=>by simp only[ao,az,ak e,ak e2,fe,pw];rw[if_neg (by omega)];rfl,k⟩
   ·obtain⟨h0,k⟩:=O9.out k;exact⟨rfl,_,λrun lv ρ h=>by simp only[ao,az,ak e,ak e2,fe,pw];rw[if_neg (by omega)];rfl,k⟩
   ·split at k
    ·rename_i hk
     obtain rfl:=of_decide_eq_true hk;obtain⟨w,e3,k⟩:=Mn (C:=C) k;exact⟨rfl,w,λrun lv ρ h=>by simp only[ao,az,ak e,ak e2,e3,ZH],k⟩
    ·exact k.elim
  ·obtain⟨w,e3,k⟩:=Mo (C:=C) k;exact⟨rfl,w,λrun lv ρ h=>by simp only[ao,az,ak e,ak e2,e3,ZH],k⟩
  ·split at k
   ·rename_i hk
    have hu:=Ax (T.cP _ _ hk)
    split at k
    ·exact⟨rfl,_,λrun lv ρ h=>by simp only[ao,az,ak e,ak e2,fe,hu,ZH],k⟩
    ·exact⟨rfl,_,λrun lv ρ h=>by simp only[ao,az,ak e,ak e2,fe,hu,ZH],k⟩
    ·exact k.elim
   ·exact k.elim
  ·exact k.elim
 ·obtain⟨v,e,k⟩:=bA hs
  split at k
  ·exact⟨rfl,_,λrun lv ρ h=>by simp only[ao,az,ak e,Pf,ZH],k.out⟩
  ·exact k.elim
 ·obtain⟨v,e,k⟩:=bA hs
  split at k
  ·exact⟨rfl,_,λrun lv ρ h=>by simp only[ao,az,ak e,Pf,ZH,abn],k⟩
  ·exact⟨rfl,_,λrun lv ρ h=>by simp only[ao,az,ak e,Pf,ZH,abz],k⟩
  ·exact k.elim
 ·obtain⟨v,e,k⟩:=bA hs
  split at k
  ·rename_i h1 h2
   obtain⟨u,h3,_⟩:=lV (T.cP _ _ h1);exact⟨rfl,_,λrun lv ρ h=>by simp only[ao,az,ak e,uV,h3,m' (T.cP _ _ h2),ZH],k.out⟩
  ·rename_i h1 h2
   obtain⟨u,h3,_⟩:=lV (T.cP _ _ h1);exact⟨rfl,_,λrun lv ρ h=>by simp only[ao,az,ak e,uV,h3,pd (T.cP _ _ h2),ZH],k⟩
  ·rename_i h1 h2
   split at k
   ·rename_i h3 h4
    exact⟨rfl,_,λrun lv ρ h=>by simp only[ao,az,ak e,uV,bp (T.cP _ _ h1),pd (T.cP _ _ h2),m' (T.cP _ _ h3),h4,ZH],k⟩
   ·exact k.elim
  ·exact k.elim
 ·obtain⟨v,e,k⟩:=bA hs
  split at k
  ·split at k
   ·rename_i h1
    rw[pS]at h1;exact⟨rfl,_,λrun lv ρ h=>by simp only[ao,az,ak e,h1],k⟩
   ·exact k.elim
  ·exact k.elim
 ·split at hs
  ·rename_i hf
   obtain⟨vs,e,k⟩:=iJ hs;refine⟨rfl,_,λrun lv ρ h=>?_,k⟩;have hf:=Array.isEmpty_iff.2 (Array.toList_eq_nil_iff.1 hf);simp only[ao,az,hf,if_true,gw e]
  ·rename_i first _ _ x r hf
   obtain⟨vs,e,k⟩:=iJ hs;obtain⟨us,e2,k⟩:=iJ k;have k:=jR k;refine⟨rfl,_,λrun lv ρ h=>?_,k⟩;have h1:=gw (ρ:=ρ) e;have h2:=gw (ρ:=ρ) e2;rw[<-hf]at h1
   have bI:¬first.isEmpty=true:=λhh=>by
    have:=Array.isEmpty_iff.1 hh;rw[this]at hf;cases hf
   have hl:first.size=vs.length:=by rw[<-h1];simp
   simp only[ao,az,if_neg bI,aal,h1,h2,hl]
 ·obtain⟨v,e,k⟩:=bA hs
  split at k
  ·exact⟨rfl,_,λrun lv ρ h=>by simp only[ao,az,ak e],k⟩
  ·exact⟨rfl,_,λrun lv ρ h=>by simp only[ao,az,ak e],k⟩
  ·exact⟨rfl,_,λrun lv ρ h=>by simp only[ao,az,ak e],k⟩
  ·exact k.elim
 ·obtain⟨v,e,k⟩:=bA hs
  split at k
  ·rename_i cs os h1
   split at k
   ·rename_i off ft h2
    obtain⟨u,e2,k⟩:=IR T k;obtain⟨fs,h3,h4⟩:=LI (T.cP _ _ h1);rw[pS,<-h4]at h2;refine⟨rfl,u,λrun lv ρ h=>?_,k⟩;obtain⟨fl,h5,rfl,rfl⟩:=Tl h2;simp only[ao,az,ak e,zH,h3,h5,e2,ZH]
   ·exact k.elim
  ·exact k.elim
 ·obtain⟨v,e,k⟩:=bA hs
  split at k
  ·rename_i os h1
   split at k
   ·rename_i off ft h2
    split at k
    ·rename_i sz h3
     rw[pS]at h2;have hf:=lS T h1 h2 h3
     split at k
     ·obtain⟨h4,k2⟩:=iI k;clear k
      split at k2
      ·rename_i h5
       exact⟨rfl,_,λrun lv ρ h=>by simp only[ao,az,ak e,fS,hf,if_pos (O' h5),h5,ZH],k2⟩
      ·exact k2.elim
     ·exact⟨rfl,_,λrun lv ρ h=>by simp only[ao,az,ak e,fS,hf,ZH],k⟩
     ·exact k.elim
    ·exact k.elim
   ·exact k.elim
  ·exact k.elim
 ·obtain⟨v,e,k0⟩:=bA hs;obtain⟨u,e2,k⟩:=bA k0;clear k0
  split at k
  ·rename_i h1
   obtain⟨n,b,rfl,h2,k⟩:=W7.out k;exact⟨rfl,_,λrun lv ρ h=>by simp[ao,az,ak e,ak e2,uX,pd (T.cP _ _ h1),h2],k⟩
  ·exact k.elim
 ·split at hs
  ·rename_i h1 h2
   split at hs
   ·rename_i h3 h4
    obtain⟨vs,jd,e1,e2,k⟩:=zF T hs;refine⟨rfl,_,λrun lv ρ h=>?_,k⟩;have:=sQ T h1 h2 h3 h4 e2;have e:=iG (ρ:=ρ) e1;simp only[ao,az,e,this,ZH]
   ·exact hs.elim
  ·obtain⟨v,h1,k⟩:=AR.out hs;exact⟨rfl,v,h1,k⟩
  ·exact hs.elim
 ·exact hs.elim
def Pa:Option Kd->PV->Bool
 |some (.int k),.int k' _=>decide (k'=k)
 |some .str,.str _ |some .bool,.bool _=>true
 |_,_=>false
theorem xy{t:TypeId}{u:PV}(e:Pa (T.kd t) u=true):xP C.P t u=true:=by
 unfold Pa at e
 split at e
 ·rename_i k k' n hk
  simp only[xP,m' (T.cP _ _ hk)];exact e
 ·rename_i s hk
  simp only[xP,pd (T.cP _ _ hk)]
 ·rename_i s hk
  simp only[xP,Ax (T.cP _ _ hk)]
 ·cases e
theorem AS{h:ab}{id:Nat}{mu:Mu}{es:List PV}(e:h[id]?=some ⟨mu,0,0,es⟩)(hm:mu≠.x):AX h id=some ⟨mu,0,0,es⟩:=by
 simp[AX,getM,e,hm]
inductive W8(h:ab)(v u:PV)(K:Option PV->Prop):Prop
 |nil (kk:Rn (K none)) (hv:v=.gf:=by rfl)
 |Qa {id i:Nat} {mu:Mu} {es:List PV} {p:PV} (hf:sX u es 0=some (some (i,p))) (kk:Rn (K (some p))) (ho:h[id]?=some ⟨mu,0,0,es⟩:=by first |assumption |rfl) (hm:mu≠.x:=by simp) (hv:v=.cB id:=by rfl)
 |Ox {id:Nat} {mu:Mu} {es:List PV} (hf:sX u es 0=some none) (kk:Rn (K none)) (ho:h[id]?=some ⟨mu,0,0,es⟩:=by first |assumption |rfl) (hm:mu≠.x:=by simp) (hv:v=.cB id:=by rfl)
theorem W8.out{v u:PV}{K:Option PV->Prop}(x:W8 h v u K){t kt et:TypeId}{z:PV}(ht:C.P.underlying t=some (.map kt et))(hz:iL C.P et=some z)(hk:xP C.P kt u=true)(ok:Bool):
  ∃r:Option PV,mT C.P h t v u ok=some (match r with |some p=>gh ok p true |none=>gh ok z false)/\K r:=by
 cases x with
 |nil kk hv=>subst hv;exact⟨none,by simp only[mT,ht,hz,hk,if_true],kk.out⟩
 |Qa hf kk ho hm hv=>subst hv;exact⟨some _,by simp only[mT,ht,hz,hk,if_true,AS ho hm,hf],kk.out⟩
 |Ox hf kk ho hm hv=>subst hv;exact⟨none,by simp only[mT,ht,hz,hk,if_true,AS ho hm,hf],kk.out⟩
inductive I9(i:Int)(K:Nat->Prop):Prop
 |mk {n:Nat} (kk:Rn (K n)) (hi:i=(n:Int):=by first |rfl |exact(Int.natCast_succ _).symm |exact(abQ (by omega)).symm)
theorem I9.out{i:Int}{K:Nat->Prop}(x:I9 i K):∃n:Nat,i=n/\K n:=by cases x with |mk kk h=>exact⟨_,h,kk.out⟩
inductive IS(es:List PV)(i:Nat)(K:PV->Prop):Prop
 |mk {e:PV} (kk:Rn (K e)) (h:es[i]?=some e:=by first |assumption |rfl)
theorem IS.out{es:List PV}{i:Nat}{K:PV->Prop}(x:IS es i K):∃e,es[i]?=some e/\K e:=by cases x with |mk kk h=>exact⟨_,h,kk.out⟩
inductive Pb(h:ab)(v:PV)(K:Int->Prop):Prop
 |mk {full:Bool} {es:List PV} (kk:Rn (K (es.length:Int))) (hv:v=.aa full es:=by rfl)
 |m2 {sz:Nat} {es:List PV} (kk:Rn (K (es.length:Int))) (ho:Out sz h v es:=by assumption)
 |m3 {id ep off len:Nat} {o:au} (kk:Rn (K (len:Int))) (hv:v=.aj id ep off len:=by rfl) (ho:getM h id ep=some o:=by first |exact bg (by assumption) rfl (by first |assumption |simp)|rfl |exact kK |exact pt (bg (by assumption) rfl (by first |assumption |simp))) (hl:off+len<=o.es.length:=by first |omega |(simp;done)|(simp;omega))
theorem Pb.out{v:PV}{K:Int->Prop}{t el:TypeId}(x:Pb h v K)(hk:C.P.underlying t=some (.slice el)):∃n:Int,nV C.P h t v=some (.int .i64 n)/\K n:=by
 cases x with
 |mk kk hv=>subst hv;exact⟨_,by simp only[nV,hk],kk.out⟩
 |m2 kk ho=>
  rcases ho with⟨rfl,rfl⟩|⟨id,ep,rfl,e2⟩
  ·exact⟨_,by simp only[nV,hk],kk.out⟩
  ·exact⟨_,by simp only[nV,hk,bg e2 rfl (by simp:Mu.m≠Mu.x)];rw[if_pos (by simp)],kk.out⟩
 |m3 kk hv ho hl=>subst hv;exact⟨_,by simp only[nV,hk,ho];rw[if_pos hl],kk.out⟩
def wk(t:TypeId)(cs:List PV)(K:PV->Prop):Prop:=
 match T.ta t,T.ts t with
 |some false,some _=>match cs with |c::_=>K c |[]=>False
 |some true,some (sz+1)=>xw (sz+1) cs λl=>K (.agg l)
 |_,_=>False
theorem xz{t:TypeId}{p:PV}{cs:List PV}{K:PV->Prop}(hp:cC h p=some cs)(x:wk T t cs K):∃v,iq C.P h t p=some v/\K v:=by
 unfold wk at x
 split at x
 ·rename_i h1 h2
  split at x
  ·exact⟨_,by simp only[iq,T.LG _ _ h1,T.dO _ _ h2,hp],x⟩
  ·exact x.elim
 ·rename_i sz h1 h2
  obtain⟨h5,h6⟩:=mN x;exact⟨_,by simp only[iq,T.LG _ _ h1,T.dO _ _ h2,hp];rw[if_pos ⟨by omega,h5⟩],h6⟩
 ·exact x.elim
def T2(L:Al)(x:Option Operand)(dflt:Nat)(K:Nat->Prop):Prop:=
 match x with
 |none=>K dflt
 |some x=>lu L x λv=>match v with
  | .int _ i=>I9 i K
  |_=>False
theorem uR{x:Option Operand}{dflt:Nat}{K:Nat->Prop}(hh:T2 L x dflt K):∃n:Nat,K n/\∀(ρ:Nat->PV) top,(n<=top->cx (x.map (ev (al L ρ))) dflt top=some n):=by
 unfold T2 at hh
 split at hh
 ·exact⟨_,hh,λ_ _ _=>rfl⟩
 ·obtain⟨v,e,k⟩:=bA hh
  split at k
  ·obtain⟨n,hi,k2⟩:=I9.out k;clear k;subst hi;refine⟨n,k2,λρ top ht=>?_⟩;simp only[ZH,ak e,cx];rw[if_pos ⟨by omega,by omega⟩];simp
  ·exact k.elim
theorem Wg{id ep i off:Nat}{o:au}{e:PV}(h1:getM h id ep=some o)(h2:o.es[i]?=some e):cC h (.ptr id ep i off)=some ((cells e).drop off):=by simp only[cC,h1,h2]
def tg(op:Op)(L:Al)(h:ab)(K:PV->Prop):Prop:=
 match op with
 | .load t x=>lu L x λp=>match p with
  | .eC cs=>wk T t cs K
  | .ptr id ep i off=>C8 h id ep λo=>IS o.es i λe=>nJ off (cells e) λcs=>wk T t cs K
  |_=>False
 | .indexAddr t x ix=>lu L x λv=>lu L ix λu=>match T.kd t,v,u with
  |some (.sl el),.aa _ es,.int _ i=>match T.ts el with
   |some (sz+1)=>O5 es i (sz+1) λcs=>K (.eC cs)
   |_=>False
  |some (.sl el),.aj id ep off len,.int _ i=>match T.ts el with
   |some sz=>C8 h id ep λo=>I9 i λn=>Sd (n<len/\off+len<=o.es.length/\sz=o.bB) (K (.ptr id ep (off+n) 0))
   |_=>False
  |some (.arr m el),.eC cs,.int _ i=>match T.ts el with
   |some sz=>I9 i λn=>Sd (n<m/\n * sz<cs.length) (nJ (n * sz) cs λr=>K (.eC r))
   |_=>False
  |some (.arr m el),.ptr id ep j off,.int _ i=>match T.ts el with
   |some sz=>I9 i λn=>Sd (n<m) (K (.ptr id ep j (off+n * sz)))
   |_=>False
  |_,_,_=>False
 | .call ⟨.builtin b,args,yU⟩=>match b,args.toList,yU.toList with
  | .len,x::_,t::_=>lu L x λv=>match T.kd t with
   |some .str=>match v with
    | .str s=>K (.int .i64 s.size)
    |_=>False
   |some (.sl _)=>Pb h v λn=>K (.int .i64 n)
   |_=>False
  | .max,[x,y],_=>lu L x λv=>lu L y λu=>match v,u with
   | .int k a,.int _ b=>K (.int k (max a b))
   |_,_=>False
  | .min,[x,y],_=>lu L x λv=>lu L y λu=>match v,u with
   | .int k a,.int _ b=>K (.int k (min a b))
   |_,_=>False
  |_,_,_=>False
 | .slice t x lo hi none=>lu L x λv=>match T.kd t,v with
  |some .str,.str s=>T2 L hi s.size λb=>T2 L lo 0 λa=>Sd (a<=b/\b<=s.size) (K (.str (s.extract a b)))
  |some (.sl el),.aa full es=>match T.ts el with
   |some sz=>T2 L hi es.length λb=>T2 L lo 0 λa=>Sd ((a<=b/\b<=es.length)/\(es[a]?).all (λv=>(cells v).length==sz)=true) (K (.aa (full&&b==es.length) ((es.drop a).take (b - a))))
   |_=>False
  |some (.sl _),.aj _ _ _ _=>oA C op L h K
  |_,_=>False
 | .lookup t m k ok=>lu L m λv=>lu L k λu=>match T.kd t with
  |some (.mp kt et)=>match T.tz et,Pa (T.kd kt) u with
   |some z,true=>W8 h v u λr=>match r with
    |some p=>K (gh ok p true)
    |none=>K (gh ok z false)
   |_,_=>False
  |_=>False
 |_=>False
theorem kj{op:Op}{K:PV->Prop}(hs:tg T op L h K):cR op=true/\∃v,(∀run lv ρ,ao C run lv op (al L ρ) h=some (v,h))/\K v:=by
 unfold tg at hs
 split at hs
 ·obtain⟨p,e,k⟩:=bA hs
  split at k
  ·obtain⟨v,e2,k⟩:=xz T (h:=h) (p:=.eC _) rfl k;exact⟨rfl,v,λrun lv ρ=>by simp only[ao,az,ak e,e2,ZH],k⟩
  ·obtain⟨o,e3,k⟩:=C8.out k;obtain⟨el,e4,k⟩:=IS.out k;obtain⟨_,k⟩:=iI k;obtain⟨v,e2,k⟩:=xz T (h:=h) (Wg e3 e4) k;exact⟨rfl,v,λrun lv ρ=>by simp only[ao,az,ak e,e2,ZH],k⟩
  ·exact k.elim
 ·obtain⟨v,e,k0⟩:=bA hs;obtain⟨u,e2,k⟩:=bA k0;clear k0
  split at k
  ·rename_i hk
   split at k
   ·rename_i sz dO
    obtain⟨n,w,rfl,h2,h3,k⟩:=O5.out k;refine⟨rfl,_,λrun lv ρ=>?_,k⟩;have cz:=ag h2;simp only[ao,az,ak e,ak e2,cq,bp (T.cP _ _ hk),T.dO _ _ dO];rw[if_pos ⟨by omega,by omega⟩];simp only[aaH,h2];rw[if_pos ⟨by omega,h3⟩];rfl
   ·exact k.elim
  ·rename_i hk
   split at k
   ·rename_i sz dO
    obtain⟨o,e3,k⟩:=C8.out k;obtain⟨n,hi,k2⟩:=I9.out k;clear k;subst hi;obtain⟨⟨h1,h2,h3⟩,k⟩:=Sd.out k2;refine⟨rfl,_,λrun lv ρ=>?_,k⟩;simp only[ao,az,ak e,ak e2,cq,bp (T.cP _ _ hk),T.dO _ _ dO,e3];rw[if_pos ⟨by omega,by omega,h3,h2⟩];rfl
   ·exact k.elim
  ·rename_i hk
   split at k
   ·rename_i sz dO
    obtain⟨n,hi,k2⟩:=I9.out k;clear k;subst hi;obtain⟨⟨h1,h2⟩,k⟩:=Sd.out k2;obtain⟨_,k⟩:=iI k;refine⟨rfl,_,λrun lv ρ=>?_,k⟩;simp only[ao,az,ak e,ak e2,cq,LH (T.cP _ _ hk),T.dO _ _ dO];rw[if_pos ⟨by omega,by omega,by simpa using h2⟩];rfl
   ·exact k.elim
  ·rename_i hk
   split at k
   ·rename_i sz dO
    obtain⟨n,hi,k2⟩:=I9.out k;clear k;subst hi;obtain⟨h1,k⟩:=Sd.out k2;refine⟨rfl,_,λrun lv ρ=>?_,k⟩;simp only[ao,az,ak e,ak e2,cq,LH (T.cP _ _ hk),T.dO _ _ dO];rw[if_pos ⟨by omega,by omega⟩];rfl
   ·exact k.elim
  ·exact k.elim
 ·split at hs
  ·rename_i ha ht
   obtain⟨v,e,k⟩:=bA hs
   split at k
   ·rename_i hk
    split at k
    ·refine⟨rfl,_,λrun lv ρ=>?_,k⟩;simp only[ao,ha,ht,ZN,ak e,bo,nV,pd (T.cP _ _ hk),ZH]
    ·exact k.elim
   ·rename_i hk
    obtain⟨n,h1,k⟩:=Pb.out k (bp (T.cP _ _ hk));refine⟨rfl,_,λrun lv ρ=>?_,k⟩;simp only[ao,ha,ht,ZN,ak e,bo,h1,ZH]
   ·exact k.elim
  ·rename_i ha
   obtain⟨v,e,k0⟩:=bA hs;obtain⟨u,e2,k⟩:=bA k0;clear k0
   split at k
   ·rename_i a _ b
    refine⟨rfl,_,λrun lv ρ=>?_,k⟩;have:(if b>a then b else a)=Max.max a b:=by split <;>omega
    simp only[ao,ha,ZN,ZX,ak e,ak e2,bo,Ja,this,ZH]
   ·exact k.elim
  ·rename_i ha
   obtain⟨v,e,k0⟩:=bA hs;obtain⟨u,e2,k⟩:=bA k0;clear k0
   split at k
   ·rename_i a _ b
    refine⟨rfl,_,λrun lv ρ=>?_,k⟩;have:(if b<a then b else a)=Min.min a b:=by split <;>omega
    simp only[ao,ha,ZN,ZX,ak e,ak e2,bo,MQ,this,ZH]
   ·exact k.elim
  ·exact hs.elim
 ·obtain⟨v,e,k⟩:=bA hs
  split at k
  ·rename_i hk
   obtain⟨b,k,hb⟩:=uR k;obtain⟨a,k,ha⟩:=uR k;obtain⟨⟨h1,h2⟩,k⟩:=Sd.out k;refine⟨rfl,_,λrun lv ρ=>?_,k⟩;simp only[ao,az,ak e,bX,pd (T.cP _ _ hk),abt,hb ρ _ h2,ha ρ _ h1]
   rfl
  ·rename_i hk
   split at k
   ·rename_i sz dO
    obtain⟨b,k,hb⟩:=uR k;obtain⟨a,k,ha⟩:=uR k;obtain⟨⟨⟨h1,h2⟩,h3⟩,k⟩:=Sd.out k;refine⟨rfl,_,λrun lv ρ=>?_,k⟩;simp only[ao,az,ak e,bX,bp (T.cP _ _ hk),T.dO _ _ dO,abt];rw[show∀n:Nat,cx none n n=some n from λ_=>rfl];simp only[hb ρ _ h2,ha ρ _ h1];rw[if_pos ⟨rfl,h3⟩]
    rfl
   ·exact k.elim
  ·obtain⟨w,h1,k⟩:=oA.out k;exact⟨rfl,w,h1,k⟩
  ·exact k.elim
 ·rename_i ok
  obtain⟨v,e,k0⟩:=bA hs;obtain⟨u,e2,k⟩:=bA k0;clear k0
  split at k
  ·rename_i hk
   split at k
   ·rename_i hz Wh
    obtain⟨r,h1,k2⟩:=W8.out (C:=C) k (Gq (T.cP _ _ hk)) (T.mO _ _ hz) (xy T Wh) ok
    cases r with
    |none=>exact⟨rfl,_,λrun lv ρ=>by simp only[ao,az,ak e,ak e2,h1,ZH],k2⟩
    |some p=>exact⟨rfl,_,λrun lv ρ=>by simp only[ao,az,ak e,ak e2,h1,ZH],k2⟩
   ·exact k.elim
  ·exact k.elim
 ·exact hs.elim
inductive xA{α:Type}:List α->Nat->α->List α->Prop
 |zero {x y:α} {l:List α}:xA (x::l) 0 y (y::l)
 |succ {x y:α} {l l':List α} {n:Nat}:xA l n y l'->xA (x::l) (n+1) y (x::l')
 |last {x y:α} {l:List α}:xA (l++[x]) l.length y (l++[y])
 |gen {l:List α} {n:Nat} {y:α}:xA l n y (l.set n y)
theorem xA.eq{α:Type}{l l':List α}{n:Nat}{y:α}(a:xA l n y l'):l'=l.set n y:=by
 induction a with
 |zero=>rfl
 |succ _ ih=>rw[ih];rfl
 |last=>simp
 |gen=>rfl
inductive Pc(h:ab)(id ep bB:Nat)(es:List PV)(i:Nat)(e':PV)(K:ab->Prop):Prop
 |mk {fq:List PV} {h':ab} (kk:Rn (K h')) (h1:xA es i e' fq:=by repeat(first |exact .zero |apply xA.succ |exact .last |exact .gen)) (h2:xA h id ⟨.m,ep,bB,fq⟩ h':=by repeat(first |exact .zero |apply xA.succ |exact .last |exact .gen))
theorem Pc.out{id i ep bB:Nat}{es:List PV}{e':PV}{K:ab->Prop}(x:Pc h id ep bB es i e' K):K (h.set id ⟨.m,ep,bB,es.set i e'⟩):=by
 cases x with |mk kk h1 h2=>obtain rfl:=h1.eq;obtain rfl:=h2.eq;exact kk.out
def W9(off sz:Nat)(e v:PV)(K:PV->Prop):Prop:=
 match off,Nat.beq sz (cells e).length with
 |0,true=>K v
 |_,_=>IQ off (cells e) (cells v) λcs=>K (.agg cs)
theorem Pd{off sz:Nat}{e v:PV}{K:PV->Prop}(hl:(cells v).length=sz)(x:W9 off sz e v K):off+sz<=(cells e).length/\(K (eD off sz e v)\/(∃cs,K (.agg cs)/\cs=(cells e).take off++cells v++(cells e).drop (off+sz)/\¬(off=0/\sz=(cells e).length))):=by
 unfold W9 at x
 split at x
 ·rename_i h2
  have:=aah h2;refine⟨by omega,.inl ?_⟩;rw[eD,if_pos ⟨rfl,this⟩];exact x
 ·rename_i hn
  obtain⟨h1,h2⟩:=rS x;rw[hl]at h1 h2;refine⟨h1,.inr ⟨_,h2,rfl,λhh=>?_⟩⟩;obtain⟨rfl,h3⟩:=hh;exact hn rfl (by rw[<-h3];exact Nat.beq_refl _)
theorem Mr{off sz:Nat}{e v:PV}{K:PV->Prop}(hl:(cells v).length=sz)(x:W9 off sz e v K):off+sz<=(cells e).length/\K (eD off sz e v):=by
 obtain⟨h1,h2 |⟨cs,h3,rfl,h4⟩⟩:=Pd hl x
 ·exact⟨h1,h2⟩
 ·exact⟨h1,by rw[eD,if_neg h4];exact h3⟩
def AT(n sz:Nat):List (Nat×Operand)->List PV->Al->(List PV->Prop)->Prop
 |[],es,_,K=>K es
 |(i,x)::r,es,L,K=>lu L x λv=>match Nat.beq (cells v).length sz,(cells v).all bG,Nat.ble (i+1) n with
  |true,true,true=>Ms es i v λfq=>AT n sz r fq L K
  |_,_,_=>False
where Ms:List PV->Nat->PV->(List PV->Prop)->Prop
 |[],_,_,_=>False
 |_::l,0,v,k=>k (v::l)
 |e::l,i+1,v,k=>Ms l i v λr=>k (e::r)
theorem zG:∀{es:List PV} {i:Nat} {v:PV} {k:List PV->Prop},AT.Ms es i v k->k (es.set i v)
 |[],_,_,_,h=>h.elim
 |_::l,0,v,k,h=>h
 |e::l,i+1,v,k,h=>zG (es:=l) h
theorem xB{n sz:Nat}:∀{ps:List (Nat×Operand)} {es:List PV} {K:List PV->Prop},AT n sz ps es L K->∃vs,jY L ps=some vs/\vs.all (xh sz n)=true/\K (vs.foldl (λes x=>es.set x.1 x.2) es)
 |[],es,K,h=>⟨[],rfl,rfl,h⟩
 |(i,x)::r,es,K,h=>by
  obtain⟨v,h1,h2⟩:=bA h
  split at h2
  ·rename_i h3 h4 h5
   obtain⟨vs,e1,e2,e3⟩:=xB (zG h2);refine⟨(i,v)::vs,by simp[jY,h1,e1],?_,e3⟩;rw[aaq,e2,aa9];simp only[xh,h4,aa9,ZD,decide_eq_true_eq];exact⟨aah h3,aax h5⟩
  ·exact h2.elim
def Tn:Nat->PV->(List PV->Prop)->Prop
 |0,_,k=>k []
 |n+1,z,k=>Tn n z λl=>k (z::l)
theorem C9:∀{n:Nat} {z:PV} {k:List PV->Prop},Tn n z k->k (List.replicate n z)
 |0,_,_,h=>h
 |n+1,z,k,h=>C9 (n:=n) h
inductive BsX(h:ab)(sz:Nat)(es:List PV)(K:PV->ab->Prop):Prop
 |mk (kk:Rn (K (.aa true es) h)) (hv:ar es=true:=by first |rfl |(simp <;>fail))
 |m2 {n:Nat} {h':ab} (kk:Rn (K (.aj n 0 0 es.length) h')) (hv:ar es=false:=by first |rfl |(simp <;>fail)) (ha:MP ⟨.m,0,sz,es⟩ h h' n:=by repeat(first |exact .nil |apply MP.cons |exact .gen))
def xW(t:TypeId)(n:Nat)(ps:List (Nat×Operand))(L:Al)(K:Nat->List PV->Prop):Prop:=
 match T.kd t with
 |some (.sl el)=>match T.ts el,T.tz el with
  |some (sz+1),some z=>match Nat.ble (n * (sz+1)) 16777216,Nat.beq (cells z).length (sz+1),(cells z).all bG with
   |true,true,true=>Tn n z λes=>AT n (sz+1) ps es L λfq=>K (sz+1) fq
   |_,_,_=>False
  |_,_=>False
 |_=>False
theorem mv{t:TypeId}{n:Nat}{ps:List (Nat×Operand)}{K:Nat->List PV->Prop}(x:xW T t n ps L K):∃sz es,K sz es/\∀(ρ:Nat->PV) (h:ab) (lv:Nat),
  dp C.P lv h t n (ps.map λ(i,x)=>(i,ev (al L ρ) x))=if ar es=true then some (.aa true es,h)else if 2<=lv then some (.aj h.length 0 0 n,newObj h sz es)else none:=by
 unfold xW at x
 split at x
 ·rename_i el hk
  split at x
  ·rename_i sz z dO mO
   split at x
   ·rename_i h1 h2 h3
    obtain⟨vs,e1,e2,e3⟩:=xB (C9 x);refine⟨_,_,e3,λρ h lv=>?_⟩;rw[iG e1];simp only[dp,bp (T.cP _ _ hk),T.dO _ _ dO,T.mO _ _ mO];rw[if_pos ⟨by omega,aax h1,aah h2,h3,e2⟩]
    rfl
   ·exact x.elim
  ·exact x.elim
 ·exact x.elim
inductive Wi(h:ab)(id:Nat)(u y:PV)(K:ab->Prop):Prop
 |mk {es fq:List PV} (hp:Qf u y es=some fq) (kk:Rn (K (h.set id ⟨.m,0,0,fq⟩))) (ho:h[id]?=some ⟨.m,0,0,es⟩:=by first |assumption |rfl)
theorem Wi.out{id:Nat}{u y:PV}{K:ab->Prop}(x:Wi h id u y K){t kt et:TypeId}(ht:C.P.underlying t=some (.map kt et))(hk:xP C.P kt u=true):∃h',mU C.P h t (.cB id) u y=some h'/\K h':=by
 cases x with
 |mk hp kk ho=>exact⟨_,by simp only[mU,ht,AS ho (by simp:Mu.m≠Mu.x),hk,hp,and_self,if_true],kk.out⟩
def tV(op:Op)(L:Al)(h:ab)(K:PV->ab->Prop):Prop:=
 match op with
 | .store t a x=>lu L a λp=>lu L x λv=>match p,T.ts t with
  | .ptr id ep i off,some sz=>match Nat.beq (cells v).length sz,(cells v).all bG with
   |true,true=>C8 h id ep λo=>match o with
    |⟨.m,ep,bB,es⟩=>IS es i λe=>W9 off sz e v λe'=>Pc h id ep bB es i e' λh'=>K .undef h'
    |_=>False
   |_,_=>False
  |_,_=>False
 | .alloc t=>match T.tz t,T.ts t with
  |some z,some sz=>match(cells z).all bG,Nat.beq (cells z).length sz,Nat.ble 1 sz with
   |true,true,true=>uq h ⟨.m,0,sz,[z]⟩ λn h'=>K (.ptr n 0 0 0) h'
   |_,_,_=>False
  |_,_=>Bw C (.alloc t) L h K
 | .box t x=>lu L x λz=>match T.ts t with
  |some sz=>match(cells z).all bG,Nat.beq (cells z).length sz,Nat.ble 1 sz with
   |true,true,true=>uq h ⟨.m,0,sz,[z]⟩ λn h'=>K (.ptr n 0 0 0) h'
   |_,_,_=>False
  |_=>False
 | .makeSlice t l c=>lu L l λu=>lu L c λv=>match T.kd t,u,v with
  |some (.sl el),.int _ a,.int _ b=>match T.ts el,T.tb el,T.tz el with
   |some (sz+1),some fX,some z=>match Nat.ble fX 1000,Nat.beq (cells z).length (sz+1),(cells z).all bG with
    |true,true,true=>I9 a λn=>Sd (a<=b/\b<=1073741824) (uq h ⟨.m,0,sz+1,List.replicate n z⟩ λm h'=>K (.aj m 0 0 n) h')
    |_,_,_=>False
   |_,_,_=>False
  |_,_,_=>False
 | .call ⟨.builtin .append,args,yU⟩=>match args.toList,yU.toList with
  |[x,y],[st,xt]=>lu L y λu=>match u with
   | .aa full ys=>match T.kd st,T.kd xt with
    |some (.sl el),some (.sl _)=>match T.ts el,T.tb el,T.tz el with
     |some (sz+1),some fX,some z=>match Nat.ble fX 1000,Nat.beq (cells z).length (sz+1),(cells z).all bG with
      |true,true,true=>lu L x λv=>O6 h (sz+1) v ys K
      |_,_,_=>False
     |_,_,_=>False
    |_,_=>False
   |_=>Bw C op L h K
  |_,_=>Bw C op L h K
 | .buildSlice t n ps=>xW T t n ps.toList L λsz es=>match Nat.beq es.length n with
  |true=>BsX h sz es K
  |false=>False
 | .makeMap t none=>uq h ⟨.m,0,0,[]⟩ λn h'=>K (.cB n) h'
 | .makeMap t (some x)=>lu L x λv=>match v,T.kd t with
  | .int _ _,some (.mp _ _)=>uq h ⟨.m,0,0,[]⟩ λn h'=>K (.cB n) h'
  |_,_=>False
 | .mapUpdate t m k x | .insert t m k x=>lu L m λv=>lu L k λu=>lu L x λy=>match v,T.kd t with
  | .cB id,some (.mp kt _)=>match Pa (T.kd kt) u with
   |true=>Wi h id u y λh'=>K .undef h'
   |false=>False
  |_,_=>False
 |op=>Bw C op L h K
theorem O6.out{st xt el pU:TypeId}{sz fX:Nat}{z:PV}{full:Bool}{ys:List PV}{x y:Operand}{v:PV}{K:PV->ab->Prop}(a:O6 h (sz+1) v ys K)(hx:cG L x=some v)(hy:cG L y=some (.aa full ys))(hk:T.kd st=some (.sl el))(fR:T.kd xt=some (.sl pU))(hs:T.ts el=some (sz+1))(hb:T.tb el=some fX)(hz:T.tz el=some z)
  (jc:fX<=1000) (hl:(cells z).length=sz+1) (ho:(cells z).all bG=true):
  ∃v' h',(∀run ρ,ao C run 2 (.call ⟨.builtin .append,#[x,y],#[st,xt]⟩) (al L ρ) h=some (v',h'))/\K v' h':=by
 cases a with
 | @nn fl es kk nR hv=>
  subst hv nR;refine⟨_,_,λrun ρ=>?_,kk.out⟩;simp only[ao,bo,ZN,ZX,ak hx,ak hy,bL,bp (T.cP _ _ hk),bp (T.cP _ _ fR),T.dO _ _ hs,T.rV _ _ hb,T.mO _ _ hz,cy,ch];rw[if_pos ⟨by omega,by omega,⟨hl,ho⟩,rfl⟩]
  rfl
 | @sn es kk bI hn hv yy heo=>
  subst hv;refine⟨_,_,λrun ρ=>?_,kk.out⟩;unfold du at yy heo;simp only[ao,bo,ZN,ZX,ak hx,ak hy,bL,bp (T.cP _ _ hk),bp (T.cP _ _ fR),T.dO _ _ hs,T.rV _ _ hb,T.mO _ _ hz,cy,ch];rw[if_pos ⟨by omega,by omega,⟨hl,ho⟩,yy⟩,if_neg (by rw[bI];simp),if_pos ⟨trivial,by omega,iS hn jc,heo⟩]
  rfl
 | @lp es kk o yy hn D6 hH=>
  by_cases bI:ys.isEmpty=true
  ·have nR:ys=[]:=by simpa using bI
   subst nR;refine⟨v,h,λrun ρ=>?_,(kk v h ⟨by simpa using o,hH,Zz _,λj _ _=>rfl,λj ep n hh=>.inl ⟨ep,n,hh⟩⟩).out⟩;rcases o with⟨rfl,rfl⟩|⟨id,ep,rfl,e2⟩
   ·simp only[ao,bo,ZN,ZX,ak hx,ak hy,bL,bp (T.cP _ _ hk),bp (T.cP _ _ fR),T.dO _ _ hs,T.rV _ _ hb,T.mO _ _ hz,cy,ch];rw[if_pos ⟨by omega,by omega,⟨hl,ho⟩,rfl⟩];rfl
   ·simp only[ao,bo,ZN,ZX,ak hx,ak hy,bL,bp (T.cP _ _ hk),bp (T.cP _ _ fR),T.dO _ _ hs,T.rV _ _ hb,T.mO _ _ hz,cy,ch,bg e2 rfl (by simp:Mu.m≠Mu.x)];rw[if_pos ⟨by omega,by omega,⟨hl,ho⟩,rfl⟩,if_pos ⟨by simp,trivial⟩];rfl
  have bI:ys.isEmpty=false:=by simpa using bI
  rcases o with⟨rfl,rfl⟩|⟨id,ep,rfl,e2⟩
  ·refine⟨.aj h.length 0 0 ys.length,h++[⟨.m,0,sz+1,ys⟩],λrun ρ=>?_,(kk (.aj h.length 0 0 ys.length) (h++[⟨.m,0,sz+1,ys⟩]) ⟨.inr ⟨h.length,0,by simp,by simp⟩,hH.ct (HV.one (by simpa using D6)),by simp,λj hj _=>Zv hj,λj ep n hh=>?_⟩).out⟩
   ·have:=fZ T (h:=h) (lv:=2) (full:=full) (by omega) hk fR hs hb hz jc hl ho yy bI (by simpa using hn);simp only[ao,bo,ZN,ZX,ak hx,ak hy,this]
   ·cases hh;exact .inr (Zz _)
  ·have cz:=ag e2;refine⟨.aj id (ep+1) 0 (es.length+ys.length),h.set id ⟨.m,ep+1,sz+1,es++ys⟩,λrun ρ=>?_,(kk (.aj id (ep+1) 0 (es.length+ys.length)) (h.set id ⟨.m,ep+1,sz+1,es++ys⟩) ⟨.inr ⟨id,ep+1,by simp,ZB cz⟩,hH.set id (by simp) D6,by simp,λj hj bI=>ZC (λhh=>bI ep es.length (by rw[hh])),λj gV n hh=>?_⟩).out⟩
   ·have:=kg T (h:=h) (full:=full) (len:=es.length) hk fR hs hb hz jc hl ho yy bI hn (bg e2 rfl (by simp)) rfl rfl (Zz _);simp only[ao,bo,ZN,ZX,ak hx,ak hy,this,aap]
   ·cases hh;exact .inl ⟨ep,es.length,rfl⟩
 | @lr es kk o yy hn D6 hH=>
  by_cases bI:ys.isEmpty=true
  ·have nR:ys=[]:=by simpa using bI
   subst nR;refine⟨v,h,λrun ρ=>?_,(kk v h ⟨by simpa using o,hH,Zz _,λj _ _=>rfl,λj ep n hh=>.inl ⟨ep,n,hh⟩⟩).out⟩;rcases o with⟨rfl,rfl⟩|⟨id,ep,rfl,e2⟩
   ·simp only[ao,bo,ZN,ZX,ak hx,ak hy,bL,bp (T.cP _ _ hk),bp (T.cP _ _ fR),T.dO _ _ hs,T.rV _ _ hb,T.mO _ _ hz,cy,ch];rw[if_pos ⟨by omega,by omega,⟨hl,ho⟩,rfl⟩];rfl
   ·simp only[ao,bo,ZN,ZX,ak hx,ak hy,bL,bp (T.cP _ _ hk),bp (T.cP _ _ fR),T.dO _ _ hs,T.rV _ _ hb,T.mO _ _ hz,cy,ch,bg e2 rfl (by simp:Mu.m≠Mu.x)];rw[if_pos ⟨by omega,by omega,⟨hl,ho⟩,rfl⟩,if_pos ⟨by simp,trivial⟩];rfl
  have bI:ys.isEmpty=false:=by simpa using bI
  rcases o with⟨rfl,rfl⟩|⟨id,ep,rfl,e2⟩
  ·refine⟨.aj h.length 0 0 ys.length,h++[⟨.m,0,sz+1,ys⟩],λrun ρ=>?_,(kk (.aj h.length 0 0 ys.length) (h++[⟨.m,0,sz+1,ys⟩]) ⟨.inr ⟨h.length,0,by simp,by simp⟩,hH.Ka (by simp) (eB (f:=λi=>decide (i<h.length)) (λi hi=>by have:=of_decide_eq_true hi;exact decide_eq_true (by omega)) _ (by simpa using D6)),by simp,λj hj _=>Zv hj,λj ep n hh=>?_⟩).out⟩
   ·have:=fZ T (h:=h) (lv:=2) (full:=full) (by omega) hk fR hs hb hz jc hl ho yy bI (by simpa using hn);simp only[ao,bo,ZN,ZX,ak hx,ak hy,this]
   ·cases hh;exact .inr (Zz _)
  ·have cz:=ag e2;refine⟨.aj id (ep+1) 0 (es.length+ys.length),h.set id ⟨.m,ep+1,sz+1,es++ys⟩,λrun ρ=>?_,(kk (.aj id (ep+1) 0 (es.length+ys.length)) (h.set id ⟨.m,ep+1,sz+1,es++ys⟩) ⟨.inr ⟨id,ep+1,by simp,ZB cz⟩,hH.set id (by simp) D6,by simp,λj hj bI=>ZC (λhh=>bI ep es.length (by rw[hh])),λj gV n hh=>?_⟩).out⟩
   ·have:=kg T (h:=h) (full:=full) (len:=es.length) hk fR hs hb hz jc hl ho yy bI hn (bg e2 rfl (by simp)) rfl rfl (Zz _);simp only[ao,bo,ZN,ZX,ak hx,ak hy,this,aap]
   ·cases hh;exact .inl ⟨ep,es.length,rfl⟩
theorem pQ{op:Op}{K:PV->ab->Prop}(hs:tV T op L h K):∃v h',(∀run ρ,ao C run 2 op (al L ρ) h=some (v,h'))/\K v h':=by
 unfold tV at hs
 split at hs
 ·obtain⟨p,e,k0⟩:=bA hs;obtain⟨v,e2,k⟩:=bA k0;clear k0
  split at k
  ·rename_i dO
   split at k
   ·rename_i hl h1
    obtain⟨o,e3,k⟩:=C8.out k
    split at k
    ·obtain⟨el,e4,k⟩:=IS.out k;have hl:=aah hl;obtain⟨h5,k⟩:=Mr hl k;refine⟨_,_,λrun ρ=>?_,Pc.out k⟩;simp only[ao,az,ak e,ak e2,gC,T.dO _ _ dO,e3,e4,Zz,if_true];rw[if_pos ⟨trivial,hl,h1,h5⟩];rfl
    ·exact k.elim
   ·exact k.elim
  ·exact k.elim
 ·split at hs
  ·rename_i hz dO
   split at hs
   ·rename_i h1 h2 h3
    have h2:=aah h2;have h3:=aax h3;refine⟨_,_,λrun ρ=>?_,uq.out hs⟩;simp only[ao,az,T.mO _ _ hz];rw[if_pos ⟨by omega,h1,by omega⟩,newObj,h2]
   ·exact hs.elim
  ·exact hs.out
 ·obtain⟨z,e,k⟩:=bA hs
  split at k
  ·rename_i dO
   split at k
   ·rename_i h1 h2 h3
    have h2:=aah h2;have h3:=aax h3;refine⟨_,_,λrun ρ=>?_,uq.out k⟩;simp only[ao,az,ak e];rw[if_pos ⟨by omega,h1,by omega⟩,newObj,h2]
   ·exact k.elim
  ·exact k.elim
 ·obtain⟨u,e,k0⟩:=bA hs;obtain⟨v,e2,k⟩:=bA k0;clear k0
  split at k
  ·rename_i hk
   split at k
   ·rename_i dO rV mO
    split at k
    ·rename_i h1 h2 h3
     obtain⟨n,hi,k2⟩:=I9.out k;clear k;subst hi;obtain⟨⟨h4,h5⟩,k⟩:=Sd.out k2;have h1:=aax h1;refine⟨_,_,λrun ρ=>?_,uq.out k⟩;simp only[ao,az,ak e,ak e2,jk,bp (T.cP _ _ hk),T.dO _ _ dO,T.rV _ _ rV,T.mO _ _ mO];rw[if_pos ⟨by omega,by omega,h4,h5,by omega,by omega,aah h2,h3⟩];simp[newObj]
    ·exact k.elim
   ·exact k.elim
  ·exact k.elim
 ·split at hs
  ·rename_i x y st xt ha ht
   obtain⟨u,e,k⟩:=bA hs
   split at k
   ·split at k
    ·rename_i hk fR
     split at k
     ·rename_i dO rV mO
      split at k
      ·rename_i h1 h2 h3
       obtain⟨v,e2,k⟩:=bA k;obtain⟨v',h',h5,h6⟩:=O6.out T k e2 e hk fR dO rV mO (aax h1) (aah h2) h3;refine⟨v',h',λrun ρ=>?_,h6⟩;rw[<-h5 run ρ];simp only[ao,ha,ht]
      ·exact k.elim
     ·exact k.elim
    ·exact k.elim
   ·exact k.out.imp λv a=>a.imp λh' b=>b
  ·obtain⟨v,h',b⟩:=hs.out;exact⟨v,h',b⟩
 ·obtain⟨sz,es,k,hb⟩:=mv T hs
  split at k
  ·rename_i hn
   have hn:=aah hn
   cases k with
   |mk kk hv=>exact⟨_,_,λrun ρ=>by simp only[ao,az,hb];rw[if_pos hv],kk.out⟩
   |m2 kk hv ha=>
    obtain⟨rfl,rfl⟩:=ha.eq;refine⟨_,_,λrun ρ=>?_,kk.out⟩;simp only[ao,az,hb];rw[if_neg (by rw[hv];simp),if_pos (Zz 2),newObj,hn]
  ·exact k.elim
 ·exact⟨_,_,λrun ρ=>by simp only[ao,az,mf,abt];rw[if_pos (by omega)];rfl,uq.out hs⟩
 ·obtain⟨v,e,k⟩:=bA hs
  split at k
  ·rename_i hk
   exact⟨_,_,λrun ρ=>by simp only[ao,az,mf,ZH,ak e,Gq (T.cP _ _ hk)];rw[if_pos (by omega)];rfl,uq.out k⟩
  ·exact k.elim
 ·obtain⟨v,e,k0⟩:=bA hs;obtain⟨u,e2,k1⟩:=bA k0;obtain⟨y,e3,k⟩:=bA k1;clear k0 k1
  split at k
  ·rename_i hk
   split at k
   ·rename_i Wh
    obtain⟨h',h1,k2⟩:=Wi.out (C:=C) k (Gq (T.cP _ _ hk)) (xy T Wh);exact⟨_,h',λrun ρ=>by simp only[ao,az,ak e,ak e2,ak e3,h1,Zz,if_true,ZH],k2⟩
   ·exact k.elim
  ·exact k.elim
 ·obtain⟨v,e,k0⟩:=bA hs;obtain⟨u,e2,k1⟩:=bA k0;obtain⟨y,e3,k⟩:=bA k1;clear k0 k1
  split at k
  ·rename_i hk
   split at k
   ·rename_i Wh
    obtain⟨h',h1,k2⟩:=Wi.out (C:=C) k (Gq (T.cP _ _ hk)) (xy T Wh);exact⟨_,h',λrun ρ=>by simp only[ao,az,ak e,ak e2,ak e3,h1,Zz,if_true,ZH],k2⟩
   ·exact k.elim
  ·exact k.elim
 ·obtain⟨v,h',b⟩:=hs.out;exact⟨v,h',b⟩
def push(d:Option Nat)(v:PV)(L:Al):Al:=match d with |some d=>(d,v)::L |none=>L
def fy(d:Option Nat)(v:PV)(L:Al)(K:Al->Prop):Prop:=match d with |some d=>K ((d,v)::L)|none=>K L
theorem fJ{d:Option Nat}{v:PV}{K:Al->Prop}(h:fy d v L K):K (push d v L):=by
 unfold fy at h
 split at h <;>exact h
theorem jH(d:Option Nat)(v:PV):bV (al L ρ) d v=al (push d v L) ρ:=by
 cases d with
 |none=>rfl
 |some d=>exact bZ d v L ρ
def T3(ops:List Oper)(g:Option (Nat×Bool))(L:Al):Option Bool:=
 match g with
 |none=>some true
 |some (j,want)=>match yi ops j with
  |some o=>match o.dst with
   |some d=>match lk L d with
    |some (.bool true)=>some want
    |some (.bool false)=>match want with |true=>some false |false=>some true
    |some .undef=>some false
    |_=>none
   |none=>some false
  |none=>some false
theorem uS{ops:Array Oper}{o:Oper}{b:Bool}(hh:T3 ops.toList o.guard L=some b):bm ops o (al L ρ)=some b:=by
 unfold T3 at hh;unfold bm
 split at hh
 ·rename_i hg;rw[hg];exact hh
 ·rename_i j want hg
  rw[hg];simp only;rw[pS]at hh
  cases ho:ops.toList[j]? with
  |none=>rw[ho]at hh;simpa using hh
  |some o'=>
   rw[ho]at hh;simp only[Option.bind_some]at hh ⊢
   cases hd:o'.dst with
   |none=>rw[hd]at hh;simpa using hh
   |some d=>
    rw[hd]at hh;simp only at hh ⊢
    split at hh
    ·rename_i hl;rw[dq hl ρ];simp at hh;subst hh;cases want <;>rfl
    ·rename_i hl;rw[dq hl ρ];cases want <;>simp at hh <;>subst hh <;>rfl
    ·rename_i hl;rw[dq hl ρ];simpa using hh
    ·cases hh
def xC(op:Op):Option (Operand×List Operand):=match op with | .call ⟨.value f,args,_⟩=>some (f,args.toList)|_=>none
def To(op:Op):Bool:=match op with | .load .. | .indexAddr .. | .slice .. | .lookup ..=>true | .call ⟨.builtin .len,_,_⟩| .call ⟨.builtin .max,_,_⟩| .call ⟨.builtin .min,_,_⟩=>true |_=>false
def Mt(op:Op)(L:Al)(h:ab)(K:PV->ab->Prop):Prop:=
 match xC op with
 |some (f,args)=>lu L f λv=>match v with
  | .fn f da=>nM L args λus=>ur us da λus=>ai C 2 f us h λv h'=>Rn (K v h')
  | .mR f k cs=>nM L args λus=>xw k cs λa=>nJ k cs λb=>ur a us λus=>ur us b λus=>ai C 2 f us h λv h'=>Rn (K v h')
  |_=>False
 |none=>match cR op with
  |false=>vB T op L λv=>K v h
  |true=>match To op with
   |true=>tg T op L h λv=>K v h
   |false=>tV T op L h K
def Fg(ops:List Oper)(l:List Oper):Al->ab->(Al->ab->Prop)->Prop:=
 List.rec (motive:=λ_=>Al->ab->(Al->ab->Prop)->Prop) (λL h Q=>Q L h)
  (λo _ ih L h Q=>match T3 ops o.guard L with
   |some true=>Mt T o.op L h λv h'=>fy o.dst v L λL=>ih L h' Q
   |some false=>fy o.dst .undef L λL=>ih L h Q
   |none=>False) l
theorem IT{ops:List Oper}{o:Oper}{r:List Oper}{L:Al}{h:ab}{Q:Al->ab->Prop}:Fg T ops (o::r) L h Q=match T3 ops o.guard L with
  |some true=>Mt T o.op L h λv h'=>fy o.dst v L λL=>Fg T ops r L h' Q
  |some false=>fy o.dst .undef L λL=>Fg T ops r L h Q
  |none=>False:=rfl
theorem ai.mono{lv:Nat}{f:FuncId}{args:List PV}{h:ab}{Q Q':PV->ab->Prop}(a:ai C lv f args h Q)(hq:∀r h,Q r h->Q' r h):ai C lv f args h Q':=by
 obtain⟨r,h',q,e⟩:=a;exact⟨r,h',hq _ _ q,e⟩
theorem ah.Wj{ops:Array Oper}{o:Oper}{r:List Oper}{s:St}{Q:St->Prop}{c:Call}{x:Operand}{f:FuncId}{k:Nat}{cs args:List PV}(hw:bm ops o s.ρ=some true)(ho:o.op=.call c)(hx:c.callee=.value x)(hf:ev s.ρ x=.mR f k cs)
  (ha:cs.take k++c.args.toList.map (ev s.ρ)++cs.drop k=args) (hc:ai C 2 f args s.h (λv h'=>ah C ops r ⟨bV s.ρ o.dst v,h'⟩ Q)):ah C ops (o::r) s Q:=by
 obtain⟨v,h',⟨s',q,n1,Dc⟩,n0,hn⟩:=hc;refine⟨s',q,max n0 n1,λn h1=>?_⟩
 have:ao C (eV C n) 2 o.op s.ρ s.h=some (v,h'):=by
  rw[ho];simp only[ao,hx,fO,hf,ha];exact hn n (by omega)
 simp only[dw,fA,hw,this,Dc n (by omega)]
theorem pu{ops:Array Oper}{Q:St->Prop}:∀{l:List Oper} {L:Al} {h:ab} {K:Al->ab->Prop},Fg T ops.toList l L h K->(∀L' h',K L' h'->Q ⟨al L' ρ,h'⟩)->ah C ops l ⟨al L ρ,h⟩ Q
 |[],L,h,K,x,hq=>ah.nil (hq _ _ x)
 |o::r,L,h,K,x,hq=>by
  rw[IT]at x
  split at x
  ·rename_i hg
   have hw:=uS (ρ:=ρ) hg
   have plain:∀{v:PV} {h':ab},(∀run ρ,ao C run 2 o.op (al L ρ) h=some (v,h'))->(fy o.dst v L λL=>Fg T ops.toList r L h' K)->ah C ops (o::r) ⟨al L ρ,h⟩ Q:=λ{v h'} hv k=>
    ah.step (s1:=⟨bV (al L ρ) o.dst v,h'⟩) (λrun=>by simp only[fA,hw,hv run ρ]) (by rw[jH];exact pu (fJ k) hq)
   unfold Mt at x
   split at x
   ·rename_i f args hc
    obtain⟨v,e,k⟩:=bA x
    split at k
    ·obtain⟨us,e2,k⟩:=iJ k;have k:=jR k
     have kH:∃c:Call,o.op=.call c/\c.callee=.value f/\c.args.toList=args:=by
      unfold xC at hc
      split at hc
      ·rename_i h1
       obtain⟨rfl,rfl⟩:=ZG (Zu hc);exact⟨_,h1,rfl,rfl⟩
      ·cases hc
     obtain⟨c,c1,c2,c3⟩:=kH;refine ah.call hw c1 c2 (ak e ρ) (by rw[c3,gw e2]) (k.mono λv h' kk=>?_);rw[jH];exact pu (fJ kk.out) hq
    ·obtain⟨us,e2,k⟩:=iJ k;obtain⟨_,k⟩:=mN k;obtain⟨_,k⟩:=iI k;have k:=jR (jR k)
     have kH:∃c:Call,o.op=.call c/\c.callee=.value f/\c.args.toList=args:=by
      unfold xC at hc
      split at hc
      ·rename_i h1
       obtain⟨rfl,rfl⟩:=ZG (Zu hc);exact⟨_,h1,rfl,rfl⟩
      ·cases hc
     obtain⟨c,c1,c2,c3⟩:=kH;refine ah.Wj hw c1 c2 (ak e ρ) (by rw[c3,gw e2]) (k.mono λv h' kk=>?_);rw[jH];exact pu (fJ kk.out) hq
    ·exact k.elim
   ·split at x
    ·obtain⟨_,v,h1,k⟩:=pC T x;exact plain (λrun ρ=>h1 run 2 ρ h) k
    ·split at x
     ·obtain⟨_,v,h1,k⟩:=kj T x;exact plain (λrun ρ=>h1 run 2 ρ) k
     ·obtain⟨v,h',h1,k⟩:=pQ T x;exact plain h1 k
  ·rename_i hg
   have hw:=uS (ρ:=ρ) hg;exact ah.step (s1:=⟨bV (al L ρ) o.dst .undef,h⟩) (λrun=>by simp only[fA,hw]) (by rw[jH];exact pu (fJ x) hq)
  ·exact x.elim
def Wk(h:ab)(v:PV):Prop:=match v with
 | .ptr id _ _ _=>aL h id=true
 | .aj id _ _ _=>aL h id=true
 |v=>br (aL h) v=true
def Ir(L:Al)(h:ab):List Operand->Prop
 |[]=>True
 |y::r=>match cG L y with
  |some v=>Wk h v/\Ir L h r
  |none=>False
theorem As{id:Nat}{o:au}(e:h[id]?=some o)(h1:o.mu≠.x):aL h id=true:=by simp[aL,e,h1]
theorem Gx{o:au}(h1:o.mu≠.x):aL (h++[o]) h.length=true:=by simp[aL,h1]
theorem uT{J:ab}{id:Nat}(e:aL h id=true):aL (h++J) id=true:=by
 unfold aL at e ⊢
 split at e
 ·rename_i o ho
  rw[Zv (ag ho),ho];exact e
 ·cases e
theorem Gy{ρ:Nat->PV}:∀{l:List Operand},Ir L h l->∀y∈l,br (aL h) (ev (al L ρ) y)=true
 |[],_,y,hy=>by cases hy
 |x::l,a,y,hy=>by
  unfold Ir at a
  split at a
  ·rename_i v hv
   rcases ZF.1 hy with rfl |hy
   ·rw[ak hv];have a1:=a.1;unfold Wk at a1
    split at a1
    ·simpa only[br]using a1
    ·simpa only[br]using a1
    ·exact a1
   ·exact Gy a.2 y hy
  ·exact a.elim
inductive DRd(ops:Array Oper)(i:Nat)(op:Op)(L:Al)(h:ab)(a:Prop):Prop
 |mk (k:Rn a) (hc:aR h=true:=by first |exact HV.closed (by assumption)|exact HR.closed (by assumption)|assumption |rfl |((refine HV.closed ?_;repeat' (first |assumption |apply HV.ct |(refine HV.one ?_;simp <;>fail)|exact HV.nil)) <;>fail))
   (hv:Ir L h op.operands.toList:=by(repeat' (first |exact trivial |refine⟨?_,?_⟩|rfl |exact As (by assumption) (by first |assumption |simp)|exact Gx (by simp)|exact uT (As (by assumption) (by first |assumption |simp))|exact uT (Gx (by simp))|exact uT (uT (As (by assumption) (by first |assumption |simp))))) <;>fail)
 |m2 (k:Rn a) (hl:level ops (before ops) i=2:=by rfl)
inductive DTw(ops:Array Oper)(i:Nat)(a:Prop):Prop
 |mk (k:Rn a) (hl:level ops (before ops) i=2:=by rfl)
inductive Tp(C:cK)(ops:Array Oper)(i:Nat)(L:Al)(f:FuncId)(xs:List Operand)(us:List PV)(h:ab)(K:PV->ab->Prop):Prop
 |m2 (k:ai C 2 f us h λv h'=>Rn (K v h')) (hl:level ops (before ops) i=2:=by rfl)
 |o1 (r:PV) (a:ay C f us (h.map bM) (λr' h'=>r'=r/\h'.length=h.length)) (kk:Rn (K r h)) (hv:bw (aL h) us=true) (hm:C.mode f=.opened:=by rfl) (hl:level ops (before ops) i=1:=by rfl)
   (hc:aR h=true:=by first |exact HV.closed (by assumption)|exact HR.closed (by assumption)|assumption)
 |mk (r:PV) (a:aO C f (aU us) r) (kk:Rn (K r h)) (hm:C.mode f=.pure:=by rfl) (hv:ar us=true:=by simp) (hc:aR h=true:=by first |exact HV.closed (by assumption)|exact HR.closed (by assumption)|assumption |rfl |((refine HV.closed ?_;repeat' (first |assumption |apply HV.ct |(refine HV.one ?_;simp <;>fail)|exact HV.nil)) <;>fail))
inductive DBs(ops:Array Oper)(i:Nat)(op:Op)(L:Al)(h:ab)(es:List PV)(p q:Prop):Prop
 |mk (k:Rn q) (hv:ar es=false:=by rfl) (hl:level ops (before ops) i=2:=by rfl)
 |m2 (k:DRd ops i op L h p) (hv:ar es=true:=by first |rfl |(simp <;>fail))
theorem E0{op:Op}(hv:Ir L h op.operands.toList):(op.operands.toList.all λy=>br (aL h) (ev (al L ρ) y))=true:=by
 rw[Zw];exact Gy hv
def dX(ops:Array Oper)(i:Nat)(l:List Oper):Al->ab->(Al->ab->Prop)->Prop:=
 List.rec (motive:=λ_=>Nat->Al->ab->(Al->ab->Prop)->Prop) (λ_ L h Q=>Q L h)
  (λo _ ih i L h Q=>match T3 ops.toList o.guard L with
  |some true=>match xC o.op with
   |some (f,args)=>lu L f λv=>match v with
    | .fn f da=>nM L args λus=>ur us da λus=>Tp C ops i L f args us h λv h'=>fy o.dst v L λL=>ih (i+1) L h' Q
    | .mR f k cs=>nM L args λus=>xw k cs λa=>nJ k cs λb=>ur a us λus=>ur us b λus=>Tp C ops i L f args us h λv h'=>fy o.dst v L λL=>ih (i+1) L h' Q
    |_=>False
   |none=>match cR o.op with
    |false=>vB T o.op L λv=>fy o.dst v L λL=>ih (i+1) L h Q
    |true=>match To o.op with
     |true=>DRd ops i o.op L h (tg T o.op L h λv=>fy o.dst v L λL=>ih (i+1) L h Q)
     |false=>match o.op with
      | .buildSlice t n ps=>xW T t n ps.toList L λsz es=>match Nat.beq es.length n with
       |true=>DBs ops i o.op L h es (fy o.dst (.aa true es) L λL=>ih (i+1) L h Q) (tV T o.op L h λv h'=>fy o.dst v L λL=>ih (i+1) L h' Q)
       |false=>False
      |op=>DTw ops i (tV T op L h λv h'=>fy o.dst v L λL=>ih (i+1) L h' Q)
  |some false=>fy o.dst .undef L λL=>ih (i+1) L h Q
  |none=>False) l i
theorem Pe{ops:Array Oper}{i:Nat}{o:Oper}{r:List Oper}{L:Al}{h:ab}{Q:Al->ab->Prop}:dX T ops i (o::r) L h Q=(
  match T3 ops.toList o.guard L with
  |some true=>match xC o.op with
   |some (f,args)=>lu L f λv=>match v with
    | .fn f da=>nM L args λus=>ur us da λus=>Tp C ops i L f args us h λv h'=>fy o.dst v L λL=>dX T ops (i+1) r L h' Q
    | .mR f k cs=>nM L args λus=>xw k cs λa=>nJ k cs λb=>ur a us λus=>ur us b λus=>Tp C ops i L f args us h λv h'=>fy o.dst v L λL=>dX T ops (i+1) r L h' Q
    |_=>False
   |none=>match cR o.op with
    |false=>vB T o.op L λv=>fy o.dst v L λL=>dX T ops (i+1) r L h Q
    |true=>match To o.op with
     |true=>DRd ops i o.op L h (tg T o.op L h λv=>fy o.dst v L λL=>dX T ops (i+1) r L h Q)
     |false=>match o.op with
      | .buildSlice t n ps=>xW T t n ps.toList L λsz es=>match Nat.beq es.length n with
       |true=>DBs ops i o.op L h es (fy o.dst (.aa true es) L λL=>dX T ops (i+1) r L h Q) (tV T o.op L h λv h'=>fy o.dst v L λL=>dX T ops (i+1) r L h' Q)
       |false=>False
      |op=>DTw ops i (tV T op L h λv h'=>fy o.dst v L λL=>dX T ops (i+1) r L h' Q)
  |some false=>fy o.dst .undef L λL=>dX T ops (i+1) r L h Q
  |none=>False):=rfl
theorem Gz{ops:Array Oper}{i:Nat}{o:Oper}{r:List Oper}{c:Call}{f:Operand}{g:FuncId}{us us0 fvs:List PV}{Q:St->Prop}{K:PV->ab->Prop}(hw:bm ops o (al L ρ)=some true)(c1:o.op=.call c)(c2:c.callee=.value f)
  (Yq:∀F:Nat->Bool,br F (ev (al L ρ) f)=bw F fvs) (e2:xf L c.args.toList=some us0) (Wl:∀y,y∈us0\/y∈fvs->y∈us) (jf:∀run lv,ao C run lv o.op (al L ρ) h=c9 C run lv g us h) {xs:List Operand} (k:Tp C ops i L g xs us h K)
  (hk:∀v h',K v h'->aV C ops (i+1) r ⟨⟨bV (al L ρ) o.dst v,h'⟩,h'.length,[]⟩ Q):aV C ops i (o::r) ⟨⟨al L ρ,h⟩,h.length,[]⟩ Q:=by
 have hh:cR o.op=true:=by rw[c1];rfl
 have hM:cc ((before ops).getD i 0).testBit h.length [] h=h:=by simp[cc]
 have kH:bw (aL h) us=true->(o.op.operands.toList.all λy=>br (aL h) (ev (al L ρ) y))=true:=λhv=>by
  rw[fI,Zw]at hv;rw[c1,Zw]
  intro y hy
  simp[Op.operands,Call.operands,c2]at hy;rcases hy with rfl |hy
  ·rw[Yq,fI,Zw];exact λx hx=>hv x (Wl x (.inr hx))
  ·refine hv _ (Wl _ (.inl ?_));rw[<-gw (ρ:=ρ) e2];exact Z0.2 ⟨y,by simpa using hy,rfl⟩
 cases k with
 |m2 k hl=>
  obtain⟨v,h',kk,n0,hn⟩:=k;exact aV.step (x1:=⟨⟨bV (al L ρ) o.dst v,h'⟩,h'.length,[]⟩) ⟨n0,λn h1=>by simp only[cf,hw,hh,aab,if_false,hl,if_true,jf,hn n h1]⟩ (hk _ _ kk.out)
 |o1 v a kk hv hm hl hc=>
  obtain⟨v',h',⟨rfl,hd⟩,n0,hn⟩:=a;have hd:h'.drop h.length=[]:=Z5 (by omega);refine aV.step (x1:=⟨⟨bV (al L ρ) o.dst v',h⟩,h.length,[]⟩) ⟨n0,λn h1=>?_⟩ (hk _ _ kk.out)
  have C2:c9 C (eV C n) 1 g us h=some (v',h):=by
   unfold c9;simp[hm,gK,dQ,hn n h1,hd]
  simp only[cf,hw,hh,aab,if_false,hl,hM,hc,kH hv,and_self,if_true,jf,C2];simp
 |mk r' a kk hm hv hc=>
  have C2:∃n0,∀n lv,n0<=n->1<=lv->c9 C (eV C n) lv g us h=some (r',h):=by
   obtain⟨n0,hn⟩:=a;refine⟨n0,λn lv h1 _=>?_⟩;obtain⟨r0,hc,r1,e1,e2,e3⟩:=hn n h1;unfold c9;rw[hm];simp only[dx,hv,if_true,e1,e2,e3]
  obtain⟨n0,hn⟩:=C2;refine aV.step (x1:=⟨⟨bV (al L ρ) o.dst r',h⟩,h.length,[]⟩) ⟨n0,λn h1=>?_⟩ (hk _ _ kk.out)
  by_cases hl:level ops (before ops) i=2
  ·simp only[cf,hw,hh,aab,if_false,hl,if_true,jf,hn n 2 h1 (by omega)]
  ·simp only[cf,hw,hh,aab,if_false,hl,hM,hc,kH (bq _ _ hv),and_self,if_true,jf,hn n 1 h1 (Zz _)];simp
theorem qS{ops:Array Oper}{Q:St->Prop}:∀{l:List Oper} {i:Nat} {L:Al} {h:ab} {K:Al->ab->Prop},dX T ops i l L h K->(∀L' h',K L' h'->Q ⟨al L' ρ,h'⟩)->aV C ops i l ⟨⟨al L ρ,h⟩,h.length,[]⟩ Q
 |[],i,L,h,K,x,hq=>aV.nil (hq _ _ x)
 |o::r,i,L,h,K,x,hq=>by
  rw[Pe]at x
  split at x
  ·rename_i hg
   have hw:=uS (ρ:=ρ) hg
   have plain:∀{v:PV},cR o.op=false->(∀run,ao C run 1 o.op (al L ρ) h=some (v,h))->(fy o.dst v L λL=>dX T ops (i+1) r L h K)->aV C ops i (o::r) ⟨⟨al L ρ,h⟩,h.length,[]⟩ Q:=λ{v} hh hv k=>
    aV.step (x1:=⟨⟨bV (al L ρ) o.dst v,h⟩,h.length,[]⟩) ⟨0,λn _=>by simp only[cf,hw,hh,if_true,hv]⟩ (by rw[jH];exact qS (fJ k) hq)
   have two:∀{v:PV} {h':ab},cR o.op=true->level ops (before ops) i=2->(∃n0,∀n,n0<=n->ao C (eV C n) 2 o.op (al L ρ) h=some (v,h'))->(fy o.dst v L λL=>dX T ops (i+1) r L h' K)->aV C ops i (o::r) ⟨⟨al L ρ,h⟩,h.length,[]⟩ Q:=λ{v h'} hh hl hv k=>by
    obtain⟨n0,hn⟩:=hv;refine aV.step (x1:=⟨⟨bV (al L ρ) o.dst v,h'⟩,h'.length,[]⟩) ⟨n0,λn h1=>?_⟩ (by rw[jH];exact qS (fJ k) hq);simp only[cf,hw,hh,aab,if_false,hl,if_true,hn n h1]
   have one:∀{v:PV},cR o.op=true->aR h=true->(o.op.operands.toList.all λy=>br (aL h) (ev (al L ρ) y))=true->(∃n0,∀n lv,n0<=n->1<=lv->ao C (eV C n) lv o.op (al L ρ) h=some (v,h))->(fy o.dst v L λL=>dX T ops (i+1) r L h K)->aV C ops i (o::r) ⟨⟨al L ρ,h⟩,h.length,[]⟩ Q:=λ{v} hh di kH hv k=>by
    by_cases hl:level ops (before ops) i=2
    ·obtain⟨n0,hn⟩:=hv;exact two hh hl ⟨n0,λn h1=>hn n 2 h1 (by omega)⟩ k
    ·obtain⟨n0,hn⟩:=hv;refine aV.step (x1:=⟨⟨bV (al L ρ) o.dst v,h⟩,h.length,[]⟩) ⟨n0,λn h1=>?_⟩ (by rw[jH];exact qS (fJ k) hq);have hM:cc ((before ops).getD i 0).testBit h.length [] h=h:=by simp[cc]
     simp only[cf,hw,hh,aab,if_false,hl,hM,di,kH,and_self,if_true,hn n 1 h1 (Zz _)];simp
   split at x
   ·rename_i f args hc
    obtain⟨v,e,k⟩:=bA x
    split at k
    ·rename_i da
     obtain⟨us,e2,k⟩:=iJ k;have k:=jR k
     have kH:∃c:Call,o.op=.call c/\c.callee=.value f/\c.args.toList=args:=by
      unfold xC at hc
      split at hc
      ·rename_i h1
       obtain⟨rfl,rfl⟩:=ZG (Zu hc);exact⟨_,h1,rfl,rfl⟩
      ·cases hc
     obtain⟨c,c1,c2,c3⟩:=kH
     refine Gz hw c1 c2 (fvs:=da) (λF=>by rw[ak e];rfl) (us0:=us) (by rw[c3];exact e2) (λy hy=>ZE.2 hy) (λrun lv=>by
      rw[c1];simp only[ao,c2,fO,ak e,c3,gw e2]) k (λv h' kk=>?_)
     rw[jH];exact qS (fJ kk) hq
    ·rename_i kk cs
     obtain⟨us,e2,k⟩:=iJ k;obtain⟨_,k⟩:=mN k;obtain⟨_,k⟩:=iI k;have k:=jR (jR k)
     have kH:∃c:Call,o.op=.call c/\c.callee=.value f/\c.args.toList=args:=by
      unfold xC at hc
      split at hc
      ·rename_i h1
       obtain⟨rfl,rfl⟩:=ZG (Zu hc);exact⟨_,h1,rfl,rfl⟩
      ·cases hc
     obtain⟨c,c1,c2,c3⟩:=kH
     refine Gz hw c1 c2 (fvs:=cs) (λF=>by rw[ak e];rfl) (us0:=us) (by rw[c3];exact e2) (λy hy=>by
      rcases hy with hy |hy
      ·simp[hy]
      ·have:y∈cs.take kk++cs.drop kk:=by rw[abg];exact hy
       rcases ZE.1 this with h |h
       ·exact ZE.2 (.inl (ZE.2 (.inl h)))
       ·exact ZE.2 (.inr h)) (λrun lv=>by
      rw[c1];simp only[ao,c2,fO,ak e,c3,gw e2]) k (λv h' kk=>?_)
     rw[jH];exact qS (fJ kk) hq
    ·exact k.elim
   ·split at x
    ·obtain⟨hh,v,h1,k⟩:=pC T x;exact plain hh (λrun=>h1 run 1 ρ h) k
    ·split at x
     ·rename_i hh _ _
      cases x with
      |mk k hc hv=>
       obtain⟨_,v,h1,k⟩:=kj T k.out;exact one hh hc (E0 hv) ⟨0,λn lv _ _=>h1 _ lv ρ⟩ k
      |m2 k hl=>
       obtain⟨_,v,h1,k⟩:=kj T k.out;exact two hh hl ⟨0,λn _=>h1 _ 2 ρ⟩ k
     ·rename_i hh _ _
      split at x
      ·rename_i kH
       obtain⟨sz,es,k,hb⟩:=mv T x
       split at k
       ·have hb:∀run lv,ar es=true->ao C run lv o.op (al L ρ) h=some (.aa true es,h):=λrun lv hv=>by
         rw[kH];simp only[ao,az,hb];rw[if_pos hv]
        cases k with
        |m2 k D6=>
         cases k with
         |mk k hc hv=>exact one hh hc (E0 hv) ⟨0,λn lv _ _=>hb _ lv D6⟩ k.out
         |m2 k hl=>exact two hh hl ⟨0,λn _=>hb _ 2 D6⟩ k.out
        |mk k _ hl=>
         obtain⟨v,h',h1,k⟩:=pQ T k.out;exact two hh hl ⟨0,λn _=>h1 _ ρ⟩ k
       ·exact k.elim
      ·cases x with
       |mk k hl=>
        obtain⟨v,h',h1,k⟩:=pQ T k.out;exact two hh hl ⟨0,λn _=>h1 _ ρ⟩ k
  ·rename_i hg
   have hw:=uS (ρ:=ρ) hg;refine aV.step (x1:=⟨⟨bV (al L ρ) o.dst .undef,h⟩,h.length,[]⟩) ⟨0,λn _=>by simp only[cf,hw]⟩ (by rw[jH];exact qS (fJ x) hq)
  ·exact x.elim
inductive Py(ops:Array Oper)(L:Al)(h:ab)(Q:Al->ab->Prop):Prop
 |mk (k:Rn (dX T ops 0 ops.toList L h Q)) (hk:qW ops=false:=by rfl)
 |raw (k:∀ρ,aV C ops 0 ops.toList ⟨⟨al L ρ,h⟩,h.length,[]⟩ (λs=>∃L' h',s=⟨al L' ρ,h'⟩/\Q L' h')) (hk:qW ops=false:=by rfl)
 |calm (L':Al) (h':ab) (e:∀run ρ,iN C run ops ⟨al L ρ,h⟩=some ⟨al L' ρ,h'⟩) (kk:Rn (Q L' h')) (hk:qW ops=true:=by rfl)
inductive sV(C:cK) where
 |top (Q:Ex->St->Prop)
 |fn (f:Func) (Q:PV->ab->Prop)
 |seq (b:Code) (k:sV C)
 |block (id:Nat) (k:sV C)
 |loop (I:Al->ab->Prop) (k:sV C)
theorem kI{k:IntKind}{a b:Int}(h:a=b):some (PV.int k a)=some (PV.int k b):=by rw[h]
inductive Nx(I:Al->ab->Prop)(L:Al)(h:ab):Prop
 |nx {L':Al} (a:I L' h) (hk:ON L L':=by repeat(first |exact trivial |refine⟨?_,?_⟩|rfl |exact kI (by first |(simp;done)|(simp;omega)|omega)))
def Xa(I:Al->ab->Prop)(s:St):Prop:=∃L ρ,s.ρ=al L ρ/\I L s.h
theorem Nx.out{I:Al->ab->Prop}{L:Al}{h:ab}(x:Nx I L h)(ρ:Nat->PV):Xa I ⟨al L ρ,h⟩:=by
 cases x with |nx a hk=>exact⟨_,al L ρ,congrArg St.ρ (St.aQ (h:=h) hk),a⟩
def sV.den:sV C->Ex->St->Prop
 | .top Q=>Q
 | .fn f Q=>aJ C f Q
 | .seq b k=>aE C b k.den
 | .block id k=>aC id k.den
 | .loop I k=>aI (Xa I) k.den
inductive Tq(L:Al)(h:ab)(l:List ResultVar)(Q:PV->ab->Prop):Prop
 |mk {vs:List PV} (kk:Rn (Q (aY vs) h)) (hr:xj T L h l=some vs:=by rfl)
def Fh(L:Al):List ResultVar->(List PV->Prop)->Option Prop
 |[],k=>some (k [])
 | .tmp t::r,k=>match lk L t with
  |some v=>Fh L r λl=>k (v::l)
  |none=>none
 | .cell _ _::_,_=>none
theorem C'{L:Al}{ρ:Nat->PV}{h:ab}:∀{l:List ResultVar} {k:List PV->Prop} {p:Prop},Fh L l k=some p->p->∃vs,db C.P h (al L ρ) l=some vs/\k vs
 |[],k,p,e,x=>⟨[],rfl,by rw[<-Zu e]at x;exact x⟩
 | .tmp t::r,k,p,e,x=>by
  simp only[Fh]at e
  split at e
  ·rename_i v hv
   obtain⟨vs,h1,h2⟩:=C' (ρ:=ρ) (h:=h) e x;exact⟨v::vs,by simp[db,dq hv,h1],h2⟩
  ·cases e
 | .cell _ _::_,k,p,e,x=>by simp[Fh]at e
inductive eJ(c:Code)(L:Al)(ρ:Nat->PV)(h:ab)(k:sV C):Prop
 |lpx (e:Ev C (.loop c) ⟨al L ρ,h⟩ k.den)
inductive Tk where
 |c (c:Code)
 |e (e:Ex)
def jC(n:Nat):Tk->sV C->Al->(Nat->PV)->ab->Prop:=
 Nat.rec (motive:=λ_=>Tk->sV C->Al->(Nat->PV)->ab->Prop) (λ_ _ _ _ _=>False)
  (λn ih tk k L ρ h=>match tk with
   | .c c=>match c with
    | .skip=>ih (.e .normal) k L ρ h
    | .label _=>ih (.e .normal) k L ρ h
    | .region _ ops false=>Fg T ops.toList ops.toList L h λL' h'=>ih (.e .normal) k L' ρ h'
    | .region _ ops true=>Py T ops L h λL' h'=>ih (.e .normal) k L' ρ h'
    | .seq a b=>ih (.c a) (.seq b k) L ρ h
    | .cond c a b=>lu L c λv=>match v with
     | .bool true=>ih (.c a) k L ρ h
     | .bool false=>ih (.c b) k L ρ h
     |_=>False
    | .block id c=>ih (.c c) (.block id k) L ρ h
    | .loop c=>eJ c L ρ h k
    | .scope c=>ih (.c c) k L ρ h
    | .exit id=>ih (.e (.exit id)) k L ρ h
    | .ret=>ih (.e .ret) k L ρ h
    |_=>False
   | .e ex=>match k with
    | .top Q=>Q ex ⟨al L ρ,h⟩
    | .fn f Q=>match ex with
     | .exit _=>False
     |_=>match Fh L f.results.toList λvs=>Q (aY vs) h with
      |some p=>p
      |none=>Tq T L h f.results.toList Q
    | .seq b k=>match ex with
     | .normal=>ih (.c b) k L ρ h
     |ex=>ih (.e ex) k L ρ h
    | .block id k=>match ex with
     | .exit dS=>match Nat.beq dS id with
      |true=>ih (.e .normal) k L ρ h
      |false=>ih (.e (.exit dS)) k L ρ h
     |ex=>ih (.e ex) k L ρ h
    | .loop I k=>match ex with
     | .normal=>Nx I L h
     |ex=>ih (.e ex) k L ρ h) n
theorem Tr{n:Nat}{c:Code}{k:sV C}{L:Al}{ρ:Nat->PV}{h:ab}:jC T (n+1) (.c c) k L ρ h=(match c with
  | .skip=>jC T n (.e .normal) k L ρ h
  | .label _=>jC T n (.e .normal) k L ρ h
  | .region _ ops false=>Fg T ops.toList ops.toList L h λL' h'=>jC T n (.e .normal) k L' ρ h'
  | .region _ ops true=>Py T ops L h λL' h'=>jC T n (.e .normal) k L' ρ h'
  | .seq a b=>jC T n (.c a) (.seq b k) L ρ h
  | .cond c a b=>lu L c λv=>match v with
   | .bool true=>jC T n (.c a) k L ρ h
   | .bool false=>jC T n (.c b) k L ρ h
   |_=>False
  | .block id c=>jC T n (.c c) (.block id k) L ρ h
  | .loop c=>eJ c L ρ h k
  | .scope c=>jC T n (.c c) k L ρ h
  | .exit id=>jC T n (.e (.exit id)) k L ρ h
  | .ret=>jC T n (.e .ret) k L ρ h
  |_=>False):=rfl
theorem Ts{n:Nat}{ex:Ex}{k:sV C}{L:Al}{ρ:Nat->PV}{h:ab}:jC T (n+1) (.e ex) k L ρ h=(match k with
  | .top Q=>Q ex ⟨al L ρ,h⟩
  | .fn f Q=>match ex with
   | .exit _=>False
   |_=>match Fh L f.results.toList λvs=>Q (aY vs) h with
    |some p=>p
    |none=>Tq T L h f.results.toList Q
  | .seq b k=>match ex with
   | .normal=>jC T n (.c b) k L ρ h
   |ex=>jC T n (.e ex) k L ρ h
  | .block id k=>match ex with
   | .exit dS=>match Nat.beq dS id with
    |true=>jC T n (.e .normal) k L ρ h
    |false=>jC T n (.e (.exit dS)) k L ρ h
   |ex=>jC T n (.e ex) k L ρ h
  | .loop I k=>match ex with
   | .normal=>Nx I L h
   |ex=>jC T n (.e ex) k L ρ h):=rfl
theorem dB:∀{n:Nat} {t:Tk} {k:sV C} {L:Al} {ρ:Nat->PV} {h:ab},jC T n t k L ρ h->match t with | .c c=>Ev C c ⟨al L ρ,h⟩ k.den | .e ex=>k.den ex ⟨al L ρ,h⟩
 |0,_,_,_,_,_,x=>x.elim
 |n+1,.c c,k,L,ρ,h,x=>by
  have nx:∀{L':Al} {h':ab},jC T n (.e .normal) k L' ρ h'->k.den .normal ⟨al L' ρ,h'⟩:=λy=>dB (n:=n) (t:=.e .normal) y
  show Ev C c ⟨al L ρ,h⟩ k.den;rw[Tr]at x
  split at x
  ·exact Ev.skip (nx x)
  ·exact Ev.label (nx x)
  ·exact Ev.region (pu T x λ_ _ y=>nx y)
  ·cases x with
   |mk x hk=>exact Ev.kb (qS T x.out λ_ _ y=>nx y) hk
   |raw x hk=>
    obtain⟨y,⟨L',h',e,q⟩,n0,hn⟩:=x ρ;exact Ev.kb ⟨y,by rw[e];exact nx q,n0,hn⟩ hk
   |calm L' h' e kk hk=>exact⟨.normal,⟨al L' ρ,h'⟩,nx kk.out,0,λn m _ _=>by simp only[bJ,if_true,hk,e]⟩
  ·exact Ev.seq (dB (n:=n) (t:=.c _) (k:=.seq _ k) x)
  ·obtain⟨v,e,k⟩:=bA x
   split at k
   ·exact Ev.PH (ak e ρ) (dB (n:=n) (t:=.c _) k)
   ·exact Ev.PI (ak e ρ) (dB (n:=n) (t:=.c _) k)
   ·exact k.elim
  ·exact Ev.block (dB (n:=n) (t:=.c _) (k:=.block _ k) x)
  ·cases x with |lpx e=>exact e
  ·exact Ev.scope (dB (n:=n) (t:=.c _) x)
  ·exact Ev.exit (dB (n:=n) (t:=.e _) x)
  ·exact Ev.ret (dB (n:=n) (t:=.e _) x)
  ·exact x.elim
 |n+1,.e ex,k,L,ρ,h,x=>by
  show k.den ex ⟨al L ρ,h⟩;rw[Ts]at x
  split at x
  ·exact x
  ·have fin:∀{ex:Ex} {f:Func} {Q:PV->ab->Prop},(ex=.normal\/ex=.ret)->(match Fh L f.results.toList λvs=>Q (aY vs) h with |some p=>p |none=>Tq T L h f.results.toList Q)->aJ C f Q ex ⟨al L ρ,h⟩:=λ{ex f Q} hex y=>by
    split at y
    ·rename_i p hp
     obtain⟨vs,h1,h2⟩:=C' (C:=C) (ρ:=ρ) (h:=h) hp y;exact⟨hex,vs,h1,h2⟩
    ·cases y with |mk kk hr=>exact⟨hex,_,uN T hr,kk.out⟩
   split at x
   ·exact x.elim
   ·rename_i bI
    refine fin ?_ x
    cases ex with
    |normal=>exact .inl rfl
    |ret=>exact .inr rfl
    |exit id=>exact absurd rfl (bI id)
  ·split at x
   ·exact aE.normal (dB (n:=n) (t:=.c _) x)
   ·have:=dB (n:=n) (t:=.e _) x
    cases ex with
    |normal=>simp_all
    |ret=>exact aE.ret this
    |exit id=>exact aE.exit this
  ·split at x
   ·split at x
    ·rename_i hb
     have:=aah hb;subst this;exact aC.Qa (dB (n:=n) (t:=.e _) x)
    ·rename_i hb
     exact aC.Ox (by rw[beq_eq_false_iff_ne];rintro rfl;rw[Nat.beq_refl]at hb;cases hb) (dB (n:=n) (t:=.e _) x)
   ·have:=dB (n:=n) (t:=.e _) x
    cases ex with
    |normal=>exact aC.normal this
    |ret=>exact aC.ret this
    |exit id=>simp_all
  ·split at x
   ·exact x.out ρ
   ·have:=dB (n:=n) (t:=.e _) x
    cases ex with
    |normal=>simp_all
    |ret=>exact aI.ret this
    |exit id=>exact aI.exit this
theorem ai.p{lv:Nat}{f:FuncId}{args args':List PV}{r:PV}{h:ab}{Q:PV->ab->Prop}(a:aO C f args' r)(q:Q r h)(hm:C.mode f=.pure:=by rfl)(hv:ar args=true:=by simp)(hn:aU args=args':=by simp):ai C lv f args h Q:=
 ai.pure hm hv (hn▸a) q
theorem Tp.p{ops:Array Oper}{i:Nat}{L:Al}{f:FuncId}{xs:List Operand}{us us':List PV}{h:ab}{K:PV->ab->Prop}{r:PV}(a:aO C f us' r)(kk:Rn (K r h))(hm:C.mode f=.pure:=by rfl)(hv:ar us=true:=by simp)(hn:aU us=us':=by simp)
  (hc:aR h=true:=by first |exact HV.closed (by assumption)|exact HR.closed (by assumption)|assumption |rfl |((refine HV.closed ?_;repeat' (first |assumption |apply HV.ct |(refine HV.one ?_;simp <;>fail)|exact HV.nil)) <;>fail)):Tp C ops i L f xs us h K:=.mk r (hn▸a) kk hm hv hc
theorem ay.x{f:FuncId}{fn:Func}{c:Code}{args:List PV}{h:ab}{Q:PV->ab->Prop}(hf:C.P.funcs[f]?=some fn)(hb:fn.body=some c)
  (k:Rn (jC T 10000 (.c c) (.fn fn Q) (AJ 0 args) (λ_=>.undef) h)):ay C f args h Q:=ay.dC hf hb (dB T k.out)
theorem aO.xd{f:FuncId}{fn:Func}{c:Code}{args:List PV}{r:PV}(hf:C.P.funcs[f]?=some fn)(hb:fn.body=some c)
  (k:Rn (jC T 10000 (.c c) (.fn fn λr0 hc=>∃r1,yl hc r0=some r1/\b9 r1=r) (AJ 0 args) (λ_=>.undef) [])):aO C f args r:=aO.ofX (ay.x T hf hb k)
theorem aO.x{f:FuncId}{fn:Func}{c:Code}{args:List PV}{r:PV}(hf:C.P.funcs[f]?=some fn)(hb:fn.body=some c)
  (k:Rn (jC T 10000 (.c c) (.fn fn λr0 hc=>∃r1,rb hc r0=some r1/\b9 r1=r) (AJ 0 args) (λ_=>.undef) [])):aO C f args r:=aO.of (ay.x T hf hb k)
theorem pK{h:ab}:∀{l:List PV},ar l=true->iK h l=some l:=by
 have one:∀{c:PV},aW c=true->qi h c=some c:=λ{c} hc=>by
  unfold qi
  split
  ·simp[aW]at hc
  ·rw[if_pos hc]
 have key:∀cs:List PV,ar cs=true->nW h cs=some cs:=by
  intro cs
  induction cs with
  |nil=>intro _;rfl
  |cons c cs ih=>
   intro hh
   simp only[ar,ZD]at hh;simp only[nW,one hh.1,ih hh.2]
 intro l
 induction l with
 |nil=>intro _;rfl
 |cons c l ih=>
  intro hl
  simp only[ar,ZD]at hl
  have:ly h c=some c:=by
   unfold ly
   split
   ·rw[key _ (by simpa[aW]using hl.1)];rfl
   ·exact one hl.1
  simp only[iK,ih hl.2,this]
theorem ai.po{f:FuncId}{sz:Nat}{v:PV}{h:ab}{es fq rest oV:List PV}{rv:PV}{Q:PV->ab->Prop}(o:Out sz h v es)(a:aO C f (.aa false fq::oV) rv)(q:∀h',(h'=h\/∃id ep,v=.aj id ep 0 es.length/\h'=h.set id ⟨.f,ep,sz,es⟩)->Q rv h')
  (hm:C.mode f=.pure:=by rfl) (hv:ar es=true:=by simp) (hr:ar rest=true:=by simp) (hn:aU es=fq:=by simp) (JK:aU rest=oV:=by simp):ai C 2 f (v::rest) h Q:=by
 subst hn JK;rcases o with⟨rfl,rfl⟩|⟨id,ep,rfl,e2⟩
 ·exact ai.pure hm (by simp[ar,aW,hr]) (by simpa[aU,b9]using a) (q h (.inl rfl))
 ·obtain⟨n0,hn⟩:=a
  by_cases hs:dP rv=true
  ·refine⟨rv,h,q h (.inl rfl),n0,λn h1=>?_⟩;obtain⟨r0,hc,r1,e1,e3,e4⟩:=hn n h1;have yq:dP r1=true:=by have:=jv r1;rw[e4]at this;rw[<-this];exact hs
   have hb:iK h (.aj id ep 0 es.length::rest)=some (.aa false es::rest):=by
    simp[iK,ly,qi,getM,e2,hv,pK hr]
   unfold c9;rw[hm];have xZ:ar (.aj id ep 0 es.length::rest)=false:=rfl;have T0:aU (PV.aa false es::rest)=.aa false (aU es)::aU rest:=rfl;simp only[dx,xZ,ZJ,if_false,hb,T0,e1,e3,yq,abw,if_true,e4]
  ·have hs:dP rv=false:=by simpa using hs
   refine⟨rv,h.set id ⟨.f,ep,sz,es⟩,q _ (.inr ⟨id,ep,rfl,rfl⟩),n0,λn h1=>?_⟩;obtain⟨r0,hc,r1,e1,e3,e4⟩:=hn n h1;have yq:dP r1=false:=by have:=jv r1;rw[e4]at this;rw[<-this];exact hs
   have hb:iK h (.aj id ep 0 es.length::rest)=some (.aa false es::rest):=by
    simp[iK,ly,qi,getM,e2,hv,pK hr]
   have T0:aU (PV.aa false es::rest)=.aa false (aU es)::aU rest:=rfl
   have i0:∀l:List PV,ar l=true->jJ l=[]:=by
    have i1:∀c:PV,aW c=true->xQ c=[]:=λc hc=>by cases c <;>first |rfl |simp[aW]at hc
    intro l
    induction l with
    |nil=>intro _;rfl
    |cons c l ih=>
     intro hh
     simp only[ar,ZD]at hh
     have:(cells c).flatMap xQ=[]:=by
      rw[List.flatMap_eq_nil_iff]
      intro x hx
      cases c with
      |agg cs=>
       refine i1 x ?_;have h2:ar cs=true:=by simpa[aW]using hh.1
       rw[bt,Zw]at h2;exact h2 x hx
      |_=>simp[cells]at hx;subst hx;exact i1 _ hh.1
     simp only[jJ,aa1]at ih ⊢;rw[this,ih hh.2];rfl
   have zO:jJ (PV.aj id ep 0 es.length::rest)=[id]:=by
    have:=i0 rest hr;simp only[jJ,aa1]at this ⊢;rw[this];rfl
   have Tv:mg h [id]=false:=by simp[mg,e2]
   have BI:fh h [id]=some (h.set id ⟨.f,ep,sz,es⟩):=by simp[fh,j4,e2,hv]
   unfold c9;rw[hm];have xZ:ar (.aj id ep 0 es.length::rest)=false:=rfl;simp only[dx,xZ,ZJ,if_false,hb,T0,e1,e3,zO,yq,Tv,Bool.or_self,Zz,if_true,BI,ZH,e4]
def fM(H h':ab):Prop:=∃J,HV J/\h'=H++J
theorem aO.ex{C:cK}{f:FuncId}{args:List PV}{Q:PV->Prop}{F:PV->PV}(a:ay C f args [] (λr0 hc=>∃x,Q x/\∃r1,rb hc r0=some r1/\b9 r1=F x)):∃x,Q x/\aO C f args (F x):=by
 obtain⟨r,h,⟨x,q,r1,e1,e2⟩,e⟩:=a;exact⟨x,q,aO.of ⟨r,h,⟨r1,e1,e2⟩,e⟩⟩
theorem fM.refl(H:ab):fM H H:=⟨[],HV.nil,by simp⟩
theorem fM.trans{a b c:ab}(x:fM a b)(y:fM b c):fM a c:=by
 obtain⟨J,hJ,rfl⟩:=x;obtain⟨K,hK,rfl⟩:=y;exact⟨J++K,hJ.ct hK,by rw[ZZ]⟩
theorem fM.ct{H h:ab}(x:fM H h){J:ab}(hJ:HV J):fM H (h++J):=x.trans ⟨J,hJ,rfl⟩
theorem fM.at{H h:ab}(x:fM H h){i:Nat}{o:au}(e:H[i]?=some o):h[i]?=some o:=by
 obtain⟨J,_,rfl⟩:=x;rw[Zv (ag e)];exact e
theorem fM.hv{H h:ab}(x:fM H h)(hH:HV H):HV h:=by
 obtain⟨J,hJ,rfl⟩:=x;exact hH.ct hJ
theorem ai.ex{f:FuncId}{args:List PV}{H:ab}{v:PV}{Q:PV->ab->Prop}(a:ay C f args H (λr h'=>r=v/\fM H h'))(q:∀h',fM H h'->Q v h')(hm:C.mode f=.opened:=by rfl):ai C 2 f args H Q:=by
 refine ai.opened hm (a.mono λr k hr=>?_);obtain⟨rfl,J,hJ,rfl⟩:=hr
 split
 ·rw[List.take_left];exact q _ (fM.refl _)
 ·exact q _ ⟨J,hJ,rfl⟩
def Fz(sz:Nat)(h:ab)(v:PV)(es:List PV)(h':ab):Prop:=h'=h\/∃id ep,v=.aj id ep 0 es.length/\h'=h.set id ⟨.f,ep,sz,es⟩
theorem Fz.hv{sz:Nat}{h h':ab}{v:PV}{es:List PV}(z:Fz sz h v es h')(H:HV h)(hv:ar es=true):HV h':=by
 rcases z with rfl |⟨id,ep,_,rfl⟩
 ·exact H
 ·exact H.set id (by simp) hv
theorem ai.pl{f:FuncId}{sz:Nat}{v:PV}{h:ab}{es fq rest oV:List PV}{rv:PV}{Q:PV->ab->Prop}(o:Ls sz h v es)(a:aO C f (.aa false fq::oV) rv)(q:∀h',Fz sz h v es h'->Q rv h')
  (hm:C.mode f=.pure:=by rfl) (hv:ar es=true:=by simp) (hr:ar rest=true:=by simp) (hn:aU es=fq:=by simp) (JK:aU rest=oV:=by simp):ai C 2 f (v::rest) h Q:=by
 rcases o with o |⟨fl,rfl⟩
 ·exact ai.po o a q hm hv hr hn JK
 ·subst hn JK;exact ai.pure hm (by simp[ar,aW,hv,hr]) (by simpa[aU,b9]using a) (q h (.inl rfl))
theorem ai.plS{f:FuncId}{sz:Nat}{v:PV}{h:ab}{es fq rest oV:List PV}{rv:PV}{Q:PV->ab->Prop}(o:Ls sz h v es)(a:aO C f (.aa false fq::oV) rv)(q:Q rv h)(hs:dP rv=true:=by rfl)
  (hm:C.mode f=.pure:=by rfl) (hv:ar es=true:=by simp) (hr:ar rest=true:=by simp) (hn:aU es=fq:=by simp) (JK:aU rest=oV:=by simp):ai C 2 f (v::rest) h Q:=by
 subst hn JK;rcases o with o |⟨fl,rfl⟩
 ·exact ai.out hm o hv hr a hs q
 ·exact ai.pure hm (by simp[ar,aW,hv,hr]) (by simpa[aU,b9]using a) q
theorem Ls.ly{sz:Nat}{h:ab}{v:PV}{es:List PV}(o:Ls sz h v es)(hv:ar es=true):∃r1,Pm.ly h v=some r1/\b9 r1=.aa false (aU es):=by
 rcases o with o |⟨f,rfl⟩
 ·exact o.ly hv
 ·exact⟨.aa f es,by simp[Pm.ly,qi,aW,hv],rfl⟩
theorem Ls.Ot{sz:Nat}{h:ab}{v:PV}{es fq:List PV}{k:IntKind}{n:Int}(o:Ls sz h v es)(hv:ar es=true:=by simp)(hn:aU es=fq:=by simp):∃r1,rb h (aY [v,.int k n])=some r1/\b9 r1=.cm [.aa false fq,.int k n]:=by
 obtain⟨r1,h1,h2⟩:=o.ly hv;refine⟨.cm [r1,.int k n],by simp only[aY,rb,iK,h1];rfl,?_⟩;simp only[b9,aU,h2,hn]
theorem Ls.GW{sz:Nat}{h:ab}{v:PV}{es fq:List PV}(o:Ls sz h v es)(hv:ar es=true:=by simp)(hn:aU es=fq:=by simp):∃r1,rb h (aY [v])=some r1/\b9 r1=.aa false fq:=by
 obtain⟨r1,h1,h2⟩:=o.ly hv;rw[hn]at h2;rcases o with(⟨rfl,rfl⟩|⟨id,ep,rfl,e⟩)|⟨f,rfl⟩ <;>exact⟨r1,h1,h2⟩
theorem eJ.nat{c:Code}{L:Al}{ρ:Nat->PV}{h:ab}{k:sV C}(I:Nat->Al->ab->Prop)(n:Nat)(h0:Nx (I n) L h)
  (step:∀n L h ρ,I n L h->Rn (jC T 10000 (.c c) (.loop (λL h=>∃j,j<n/\I j L h) k) L ρ h)):eJ c L ρ h k:=by
 refine⟨Ev.loop (λn=>Xa (I n)) n (h0.out ρ) ?_⟩;rintro n ⟨ρs,hs⟩ ⟨L,ρ,e,hI⟩;have e:ρs=al L ρ:=e;subst e;obtain⟨ex,s',q,hn⟩:=dB T (step n L hs ρ hI).out;refine⟨ex,s',?_,hn⟩
 cases ex with
 |normal=>
  obtain⟨L',ρ',h1,j,h2,h3⟩:=q;exact⟨j,h2,L',ρ',h1,h3⟩
 |ret=>exact q
 |exit id=>exact q
theorem eJ.zip{α:Type}{c:Code}{L:Al}{ρ:Nat->PV}{h:ab}{k:sV C}(l:List α)(I:List α->List α->Al->ab->Prop)(h0:Nx (I [] l) L h)
  (step:∀p a q L h ρ,l=p++a::q->I p (a::q) L h->Rn (jC T 10000 (.c c) (.loop (I (p++[a]) q) k) L ρ h))
  (last:∀L h ρ,I l [] L h->Rn (jC T 10000 (.c c) (.loop (λ_ _=>False) k) L ρ h)):eJ c L ρ h k:=by
 refine⟨Ev.loop (λn s=>∃p q,l=p++q/\q.length=n/\Xa (I p q) s) l.length ⟨[],l,rfl,rfl,h0.out ρ⟩ ?_⟩;rintro n ⟨ρs,hs⟩ ⟨p,q,e,hn,L,ρ,e2,hI⟩;have e2:ρs=al L ρ:=e2;subst e2
 cases q with
 |nil=>
  rw[ZV]at e;subst e;obtain⟨ex,s',q,hn⟩:=dB T (last L hs ρ hI).out;refine⟨ex,s',?_,hn⟩
  cases ex with
  |normal=>obtain⟨_,_,_,hf⟩:=q;exact hf.elim
  |ret=>exact q
  |exit id=>exact q
 |cons a q=>
  obtain⟨ex,s',qq,JK⟩:=dB T (step p a q L hs ρ e hI).out;refine⟨ex,s',?_,JK⟩
  cases ex with
  |normal=>exact⟨q.length,by simp at hn;omega,p++[a],q,by simp[e],rfl,qq⟩
  |ret=>exact qq
  |exit id=>exact qq
end
end Go.Pm
namespace Go.Pm
open Go.Proofs
attribute [local irreducible] aE aC aI aJ Ev ah ai ay aV
set_option maxRecDepth 4000
set_option maxHeartbeats 4000000
theorem yB(l:List Tm)(t:Tm):ae l++[enc t]=ae (l++[t]):=by rw[cU,cU];simp
theorem vZ{B:Nat}:∀{l:List Tm},(∀t∈l,ax t<=B)->bz l<=l.length * B
 |[],_=>by simp[bz]
 |t::l,h=>by
  have h1:=h t (by simp);have h2:=vZ (l:=l) (λu hu=>h u (by simp[hu]));simp only[bz,ZA,Nat.succ_mul];omega
end Go.Pm
namespace Go.Pm
variable{P:Program}{w:World}{F:Nat->Prop}{β:List (Nat×Nat)}{h:ab}
def Alike(h h':ab):Prop:=h.length=h'.length/\∀(id:Nat) (o o':au),h[id]?=some o->h'[id]?=some o'->o.ep=o'.ep/\o.bB=o'.bB/\o.es=o'.es/\(o.mu=.x↔o'.mu=.x)
theorem mn{α:Type}{l:List α}{i:Nat}(h:i<l.length):∃x,l[i]?=some x:=⟨l[i],Zy h⟩
theorem Alike.QU{h':ab}(a:Alike h h')(β:List (Nat×Nat)):FQ h β h' β:=by
 intro id o bc e1 e2 e3
 have bT:=ag e1;obtain⟨o',ho⟩:=mn (l:=h') (i:=id) (by rw[<-a.1];exact bT);obtain⟨p1,p2,p3,p4⟩:=a.2 id o o' e1 ho;exact⟨o',bc,ho,e2,λhh=>e3 (p4.2 hh),⟨by omega,λhz=>by omega⟩,λ_=>⟨p2.symm,λ_=>by rw[p3],rfl⟩⟩
theorem aD.alike{h':ab}(a:Alike h h'){A A':Nat->Prop}(hA:∀b,A' b->A b){v:Value}{p:PV}(r:aD w A β h v p):aD w A' β h' v p:=
 r.QU (a.QU β) (λ_ _ _=>rfl) (λb _ hn ha=>hn (hA b ha))
theorem jU.alike{h':ab}(a:Alike h h'){A A':Nat->Prop}(hA:∀b,A' b->A b){o o':au}{bc:Nat×Nat}(e1:o.bB=o'.bB)(e2:o.es=o'.es)(r:jU w A β h o bc):jU w A' β h' o' bc:=by
 rcases r with⟨T,cs,h1,h2,h3,h4,h5⟩|⟨h0,es,clock,h1,h2,h3⟩
 ·refine .inl ⟨T,cs,h1,by rw[<-e2];exact h2,by rw[<-e1];exact h3,by rw[<-e1];exact h4,λi e he=>?_⟩;rw[<-e2]at he;obtain⟨k1,k2⟩:=h5 i e he;refine⟨by rw[<-e1];exact k1,λj p hp=>?_⟩;obtain⟨v,m1,m2⟩:=k2 j p hp;exact⟨v,by rw[<-e1];exact m1,m2.alike a hA⟩
 ·refine .inr ⟨by rw[<-e1];exact h0,es,clock,h1,by rw[<-e2];exact h2,λi e he=>?_⟩;rw[<-e2]at he;obtain⟨k,v,m,q1,q2,q3,q4⟩:=h3 i e he;exact⟨k,v,m,q1,q2,q3.alike a hA,q4.alike a hA⟩
theorem bC(o:au):(bM o).ep=o.ep/\(bM o).bB=o.bB/\(bM o).es=o.es/\((bM o).mu=.x↔o.mu=.x)/\(bM o).mu≠.m/\((bM o).mu=.f↔o.mu=.f):=by
 cases o with
 |mk mu ep bB es=>cases mu <;>simp[bM]
theorem gb(h:ab):Alike h (h.map bM):=by
 refine⟨by simp,λid o o' e1 e2=>?_⟩;rw[ZP,e1]at e2;obtain rfl:=Zu e2;obtain⟨p1,p2,p3,p4,_⟩:=bC o;exact⟨p1.symm,p2.symm,p3.symm,p4.symm⟩
theorem iY(h:ab)(β:List (Nat×Nat))(b:Nat):¬Mb (h.map bM) β b:=by
 rintro⟨id,o,bc,e1,e2,e3,e4⟩;rw[ZP]at e1
 cases hh:h[id]? with
 |none=>rw[hh]at e1;cases e1
 |some o2=>
  rw[hh]at e1;obtain rfl:=Zu e1;exact(bC o2).2.2.2.2.1 e3
theorem AD{h:ab}{id:Nat}{o:au}(e:(h.map bM)[id]?=some o):∃o2,h[id]?=some o2/\o=bM o2:=by
 rw[ZP]at e
 cases hh:h[id]? with
 |none=>rw[hh]at e;cases e
 |some o2=>rw[hh]at e;exact⟨o2,rfl,(Zu e).symm⟩
theorem aZ.lock(H:aZ w F β h):aZ w (Av F h β) β (h.map bM):=by
 have hA:∀b,Av (Av F h β) (h.map bM) β b->Av F h β b:=λb hb=>hb.elim id (λhm=>absurd hm (iY h β b))
 refine⟨by simp[H.len],λb hb=>Av.lt H hb,?_,?_,?_⟩
 ·intro id o bc e1 e2 e3
  obtain⟨o2,f1,rfl⟩:=AD e1;obtain⟨p1,p2,p3,p4,_⟩:=bC o2;exact(H.obj id o2 bc f1 e2 (λhh=>e3 (p4.2 hh))).alike (gb h) hA p2.symm p3.symm
 ·intro id dS o o' bc c8 bI e1 e2 e3 e4 m1 m2
  obtain⟨o2,f1,rfl⟩:=AD e1;exact absurd m1 (bC o2).2.2.2.2.1
 ·intro id o bc e1 e2 e3
  obtain⟨o2,f1,rfl⟩:=AD e1;obtain⟨p1,p2,p3,p4,p5,p6⟩:=bC o2;rcases e3 with e3 |e3
  ·exact absurd e3 p5
  ·exact u9 H f1 e2 (p6.1 e3)
theorem aZ.unlock(H:aZ w F β h){w':World}{h1:ab}{β1:List (Nat×Nat)}(q2:aZ w' (Av F h β) β1 h1)(q3:dN w (h.map bM) β w' h1 β1)(xT:(h1.drop h.length).all (λo=>decide (o.mu≠.l))=true):
  (∀(v:Value) (p:PV),aD w' (Av (Av F h β) h1 β1) β1 h1 v p->aD w' (Av F (h++h1.drop h.length) β1) β1 (h++h1.drop h.length) v p)/\aZ w' F β1 (h++h1.drop h.length)/\dN w h β w' (h++h1.drop h.length) β1/\dz w w':=by
 have hn:h.length<=h1.length:=by have:=q3.len;simpa using this
 have RT:β1.length=h1.length:=q2.len
 have old:∀(id:Nat) (o:au),h[id]?=some o->h1[id]?=some (bM o)/\β1[id]?=β[id]?:=λid o ho=>by
  have e1:(h.map bM)[id]?=some (bM o):=by rw[ZP,ho];rfl
  exact q3.IV id (bM o) e1 (bC o).2.2.2.2.1
 have wQ:∀(id:Nat),id<h.length->(h++h1.drop h.length)[id]?=h[id]?:=λid bT=>Zv bT
 have AE:∀(id:Nat),h.length<=id->(h++h1.drop h.length)[id]?=h1[id]?:=λid bT=>by
  rw[ZI bT,Z7];congr 1;omega
 have al:Alike h1 (h++h1.drop h.length):=by
  refine⟨by simp;omega,λid o o' e1 e2=>?_⟩
  by_cases bT:id<h.length
  ·rw[wQ id bT]at e2;rw[(old id o' e2).1]at e1;obtain rfl:=Zu e1;obtain⟨p1,p2,p3,p4,_⟩:=bC o';exact⟨p1,p2,p3,p4⟩
  ·rw[AE id (by omega)]at e2;rw[e1]at e2;obtain rfl:=Zu e2;exact⟨rfl,rfl,rfl,Iff.rfl⟩
 have Bf:∀b,Av F (h++h1.drop h.length) β1 b->Av (Av F h β) h1 β1 b:=by
  rintro b (hb |⟨id,o,bc,e1,e2,e3,e4⟩)
  ·exact .inl (.inl hb)
  ·by_cases bT:id<h.length
   ·rw[wQ id bT]at e1;rw[(old id o e1).2]at e2;exact .inl (.inr ⟨id,o,bc,e1,e2,e3,e4⟩)
   ·rw[AE id (by omega)]at e1;exact .inr ⟨id,o,bc,e1,e2,e3,e4⟩
 have newmu:∀(id:Nat) (o:au),h.length<=id->h1[id]?=some o->o.mu≠.l:=λid o bT ho=>by
  have:o∈h1.drop h.length:=by
   apply ZK (i:=id - h.length);rw[Z7];rw[show h.length+(id - h.length)=id by omega];exact ho
  have:=Zw.1 xT o this;simpa using this
 refine⟨λv p q1=>q1.alike al Bf,⟨by rw[RT,<-al.1],λb hb=>aaf (H.fin b hb) q3.size,?_,?_,?_⟩,?_,⟨q3.size,λb hb=>q3.aQ b hb (iY h β b),q3.os,q3.tape,q3.output,q3.drawn⟩⟩
 ·intro id o bc e1 e2 e3
  by_cases bT:id<h.length
  ·rw[wQ id bT]at e1;obtain⟨p1,p2,p3,p4,_⟩:=bC o;exact(q2.obj id (bM o) bc (old id o e1).1 e2 (λhh=>e3 (p4.1 hh))).alike al Bf p2 p3
  ·rw[AE id (by omega)]at e1;exact(q2.obj id o bc e1 e2 e3).alike al Bf rfl rfl
 ·intro id dS o o' bc c8 bI e1 e2 e3 e4 m1 m2
  by_cases bT:id<h.length <;>by_cases RI:dS<h.length
  ·rw[wQ id bT]at e1;rw[wQ dS RI]at e2;rw[(old id o e1).2]at e3;rw[(old dS o' e2).2]at e4;exact H.hC id dS o o' bc c8 bI e1 e2 e3 e4 m1 m2
  ·rw[wQ id bT]at e1;rw[AE dS (by omega)]at e2;have nl:=newmu dS o' (by omega) e2
   cases hm:o'.mu with
   |m=>
    have:=q2.hC dS id o' (bM o) c8 bc (aak bI) e2 (old id o e1).1 e4 e3 hm (λhh=>by rw[(bC o).2.2.2.1]at hh;rw[m1]at hh;cases hh);exact aak this
   |l=>exact absurd hm nl
   |f=>
    have MS:=q2.out dS o' c8 e2 e4 (.inr hm);rw[(old id o e1).2]at e3
    intro heq
    exact MS (.inr ⟨id,o,bc,e1,e3,m1,heq⟩)
   |x=>exact absurd hm m2
  ·rw[AE id (by omega)]at e1;rw[wQ dS RI]at e2;exact q2.hC id dS o (bM o') bc c8 bI e1 (old dS o' e2).1 e3 e4 m1 (λhh=>m2 ((bC o').2.2.2.1.1 hh))
  ·rw[AE id (by omega)]at e1;rw[AE dS (by omega)]at e2;exact q2.hC id dS o o' bc c8 bI e1 e2 e3 e4 m1 m2
 ·intro id o bc e1 e2 e3
  by_cases bT:id<h.length
  ·rw[wQ id bT]at e1;rw[(old id o e1).2]at e2;exact H.out id o bc e1 e2 e3
  ·rw[AE id (by omega)]at e1;exact λhf=>q2.out id o bc e1 e2 e3 (.inl hf)
 ·refine⟨q3.size,by simp,λb hb _=>q3.aQ b hb (iY h β b),?_,?_,?_,q3.os,q3.tape,q3.output,q3.drawn⟩
  ·rintro b hb ⟨id,o,bc,e1,e2,e3,e4⟩
   by_cases bT:id<h.length
   ·rw[wQ id bT]at e1;rw[(old id o e1).2]at e2;exact⟨id,o,bc,e1,e2,e3,e4⟩
   ·rw[AE id (by omega)]at e1;exact absurd (q3.shr b hb ⟨id,o,bc,e1,e2,e3,e4⟩) (iY h β b)
  ·intro id o bc e1 e2 e3
   have bT:=ag e1;exact⟨o,bc,by rw[wQ id bT];exact e1,by rw[(old id o e1).2];exact e2,e3,⟨Zz _,λh=>h⟩,λ_=>⟨rfl,λ_=>rfl,rfl⟩⟩
  ·intro id o e1 _
   exact⟨by rw[wQ id (ag e1)];exact e1,(old id o e1).2⟩
theorem rM{f:FuncId}{g:List PV->ab->Option (PV×ab)}(S:fm P f g){lv:Nat}{args:List PV}{r:PV}{h':ab}(e:dQ g lv args h=some (r,h'))(H:aZ w F β h){vs:List Value}
  (ha:L2 (aD w (Av F h β) β h) vs args):lW P lv w F β h f vs r h':=by
 unfold dQ at e
 split at e
 ·rename_i Dk
  refine(S args h r h' e w F β vs H ha).mono ?_;rintro en w' ⟨v,β1,q0,q1,q2,q3,q4⟩;exact⟨v,β1,q0,q1,q2,q3,λhh=>by omega⟩
 ·split at e
  ·split at e
   ·rename_i r0 h1 he
    split at e
    ·rename_i xT
     obtain⟨rfl,rfl⟩:=ZG (Zu e);have ML:∀b,Av (Av F h β) (h.map bM) β b->Av F h β b:=λb hb=>hb.elim id (λhm=>absurd hm (iY h β b))
     refine(S args (h.map bM) r0 h1 he w (Av F h β) β vs H.lock ⟨ha.1,λj hj=>(ha.2 j hj).alike (gb h) ML⟩).mono ?_;rintro en w' ⟨v,β1,rfl,q1,q2,q3,q4⟩;obtain⟨u1,u2,u3,u4⟩:=H.unlock q2 q3 xT;exact⟨v,β1,rfl,u1 v _ q1,u2,u3,λ_=>u4⟩
    ·cases e
   ·cases e
  ·cases e
theorem gZ{α:Type}{l:List α}{n i:Nat}{x:α}(e:(l.take n)[i]?=some x):i<n/\l[i]?=some x:=by
 rw[ZO]at e
 split at e
 ·exact⟨by assumption,e⟩
 ·cases e
theorem aD.wR{A A':Nat->Prop}(hA:∀b,A' b->A b){n:Nat}(hn:n<=h.length){v:Value}{p:PV}(r:aD w A β h v p)(hb:dY n p=true):aD w A' (β.take n) (h.take n) v p:=by
 cases p with
 |aj id ep off len=>
  have bT:id<n:=by simpa[dY]using hb
  cases r with
  |val hs=>cases hs
  |aj _ _ _ _ _ o bc h0 h1 h2 h3 h4 h5=>
   exact .aj v id ep off len o bc h0 (by rw[ZO,if_pos bT];exact h1) (by rw[ZO,if_pos bT];exact h2) h3 h4 h5
 |ptr id ep i off=>
  have bT:id<n:=by simpa[dY]using hb
  cases r with
  |val hs=>cases hs
  |ptr _ _ _ _ _ o bc h0 h1 h2 h3 h4 h5=>
   exact .ptr v id ep i off o bc h0 (by rw[ZO,if_pos bT];exact h1) (by rw[ZO,if_pos bT];exact h2) h3 h4 h5
 |_=>exact .val ((r.GI (by simpa[dY]using hb)).ub hA)
theorem aD.Lw{A A':Nat->Prop}(hA:∀b,A' b->A b){n:Nat}(hn:n<=h.length){v:Value}{p:PV}(r:aD w A β h v p)(hb:cD n p=true):aD w A' (β.take n) (h.take n) v p:=by
 unfold cD at hb
 split at hb
 ·obtain⟨vs,rfl,hl,hh⟩:=r.q8;exact .agg vs _ hl (λj hj=>(hh j hj).wR hA hn (fk hb hj))
 ·exact r.wR hA hn hb
theorem aD.SX{A A':Nat->Prop}(hA:∀b,A' b->A b){n:Nat}(hn:n<=h.length){v:Value}{p:PV}(r:aD w A β h v p)(hb:dZ n p=true):aD w A' (β.take n) (h.take n) v p:=by
 unfold dZ at hb
 split at hb
 ·obtain⟨vs,rfl,hl,hh⟩:=r.uw;exact .cm vs _ hl (λj hj=>(hh j hj).Lw hA hn (fk hb hj))
 ·exact r.Lw hA hn hb
theorem o9{n:Nat}{e q:PV}(hb:cD n e=true)(hq:q∈Pm.cells e):dY n q=true:=by
 cases e <;>first
  |(simp only[Pm.cells,ZY]at hq;subst hq;exact hb)
  |(simp only[cD]at hb;exact Zw.1 hb q hq)
theorem AF{run:gU}{f:FuncId}(S:fm P f (run f)){lv:Nat}{args:List PV}{r:PV}{h':ab}(e:gK run lv f args h=some (r,h'))(H:aZ w F β h){vs:List Value}
  (ha:L2 (aD w (Av F h β) β h) vs args):lW P lv w F β h f vs r h':=by
 unfold gK at e
 split at e
 ·rename_i r0 h1 he
  have C:=rM S he H ha
  split at e
  ·rename_i hc
   obtain⟨rfl,rfl⟩:=ZG (Zu e);simp only[ZD]at hc;refine C.mono ?_;rintro en w' ⟨v,β1,rfl,q1,q2,q3,q4⟩;have hn:=q3.len
   have hA:∀b,Av F (h1.take h.length) (β1.take h.length) b->Av F h1 β1 b:=by
    rintro b (hb |⟨id,o,bc,e1,e2,e3,e4⟩)
    ·exact .inl hb
    ·exact .inr ⟨id,o,bc,(gZ e1).2,(gZ e2).2,e3,e4⟩
   refine⟨v,β1.take h.length,rfl,q1.SX hA hn hc.1,⟨by simp[q2.len],q2.fin,?_,?_,?_⟩,?_,q4⟩
   ·intro id o bc e1 e2 e3
    have eW:o∈h1.take h.length:=ZK e1;have eA:=Zw.1 (Zw.1 hc.2 o eW);rcases q2.obj id o bc (gZ e1).2 (gZ e2).2 e3 with⟨T,cs,k1,k2,k3,k4,k5⟩|⟨k0,es,clock,k1,k2,k3⟩
    ·refine .inl ⟨T,cs,k1,k2,k3,k4,λi el cT=>⟨(k5 i el cT).1,λj p hp=>?_⟩⟩;obtain⟨u,m1,m2⟩:=(k5 i el cT).2 j p hp;exact⟨u,m1,m2.wR hA hn (o9 (eA el (ZK cT)) (ZK hp))⟩
    ·refine .inr ⟨k0,es,clock,k1,k2,λi el cT=>?_⟩;obtain⟨k,v,m,g1,g2,g3,g4⟩:=k3 i el cT;have hb:=eA el (ZK cT);subst g1;exact⟨k,v,m,rfl,g2,g3.wR hA hn (o9 hb (by simp[Pm.cells])),g4.wR hA hn (o9 hb (by simp[Pm.cells]))⟩
   ·intro id dS o o' bc c8 bI e1 e2 e3 e4 m1 m2
    exact q2.hC id dS o o' bc c8 bI (gZ e1).2 (gZ e2).2 (gZ e3).2 (gZ e4).2 m1 m2
   ·intro id o bc e1 e2 e3
    exact q2.out id o bc (gZ e1).2 (gZ e2).2 e3
   ·refine⟨q3.size,by simp;omega,q3.aQ,?_,?_,?_,q3.os,q3.tape,q3.output,q3.drawn⟩
    ·rintro b hb ⟨id,o,bc,e1,e2,e3,e4⟩;exact q3.shr b hb ⟨id,o,bc,(gZ e1).2,(gZ e2).2,e3,e4⟩
    ·intro id o bc e1 e2 e3
     obtain⟨o',c8,f1,f2,f3,f4,f5⟩:=q3.refs id o bc e1 e2 e3;have bT:=ag e1;exact⟨o',c8,by rw[ZO,if_pos bT];exact f1,by rw[ZO,if_pos bT];exact f2,f3,f4,f5⟩
    ·intro id o e1 e2
     obtain⟨f1,f2⟩:=q3.IV id o e1 e2;have bT:=ag e1;exact⟨by rw[ZO,if_pos bT];exact f1,by rw[ZO,if_pos bT];exact f2⟩
  ·obtain⟨rfl,rfl⟩:=ZG (Zu e);exact C
 ·cases e
def VP(P:Program)(f:FuncId)(g:List PV->Option PV):Prop:=
 ∀args r,g args=some r->∀(w:World) (A:Nat->Prop) (vs:List Value),(∀b,A b->b<w.heap.size)->L2 (bY w A) vs args->
  Calls P f vs.toArray w λe w'=>∃v,e=.returned v/\bY w' A v r/\dz w w'
structure fP(C:cK):Prop where
 enters : ∀ f, (∀ h : C.mode f = .no, False) → (∀ g, C.mode f ≠ .ext g) → ∃ fn, C.P.funcs[f]? = some fn ∧ fn.body.isSome = true ∧ (fn.name == "runtime.NumGoroutine") = false
 qU:∀f g,C.mode f=.qU g->VP C.P f g
 cu:∀f g,C.mode f=.cu g->fm C.P f g
 ext:∀f g,C.mode f=.ext g->∀args r,g args=some r->∀(w:World) (A:Nat->Prop) (vs:List Value),L2 (bY w A) vs args->∃v,(callFunc f vs.toArray).run C.P w=.ok (.value v) w/\bY w A v r
theorem yC{C:cK}(K:fP C){run:gU}{f:FuncId}(S:C.mode f=.pure\/C.mode f=.opened->fm C.P f (run f)){lv:Nat}{args:List PV}{r:PV}{h':ab}(e:c9 C run lv f args h=some (r,h'))(H:aZ w F β h){vs:List Value}
  (ha:L2 (aD w (Av F h β) β h) vs args) (bI:∀g,C.mode f≠.ext g):lW C.P lv w F β h f vs r h'/\C.mode f≠.no:=by
 unfold c9 at e
 split at e
 ·cases e
 ·rename_i hm
  exact⟨zM (S (.inl hm)) e H ha,by rw[hm];simp⟩
 ·rename_i hm
  exact⟨AF (S (.inr hm)) e H ha,by rw[hm];simp⟩
 ·rename_i g hm
  refine⟨?_,by rw[hm];simp⟩
  split at e
  ·rename_i hv
   obtain⟨e1,rfl⟩:=dA e;rw[bt]at hv;refine(K.qU f g hm (aU args) r e1 w (Av F h' β) vs (λb hb=>Av.lt H hb) ⟨by simp[cE,ha.1],λj hj=>?_⟩).mono ?_
   ·rw[fE];have De:j<args.length:=by simpa[cE]using hj
    exact((ha.2 j De).GI (fk hv De)).b9
   ·rintro en w' ⟨v,rfl,q1,q2⟩;exact⟨v,β,rfl,.val q1,H.Jj q2,q2.Pl h' β,λ_=>q2⟩
  ·cases e
 ·rename_i g hm
  exact⟨rM (K.cu f g hm) e H ha,by rw[hm];simp⟩
 ·rename_i g hm
  exact absurd hm (bI g)
end Go.Pm
namespace Go.Pm
variable{w:World}{F:Nat->Prop}{β:List (Nat×Nat)}{h:ab}
theorem re{C:cK}(K:fP C){f:FuncId}(hm:C.mode f≠.no)(bI:∀g,C.mode f≠.ext g)(args:Array Value)(w:World):(callFunc f args).run C.P w=.ok (.enter f args) w:=by
 obtain⟨fn,h1,h2,h3⟩:=K.enters f hm bI;have hb:fn.body.isNone=false:=by cases hh:fn.body <;>simp_all
 simp only[callFunc,Sem.run_bind,run_program,Result.andThen_ok,h1,h3,hb,ZJ,if_false,Sem.run_pure]
def gF(C:cK)(run:gU):Prop:=∀f,(C.mode f=.pure\/C.mode f=.opened)->fm C.P f (run f)
theorem L2.append{R:Value->PV->Prop}{vs us:List Value}{cs ds:List PV}(a:L2 R vs cs)(b:L2 R us ds):L2 R (vs++us) (cs++ds):=by
 obtain⟨a1,a2⟩:=a;obtain⟨b1,b2⟩:=b;refine⟨by simp[a1,b1],λj hj=>?_⟩
 by_cases Uz:j<cs.length
 ·have:=a2 j Uz;simp only[List.getD]at this ⊢;rwa[Zv (by omega),Zv Uz]
 ·have:=b2 (j - cs.length) (by simp at hj;omega);simp only[List.getD]at this ⊢;rwa[ZI (by omega),ZI (by omega),a1]
theorem L2.take{R:Value->PV->Prop}{vs:List Value}{cs:List PV}(a:L2 R vs cs)(k:Nat):L2 R (vs.take k) (cs.take k):=by
 refine⟨by simp[a.1],λj hj=>?_⟩;simp only[aat]at hj;have:=a.2 j (by omega);simp only[List.getD]at this ⊢;rwa[ZO,ZO,if_pos (by omega),if_pos (by omega)]
theorem L2.drop{R:Value->PV->Prop}{vs:List Value}{cs:List PV}(a:L2 R vs cs)(k:Nat):L2 R (vs.drop k) (cs.drop k):=by
 refine⟨by simp[a.1],λj hj=>?_⟩;simp only[abl]at hj;have:=a.2 (k+j) (by omega);simp only[List.getD]at this ⊢;rwa[Z7,Z7]
theorem iR{C:cK}(K:fP C){run:gU}(S:gF C run)(H:aZ w F β h){a:Act}{ρ:Nat->PV}(R:gM w (Av F h β) β h a ρ){lv:Nat}{o:Oper}{p:PV}{h':ab}(e:ao C run lv o.op ρ h=some (p,h'))
  {next:Act->World->Prop} {Q:Exit->Act->World->Prop} (hK:∀v w' β',aD w' (Av F h' β') β' h' v p->aZ w' F β' h'->dN w h β w' h' β'->(lv<=1->dz w w')->next (a.put o.dst v) w'):o.wp C.P a w next Q:=by
 have simple:ud C.P lv w F β h (execOp a.eval o) p h'->o.wp C.P a w next Q:=by
  rintro⟨v,w',β',h1,h2,h3,h4,h5⟩;unfold Oper.wp;rcases h1 with h1 |⟨h1,rfl⟩
  ·rw[h1];exact hK v w' β' h2 h3 h4 h5
  ·rw[h1];exact hK undef w' β' h2 h3 h4 h5
 unfold ao at e
 split at e
 ·rename_i c kH
  have hex:execOp a.eval o=(do let d<-resolve a.eval c o.type;invoke d.target d.args):=by
   cases o;simp only at kH;subst kH;rfl
  split at e
  ·rename_i f Da
   unfold fO at e
   split at e
   ·rename_i g da hf
    have hv:=R.ev f;rw[hf]at hv;obtain⟨cv,c1,c2,c3⟩:=hv.DI;have p8:=(R.Jm c.args.toList).append (show L2 (aD w (Av F h β) β h) cv da from⟨c2,c3⟩)
    by_cases hx:∃q,C.mode g=.ext q
    ·obtain⟨q,hq⟩:=hx;unfold c9 at e;rw[hq]at e;simp only at e
     split at e
     ·rename_i xZ
      obtain⟨e1,rfl⟩:=dA e;rw[bt]at xZ
      obtain⟨v,x1,x2⟩:=K.ext g q hq _ p e1 w (Av F h' β) (c.args.toList.map a.eval++cv) ⟨by simp only[cE,aaB];exact p8.1,λj hj=>by
       rw[fE];have De:j<(c.args.toList.map (Pm.ev ρ)++da).length:=by simpa[cE]using hj
       exact((p8.2 j De).GI (fk xZ De)).b9⟩
      refine simple ⟨v,w,β,.inl ?_,.val x2,H,dN.refl w h' β,λ_=>dz.refl w⟩;rw[hex];simp only[resolve,Da,c1,Deferred.ofValue,Sem.run_bind,Sem.run_pure,Result.andThen_ok,invoke];rw[<-x1]
      congr 2
      apply aaR;simp
     ·cases e
    have bI:∀q,C.mode g≠.ext q:=λq hq=>hx ⟨q,hq⟩
    obtain⟨cs,hm⟩:=yC K (S g) e H p8 bI
    have fL:(execOp a.eval o).run C.P w=.ok (.enter g ((c.args.toList.map a.eval)++cv).toArray) w:=by
     rw[hex];simp only[resolve,Da,c1,Deferred.ofValue,Sem.run_bind,Sem.run_pure,Result.andThen_ok,invoke];rw[re K hm bI]
     congr 2
     apply aaR;simp
    unfold Oper.wp;rw[fL];refine cs.mono ?_;rintro en w' ⟨v,β',rfl,q1,q2,q3,q4⟩;exact hK v w' β' q1 q2 q3 q4
   ·rename_i g kk da hf
    have hv:=R.ev f;rw[hf]at hv;obtain⟨cv,c1,c2,c3⟩:=hv.Nq;have Df:L2 (aD w (Av F h β) β h) cv da:=⟨c2,c3⟩;have p8:=((Df.take kk).append (R.Jm c.args.toList)).append (Df.drop kk)
    by_cases hx:∃q,C.mode g=.ext q
    ·obtain⟨q,hq⟩:=hx;unfold c9 at e;rw[hq]at e;simp only at e
     split at e
     ·rename_i xZ
      obtain⟨e1,rfl⟩:=dA e;rw[bt]at xZ
      obtain⟨v,x1,x2⟩:=K.ext g q hq _ p e1 w (Av F h' β) (cv.take kk++c.args.toList.map a.eval++cv.drop kk) ⟨by simp only[cE,aaB];exact p8.1,λj hj=>by
       rw[fE];have De:j<(da.take kk++c.args.toList.map (Pm.ev ρ)++da.drop kk).length:=by simpa[cE]using hj
       exact((p8.2 j De).GI (fk xZ De)).b9⟩
      refine simple ⟨v,w,β,.inl ?_,.val x2,H,dN.refl w h' β,λ_=>dz.refl w⟩;rw[hex];simp only[resolve,Da,c1,Deferred.ofValue,Sem.run_bind,Sem.run_pure,Result.andThen_ok,invoke];rw[<-x1]
      congr 2
      apply aaR;simp
     ·cases e
    have bI:∀q,C.mode g≠.ext q:=λq hq=>hx ⟨q,hq⟩
    obtain⟨cs,hm⟩:=yC K (S g) e H p8 bI
    have fL:(execOp a.eval o).run C.P w=.ok (.enter g (cv.take kk++c.args.toList.map a.eval++cv.drop kk).toArray) w:=by
     rw[hex];simp only[resolve,Da,c1,Deferred.ofValue,Sem.run_bind,Sem.run_pure,Result.andThen_ok,invoke];rw[re K hm bI]
     congr 2
     apply aaR;simp
    unfold Oper.wp;rw[fL];refine cs.mono ?_;rintro en w' ⟨v,β',rfl,q1,q2,q3,q4⟩;exact hK v w' β' q1 q2 q3 q4
   ·cases e
  ·rename_i b hcb
   refine simple ?_
   have hb:∀cb cb',builtin b c.argTypes o.type cb (c.args.map a.eval)=builtin b c.argTypes o.type cb' (c.args.map a.eval):=by
    intro cb cb'
    cases b <;>first |rfl |simp[bo]at e
   have fL:(execOp a.eval o).run C.P w=(builtin b c.argTypes o.type #[] (c.args.map a.eval)).run C.P w:=by
    rw[hex];simp only[resolve,hcb,Sem.run_bind,Sem.run_pure,Result.andThen_ok,invoke];rw[hb _ #[]]
   obtain⟨v,w',β',h1,h2⟩:=Bn (ty:=o.type) (cb:=#[]) H R e;refine⟨v,w',β',?_,h2⟩;rw[fL];exact h1
  ·cases e
 ·rename_i hnc
  exact simple (DJ H R hnc e)
structure SR(N:Nat)(w:World)(F:Nat->Prop)(β:List (Nat×Nat))(s:St)(a:Act):Prop where
 hr:aZ w F β s.h
 er:gM w (Av F s.h β) β s.h a s.ρ
 df:a.defers=[]
 sz:N<=a.tmps.size
theorem JD(a:Act)(d:Option Nat)(v:Value)(t:Nat)(N:Nat)(hd:∀k,d=some k->k<a.tmps.size):(a.put d v).tmps.getD t undef=if d=some t then v else a.tmps.getD t undef:=by
 cases d with
 |none=>simp[Act.put]
 |some k=>
  have:=hd k rfl
  by_cases hk:k=t
  ·subst hk;simp[Act.put,this]
  ·have:¬(some k=some t):=λh=>hk (Zu h)
   simp[Act.put,this,hk]
theorem na(ρ:Nat->PV)(d:Option Nat)(p:PV)(t:Nat):bV ρ d p t=if d=some t then p else ρ t:=by
 cases d with
 |none=>simp[bV]
 |some k=>
  by_cases hk:t=k
  ·subst hk;simp[bV,nH]
  ·have:¬(some k=some t):=λh=>hk (Zu h).symm
   simp[bV,nH,hk,this]
theorem fW(a:Act)(d:Option Nat)(v:Value):(a.put d v).tmps.size=a.tmps.size:=by cases d <;>simp[Act.put]
theorem dH(a:Act)(d:Option Nat)(v:Value):(a.put d v).defers=a.defers:=by cases d <;>simp[Act.put]
theorem gM.put{A:Nat->Prop}{a:Act}{ρ:Nat->PV}(r:gM w A β h a ρ){d:Option Nat}(hd:∀k,d=some k->k<a.tmps.size){v:Value}{p:PV}(hv:aD w A β h v p):gM w A β h (a.put d v) (bV ρ d p):=by
 intro t
 rw[JD a d v t 0 hd,na]
 split
 ·exact hv
 ·exact r t
theorem gM.mono{w':World}{h':ab}{β':List (Nat×Nat)}(s:dN w h β w' h' β'){a:Act}{ρ:Nat->PV}(r:gM w (Av F h β) β h a ρ):gM w' (Av F h' β') β' h' a ρ:=λt=>(r t).mono s
theorem cL{A:Nat->Prop}{a:Act}{ρ:Nat->PV}(r:gM w A β h a ρ){ops:Array Oper}{o:Oper}{b:Bool}(e:bm ops o ρ=some b):Region.wanted o (yielded ops a.tmps)=b:=by
 unfold bm at e;unfold Region.wanted
 split at e
 ·rename_i hg
  rw[hg];exact Zu e
 ·rename_i j want hg
  rw[hg];simp only
  split at e
  ·rename_i hd
   obtain rfl:=Zu e;have:((ops[j]?).bind (·.dst))=none:=by simpa using hd
   simp[yielded,this]
  ·rename_i d hd
   have Db:((ops[j]?).bind (·.dst))=some d:=by simpa using hd
   have hr:=r d
   split at e
   ·rename_i bb hb
    obtain rfl:=Zu e;rw[hb]at hr;have hv:=hr.ga
    have:a.tmps[d]?=some (.bool bb):=by
     rcases Z8 d a.tmps.size with cz |Bo
     ·simp[cz]at hv;simp[cz,hv]
     ·simp[abe Bo,undef]at hv
    simp[yielded,Db,this]
   ·rename_i hb
    obtain rfl:=Zu e;rw[hb]at hr;have hv:=hr.GU;rcases Z8 d a.tmps.size with cz |Bo
    ·simp[cz]at hv;simp[yielded,Db,cz,hv]
    ·simp[yielded,Db,abe Bo]
   ·cases e
def ji(N:Nat)(o:Oper):Bool:=match o.dst with |some d=>decide (d<N)|none=>true
theorem gN{N:Nat}{o:Oper}(hd:ji N o=true){a:Act}(hs:N<=a.tmps.size):∀k,o.dst=some k->k<a.tmps.size:=by
 intro k hk
 have:k<N:=by simpa[ji,hk]using hd
 exact aaf this hs
theorem yD{C:cK}(K:fP C){run:gU}(S:gF C run){N:Nat}{s s':St}{a:Act}(R:SR N w F β s a){ops:Array Oper}{o:Oper}(hd:ji N o=true)(e:fA C run ops o s=some s')
  {next:Act->World->Prop} {Q:Exit->Act->World->Prop} (hK:∀a' w' β',SR N w' F β' s' a'->dN w s.h β w' s'.h β'->next a' w'):
  if Region.wanted o (yielded ops a.tmps)then o.wp C.P a w next Q else next (a.put o.dst undef) w:=by
 unfold fA at e;have IY:=gN hd R.sz
 split at e
 ·rename_i hw
  rw[cL R.er hw,if_pos rfl]
  split at e
  ·rename_i v h' hv
   obtain rfl:=Zu e;refine iR K S R.hr R.er hv (λu w' β' q1 q2 q3 _=>hK _ w' β' ⟨q2,(R.er.mono q3).put IY q1,by rw[dH];exact R.df,by rw[fW];exact R.sz⟩ q3)
  ·cases e
 ·rename_i hw
  rw[cL R.er hw,if_neg (by simp)];obtain rfl:=Zu e;exact hK _ w β ⟨R.hr,R.er.put IY .undef,by rw[dH];exact R.df,by rw[fW];exact R.sz⟩ (dN.refl w s.h β)
 ·cases e
theorem DK{C:cK}(K:fP C){run:gU}(S:gF C run){N:Nat}{ops:Array Oper}{Q:Exit->Act->World->Prop}(hd:ops.toList.all (ji N)=true):
  ∀(l:List Oper) (k:Nat) {w:World} {β:List (Nat×Nat)} {s s':St} {a:Act},ops.toList.drop k=l->SR N w F β s a->dw C run ops l s=some s'->
   (∀a' w' β',SR N w' F β' s' a'->dN w s.h β w' s'.h β'->Q .normal a' w')->wpOps C.P ops Q (List.map (·+k) (List.range l.length)) a w:=by
 intro l
 induction l with
 |nil=>
  intro k w β s s' a hl R e hQ
  simp[dw]at e;subst e;simpa[wpOps]using hQ a w β R (dN.refl w s.h β)
 |cons o r ih=>
  intro k w β s s' a hl R e hQ
  simp only[dw]at e
  have hk:ops[k]?=some o:=by
   rw[<-Z1];have:(ops.toList.drop k)[0]?=some o:=by rw[hl];rfl
   rwa[Z7]at this
  have hr:ops.toList.drop (k+1)=r:=by
   have:=congrArg (List.drop 1) hl;rwa[List.drop_drop]at this
  have vD:List.map (·+k) (List.range (o::r).length)=k::List.map (·+(k+1)) (List.range r.length):=by
   rw[ZA,abE];simp only[ZN,ZS,aa5]
   congr 1
   apply aan
   intro x _
   simp;omega
  rw[vD];simp only[wpOps,hk]
  split at e
  ·rename_i s1 he
   have UA:ji N o=true:=Zw.1 hd o (by
    have:o∈ops.toList.drop k:=by rw[hl];simp
    exact aac this)
   have:=yD K S R UA he (Q:=Q) (next:=wpOps C.P ops Q (List.map (·+(k+1)) (List.range r.length))) (λa' w' β' R' S'=>ih (k+1) hr R' e (λa2 w2 β2 R2 S2=>hQ a2 w2 β2 R2 (S'.trans S2)))
   split
   ·rename_i hw;rw[if_pos hw]at this;exact .inl this
   ·rename_i hw;rw[if_neg hw]at this;exact this
  ·cases e
theorem GV{C:cK}(K:fP C){run:gU}(S:gF C run){N:Nat}{ops:Array Oper}{id:Nat}{Q:Exit->Act->World->Prop}(hd:ops.toList.all (ji N)=true){s s':St}{a:Act}(R:SR N w F β s a)
  (e:dw C run ops ops.toList s=some s') (hQ:∀a' w' β',SR N w' F β' s' a'->dN w s.h β w' s'.h β'->Q .normal a' w'):(Code.region id ops false).wp C.P Q a w:=by
 refine wp_region ?_;have:=DK K S hd ops.toList 0 (by simp) R e hQ;simpa using this
end Go.Pm
