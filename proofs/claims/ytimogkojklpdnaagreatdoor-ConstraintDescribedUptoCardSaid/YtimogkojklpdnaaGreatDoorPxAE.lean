/-
  Pm, a part. Conditions: none.
-/
import Derived.Test.YtimogkojklpdnaaGreatDoorPxAD
set_option linter.unusedVariables false
set_option linter.unusedSimpArgs false
set_option linter.unnecessarySimpa false
namespace Go.Pm
abbrev Al:=List (Nat×PV)
inductive Rn(p:Prop):Prop
 |go (k:p)
theorem Rn.out{p:Prop}(h:Rn p):p:=h.casesOn id
inductive sA(p a b:Prop):Prop
 |tt (k:Rn a) (h:p:=by first |assumption |omega |decide)
 |ff (k:Rn b) (h:¬p:=by first |assumption |omega |decide)
 |mk (t:p->Rn a) (f:¬p->Rn b)
theorem sA.out{p a b:Prop}(h:sA p a b):(p/\a)\/(¬p/\b):=by
 cases h with
 |tt k h=>exact .inl ⟨h,k.out⟩
 |ff k h=>exact .inr ⟨h,k.out⟩
 |mk t f=>
  by_cases hp:p
  ·exact .inl ⟨hp,(t hp).out⟩
  ·exact .inr ⟨hp,(f hp).out⟩
inductive Wr(k:IntKind)(c:Int)(K:Int->Prop):Prop
 |mk (kk:Rn (K c)) (h:k.wrap c=c:=by first |exact mI (by omega) (by omega)|exact SV (by omega) (by omega))
 |raw (c':Int) (h:k.wrap c=c') (kk:Rn (K c'))
theorem Wr.out{k:IntKind}{c:Int}{K:Int->Prop}(h:Wr k c K):K (k.wrap c):=by
 cases h with
 |mk kk h=>rw[h];exact kk.out
 |raw c' h kk=>rw[h];exact kk.out
inductive Sd(p a:Prop):Prop
 |mk (k:Rn a) (h:p:=by first |assumption |omega |decide |rfl |(dsimp only;omega)|(simp;done)|(simp;omega))
theorem Sd.out{p a:Prop}(h:Sd p a):p/\a:=by cases h with |mk k h=>exact⟨h,k.out⟩
theorem qz{h J:ab}{id ep:Nat}{o:aw}(e:getM h id ep=some o):getM (h++J) id ep=some o:=by
 obtain⟨h1,h2,h3⟩:=getM_some e;exact bo (by rw[abj (ag h1)];exact h1) h2 h3
inductive Fv(h:ab)(id ep:Nat)(K:aw->Prop):Prop
 |mk {o:aw} (kk:Rn (K o)) (ho:getM h id ep=some o:=by first |exact bo (by assumption) rfl (by first |assumption |simp)|rfl |exact lT |exact qz (bo (by assumption) rfl (by first |assumption |simp))|exact qz lT |exact qz (qz (bo (by assumption) rfl (by first |assumption |simp))))
theorem Fv.out{h:ab}{id ep:Nat}{K:aw->Prop}(x:Fv h id ep K):∃o,getM h id ep=some o/\K o:=by cases x with |mk kk ho=>exact⟨_,ho,kk.out⟩
inductive SF(es:List PV)(i:Int)(sz:Nat)(K:List PV->Prop):Prop
 |mk {n:Nat} {v:PV} (kk:Rn (K (cells v))) (hi:i=(n:Int):=by first |rfl |exact(Int.natCast_succ _).symm |exact(adQ (by omega)).symm) (hv:es[n]?=some v:=by first |assumption |rfl) (hl:(cells v).length=sz:=by rfl)
theorem SF.out{es:List PV}{i:Int}{sz:Nat}{K:List PV->Prop}(x:SF es i sz K):∃(n:Nat) (v:PV),i=n/\es[n]?=some v/\(cells v).length=sz/\K (cells v):=by
 cases x with |mk kk h1 h2 h3=>exact⟨_,_,h1,h2,h3,kk.out⟩
inductive ByX(s:ByteArray)(i:Int)(K:UInt8->Prop):Prop
 |mk {n:Nat} {b:UInt8} (kk:Rn (K b)) (hi:i=(n:Int):=by first |rfl |exact(Int.natCast_succ _).symm |exact(adQ (by omega)).symm) (hv:s[n]?=some b:=by first |assumption |rfl)
theorem ByX.out{s:ByteArray}{i:Int}{K:UInt8->Prop}(x:ByX s i K):∃(n:Nat) (b:UInt8),i=n/\s[n]?=some b/\K b:=by cases x with |mk kk h1 h2=>exact⟨_,_,h1,h2,kk.out⟩
inductive P6(o:aw):ab->ab->Nat->Prop
 |nil:P6 o [] [o] 0
 |cons {x:aw} {l l':ab} {n:Nat}:P6 o l l' n->P6 o (x::l) (x::l') (n+1)
 |gen {l:ab}:P6 o l (l++[o]) l.length
theorem P6.eq{o:aw}{l l':ab}{n:Nat}(a:P6 o l l' n):l'=l++[o]/\n=l.length:=by
 induction a with
 |nil=>exact⟨rfl,rfl⟩
 |cons _ ih=>obtain⟨rfl,rfl⟩:=ih;exact⟨rfl,rfl⟩
 |gen=>exact⟨rfl,rfl⟩
inductive wN(h:ab)(o:aw)(K:Nat->ab->Prop):Prop
 |mk {n:Nat} {h':ab} (kk:Rn (K n h')) (ha:P6 o h h' n:=by repeat(first |exact .nil |apply P6.cons |exact .gen))
theorem wN.out{h:ab}{o:aw}{K:Nat->ab->Prop}(x:wN h o K):K h.length (h++[o]):=by
 cases x with |mk kk ha=>obtain⟨rfl,rfl⟩:=ha.eq;exact kk.out
def HR(h:ab):Prop:=∀o∈h,o.mu≠.x/\bw (λi=>decide (i<h.length)) o.es=true
mutual
theorem yi{f g:Nat->Bool}(hi:∀i,f i=true->g i=true):∀p,bq f p=true->bq g p=true
 | .int ..,_ | .bool _,_ | .str _,_ | .eE,_ | .aG,_ | .gN,_ | .aa ..,_ | .eQ _,_ | .undef,_ | .any,_=>rfl
 | .ak ..,h=>by simp only[bq]at h ⊢;exact hi _ h
 | .ptr ..,h=>by simp only[bq]at h ⊢;exact hi _ h
 | .cD _,h=>by simp only[bq]at h ⊢;exact hi _ h
 | .agg cs,h=>by simp only[bq]at h ⊢;exact dW hi cs h
 | .ct cs,h=>by simp only[bq]at h ⊢;exact dW hi cs h
 | .fn _ cs,h=>by simp only[bq]at h ⊢;exact dW hi cs h
 | .ou _ _ cs,h=>by simp only[bq]at h ⊢;exact dW hi cs h
theorem dW{f g:Nat->Bool}(hi:∀i,f i=true->g i=true):∀cs,bw f cs=true->bw g cs=true
 |[],_=>rfl
 |c::r,h=>by
  simp only[bw,abq]at h ⊢;exact⟨yi hi c h.1,dW hi r h.2⟩
end
theorem HR.TA{h:ab}(H:HR h){i:Nat}(hi:i<h.length):aQ h i=true:=by
 unfold aQ;rw[abo hi];simpa using(H _ (abV hi)).1
theorem HR.closed{h:ab}(H:HR h):aV h=true:=by
 unfold aV;rw[abk]
 intro o ho
 rw[dW (λi hi=>H.TA (of_decide_eq_true hi)) _ (H o ho).2];simp
theorem HV.hr{h:ab}(H:HV h):HR h:=λo ho=>⟨(H o ho).1,bj _ _ (H o ho).2⟩
theorem HR.cB{h J:ab}(H:HR h)(hJ:∀o∈J,o.mu≠.x/\bw (λi=>decide (i<h.length+J.length)) o.es=true):HR (h++J):=by
 intro o ho
 rw[abr];rcases abp.1 ho with ho |ho
 ·exact⟨(H o ho).1,dW (λi hi=>by have:=of_decide_eq_true hi;exact decide_eq_true (by omega)) _ (H o ho).2⟩
 ·exact hJ o ho
theorem HR.dA{h J:ab}(H:HR h)(hJ:HV J):HR (h++J):=H.cB λo ho=>⟨(hJ o ho).1,bj _ _ (hJ o ho).2⟩
theorem HR.wk{h:ab}(H:HR h){o:aw}(h1:o.mu≠.x:=by simp)(h2:bw (λi=>decide (i<h.length+1)) o.es=true:=by simp[bw,bq];omega):HR (h++[o]):=H.cB λo' ho=>by
 obtain rfl:=abP.1 ho;exact⟨h1,h2⟩
theorem HR.set{h:ab}(H:HR h)(id:Nat){o:aw}(h1:o.mu≠.x:=by simp)(h2:bw (λi=>decide (i<h.length)) o.es=true:=by simp[bw,bq];omega):HR (h.set id o):=by
 intro o' ho
 rw[adL];rcases acR ho with ho |rfl
 ·exact H o' ho
 ·exact⟨h1,h2⟩
structure LR(H:ab)(v:PV)(sz:Nat)(fA:List PV)(r:PV)(h':ab):Prop where
 out:Out sz h' r fA
 hr:HR h'
 len:H.length<=h'.length
 fr:∀j,j<H.length->(∀ep n,v≠.ak j ep 0 n)->h'[j]?=H[j]?
 ref:∀j ep n,r=.ak j ep 0 n->(∃im n',v=.ak j im 0 n')\/H.length<=j
inductive SG(h:ab)(sz:Nat)(v:PV)(ys:List PV)(K:PV->ab->Prop):Prop
 |lp {es:List PV} (kk:∀v' h',LP h v sz (es++ys) v' h'->Rn (K v' h')) (ho:Out sz h v es:=by first |assumption |exact .inl ⟨rfl,rfl⟩) (AQ:dK sz ys:=by first |rfl |(simp;done)) (hn:es.length+ys.length<1000000000:=by first |omega |(simp only[abx,abX];omega))
   (Gz:ar (es++ys)=true:=by simp) (hH:HV h:=by first |assumption |exact HV.nil)
 |lr {es:List PV} (kk:∀v' h',LR h v sz (es++ys) v' h'->Rn (K v' h')) (ho:Out sz h v es:=by first |assumption |exact .inl ⟨rfl,rfl⟩) (AQ:dK sz ys:=by first |rfl |(simp;done)) (hn:es.length+ys.length<1000000000:=by first |omega |(simp only[abx,abX];omega))
   (Gz:bw (λi=>decide (i<h.length)) (es++ys)=true:=by first |exact bj _ _ (by simp)|(simp[bw,bq];done)) (hH:HR h:=by assumption)
 |nn {full:Bool} {es:List PV} (kk:Rn (K (.aa full es) h)) (pB:ys=[]) (hv:v=.aa full es:=by rfl)
 |sn {es:List PV} (kk:Rn (K (.ak h.length 0 0 (es.length+ys.length)) (h++[⟨.m,0,sz,es++ys⟩]))) (bN:ys.isEmpty=false) (hn:es.length+ys.length<1000000000) (hv:v=.aa true es:=by rfl) (AQ:dK sz ys:=by first |rfl |(simp;done)) (heo:dK sz es:=by first |rfl |(simp;done))
inductive wh(C:cR)(op:Op)(L:Al)(h:ab)(K:PV->ab->Prop):Prop
 |mk {v:PV} {h':ab} (hc:∀run ρ,au C run 2 op (al L ρ) h=some (v,h')) (kk:Rn (K v h'))
theorem wh.out{C:cR}{op:Op}{L:Al}{h:ab}{K:PV->ab->Prop}(x:wh C op L h K):∃v h',(∀run ρ,au C run 2 op (al L ρ) h=some (v,h'))/\K v h':=by cases x with |mk hc kk=>exact⟨_,_,hc,kk.out⟩
inductive C2(C:cR)(op:Op)(L:Al)(K:PV->Prop):Prop
 |mk {v:PV} (hc:∀run lv ρ h,au C run lv op (al L ρ) h=some (v,h)) (kk:Rn (K v))
theorem C2.out{C:cR}{op:Op}{L:Al}{K:PV->Prop}(x:C2 C op L K):∃v,(∀run lv ρ h,au C run lv op (al L ρ) h=some (v,h))/\K v:=by cases x with |mk hc kk=>exact⟨_,hc,kk.out⟩
inductive pR(C:cR)(op:Op)(L:Al)(h:ab)(K:PV->Prop):Prop
 |mk {v:PV} (hc:∀run lv ρ,au C run lv op (al L ρ) h=some (v,h)) (kk:Rn (K v))
theorem pR.out{C:cR}{op:Op}{L:Al}{h:ab}{K:PV->Prop}(x:pR C op L h K):∃v,(∀run lv ρ,au C run lv op (al L ρ) h=some (v,h))/\K v:=by cases x with |mk hc kk=>exact⟨_,hc,kk.out⟩
def AE{α:Type}:List α->Nat->Option α
 |[],_=>none
 |a::_,0=>some a
 |_::l,n+1=>AE l n
theorem ri{α:Type}:∀(l:List α) (n:Nat),AE l n=l[n]?
 |[],n=>by simp[AE]
 |a::l,0=>by simp[AE]
 |a::l,n+1=>by simp[AE,ri l n]
def pq:Nat->List PV->(List PV->Prop)->Prop
 |0,l,k=>k l
 |n+1,_::l,k=>pq n l k
 |_+1,[],_=>False
theorem jm:∀{n:Nat} {l:List PV} {k:List PV->Prop},pq n l k->n<=l.length/\k (l.drop n)
 |0,l,k,h=>⟨by omega,h⟩
 |n+1,_::l,k,h=>by obtain⟨h1,h2⟩:=jm (n:=n) h;exact⟨by simp;omega,h2⟩
 |_+1,[],_,h=>h.elim
def zB:Nat->List PV->(List PV->Prop)->Prop
 |0,_,k=>k []
 |n+1,c::l,k=>zB n l λr=>k (c::r)
 |_+1,[],_=>False
theorem oh:∀{n:Nat} {l:List PV} {k:List PV->Prop},zB n l k->n<=l.length/\k (l.take n)
 |0,l,k,h=>⟨by omega,h⟩
 |n+1,c::l,k,h=>by obtain⟨h1,h2⟩:=oh (n:=n) h;exact⟨by simp;omega,h2⟩
 |_+1,[],_,h=>h.elim
def LI:Nat->List PV->List PV->(List PV->Prop)->Prop
 |0,cs,[],k=>k cs
 |0,_::cs,v::vs,k=>LI 0 cs vs λr=>k (v::r)
 |n+1,c::cs,vs,k=>LI n cs vs λr=>k (c::r)
 |0,[],_::_,_=>False
 |_+1,[],_,_=>False
theorem tV:∀{n:Nat} {cs vs:List PV} {k:List PV->Prop},LI n cs vs k->n+vs.length<=cs.length/\k (cs.take n++vs++cs.drop (n+vs.length))
 |0,cs,[],k,h=>⟨by simp,by simpa[LI]using h⟩
 |0,_::cs,v::vs,k,h=>by obtain⟨h1,h2⟩:=tV (n:=0) (cs:=cs) h;exact⟨by simp at h1 ⊢;omega,by simpa using h2⟩
 |n+1,c::cs,vs,k,h=>by
  obtain⟨h1,h2⟩:=tV (n:=n) h;exact⟨by simp;omega,by rw[show n+1+vs.length=(n+vs.length)+1 by omega];simpa using h2⟩
 |0,[],_::_,_,h=>h.elim
 |_+1,[],_,_,h=>h.elim
def pt(L:Al):List Operand->(List PV->Prop)->Prop
 |[],k=>k []
 |x::xs,k=>match cM L x with
  |some v=>pt L xs λr=>k (v::r)
  |none=>False
theorem jn{L:Al}:∀{xs:List Operand} {k:List PV->Prop},pt L xs k->∃vs,zl L xs=some vs/\k vs
 |[],k,h=>⟨[],rfl,h⟩
 |x::xs,k,h=>by
  unfold pt at h
  split at h
  ·rename_i v hv
   obtain⟨vs,e,hk⟩:=jn h;exact⟨v::vs,by simp[zl,hv,e],hk⟩
  ·exact h.elim
def wO:List PV->List PV->(List PV->Prop)->Prop
 |[],b,k=>k b
 |a::l,b,k=>wO l b λr=>k (a::r)
theorem kT:∀{a b:List PV} {k:List PV->Prop},wO a b k->k (a++b)
 |[],_,_,h=>h
 |_::l,b,k,h=>kT (a:=l) h
variable{C:cR}(T:lQ C.P)
section
variable{ρ:Nat->PV}{L:Al}{h:ab}
theorem SH(a:Int):a.fdiv (2^ (min (1:Int).toNat 64))=a / 2:=by
 show a.fdiv 2=a / 2;rw[Int.fdiv_eq_ediv_of_nonneg _ (by omega)]
inductive SI(a b:Int)(bits:Nat)(K:Int->Prop):Prop
 |mk {c:Int} (kk:Rn (K c)) (h:a.fdiv (2^ (min b.toNat bits))=c:=by first |exact SH _ |rfl) (h0:0<=b:=by omega)
theorem SI.out{a b:Int}{bits:Nat}{K:Int->Prop}(x:SI a b bits K):0<=b/\K (a.fdiv (2^ (min b.toNat bits))):=by
 cases x with |mk kk h h0=>rw[h];exact⟨h0,kk.out⟩
inductive T1(k:IntKind)(c:Int)(K:Int->Prop):Prop
 |mk (c':Int) (h:k.wrap c=c') (kk:Rn (K c'))
theorem T1.out{k:IntKind}{c:Int}{K:Int->Prop}(h:T1 k c K):K (k.wrap c):=by
 cases h with
 |mk c' h kk=>rw[h];exact kk.out
inductive SJ(k:IntKind)(a b:Int)(K:Int->Prop):Prop
 |mk (c:Int) (h:k.wrap (a * 2^ (min b.toNat k.bits))=c) (h0:0<=b) (kk:Rn (K c))
theorem SJ.out{k:IntKind}{a b:Int}{K:Int->Prop}(x:SJ k a b K):0<=b/\K (k.wrap (a * 2^ (min b.toNat k.bits))):=by
 cases x with |mk c h h0 kk=>rw[h];exact⟨h0,kk.out⟩
def Zw(k:IntKind)(op:BinOp)(a b:Int)(K:PV->Prop):Prop:=
 match op with
 | .eql=>sA (a=b) (K (.bool true)) (K (.bool false))
 | .neq=>sA (a=b) (K (.bool false)) (K (.bool true))
 | .lss=>sA (a<b) (K (.bool true)) (K (.bool false))
 | .leq=>sA (a<=b) (K (.bool true)) (K (.bool false))
 | .gtr=>sA (b<a) (K (.bool true)) (K (.bool false))
 | .geq=>sA (b<=a) (K (.bool true)) (K (.bool false))
 | .add=>Wr k (a+b) λc=>K (.int k c)
 | .sub=>Wr k (a - b) λc=>K (.int k c)
 | .mul=>Wr k (a * b) λc=>K (.int k c)
 | .quo=>Sd (b≠0) (Wr k (a.tdiv b) λc=>K (.int k c))
 | .rem=>Sd (b≠0) (K (.int k (a.tmod b)))
 | .and=>T1 k (BitVec.ofInt k.bits a&&&BitVec.ofInt k.bits b).toNat λc=>K (.int k c)
 | .or=>T1 k (BitVec.ofInt k.bits a |||BitVec.ofInt k.bits b).toNat λc=>K (.int k c)
 | .xor=>T1 k (BitVec.ofInt k.bits a^^^BitVec.ofInt k.bits b).toNat λc=>K (.int k c)
 |_=>False
theorem lj{p:Prop}{x:PV->Prop}{u v c:Bool}(h:sA p (x (.bool u)) (x (.bool v)))(h1:p->c=u)(h2:¬p->c=v):x (.bool c):=by
 rcases h.out with⟨h3,h4⟩|⟨h3,h4⟩
 ·rw[h1 h3];exact h4
 ·rw[h2 h3];exact h4
theorem Px{k:IntKind}{op:BinOp}{a b:Int}{K:PV->Prop}(h:Zw k op a b K):∃v,(∀t,fE C.P op t (.int k a) (.int k b)=some v)/\K v:=by
 cases op with
 |eql=>exact⟨_,λt=>by simp only[fE,gW];rfl,lj h (λh=>by simp[h]) (λh=>by simp[h])⟩
 |neq=>exact⟨_,λt=>by simp only[fE,gW];rfl,lj h (λh=>by simp[h]) (λh=>by simp[h])⟩
 |lss=>exact⟨_,λt=>by simp only[fE,gW];rfl,lj h (λh=>by simp[h]) (λh=>by simp[h])⟩
 |leq=>exact⟨_,λt=>by simp only[fE,gW];rfl,lj h (λh=>by simp[h]) (λh=>by simp[h])⟩
 |gtr=>exact⟨_,λt=>by simp only[fE,gW];rfl,lj h (λh=>by simp[h]) (λh=>by simp[h])⟩
 |geq=>exact⟨_,λt=>by simp only[fE,gW];rfl,lj h (λh=>by simp[h]) (λh=>by simp[h])⟩
 |add=>exact⟨_,λt=>by simp only[fE,gW];rfl,Wr.out h⟩
 |sub=>exact⟨_,λt=>by simp only[fE,gW];rfl,Wr.out h⟩
 |mul=>exact⟨_,λt=>by simp only[fE,gW];rfl,Wr.out h⟩
 |quo=>obtain⟨h1,h2⟩:=Sd.out h;exact⟨_,λt=>by simp only[fE,gW,if_true,if_neg h1],Wr.out h2⟩
 |rem=>obtain⟨h1,h2⟩:=Sd.out h;exact⟨_,λt=>by simp only[fE,gW,if_true,if_neg h1],h2⟩
 |and=>exact⟨_,λt=>by simp only[fE,gW];rfl,T1.out h⟩
 |or=>exact⟨_,λt=>by simp only[fE,gW];rfl,T1.out h⟩
 |xor=>exact⟨_,λt=>by simp only[fE,gW];rfl,T1.out h⟩
 |_=>exact False.elim h
def Zx(op:BinOp)(a b:ByteArray)(K:PV->Prop):Prop:=
 match op with
 | .eql=>sA (a.toList=b.toList) (K (.bool true)) (K (.bool false))
 | .neq=>sA (a.toList=b.toList) (K (.bool false)) (K (.bool true))
 | .lss=>sA (Op.bytesLess a.toList b.toList=true) (K (.bool true)) (K (.bool false))
 | .gtr=>sA ((!(Op.bytesLess a.toList b.toList ||a.toList==b.toList))=true) (K (.bool true)) (K (.bool false))
 | .leq=>sA ((Op.bytesLess a.toList b.toList ||a.toList==b.toList)=true) (K (.bool true)) (K (.bool false))
 | .geq=>sA (Op.bytesLess a.toList b.toList=true) (K (.bool false)) (K (.bool true))
 | .add=>Sd (a.size+b.size<1000000000) (K (.str (a++b)))
 |_=>False
theorem Py{op:BinOp}{a b:ByteArray}{K:PV->Prop}(h:Zx op a b K):∃v,(∀t,fE C.P op t (.str a) (.str b)=some v)/\K v:=by
 cases op with
 |eql=>exact⟨_,λt=>by simp only[fE,mE];rfl,lj h (λh=>by simp[h]) (λh=>by simp[h])⟩
 |neq=>exact⟨_,λt=>by simp only[fE,mE];rfl,lj h (λh=>by simp[h]) (λh=>by simp[h])⟩
 |lss=>exact⟨_,λt=>by simp only[fE,mE],lj h (λh=>h) (λh=>by simpa using h)⟩
 |gtr=>exact⟨_,λt=>by simp only[fE,mE],lj h (λh=>h) (λh=>by simpa using h)⟩
 |leq=>exact⟨_,λt=>by simp only[fE,mE],lj h (λh=>h) (λh=>by simpa using h)⟩
 |geq=>exact⟨_,λt=>by simp only[fE,mE];rfl,lj h (λh=>by simp[h]) (λh=>by simpa using h)⟩
 |add=>
  obtain⟨h1,h2⟩:=Sd.out h;exact⟨_,λt=>by simp only[fE,mE];rw[if_neg (by show¬((a.size+b.size:Nat):Int)>9223372036854775807;omega)],h2⟩
 |_=>exact False.elim h
def mz(L:Al)(x:Operand)(K:PV->Prop):Prop:=match cM L x with |some v=>K v |none=>False
theorem bL{x:Operand}{K:PV->Prop}(h:mz L x K):∃v,cM L x=some v/\K v:=by
 unfold mz at h
 split at h
 ·exact⟨_,by assumption,h⟩
 ·exact h.elim
def Pz(t:TypeId)(cs:List PV)(off:Nat)(K:PV->Prop):Prop:=
 match T.ta t,T.ts t with
 |some false,some _=>pq off cs λr=>match r with |c::_=>K c |[]=>False
 |some true,some sz=>pq off cs λr=>zB sz r λl=>K (.agg l)
 |_,_=>False
theorem LJ{t:TypeId}{cs:List PV}{off:Nat}{K:PV->Prop}(h:Pz T t cs off K):∃v,xr C.P t cs off=some v/\K v:=by
 unfold Pz at h
 split at h
 ·rename_i h1 h2
  obtain⟨h3,h4⟩:=jm h
  cases hd:cs.drop off with
  |nil=>rw[hd]at h4;exact h4.elim
  |cons c r=>
   rw[hd]at h4;refine⟨c,?_,h4⟩
   have:cs[off]?=some c:=by
    have:=congrArg List.head? hd;simpa[List.head?_drop]using this
   simp[xr,T.OU _ _ h1,T.dV _ _ h2,this]
 ·rename_i sz h1 h2
  obtain⟨h3,h4⟩:=jm h;obtain⟨h5,h6⟩:=oh h4;refine⟨_,?_,h6⟩;simp only[xr,T.OU _ _ h1,T.dV _ _ h2];rw[if_pos];simp at h5;omega
 ·exact h.elim
def PA(os:List (Nat×TypeId)):List (Nat×Operand)->List PV->Al->(List PV->Prop)->Prop
 |[],cs,_,K=>K cs
 |(i,x)::r,cs,L,K=>mz L x λv=>match AE os i with
  |some (off,ty)=>match T.ts ty with
   |some sz=>match Nat.beq (cells v).length sz,(cells v).all bH with
    |true,true=>LI off cs (cells v) λjH=>PA os r jH L K
    |_,_=>False
   |none=>False
  |none=>False
theorem BU{os:List (Nat×TypeId)}:∀{ps:List (Nat×Operand)} {cs:List PV} {K:List PV->Prop},PA T os ps cs L K->∃vs jH,li L ps=some vs/\kC (q' T.ts os) cs vs=some jH/\K jH
 |[],cs,K,h=>⟨[],cs,rfl,rfl,h⟩
 |(i,x)::r,cs,K,h=>by
  obtain⟨v,h1,h2⟩:=bL h
  split at h2
  ·rename_i off ty h3
   split at h2
   ·rename_i sz h4
    split at h2
    ·rename_i h5 h6
     obtain⟨h7,h8⟩:=tV h2;obtain⟨vs,jH,e1,e2,e3⟩:=BU h8;have h5:=ab8 h5;refine⟨(i,v)::vs,jH,by simp[li,h1,e1],?_,e3⟩;rw[ri]at h3;simp only[kC,q',h3,h4,abw];rw[if_pos ⟨h5,h6,by omega⟩];exact e2
    ·exact h2.elim
   ·exact h2.elim
  ·exact h2.elim
def Zy(os:List (Nat×TypeId)):Bool:=os.all λo=>(T.ts o.2).isSome
theorem SK{n:Nat}{cs l:List PV}{c:PV}(h:cs.drop n=c::l):n<cs.length:=by
 rcases ab0 n cs.length with h1 |h1
 ·exact h1
 ·rw[abR h1]at h;cases h
theorem Wt{fs:Array Field}{f off:Nat}{ft:TypeId}(h:(fs.toList.map λf=>(f.offset,f.type))[f]?=some (off,ft)):∃fl,fs[f]?=some fl/\fl.offset=off/\fl.type=ft:=by
 rw[abB]at h
 cases Wl:fs.toList[f]? with
 |none=>rw[Wl]at h;cases h
 |some fl=>
  rw[Wl]at h;simp at h;exact⟨fl,by simpa using Wl,h.1,h.2⟩
def xT(op:Op)(L:Al)(K:PV->Prop):Prop:=
 match op with
 | .move x | .assign x=>mz L x K
 | .pick c a b=>mz L c λv=>match v with
  | .bool true=>mz L a K
  | .bool false=>mz L b K
  |_=>False
 | .binOp op t x y _=>mz L x λv=>mz L y λu=>match v,u with
  | .int k a,.int k' b=>match op with
   | .shr=>SI a b k.bits λc=>K (.int k c)
   | .shl=>SJ k a b λc=>K (.int k c)
   |op=>match decide (k=k')with
    |true=>Zw k op a b K
    |false=>False
  | .str a,.str b=>Zx op a b K
  | .bool a,.bool b=>match T.kd t with
   |some .bool=>match op with
    | .eql=>K (.bool (a==b))
    | .neq=>K (.bool !(a==b))
    |_=>False
   |_=>False
  |_,_=>False
 | .unOp .neg _ x=>mz L x λv=>match v with
  | .int k n=>Wr k (0 - n) λc=>K (.int k c)
  |_=>False
 | .unOp .not _ x=>mz L x λv=>match v with
  | .bool true=>K (.bool false)
  | .bool false=>K (.bool true)
  |_=>False
 | .convert s d x=>mz L x λv=>match v,T.kd s,T.kd d with
  | .int _ n,some _,some (.int k)=>Wr k n λc=>K (.int k c)
  | .str s,some _,some .str=>K (.str s)
  | .aa _ es,some (.sl e),some .str=>match T.kd e,ov es with
   |some (.int .u8),some l=>K (.str (uc l))
   |_,_=>False
  |_,_,_=>False
 | .extract x i=>mz L x λv=>match v with
  | .ct vs=>match AE vs i with
   |some u=>K u
   |none=>False
  |_=>False
 | .makeFunc (.func f) first dn=>match first.toList with
  |[]=>pt L dn.toList λl=>K (.fn f l)
  |x::r=>pt L (x::r) λl=>pt L dn.toList λl2=>wO l l2 λl3=>K (.ou f l.length l3)
 | .nilCheck x=>mz L x λv=>match v with
  | .ptr id ep i o=>K (.ptr id ep i o)
  | .eQ cs=>K (.eQ cs)
  | .fn f cs=>K (.fn f cs)
  |_=>False
 | .field s x f=>mz L x λv=>match v,T.kd s with
  | .agg cs,some (.st os)=>match AE os f with
   |some (off,ft)=>Pz T ft cs off K
   |none=>False
  |_,_=>False
 | .fieldAddr s x f=>mz L x λv=>match T.kd s with
  |some (.st os)=>match AE os f with
   |some (off,ft)=>match T.ts ft with
    |some (_+1)=>match v with
     | .eQ cs=>pq off cs λr=>match r with |c::l=>K (.eQ (c::l))|[]=>False
     | .ptr id ep i o=>K (.ptr id ep i (o+off))
     |_=>False
    |_=>False
   |none=>False
  |_=>False
 | .index t x ix=>mz L x λv=>mz L ix λu=>match v,u,T.kd t with
  | .str s,.int _ i,some .str=>ByX s i λb=>K (.int .u8 b.toNat)
  |_,_,_=>False
 | .build t parts=>match T.tz t,T.kd t with
  |some z,some (.st os)=>match Zy T os,(cells z).all bH with
   |true,true=>PA T os parts.toList (cells z) L λcs=>K (.agg cs)
   |_,_=>False
  |some _,some (.arr _ _)=>C2 C op L K
  |_,_=>False
 |_=>False
theorem qF{op:Op}{K:PV->Prop}(hs:xT T op L K):cZ op=false/\∃v,(∀run lv ρ h,au C run lv op (al L ρ) h=some (v,h))/\K v:=by
 unfold xT at hs
 split at hs
 ·obtain⟨v,e,k⟩:=bL hs;exact⟨rfl,v,λrun lv ρ h=>by simp only[au,aC,an e],k⟩
 ·obtain⟨v,e,k⟩:=bL hs;exact⟨rfl,v,λrun lv ρ h=>by simp only[au,aC,an e],k⟩
 ·obtain⟨v,e,k⟩:=bL hs
  split at k
  ·obtain⟨u,e2,k⟩:=bL k;exact⟨rfl,u,λrun lv ρ h=>by simp only[au,aC,an e,an e2,if_true],k⟩
  ·obtain⟨u,e2,k⟩:=bL k;exact⟨rfl,u,λrun lv ρ h=>by simp only[au,aC,an e,an e2,abz,if_false],k⟩
  ·exact k.elim
 ·obtain⟨v,e,k⟩:=bL hs;obtain⟨u,e2,k⟩:=bL k
  split at k
  ·split at k
   ·obtain⟨h0,k⟩:=SI.out k;exact⟨rfl,_,λrun lv ρ h=>by simp only[au,aC,an e,an e2,fE,qB];rw[if_neg (by omega)];rfl,k⟩
   ·obtain⟨h0,k⟩:=SJ.out k;exact⟨rfl,_,λrun lv ρ h=>by simp only[au,aC,an e,an e2,fE,qB];rw[if_neg (by omega)];rfl,k⟩
   ·split at k
    ·rename_i hk
     obtain rfl:=of_decide_eq_true hk;obtain⟨w,e3,k⟩:=Px (C:=C) k;exact⟨rfl,w,λrun lv ρ h=>by simp only[au,aC,an e,an e2,e3,abw],k⟩
    ·exact k.elim
  ·obtain⟨w,e3,k⟩:=Py (C:=C) k;exact⟨rfl,w,λrun lv ρ h=>by simp only[au,aC,an e,an e2,e3,abw],k⟩
  ·split at k
   ·rename_i hk
    have hu:=CB (T.cT _ _ hk)
    split at k
    ·exact⟨rfl,_,λrun lv ρ h=>by simp only[au,aC,an e,an e2,fE,hu,abw],k⟩
    ·exact⟨rfl,_,λrun lv ρ h=>by simp only[au,aC,an e,an e2,fE,hu,abw],k⟩
    ·exact k.elim
   ·exact k.elim
  ·exact k.elim
 ·obtain⟨v,e,k⟩:=bL hs
  split at k
  ·exact⟨rfl,_,λrun lv ρ h=>by simp only[au,aC,an e,SQ,abw],k.out⟩
  ·exact k.elim
 ·obtain⟨v,e,k⟩:=bL hs
  split at k
  ·exact⟨rfl,_,λrun lv ρ h=>by simp only[au,aC,an e,SQ,abw,adp],k⟩
  ·exact⟨rfl,_,λrun lv ρ h=>by simp only[au,aC,an e,SQ,abw,adB],k⟩
  ·exact k.elim
 ·obtain⟨v,e,k⟩:=bL hs
  split at k
  ·rename_i h1 h2
   obtain⟨u,h3,_⟩:=mY (T.cT _ _ h1);exact⟨rfl,_,λrun lv ρ h=>by simp only[au,aC,an e,xq,h3,pK (T.cT _ _ h2),abw],k.out⟩
  ·rename_i h1 h2
   obtain⟨u,h3,_⟩:=mY (T.cT _ _ h1);exact⟨rfl,_,λrun lv ρ h=>by simp only[au,aC,an e,xq,h3,qo (T.cT _ _ h2),abw],k⟩
  ·rename_i h1 h2
   split at k
   ·rename_i h3 h4
    exact⟨rfl,_,λrun lv ρ h=>by simp only[au,aC,an e,xq,bz (T.cT _ _ h1),qo (T.cT _ _ h2),pK (T.cT _ _ h3),h4,abw],k⟩
   ·exact k.elim
  ·exact k.elim
 ·obtain⟨v,e,k⟩:=bL hs
  split at k
  ·split at k
   ·rename_i h1
    rw[ri]at h1;exact⟨rfl,_,λrun lv ρ h=>by simp only[au,aC,an e,h1],k⟩
   ·exact k.elim
  ·exact k.elim
 ·split at hs
  ·rename_i hf
   obtain⟨vs,e,k⟩:=jn hs;refine⟨rfl,_,λrun lv ρ h=>?_,k⟩;have hf:=Array.isEmpty_iff.2 (Array.toList_eq_nil_iff.1 hf);simp only[au,aC,hf,if_true,gV e]
  ·rename_i first _ _ x r hf
   obtain⟨vs,e,k⟩:=jn hs;obtain⟨us,e2,k⟩:=jn k;have k:=kT k;refine⟨rfl,_,λrun lv ρ h=>?_,k⟩;have h1:=gV (ρ:=ρ) e;have h2:=gV (ρ:=ρ) e2;rw[<-hf]at h1
   have bN:¬first.isEmpty=true:=λhh=>by
    have:=Array.isEmpty_iff.1 hh;rw[this]at hf;cases hf
   have hl:first.size=vs.length:=by rw[<-h1];simp
   simp only[au,aC,if_neg bN,ab6,h1,h2,hl]
 ·obtain⟨v,e,k⟩:=bL hs
  split at k
  ·exact⟨rfl,_,λrun lv ρ h=>by simp only[au,aC,an e],k⟩
  ·exact⟨rfl,_,λrun lv ρ h=>by simp only[au,aC,an e],k⟩
  ·exact⟨rfl,_,λrun lv ρ h=>by simp only[au,aC,an e],k⟩
  ·exact k.elim
 ·obtain⟨v,e,k⟩:=bL hs
  split at k
  ·rename_i cs os h1
   split at k
   ·rename_i off ft h2
    obtain⟨u,e2,k⟩:=LJ T k;obtain⟨fs,h3,h4⟩:=OW (T.cT _ _ h1);rw[ri,<-h4]at h2;refine⟨rfl,u,λrun lv ρ h=>?_,k⟩;obtain⟨fl,h5,rfl,rfl⟩:=Wt h2;simp only[au,aC,an e,BW,h3,h5,e2,abw]
   ·exact k.elim
  ·exact k.elim
 ·obtain⟨v,e,k⟩:=bL hs
  split at k
  ·rename_i os h1
   split at k
   ·rename_i off ft h2
    split at k
    ·rename_i sz h3
     rw[ri]at h2;have hf:=mV T h1 h2 h3
     split at k
     ·obtain⟨h4,k2⟩:=jm k;clear k
      split at k2
      ·rename_i h5
       exact⟨rfl,_,λrun lv ρ h=>by simp only[au,aC,an e,gy,hf,if_pos (SK h5),h5,abw],k2⟩
      ·exact k2.elim
     ·exact⟨rfl,_,λrun lv ρ h=>by simp only[au,aC,an e,gy,hf,abw],k⟩
     ·exact k.elim
    ·exact k.elim
   ·exact k.elim
  ·exact k.elim
 ·obtain⟨v,e,k0⟩:=bL hs;obtain⟨u,e2,k⟩:=bL k0;clear k0
  split at k
  ·rename_i h1
   obtain⟨n,b,rfl,h2,k⟩:=ByX.out k;exact⟨rfl,_,λrun lv ρ h=>by simp[au,aC,an e,an e2,xu,qo (T.cT _ _ h1),h2],k⟩
  ·exact k.elim
 ·split at hs
  ·rename_i h1 h2
   split at hs
   ·rename_i h3 h4
    obtain⟨vs,jH,e1,e2,k⟩:=BU T hs;refine⟨rfl,_,λrun lv ρ h=>?_,k⟩;have:=uX T h1 h2 h3 h4 e2;have e:=ji (ρ:=ρ) e1;simp only[au,aC,e,this,abw]
   ·exact hs.elim
  ·obtain⟨v,h1,k⟩:=C2.out hs;exact⟨rfl,v,h1,k⟩
  ·exact hs.elim
 ·exact hs.elim
def SL:Option Kd->PV->Bool
 |some (.int k),.int k' _=>decide (k'=k)
 |some .str,.str _ |some .bool,.bool _=>true
 |_,_=>false
theorem zC{t:TypeId}{u:PV}(e:SL (T.kd t) u=true):zT C.P t u=true:=by
 unfold SL at e
 split at e
 ·rename_i k k' n hk
  simp only[zT,pK (T.cT _ _ hk)];exact e
 ·rename_i s hk
  simp only[zT,qo (T.cT _ _ hk)]
 ·rename_i s hk
  simp only[zT,CB (T.cT _ _ hk)]
 ·cases e
theorem C3{h:ab}{id:Nat}{mu:Mu}{es:List PV}(e:h[id]?=some ⟨mu,0,0,es⟩)(hm:mu≠.x):Da h id=some ⟨mu,0,0,es⟩:=by
 simp[Da,getM,e,hm]
inductive LkX(h:ab)(v u:PV)(K:Option PV->Prop):Prop
 |nil (kk:Rn (K none)) (hv:v=.gN:=by rfl)
 |Mm {id i:Nat} {mu:Mu} {es:List PV} {p:PV} (hf:ru u es 0=some (some (i,p))) (kk:Rn (K (some p))) (ho:h[id]?=some ⟨mu,0,0,es⟩:=by first |assumption |rfl) (hm:mu≠.x:=by simp) (hv:v=.cD id:=by rfl)
 |RK {id:Nat} {mu:Mu} {es:List PV} (hf:ru u es 0=some none) (kk:Rn (K none)) (ho:h[id]?=some ⟨mu,0,0,es⟩:=by first |assumption |rfl) (hm:mu≠.x:=by simp) (hv:v=.cD id:=by rfl)
theorem LkX.out{v u:PV}{K:Option PV->Prop}(x:LkX h v u K){t kt et:TypeId}{z:PV}(ht:C.P.underlying t=some (.map kt et))(hz:jq C.P et=some z)(hk:zT C.P kt u=true)(ok:Bool):
  ∃r:Option PV,oz C.P h t v u ok=some (match r with |some p=>fI ok p true |none=>fI ok z false)/\K r:=by
 cases x with
 |nil kk hv=>subst hv;exact⟨none,by simp only[oz,ht,hz,hk,if_true],kk.out⟩
 |Mm hf kk ho hm hv=>subst hv;exact⟨some _,by simp only[oz,ht,hz,hk,if_true,C3 ho hm,hf],kk.out⟩
 |RK hf kk ho hm hv=>subst hv;exact⟨none,by simp only[oz,ht,hz,hk,if_true,C3 ho hm,hf],kk.out⟩
inductive Md(i:Int)(K:Nat->Prop):Prop
 |mk {n:Nat} (kk:Rn (K n)) (hi:i=(n:Int):=by first |rfl |exact(Int.natCast_succ _).symm |exact(adQ (by omega)).symm)
theorem Md.out{i:Int}{K:Nat->Prop}(x:Md i K):∃n:Nat,i=n/\K n:=by cases x with |mk kk h=>exact⟨_,h,kk.out⟩
inductive LK(es:List PV)(i:Nat)(K:PV->Prop):Prop
 |mk {e:PV} (kk:Rn (K e)) (h:es[i]?=some e:=by first |assumption |rfl)
theorem LK.out{es:List PV}{i:Nat}{K:PV->Prop}(x:LK es i K):∃e,es[i]?=some e/\K e:=by cases x with |mk kk h=>exact⟨_,h,kk.out⟩
inductive SM(h:ab)(v:PV)(K:Int->Prop):Prop
 |mk {full:Bool} {es:List PV} (kk:Rn (K (es.length:Int))) (hv:v=.aa full es:=by rfl)
 |m2 {sz:Nat} {es:List PV} (kk:Rn (K (es.length:Int))) (ho:Out sz h v es:=by assumption)
 |m3 {id ep off len:Nat} {o:aw} (kk:Rn (K (len:Int))) (hv:v=.ak id ep off len:=by rfl) (ho:getM h id ep=some o:=by first |exact bo (by assumption) rfl (by first |assumption |simp)|rfl |exact lT |exact qz (bo (by assumption) rfl (by first |assumption |simp))) (hl:off+len<=o.es.length:=by first |omega |(simp;done)|(simp;omega))
theorem SM.out{v:PV}{K:Int->Prop}{t el:TypeId}(x:SM h v K)(hk:C.P.underlying t=some (.slice el)):∃n:Int,pE C.P h t v=some (.int .i64 n)/\K n:=by
 cases x with
 |mk kk hv=>subst hv;exact⟨_,by simp only[pE,hk],kk.out⟩
 |m2 kk ho=>
  rcases ho with⟨rfl,rfl⟩|⟨id,ep,rfl,e2⟩
  ·exact⟨_,by simp only[pE,hk],kk.out⟩
  ·exact⟨_,by simp only[pE,hk,bo e2 rfl (by simp:Mu.m≠Mu.x)];rw[if_pos (by simp)],kk.out⟩
 |m3 kk hv ho hl=>subst hv;exact⟨_,by simp only[pE,hk,ho];rw[if_pos hl],kk.out⟩
def yw(t:TypeId)(cs:List PV)(K:PV->Prop):Prop:=
 match T.ta t,T.ts t with
 |some false,some _=>match cs with |c::_=>K c |[]=>False
 |some true,some (sz+1)=>zB (sz+1) cs λl=>K (.agg l)
 |_,_=>False
theorem zD{t:TypeId}{p:PV}{cs:List PV}{K:PV->Prop}(hp:cN h p=some cs)(x:yw T t cs K):∃v,iU C.P h t p=some v/\K v:=by
 unfold yw at x
 split at x
 ·rename_i h1 h2
  split at x
  ·exact⟨_,by simp only[iU,T.OU _ _ h1,T.dV _ _ h2,hp],x⟩
  ·exact x.elim
 ·rename_i sz h1 h2
  obtain⟨h5,h6⟩:=oh x;exact⟨_,by simp only[iU,T.OU _ _ h1,T.dV _ _ h2,hp];rw[if_pos ⟨by omega,h5⟩],h6⟩
 ·exact x.elim
def Xh(L:Al)(x:Option Operand)(dflt:Nat)(K:Nat->Prop):Prop:=
 match x with
 |none=>K dflt
 |some x=>mz L x λv=>match v with
  | .int _ i=>Md i K
  |_=>False
theorem xl{x:Option Operand}{dflt:Nat}{K:Nat->Prop}(hh:Xh L x dflt K):∃n:Nat,K n/\∀(ρ:Nat->PV) top,(n<=top->cJ (x.map (ev (al L ρ))) dflt top=some n):=by
 unfold Xh at hh
 split at hh
 ·exact⟨_,hh,λ_ _ _=>rfl⟩
 ·obtain⟨v,e,k⟩:=bL hh
  split at k
  ·obtain⟨n,hi,k2⟩:=Md.out k;clear k;subst hi;refine⟨n,k2,λρ top ht=>?_⟩;simp only[abw,an e,cJ];rw[if_pos ⟨by omega,by omega⟩];simp
  ·exact k.elim
theorem Zz{id ep i off:Nat}{o:aw}{e:PV}(h1:getM h id ep=some o)(h2:o.es[i]?=some e):cN h (.ptr id ep i off)=some ((cells e).drop off):=by simp only[cN,h1,h2]
def vv(op:Op)(L:Al)(h:ab)(K:PV->Prop):Prop:=
 match op with
 | .load t x=>mz L x λp=>match p with
  | .eQ cs=>yw T t cs K
  | .ptr id ep i off=>Fv h id ep λo=>LK o.es i λe=>pq off (cells e) λcs=>yw T t cs K
  |_=>False
 | .indexAddr t x ix=>mz L x λv=>mz L ix λu=>match T.kd t,v,u with
  |some (.sl el),.aa _ es,.int _ i=>match T.ts el with
   |some (sz+1)=>SF es i (sz+1) λcs=>K (.eQ cs)
   |_=>False
  |some (.sl el),.ak id ep off len,.int _ i=>match T.ts el with
   |some sz=>Fv h id ep λo=>Md i λn=>Sd (n<len/\off+len<=o.es.length/\sz=o.bM) (K (.ptr id ep (off+n) 0))
   |_=>False
  |some (.arr m el),.eQ cs,.int _ i=>match T.ts el with
   |some sz=>Md i λn=>Sd (n<m/\n * sz<cs.length) (pq (n * sz) cs λr=>K (.eQ r))
   |_=>False
  |some (.arr m el),.ptr id ep j off,.int _ i=>match T.ts el with
   |some sz=>Md i λn=>Sd (n<m) (K (.ptr id ep j (off+n * sz)))
   |_=>False
  |_,_,_=>False
 | .call ⟨.builtin b,args,Bh⟩=>match b,args.toList,Bh.toList with
  | .len,x::_,t::_=>mz L x λv=>match T.kd t with
   |some .str=>match v with
    | .str s=>K (.int .i64 s.size)
    |_=>False
   |some (.sl _)=>SM h v λn=>K (.int .i64 n)
   |_=>False
  | .max,[x,y],_=>mz L x λv=>mz L y λu=>match v,u with
   | .int k a,.int _ b=>K (.int k (max a b))
   |_,_=>False
  | .min,[x,y],_=>mz L x λv=>mz L y λu=>match v,u with
   | .int k a,.int _ b=>K (.int k (min a b))
   |_,_=>False
  |_,_,_=>False
 | .slice t x lo hi none=>mz L x λv=>match T.kd t,v with
  |some .str,.str s=>Xh L hi s.size λb=>Xh L lo 0 λa=>Sd (a<=b/\b<=s.size) (K (.str (s.extract a b)))
  |some (.sl el),.aa full es=>match T.ts el with
   |some sz=>Xh L hi es.length λb=>Xh L lo 0 λa=>Sd ((a<=b/\b<=es.length)/\(es[a]?).all (λv=>(cells v).length==sz)=true) (K (.aa (full&&b==es.length) ((es.drop a).take (b - a))))
   |_=>False
  |some (.sl _),.ak _ _ _ _=>pR C op L h K
  |_,_=>False
 | .lookup t m k ok=>mz L m λv=>mz L k λu=>match T.kd t with
  |some (.mp kt et)=>match T.tz et,SL (T.kd kt) u with
   |some z,true=>LkX h v u λr=>match r with
    |some p=>K (fI ok p true)
    |none=>K (fI ok z false)
   |_,_=>False
  |_=>False
 |_=>False
theorem lH{op:Op}{K:PV->Prop}(hs:vv T op L h K):cZ op=true/\∃v,(∀run lv ρ,au C run lv op (al L ρ) h=some (v,h))/\K v:=by
 unfold vv at hs
 split at hs
 ·obtain⟨p,e,k⟩:=bL hs
  split at k
  ·obtain⟨v,e2,k⟩:=zD T (h:=h) (p:=.eQ _) rfl k;exact⟨rfl,v,λrun lv ρ=>by simp only[au,aC,an e,e2,abw],k⟩
  ·obtain⟨o,e3,k⟩:=Fv.out k;obtain⟨el,e4,k⟩:=LK.out k;obtain⟨_,k⟩:=jm k;obtain⟨v,e2,k⟩:=zD T (h:=h) (Zz e3 e4) k;exact⟨rfl,v,λrun lv ρ=>by simp only[au,aC,an e,e2,abw],k⟩
  ·exact k.elim
 ·obtain⟨v,e,k0⟩:=bL hs;obtain⟨u,e2,k⟩:=bL k0;clear k0
  split at k
  ·rename_i hk
   split at k
   ·rename_i sz dV
    obtain⟨n,w,rfl,h2,h3,k⟩:=SF.out k;refine⟨rfl,_,λrun lv ρ=>?_,k⟩;have cG:=ag h2;simp only[au,aC,an e,an e2,cE,bz (T.cT _ _ hk),T.dV _ _ dV];rw[if_pos ⟨by omega,by omega⟩];simp only[acI,h2];rw[if_pos ⟨by omega,h3⟩];rfl
   ·exact k.elim
  ·rename_i hk
   split at k
   ·rename_i sz dV
    obtain⟨o,e3,k⟩:=Fv.out k;obtain⟨n,hi,k2⟩:=Md.out k;clear k;subst hi;obtain⟨⟨h1,h2,h3⟩,k⟩:=Sd.out k2;refine⟨rfl,_,λrun lv ρ=>?_,k⟩;simp only[au,aC,an e,an e2,cE,bz (T.cT _ _ hk),T.dV _ _ dV,e3];rw[if_pos ⟨by omega,by omega,h3,h2⟩];rfl
   ·exact k.elim
  ·rename_i hk
   split at k
   ·rename_i sz dV
    obtain⟨n,hi,k2⟩:=Md.out k;clear k;subst hi;obtain⟨⟨h1,h2⟩,k⟩:=Sd.out k2;obtain⟨_,k⟩:=jm k;refine⟨rfl,_,λrun lv ρ=>?_,k⟩;simp only[au,aC,an e,an e2,cE,OV (T.cT _ _ hk),T.dV _ _ dV];rw[if_pos ⟨by omega,by omega,by simpa using h2⟩];rfl
   ·exact k.elim
  ·rename_i hk
   split at k
   ·rename_i sz dV
    obtain⟨n,hi,k2⟩:=Md.out k;clear k;subst hi;obtain⟨h1,k⟩:=Sd.out k2;refine⟨rfl,_,λrun lv ρ=>?_,k⟩;simp only[au,aC,an e,an e2,cE,OV (T.cT _ _ hk),T.dV _ _ dV];rw[if_pos ⟨by omega,by omega⟩];rfl
   ·exact k.elim
  ·exact k.elim
 ·split at hs
  ·rename_i ha ht
   obtain⟨v,e,k⟩:=bL hs
   split at k
   ·rename_i hk
    split at k
    ·refine⟨rfl,_,λrun lv ρ=>?_,k⟩;simp only[au,ha,ht,abD,an e,bt,pE,qo (T.cT _ _ hk),abw]
    ·exact k.elim
   ·rename_i hk
    obtain⟨n,h1,k⟩:=SM.out k (bz (T.cT _ _ hk));refine⟨rfl,_,λrun lv ρ=>?_,k⟩;simp only[au,ha,ht,abD,an e,bt,h1,abw]
   ·exact k.elim
  ·rename_i ha
   obtain⟨v,e,k0⟩:=bL hs;obtain⟨u,e2,k⟩:=bL k0;clear k0
   split at k
   ·rename_i a _ b
    refine⟨rfl,_,λrun lv ρ=>?_,k⟩;have:(if b>a then b else a)=Max.max a b:=by split <;>omega
    simp only[au,ha,abD,abM,an e,an e2,bt,Mg,this,abw]
   ·exact k.elim
  ·rename_i ha
   obtain⟨v,e,k0⟩:=bL hs;obtain⟨u,e2,k⟩:=bL k0;clear k0
   split at k
   ·rename_i a _ b
    refine⟨rfl,_,λrun lv ρ=>?_,k⟩;have:(if b<a then b else a)=Min.min a b:=by split <;>omega
    simp only[au,ha,abD,abM,an e,an e2,bt,P7,this,abw]
   ·exact k.elim
  ·exact hs.elim
 ·obtain⟨v,e,k⟩:=bL hs
  split at k
  ·rename_i hk
   obtain⟨b,k,hb⟩:=xl k;obtain⟨a,k,ha⟩:=xl k;obtain⟨⟨h1,h2⟩,k⟩:=Sd.out k;refine⟨rfl,_,λrun lv ρ=>?_,k⟩;simp only[au,aC,an e,cf,qo (T.cT _ _ hk),adu,hb ρ _ h2,ha ρ _ h1]
   rfl
  ·rename_i hk
   split at k
   ·rename_i sz dV
    obtain⟨b,k,hb⟩:=xl k;obtain⟨a,k,ha⟩:=xl k;obtain⟨⟨⟨h1,h2⟩,h3⟩,k⟩:=Sd.out k;refine⟨rfl,_,λrun lv ρ=>?_,k⟩;simp only[au,aC,an e,cf,bz (T.cT _ _ hk),T.dV _ _ dV,adu];rw[show∀n:Nat,cJ none n n=some n from λ_=>rfl];simp only[hb ρ _ h2,ha ρ _ h1];rw[if_pos ⟨rfl,h3⟩]
    rfl
   ·exact k.elim
  ·obtain⟨w,h1,k⟩:=pR.out k;exact⟨rfl,w,h1,k⟩
  ·exact k.elim
 ·rename_i ok
  obtain⟨v,e,k0⟩:=bL hs;obtain⟨u,e2,k⟩:=bL k0;clear k0
  split at k
  ·rename_i hk
   split at k
   ·rename_i hz Fa
    obtain⟨r,h1,k2⟩:=LkX.out (C:=C) k (Jn (T.cT _ _ hk)) (T.nt _ _ hz) (zC T Fa) ok
    cases r with
    |none=>exact⟨rfl,_,λrun lv ρ=>by simp only[au,aC,an e,an e2,h1,abw],k2⟩
    |some p=>exact⟨rfl,_,λrun lv ρ=>by simp only[au,aC,an e,an e2,h1,abw],k2⟩
   ·exact k.elim
  ·exact k.elim
 ·exact hs.elim
inductive zE{α:Type}:List α->Nat->α->List α->Prop
 |zero {x y:α} {l:List α}:zE (x::l) 0 y (y::l)
 |succ {x y:α} {l l':List α} {n:Nat}:zE l n y l'->zE (x::l) (n+1) y (x::l')
 |last {x y:α} {l:List α}:zE (l++[x]) l.length y (l++[y])
 |gen {l:List α} {n:Nat} {y:α}:zE l n y (l.set n y)
theorem zE.eq{α:Type}{l l':List α}{n:Nat}{y:α}(a:zE l n y l'):l'=l.set n y:=by
 induction a with
 |zero=>rfl
 |succ _ ih=>rw[ih];rfl
 |last=>simp
 |gen=>rfl
inductive SN(h:ab)(id ep bM:Nat)(es:List PV)(i:Nat)(e':PV)(K:ab->Prop):Prop
 |mk {fA:List PV} {h':ab} (kk:Rn (K h')) (h1:zE es i e' fA:=by repeat(first |exact .zero |apply zE.succ |exact .last |exact .gen)) (h2:zE h id ⟨.m,ep,bM,fA⟩ h':=by repeat(first |exact .zero |apply zE.succ |exact .last |exact .gen))
theorem SN.out{id i ep bM:Nat}{es:List PV}{e':PV}{K:ab->Prop}(x:SN h id ep bM es i e' K):K (h.set id ⟨.m,ep,bM,es.set i e'⟩):=by
 cases x with |mk kk h1 h2=>obtain rfl:=h1.eq;obtain rfl:=h2.eq;exact kk.out
def rcX(off sz:Nat)(e v:PV)(K:PV->Prop):Prop:=
 match off,Nat.beq sz (cells e).length with
 |0,true=>K v
 |_,_=>LI off (cells e) (cells v) λcs=>K (.agg cs)
theorem SO{off sz:Nat}{e v:PV}{K:PV->Prop}(hl:(cells v).length=sz)(x:rcX off sz e v K):off+sz<=(cells e).length/\(K (eR off sz e v)\/(∃cs,K (.agg cs)/\cs=(cells e).take off++cells v++(cells e).drop (off+sz)/\¬(off=0/\sz=(cells e).length))):=by
 unfold rcX at x
 split at x
 ·rename_i h2
  have:=ab8 h2;refine⟨by omega,.inl ?_⟩;rw[eR,if_pos ⟨rfl,this⟩];exact x
 ·rename_i hn
  obtain⟨h1,h2⟩:=tV x;rw[hl]at h1 h2;refine⟨h1,.inr ⟨_,h2,rfl,λhh=>?_⟩⟩;obtain⟨rfl,h3⟩:=hh;exact hn rfl (by rw[<-h3];exact Nat.beq_refl _)
theorem PC{off sz:Nat}{e v:PV}{K:PV->Prop}(hl:(cells v).length=sz)(x:rcX off sz e v K):off+sz<=(cells e).length/\K (eR off sz e v):=by
 obtain⟨h1,h2 |⟨cs,h3,rfl,h4⟩⟩:=SO hl x
 ·exact⟨h1,h2⟩
 ·exact⟨h1,by rw[eR,if_neg h4];exact h3⟩
def C4(n sz:Nat):List (Nat×Operand)->List PV->Al->(List PV->Prop)->Prop
 |[],es,_,K=>K es
 |(i,x)::r,es,L,K=>mz L x λv=>match Nat.beq (cells v).length sz,(cells v).all bH,Nat.ble (i+1) n with
  |true,true,true=>PD es i v λfA=>C4 n sz r fA L K
  |_,_,_=>False
 where PD:List PV->Nat->PV->(List PV->Prop)->Prop
 |[],_,_,_=>False
 |_::l,0,v,k=>k (v::l)
 |e::l,i+1,v,k=>PD l i v λr=>k (e::r)
theorem BV:∀{es:List PV} {i:Nat} {v:PV} {k:List PV->Prop},C4.PD es i v k->k (es.set i v)
 |[],_,_,_,h=>h.elim
 |_::l,0,v,k,h=>h
 |e::l,i+1,v,k,h=>BV (es:=l) h
theorem zF{n sz:Nat}:∀{ps:List (Nat×Operand)} {es:List PV} {K:List PV->Prop},C4 n sz ps es L K->∃vs,li L ps=some vs/\vs.all (zo sz n)=true/\K (vs.foldl (λes x=>es.set x.1 x.2) es)
 |[],es,K,h=>⟨[],rfl,rfl,h⟩
 |(i,x)::r,es,K,h=>by
  obtain⟨v,h1,h2⟩:=bL h
  split at h2
  ·rename_i h3 h4 h5
   obtain⟨vs,e1,e2,e3⟩:=zF (BV h2);refine⟨(i,v)::vs,by simp[li,h1,e1],?_,e3⟩;rw[ace,e2,acN];simp only[zo,h4,acN,abq,decide_eq_true_eq];exact⟨ab8 h3,acu h5⟩
  ·exact h2.elim
def Wu:Nat->PV->(List PV->Prop)->Prop
 |0,_,k=>k []
 |n+1,z,k=>Wu n z λl=>k (z::l)
theorem Fw:∀{n:Nat} {z:PV} {k:List PV->Prop},Wu n z k->k (List.replicate n z)
 |0,_,_,h=>h
 |n+1,z,k,h=>Fw (n:=n) h
inductive BsX(h:ab)(sz:Nat)(es:List PV)(K:PV->ab->Prop):Prop
 |mk (kk:Rn (K (.aa true es) h)) (hv:ar es=true:=by first |rfl |(simp <;>fail))
 |m2 {n:Nat} {h':ab} (kk:Rn (K (.ak n 0 0 es.length) h')) (hv:ar es=false:=by first |rfl |(simp <;>fail)) (ha:P6 ⟨.m,0,sz,es⟩ h h' n:=by repeat(first |exact .nil |apply P6.cons |exact .gen))
def z8(t:TypeId)(n:Nat)(ps:List (Nat×Operand))(L:Al)(K:Nat->List PV->Prop):Prop:=
 match T.kd t with
 |some (.sl el)=>match T.ts el,T.tz el with
  |some (sz+1),some z=>match Nat.ble (n * (sz+1)) 16777216,Nat.beq (cells z).length (sz+1),(cells z).all bH with
   |true,true,true=>Wu n z λes=>C4 n (sz+1) ps es L λfA=>K (sz+1) fA
   |_,_,_=>False
  |_,_=>False
 |_=>False
theorem nJ{t:TypeId}{n:Nat}{ps:List (Nat×Operand)}{K:Nat->List PV->Prop}(x:z8 T t n ps L K):∃sz es,K sz es/\∀(ρ:Nat->PV) (h:ab) (lv:Nat),
  dB C.P lv h t n (ps.map λ(i,x)=>(i,ev (al L ρ) x))=if ar es=true then some (.aa true es,h)else if 2<=lv then some (.ak h.length 0 0 n,newObj h sz es)else none:=by
 unfold z8 at x
 split at x
 ·rename_i el hk
  split at x
  ·rename_i sz z dV nt
   split at x
   ·rename_i h1 h2 h3
    obtain⟨vs,e1,e2,e3⟩:=zF (Fw x);refine⟨_,_,e3,λρ h lv=>?_⟩;rw[ji e1];simp only[dB,bz (T.cT _ _ hk),T.dV _ _ dV,T.nt _ _ nt];rw[if_pos ⟨by omega,acu h1,ab8 h2,h3,e2⟩]
    rfl
   ·exact x.elim
  ·exact x.elim
 ·exact x.elim
inductive UpX(h:ab)(id:Nat)(u y:PV)(K:ab->Prop):Prop
 |mk {es fA:List PV} (hp:Mf u y es=some fA) (kk:Rn (K (h.set id ⟨.m,0,0,fA⟩))) (ho:h[id]?=some ⟨.m,0,0,es⟩:=by first |assumption |rfl)
theorem UpX.out{id:Nat}{u y:PV}{K:ab->Prop}(x:UpX h id u y K){t kt et:TypeId}(ht:C.P.underlying t=some (.map kt et))(hk:zT C.P kt u=true):∃h',oA C.P h t (.cD id) u y=some h'/\K h':=by
 cases x with
 |mk hp kk ho=>exact⟨_,by simp only[oA,ht,C3 ho (by simp:Mu.m≠Mu.x),hk,hp,and_self,if_true],kk.out⟩
def vY(op:Op)(L:Al)(h:ab)(K:PV->ab->Prop):Prop:=
 match op with
 | .store t a x=>mz L a λp=>mz L x λv=>match p,T.ts t with
  | .ptr id ep i off,some sz=>match Nat.beq (cells v).length sz,(cells v).all bH with
   |true,true=>Fv h id ep λo=>match o with
    |⟨.m,ep,bM,es⟩=>LK es i λe=>rcX off sz e v λe'=>SN h id ep bM es i e' λh'=>K .undef h'
    |_=>False
   |_,_=>False
  |_,_=>False
 | .alloc t=>match T.tz t,T.ts t with
  |some z,some sz=>match(cells z).all bH,Nat.beq (cells z).length sz,Nat.ble 1 sz with
   |true,true,true=>wN h ⟨.m,0,sz,[z]⟩ λn h'=>K (.ptr n 0 0 0) h'
   |_,_,_=>False
  |_,_=>wh C (.alloc t) L h K
 | .box t x=>mz L x λz=>match T.ts t with
  |some sz=>match(cells z).all bH,Nat.beq (cells z).length sz,Nat.ble 1 sz with
   |true,true,true=>wN h ⟨.m,0,sz,[z]⟩ λn h'=>K (.ptr n 0 0 0) h'
   |_,_,_=>False
  |_=>False
 | .makeSlice t l c=>mz L l λu=>mz L c λv=>match T.kd t,u,v with
  |some (.sl el),.int _ a,.int _ b=>match T.ts el,T.tb el,T.tz el with
   |some (sz+1),some gh,some z=>match Nat.ble gh 1000,Nat.beq (cells z).length (sz+1),(cells z).all bH with
    |true,true,true=>Md a λn=>Sd (a<=b/\b<=1073741824) (wN h ⟨.m,0,sz+1,List.replicate n z⟩ λm h'=>K (.ak m 0 0 n) h')
    |_,_,_=>False
   |_,_,_=>False
  |_,_,_=>False
 | .call ⟨.builtin .append,args,Bh⟩=>match args.toList,Bh.toList with
  |[x,y],[st,xt]=>mz L y λu=>match u with
   | .aa full ys=>match T.kd st,T.kd xt with
    |some (.sl el),some (.sl _)=>match T.ts el,T.tb el,T.tz el with
     |some (sz+1),some gh,some z=>match Nat.ble gh 1000,Nat.beq (cells z).length (sz+1),(cells z).all bH with
      |true,true,true=>mz L x λv=>SG h (sz+1) v ys K
      |_,_,_=>False
     |_,_,_=>False
    |_,_=>False
   |_=>wh C op L h K
  |_,_=>wh C op L h K
 | .buildSlice t n ps=>z8 T t n ps.toList L λsz es=>match Nat.beq es.length n with
  |true=>BsX h sz es K
  |false=>False
 | .makeMap t none=>wN h ⟨.m,0,0,[]⟩ λn h'=>K (.cD n) h'
 | .makeMap t (some x)=>mz L x λv=>match v,T.kd t with
  | .int _ _,some (.mp _ _)=>wN h ⟨.m,0,0,[]⟩ λn h'=>K (.cD n) h'
  |_,_=>False
 | .mapUpdate t m k x | .insert t m k x=>mz L m λv=>mz L k λu=>mz L x λy=>match v,T.kd t with
  | .cD id,some (.mp kt _)=>match SL (T.kd kt) u with
   |true=>UpX h id u y λh'=>K .undef h'
   |false=>False
  |_,_=>False
 |op=>wh C op L h K
theorem SG.out{st xt el rk:TypeId}{sz gh:Nat}{z:PV}{full:Bool}{ys:List PV}{x y:Operand}{v:PV}{K:PV->ab->Prop}(a:SG h (sz+1) v ys K)(hx:cM L x=some v)(hy:cM L y=some (.aa full ys))(hk:T.kd st=some (.sl el))(gv:T.kd xt=some (.sl rk))(hs:T.ts el=some (sz+1))(hb:T.tb el=some gh)(hz:T.tz el=some z)
  (jo:gh<=1000) (hl:(cells z).length=sz+1) (ho:(cells z).all bH=true):
  ∃v' h',(∀run ρ,au C run 2 (.call ⟨.builtin .append,#[x,y],#[st,xt]⟩) (al L ρ) h=some (v',h'))/\K v' h':=by
 cases a with
 | @nn fl es kk pB hv=>
  subst hv pB;refine⟨_,_,λrun ρ=>?_,kk.out⟩;simp only[au,bt,abD,abM,an hx,an hy,bP,bz (T.cT _ _ hk),bz (T.cT _ _ gv),T.dV _ _ hs,T.rU _ _ hb,T.nt _ _ hz,cC,cu];rw[if_pos ⟨by omega,by omega,⟨hl,ho⟩,rfl⟩]
  rfl
 | @sn es kk bN hn hv AQ heo=>
  subst hv;refine⟨_,_,λrun ρ=>?_,kk.out⟩;unfold dK at AQ heo;simp only[au,bt,abD,abM,an hx,an hy,bP,bz (T.cT _ _ hk),bz (T.cT _ _ gv),T.dV _ _ hs,T.rU _ _ hb,T.nt _ _ hz,cC,cu];rw[if_pos ⟨by omega,by omega,⟨hl,ho⟩,AQ⟩,if_neg (by rw[bN];simp),if_pos ⟨trivial,by omega,jv hn jo,heo⟩]
  rfl
 | @lp es kk o AQ hn Gz hH=>
  by_cases bN:ys.isEmpty=true
  ·have pB:ys=[]:=by simpa using bN
   subst pB;refine⟨v,h,λrun ρ=>?_,(kk v h ⟨by simpa using o,hH,abn _,λj _ _=>rfl,λj ep n hh=>.inl ⟨ep,n,hh⟩⟩).out⟩;rcases o with⟨rfl,rfl⟩|⟨id,ep,rfl,e2⟩
   ·simp only[au,bt,abD,abM,an hx,an hy,bP,bz (T.cT _ _ hk),bz (T.cT _ _ gv),T.dV _ _ hs,T.rU _ _ hb,T.nt _ _ hz,cC,cu];rw[if_pos ⟨by omega,by omega,⟨hl,ho⟩,rfl⟩];rfl
   ·simp only[au,bt,abD,abM,an hx,an hy,bP,bz (T.cT _ _ hk),bz (T.cT _ _ gv),T.dV _ _ hs,T.rU _ _ hb,T.nt _ _ hz,cC,cu,bo e2 rfl (by simp:Mu.m≠Mu.x)];rw[if_pos ⟨by omega,by omega,⟨hl,ho⟩,rfl⟩,if_pos ⟨by simp,trivial⟩];rfl
  have bN:ys.isEmpty=false:=by simpa using bN
  rcases o with⟨rfl,rfl⟩|⟨id,ep,rfl,e2⟩
  ·refine⟨.ak h.length 0 0 ys.length,h++[⟨.m,0,sz+1,ys⟩],λrun ρ=>?_,(kk (.ak h.length 0 0 ys.length) (h++[⟨.m,0,sz+1,ys⟩]) ⟨.inr ⟨h.length,0,by simp,by simp⟩,hH.cB (HV.one (by simpa using Gz)),by simp,λj hj _=>abj hj,λj ep n hh=>?_⟩).out⟩
   ·have:=gF T (h:=h) (lv:=2) (full:=full) (by omega) hk gv hs hb hz jo hl ho AQ bN (by simpa using hn);simp only[au,bt,abD,abM,an hx,an hy,this]
   ·cases hh;exact .inr (abn _)
  ·have cG:=ag e2;refine⟨.ak id (ep+1) 0 (es.length+ys.length),h.set id ⟨.m,ep+1,sz+1,es++ys⟩,λrun ρ=>?_,(kk (.ak id (ep+1) 0 (es.length+ys.length)) (h.set id ⟨.m,ep+1,sz+1,es++ys⟩) ⟨.inr ⟨id,ep+1,by simp,abl cG⟩,hH.set id (by simp) Gz,by simp,λj hj bN=>abm (λhh=>bN ep es.length (by rw[hh])),λj im n hh=>?_⟩).out⟩
   ·have:=lG T (h:=h) (full:=full) (len:=es.length) hk gv hs hb hz jo hl ho AQ bN hn (bo e2 rfl (by simp)) rfl rfl (abn _);simp only[au,bt,abD,abM,an hx,an hy,this,ack]
   ·cases hh;exact .inl ⟨ep,es.length,rfl⟩
 | @lr es kk o AQ hn Gz hH=>
  by_cases bN:ys.isEmpty=true
  ·have pB:ys=[]:=by simpa using bN
   subst pB;refine⟨v,h,λrun ρ=>?_,(kk v h ⟨by simpa using o,hH,abn _,λj _ _=>rfl,λj ep n hh=>.inl ⟨ep,n,hh⟩⟩).out⟩;rcases o with⟨rfl,rfl⟩|⟨id,ep,rfl,e2⟩
   ·simp only[au,bt,abD,abM,an hx,an hy,bP,bz (T.cT _ _ hk),bz (T.cT _ _ gv),T.dV _ _ hs,T.rU _ _ hb,T.nt _ _ hz,cC,cu];rw[if_pos ⟨by omega,by omega,⟨hl,ho⟩,rfl⟩];rfl
   ·simp only[au,bt,abD,abM,an hx,an hy,bP,bz (T.cT _ _ hk),bz (T.cT _ _ gv),T.dV _ _ hs,T.rU _ _ hb,T.nt _ _ hz,cC,cu,bo e2 rfl (by simp:Mu.m≠Mu.x)];rw[if_pos ⟨by omega,by omega,⟨hl,ho⟩,rfl⟩,if_pos ⟨by simp,trivial⟩];rfl
  have bN:ys.isEmpty=false:=by simpa using bN
  rcases o with⟨rfl,rfl⟩|⟨id,ep,rfl,e2⟩
  ·refine⟨.ak h.length 0 0 ys.length,h++[⟨.m,0,sz+1,ys⟩],λrun ρ=>?_,(kk (.ak h.length 0 0 ys.length) (h++[⟨.m,0,sz+1,ys⟩]) ⟨.inr ⟨h.length,0,by simp,by simp⟩,hH.wk (by simp) (dW (f:=λi=>decide (i<h.length)) (λi hi=>by have:=of_decide_eq_true hi;exact decide_eq_true (by omega)) _ (by simpa using Gz)),by simp,λj hj _=>abj hj,λj ep n hh=>?_⟩).out⟩
   ·have:=gF T (h:=h) (lv:=2) (full:=full) (by omega) hk gv hs hb hz jo hl ho AQ bN (by simpa using hn);simp only[au,bt,abD,abM,an hx,an hy,this]
   ·cases hh;exact .inr (abn _)
  ·have cG:=ag e2;refine⟨.ak id (ep+1) 0 (es.length+ys.length),h.set id ⟨.m,ep+1,sz+1,es++ys⟩,λrun ρ=>?_,(kk (.ak id (ep+1) 0 (es.length+ys.length)) (h.set id ⟨.m,ep+1,sz+1,es++ys⟩) ⟨.inr ⟨id,ep+1,by simp,abl cG⟩,hH.set id (by simp) Gz,by simp,λj hj bN=>abm (λhh=>bN ep es.length (by rw[hh])),λj im n hh=>?_⟩).out⟩
   ·have:=lG T (h:=h) (full:=full) (len:=es.length) hk gv hs hb hz jo hl ho AQ bN hn (bo e2 rfl (by simp)) rfl rfl (abn _);simp only[au,bt,abD,abM,an hx,an hy,this,ack]
   ·cases hh;exact .inl ⟨ep,es.length,rfl⟩
theorem rf{op:Op}{K:PV->ab->Prop}(hs:vY T op L h K):∃v h',(∀run ρ,au C run 2 op (al L ρ) h=some (v,h'))/\K v h':=by
 unfold vY at hs
 split at hs
 ·obtain⟨p,e,k0⟩:=bL hs;obtain⟨v,e2,k⟩:=bL k0;clear k0
  split at k
  ·rename_i dV
   split at k
   ·rename_i hl h1
    obtain⟨o,e3,k⟩:=Fv.out k
    split at k
    ·obtain⟨el,e4,k⟩:=LK.out k;have hl:=ab8 hl;obtain⟨h5,k⟩:=PC hl k;refine⟨_,_,λrun ρ=>?_,SN.out k⟩;simp only[au,aC,an e,an e2,hZ,T.dV _ _ dV,e3,e4,abn,if_true];rw[if_pos ⟨trivial,hl,h1,h5⟩];rfl
    ·exact k.elim
   ·exact k.elim
  ·exact k.elim
 ·split at hs
  ·rename_i hz dV
   split at hs
   ·rename_i h1 h2 h3
    have h2:=ab8 h2;have h3:=acu h3;refine⟨_,_,λrun ρ=>?_,wN.out hs⟩;simp only[au,aC,T.nt _ _ hz];rw[if_pos ⟨by omega,h1,by omega⟩,newObj,h2]
   ·exact hs.elim
  ·exact hs.out
 ·obtain⟨z,e,k⟩:=bL hs
  split at k
  ·rename_i dV
   split at k
   ·rename_i h1 h2 h3
    have h2:=ab8 h2;have h3:=acu h3;refine⟨_,_,λrun ρ=>?_,wN.out k⟩;simp only[au,aC,an e];rw[if_pos ⟨by omega,h1,by omega⟩,newObj,h2]
   ·exact k.elim
  ·exact k.elim
 ·obtain⟨u,e,k0⟩:=bL hs;obtain⟨v,e2,k⟩:=bL k0;clear k0
  split at k
  ·rename_i hk
   split at k
   ·rename_i dV rU nt
    split at k
    ·rename_i h1 h2 h3
     obtain⟨n,hi,k2⟩:=Md.out k;clear k;subst hi;obtain⟨⟨h4,h5⟩,k⟩:=Sd.out k2;have h1:=acu h1;refine⟨_,_,λrun ρ=>?_,wN.out k⟩;simp only[au,aC,an e,an e2,jM,bz (T.cT _ _ hk),T.dV _ _ dV,T.rU _ _ rU,T.nt _ _ nt];rw[if_pos ⟨by omega,by omega,h4,h5,by omega,by omega,ab8 h2,h3⟩];simp[newObj]
    ·exact k.elim
   ·exact k.elim
  ·exact k.elim
 ·split at hs
  ·rename_i x y st xt ha ht
   obtain⟨u,e,k⟩:=bL hs
   split at k
   ·split at k
    ·rename_i hk gv
     split at k
     ·rename_i dV rU nt
      split at k
      ·rename_i h1 h2 h3
       obtain⟨v,e2,k⟩:=bL k;obtain⟨v',h',h5,h6⟩:=SG.out T k e2 e hk gv dV rU nt (acu h1) (ab8 h2) h3;refine⟨v',h',λrun ρ=>?_,h6⟩;rw[<-h5 run ρ];simp only[au,ha,ht]
      ·exact k.elim
     ·exact k.elim
    ·exact k.elim
   ·exact k.out.imp λv a=>a.imp λh' b=>b
  ·obtain⟨v,h',b⟩:=hs.out;exact⟨v,h',b⟩
 ·obtain⟨sz,es,k,hb⟩:=nJ T hs
  split at k
  ·rename_i hn
   have hn:=ab8 hn
   cases k with
   |mk kk hv=>exact⟨_,_,λrun ρ=>by simp only[au,aC,hb];rw[if_pos hv],kk.out⟩
   |m2 kk hv ha=>
    obtain⟨rfl,rfl⟩:=ha.eq;refine⟨_,_,λrun ρ=>?_,kk.out⟩;simp only[au,aC,hb];rw[if_neg (by rw[hv];simp),if_pos (abn 2),newObj,hn]
  ·exact k.elim
 ·exact⟨_,_,λrun ρ=>by simp only[au,aC,nu,adu];rw[if_pos (by omega)];rfl,wN.out hs⟩
 ·obtain⟨v,e,k⟩:=bL hs
  split at k
  ·rename_i hk
   exact⟨_,_,λrun ρ=>by simp only[au,aC,nu,abw,an e,Jn (T.cT _ _ hk)];rw[if_pos (by omega)];rfl,wN.out k⟩
  ·exact k.elim
 ·obtain⟨v,e,k0⟩:=bL hs;obtain⟨u,e2,k1⟩:=bL k0;obtain⟨y,e3,k⟩:=bL k1;clear k0 k1
  split at k
  ·rename_i hk
   split at k
   ·rename_i Fa
    obtain⟨h',h1,k2⟩:=UpX.out (C:=C) k (Jn (T.cT _ _ hk)) (zC T Fa);exact⟨_,h',λrun ρ=>by simp only[au,aC,an e,an e2,an e3,h1,abn,if_true,abw],k2⟩
   ·exact k.elim
  ·exact k.elim
 ·obtain⟨v,e,k0⟩:=bL hs;obtain⟨u,e2,k1⟩:=bL k0;obtain⟨y,e3,k⟩:=bL k1;clear k0 k1
  split at k
  ·rename_i hk
   split at k
   ·rename_i Fa
    obtain⟨h',h1,k2⟩:=UpX.out (C:=C) k (Jn (T.cT _ _ hk)) (zC T Fa);exact⟨_,h',λrun ρ=>by simp only[au,aC,an e,an e2,an e3,h1,abn,if_true,abw],k2⟩
   ·exact k.elim
  ·exact k.elim
 ·obtain⟨v,h',b⟩:=hs.out;exact⟨v,h',b⟩
def push(d:Option Nat)(v:PV)(L:Al):Al:=match d with |some d=>(d,v)::L |none=>L
def fT(d:Option Nat)(v:PV)(L:Al)(K:Al->Prop):Prop:=match d with |some d=>K ((d,v)::L)|none=>K L
theorem gm{d:Option Nat}{v:PV}{K:Al->Prop}(h:fT d v L K):K (push d v L):=by
 unfold fT at h
 split at h <;>exact h
theorem kz(d:Option Nat)(v:PV):cd (al L ρ) d v=al (push d v L) ρ:=by
 cases d with
 |none=>rfl
 |some d=>exact cj d v L ρ
def Xi(ops:List Oper)(g:Option (Nat×Bool))(L:Al):Option Bool:=
 match g with
 |none=>some true
 |some (j,want)=>match AE ops j with
  |some o=>match o.dst with
   |some d=>match lk L d with
    |some (.bool true)=>some want
    |some (.bool false)=>match want with |true=>some false |false=>some true
    |some .undef=>some false
    |_=>none
   |none=>some false
  |none=>some false
theorem xm{ops:Array Oper}{o:Oper}{b:Bool}(hh:Xi ops.toList o.guard L=some b):bA ops o (al L ρ)=some b:=by
 unfold Xi at hh;unfold bA
 split at hh
 ·rename_i hg;rw[hg];exact hh
 ·rename_i j want hg
  rw[hg];simp only;rw[ri]at hh
  cases ho:ops.toList[j]? with
  |none=>rw[ho]at hh;simpa using hh
  |some o'=>
   rw[ho]at hh;simp only[Option.bind_some]at hh ⊢
   cases hd:o'.dst with
   |none=>rw[hd]at hh;simpa using hh
   |some d=>
    rw[hd]at hh;simp only at hh ⊢
    split at hh
    ·rename_i hl;rw[dC hl ρ];simp at hh;subst hh;cases want <;>rfl
    ·rename_i hl;rw[dC hl ρ];cases want <;>simp at hh <;>subst hh <;>rfl
    ·rename_i hl;rw[dC hl ρ];simpa using hh
    ·cases hh
def zG(op:Op):Option (Operand×List Operand):=match op with | .call ⟨.value f,args,_⟩=>some (f,args.toList)|_=>none
def Wv(op:Op):Bool:=match op with | .load .. | .indexAddr .. | .slice .. | .lookup ..=>true | .call ⟨.builtin .len,_,_⟩| .call ⟨.builtin .max,_,_⟩| .call ⟨.builtin .min,_,_⟩=>true |_=>false
def PE(op:Op)(L:Al)(h:ab)(K:PV->ab->Prop):Prop:=
 match zG op with
 |some (f,args)=>mz L f λv=>match v with
  | .fn f dn=>pt L args λus=>wO us dn λus=>aj C 2 f us h λv h'=>Rn (K v h')
  | .ou f k cs=>pt L args λus=>zB k cs λa=>pq k cs λb=>wO a us λus=>wO us b λus=>aj C 2 f us h λv h'=>Rn (K v h')
  |_=>False
 |none=>match cZ op with
  |false=>xT T op L λv=>K v h
  |true=>match Wv op with
   |true=>vv T op L h λv=>K v h
   |false=>vY T op L h K
def Ig(ops:List Oper)(l:List Oper):Al->ab->(Al->ab->Prop)->Prop:=
 List.rec (motive:=λ_=>Al->ab->(Al->ab->Prop)->Prop) (λL h Q=>Q L h)
  (λo _ ih L h Q=>match Xi ops o.guard L with
   |some true=>PE T o.op L h λv h'=>fT o.dst v L λL=>ih L h' Q
   |some false=>fT o.dst .undef L λL=>ih L h Q
   |none=>False) l
theorem LL{ops:List Oper}{o:Oper}{r:List Oper}{L:Al}{h:ab}{Q:Al->ab->Prop}:Ig T ops (o::r) L h Q=match Xi ops o.guard L with
  |some true=>PE T o.op L h λv h'=>fT o.dst v L λL=>Ig T ops r L h' Q
  |some false=>fT o.dst .undef L λL=>Ig T ops r L h Q
  |none=>False:=rfl
theorem aj.mono{lv:Nat}{f:FuncId}{args:List PV}{h:ab}{Q Q':PV->ab->Prop}(a:aj C lv f args h Q)(hq:∀r h,Q r h->Q' r h):aj C lv f args h Q':=by
 obtain⟨r,h',q,e⟩:=a;exact⟨r,h',hq _ _ q,e⟩
theorem ah.ZA{ops:Array Oper}{o:Oper}{r:List Oper}{s:St}{Q:St->Prop}{c:Call}{x:Operand}{f:FuncId}{k:Nat}{cs args:List PV}(hw:bA ops o s.ρ=some true)(ho:o.op=.call c)(hx:c.callee=.value x)(hf:ev s.ρ x=.ou f k cs)
  (ha:cs.take k++c.args.toList.map (ev s.ρ)++cs.drop k=args) (hc:aj C 2 f args s.h (λv h'=>ah C ops r ⟨cd s.ρ o.dst v,h'⟩ Q)):ah C ops (o::r) s Q:=by
 obtain⟨v,h',⟨s',q,n1,FA⟩,n0,hn⟩:=hc;refine⟨s',q,max n0 n1,λn h1=>?_⟩
 have:au C (fo C n) 2 o.op s.ρ s.h=some (v,h'):=by
  rw[ho];simp only[au,hx,gr,hf,ha];exact hn n (by omega)
 simp only[dE,fU,hw,this,FA n (by omega)]
theorem qA{ops:Array Oper}{Q:St->Prop}:∀{l:List Oper} {L:Al} {h:ab} {K:Al->ab->Prop},Ig T ops.toList l L h K->(∀L' h',K L' h'->Q ⟨al L' ρ,h'⟩)->ah C ops l ⟨al L ρ,h⟩ Q
 |[],L,h,K,x,hq=>ah.nil (hq _ _ x)
 |o::r,L,h,K,x,hq=>by
  rw[LL]at x
  split at x
  ·rename_i hg
   have hw:=xm (ρ:=ρ) hg
   have plain:∀{v:PV} {h':ab},(∀run ρ,au C run 2 o.op (al L ρ) h=some (v,h'))->(fT o.dst v L λL=>Ig T ops.toList r L h' K)->ah C ops (o::r) ⟨al L ρ,h⟩ Q:=λ{v h'} hv k=>
    ah.step (s1:=⟨cd (al L ρ) o.dst v,h'⟩) (λrun=>by simp only[fU,hw,hv run ρ]) (by rw[kz];exact qA (gm k) hq)
   unfold PE at x
   split at x
   ·rename_i f args hc
    obtain⟨v,e,k⟩:=bL x
    split at k
    ·obtain⟨us,e2,k⟩:=jn k;have k:=kT k
     have kU:∃c:Call,o.op=.call c/\c.callee=.value f/\c.args.toList=args:=by
      unfold zG at hc
      split at hc
      ·rename_i h1
       obtain⟨rfl,rfl⟩:=abv (abi hc);exact⟨_,h1,rfl,rfl⟩
      ·cases hc
     obtain⟨c,c1,c2,c3⟩:=kU;refine ah.call hw c1 c2 (an e ρ) (by rw[c3,gV e2]) (k.mono λv h' kk=>?_);rw[kz];exact qA (gm kk.out) hq
    ·obtain⟨us,e2,k⟩:=jn k;obtain⟨_,k⟩:=oh k;obtain⟨_,k⟩:=jm k;have k:=kT (kT k)
     have kU:∃c:Call,o.op=.call c/\c.callee=.value f/\c.args.toList=args:=by
      unfold zG at hc
      split at hc
      ·rename_i h1
       obtain⟨rfl,rfl⟩:=abv (abi hc);exact⟨_,h1,rfl,rfl⟩
      ·cases hc
     obtain⟨c,c1,c2,c3⟩:=kU;refine ah.ZA hw c1 c2 (an e ρ) (by rw[c3,gV e2]) (k.mono λv h' kk=>?_);rw[kz];exact qA (gm kk.out) hq
    ·exact k.elim
   ·split at x
    ·obtain⟨_,v,h1,k⟩:=qF T x;exact plain (λrun ρ=>h1 run 2 ρ h) k
    ·split at x
     ·obtain⟨_,v,h1,k⟩:=lH T x;exact plain (λrun ρ=>h1 run 2 ρ) k
     ·obtain⟨v,h',h1,k⟩:=rf T x;exact plain h1 k
  ·rename_i hg
   have hw:=xm (ρ:=ρ) hg;exact ah.step (s1:=⟨cd (al L ρ) o.dst .undef,h⟩) (λrun=>by simp only[fU,hw]) (by rw[kz];exact qA (gm x) hq)
  ·exact x.elim
def ZB(h:ab)(v:PV):Prop:=match v with
 | .ptr id _ _ _=>aQ h id=true
 | .ak id _ _ _=>aQ h id=true
 |v=>bq (aQ h) v=true
def Lk(L:Al)(h:ab):List Operand->Prop
 |[]=>True
 |y::r=>match cM L y with
  |some v=>ZB h v/\Lk L h r
  |none=>False
theorem Cz{id:Nat}{o:aw}(e:h[id]?=some o)(h1:o.mu≠.x):aQ h id=true:=by simp[aQ,e,h1]
theorem Ju{o:aw}(h1:o.mu≠.x):aQ (h++[o]) h.length=true:=by simp[aQ,h1]
theorem xo{J:ab}{id:Nat}(e:aQ h id=true):aQ (h++J) id=true:=by
 unfold aQ at e ⊢
 split at e
 ·rename_i o ho
  rw[abj (ag ho),ho];exact e
 ·cases e
theorem Jv{ρ:Nat->PV}:∀{l:List Operand},Lk L h l->∀y∈l,bq (aQ h) (ev (al L ρ) y)=true
 |[],_,y,hy=>by cases hy
 |x::l,a,y,hy=>by
  unfold Lk at a
  split at a
  ·rename_i v hv
   rcases abu.1 hy with rfl |hy
   ·rw[an hv];have a1:=a.1;unfold ZB at a1
    split at a1
    ·simpa only[bq]using a1
    ·simpa only[bq]using a1
    ·exact a1
   ·exact Jv a.2 y hy
  ·exact a.elim
inductive DRd(ops:Array Oper)(i:Nat)(op:Op)(L:Al)(h:ab)(a:Prop):Prop
 |mk (k:Rn a) (hc:aV h=true:=by first |exact HV.closed (by assumption)|exact HR.closed (by assumption)|assumption |rfl |((refine HV.closed ?_;repeat' (first |assumption |apply HV.cB |(refine HV.one ?_;simp <;>fail)|exact HV.nil)) <;>fail))
   (hv:Lk L h op.operands.toList:=by(repeat' (first |exact trivial |refine⟨?_,?_⟩|rfl |exact Cz (by assumption) (by first |assumption |simp)|exact Ju (by simp)|exact xo (Cz (by assumption) (by first |assumption |simp))|exact xo (Ju (by simp))|exact xo (xo (Cz (by assumption) (by first |assumption |simp))))) <;>fail)
 |m2 (k:Rn a) (hl:level ops (before ops) i=2:=by rfl)
inductive DTw(ops:Array Oper)(i:Nat)(a:Prop):Prop
 |mk (k:Rn a) (hl:level ops (before ops) i=2:=by rfl)
inductive Ww(C:cR)(ops:Array Oper)(i:Nat)(L:Al)(f:FuncId)(xs:List Operand)(us:List PV)(h:ab)(K:PV->ab->Prop):Prop
 |m2 (k:aj C 2 f us h λv h'=>Rn (K v h')) (hl:level ops (before ops) i=2:=by rfl)
 |o1 (r:PV) (a:ay C f us (h.map bS) (λr' h'=>r'=r/\h'.length=h.length)) (kk:Rn (K r h)) (hv:bw (aQ h) us=true) (hm:C.mode f=.opened:=by rfl) (hl:level ops (before ops) i=1:=by rfl)
   (hc:aV h=true:=by first |exact HV.closed (by assumption)|exact HR.closed (by assumption)|assumption)
 |mk (r:PV) (a:aI C f (aR us) r) (kk:Rn (K r h)) (hm:C.mode f=.pure:=by rfl) (hv:ar us=true:=by simp) (hc:aV h=true:=by first |exact HV.closed (by assumption)|exact HR.closed (by assumption)|assumption |rfl |((refine HV.closed ?_;repeat' (first |assumption |apply HV.cB |(refine HV.one ?_;simp <;>fail)|exact HV.nil)) <;>fail))
inductive DBs(ops:Array Oper)(i:Nat)(op:Op)(L:Al)(h:ab)(es:List PV)(p q:Prop):Prop
 |mk (k:Rn q) (hv:ar es=false:=by rfl) (hl:level ops (before ops) i=2:=by rfl)
 |m2 (k:DRd ops i op L h p) (hv:ar es=true:=by first |rfl |(simp <;>fail))
theorem HT{op:Op}(hv:Lk L h op.operands.toList):(op.operands.toList.all λy=>bq (aQ h) (ev (al L ρ) y))=true:=by
 rw[abk];exact Jv hv
def dX(ops:Array Oper)(i:Nat)(l:List Oper):Al->ab->(Al->ab->Prop)->Prop:=
 List.rec (motive:=λ_=>Nat->Al->ab->(Al->ab->Prop)->Prop) (λ_ L h Q=>Q L h)
  (λo _ ih i L h Q=>match Xi ops.toList o.guard L with
  |some true=>match zG o.op with
   |some (f,args)=>mz L f λv=>match v with
    | .fn f dn=>pt L args λus=>wO us dn λus=>Ww C ops i L f args us h λv h'=>fT o.dst v L λL=>ih (i+1) L h' Q
    | .ou f k cs=>pt L args λus=>zB k cs λa=>pq k cs λb=>wO a us λus=>wO us b λus=>Ww C ops i L f args us h λv h'=>fT o.dst v L λL=>ih (i+1) L h' Q
    |_=>False
   |none=>match cZ o.op with
    |false=>xT T o.op L λv=>fT o.dst v L λL=>ih (i+1) L h Q
    |true=>match Wv o.op with
     |true=>DRd ops i o.op L h (vv T o.op L h λv=>fT o.dst v L λL=>ih (i+1) L h Q)
     |false=>match o.op with
      | .buildSlice t n ps=>z8 T t n ps.toList L λsz es=>match Nat.beq es.length n with
       |true=>DBs ops i o.op L h es (fT o.dst (.aa true es) L λL=>ih (i+1) L h Q) (vY T o.op L h λv h'=>fT o.dst v L λL=>ih (i+1) L h' Q)
       |false=>False
      |op=>DTw ops i (vY T op L h λv h'=>fT o.dst v L λL=>ih (i+1) L h' Q)
  |some false=>fT o.dst .undef L λL=>ih (i+1) L h Q
  |none=>False) l i
theorem SP{ops:Array Oper}{i:Nat}{o:Oper}{r:List Oper}{L:Al}{h:ab}{Q:Al->ab->Prop}:dX T ops i (o::r) L h Q=(
  match Xi ops.toList o.guard L with
  |some true=>match zG o.op with
   |some (f,args)=>mz L f λv=>match v with
    | .fn f dn=>pt L args λus=>wO us dn λus=>Ww C ops i L f args us h λv h'=>fT o.dst v L λL=>dX T ops (i+1) r L h' Q
    | .ou f k cs=>pt L args λus=>zB k cs λa=>pq k cs λb=>wO a us λus=>wO us b λus=>Ww C ops i L f args us h λv h'=>fT o.dst v L λL=>dX T ops (i+1) r L h' Q
    |_=>False
   |none=>match cZ o.op with
    |false=>xT T o.op L λv=>fT o.dst v L λL=>dX T ops (i+1) r L h Q
    |true=>match Wv o.op with
     |true=>DRd ops i o.op L h (vv T o.op L h λv=>fT o.dst v L λL=>dX T ops (i+1) r L h Q)
     |false=>match o.op with
      | .buildSlice t n ps=>z8 T t n ps.toList L λsz es=>match Nat.beq es.length n with
       |true=>DBs ops i o.op L h es (fT o.dst (.aa true es) L λL=>dX T ops (i+1) r L h Q) (vY T o.op L h λv h'=>fT o.dst v L λL=>dX T ops (i+1) r L h' Q)
       |false=>False
      |op=>DTw ops i (vY T op L h λv h'=>fT o.dst v L λL=>dX T ops (i+1) r L h' Q)
  |some false=>fT o.dst .undef L λL=>dX T ops (i+1) r L h Q
  |none=>False):=rfl
theorem Jw{ops:Array Oper}{i:Nat}{o:Oper}{r:List Oper}{c:Call}{f:Operand}{g:FuncId}{us us0 fvs:List PV}{Q:St->Prop}{K:PV->ab->Prop}(hw:bA ops o (al L ρ)=some true)(c1:o.op=.call c)(c2:c.callee=.value f)
  (hfv:∀F:Nat->Bool,bq F (ev (al L ρ) f)=bw F fvs) (e2:zl L c.args.toList=some us0) (ZC:∀y,y∈us0\/y∈fvs->y∈us) (jQ:∀run lv,au C run lv o.op (al L ρ) h=dg C run lv g us h) {xs:List Operand} (k:Ww C ops i L g xs us h K)
  (hk:∀v h',K v h'->aY C ops (i+1) r ⟨⟨cd (al L ρ) o.dst v,h'⟩,h'.length,[]⟩ Q):aY C ops i (o::r) ⟨⟨al L ρ,h⟩,h.length,[]⟩ Q:=by
 have hh:cZ o.op=true:=by rw[c1];rfl
 have hM:cy ((before ops).getD i 0).testBit h.length [] h=h:=by simp[cy]
 have kU:bw (aQ h) us=true->(o.op.operands.toList.all λy=>bq (aQ h) (ev (al L ρ) y))=true:=λhv=>by
  rw[gj,abk]at hv;rw[c1,abk]
  intro y hy
  simp[Op.operands,Call.operands,c2]at hy;rcases hy with rfl |hy
  ·rw[hfv,gj,abk];exact λx hx=>hv x (ZC x (.inr hx))
  ·refine hv _ (ZC _ (.inl ?_));rw[<-gV (ρ:=ρ) e2];exact abZ.2 ⟨y,by simpa using hy,rfl⟩
 cases k with
 |m2 k hl=>
  obtain⟨v,h',kk,n0,hn⟩:=k;exact aY.step (x1:=⟨⟨cd (al L ρ) o.dst v,h'⟩,h'.length,[]⟩) ⟨n0,λn h1=>by simp only[cz,hw,hh,ab2,if_false,hl,if_true,jQ,hn n h1]⟩ (hk _ _ kk.out)
 |o1 v a kk hv hm hl hc=>
  obtain⟨v',h',⟨rfl,hd⟩,n0,hn⟩:=a;have hd:h'.drop h.length=[]:=abR (by omega);refine aY.step (x1:=⟨⟨cd (al L ρ) o.dst v',h⟩,h.length,[]⟩) ⟨n0,λn h1=>?_⟩ (hk _ _ kk.out)
  have Fl:dg C (fo C n) 1 g us h=some (v',h):=by
   unfold dg;simp[hm,ir,ek,hn n h1,hd]
  simp only[cz,hw,hh,ab2,if_false,hl,hM,hc,kU hv,and_self,if_true,jQ,Fl];simp
 |mk r' a kk hm hv hc=>
  have Fl:∃n0,∀n lv,n0<=n->1<=lv->dg C (fo C n) lv g us h=some (r',h):=by
   obtain⟨n0,hn⟩:=a;refine⟨n0,λn lv h1 _=>?_⟩;obtain⟨r0,hc,r1,e1,e2,e3⟩:=hn n h1;unfold dg;rw[hm];simp only[dp,hv,if_true,e1,e2,e3]
  obtain⟨n0,hn⟩:=Fl;refine aY.step (x1:=⟨⟨cd (al L ρ) o.dst r',h⟩,h.length,[]⟩) ⟨n0,λn h1=>?_⟩ (hk _ _ kk.out)
  by_cases hl:level ops (before ops) i=2
  ·simp only[cz,hw,hh,ab2,if_false,hl,if_true,jQ,hn n 2 h1 (by omega)]
  ·simp only[cz,hw,hh,ab2,if_false,hl,hM,hc,kU (bj _ _ hv),and_self,if_true,jQ,hn n 1 h1 (abn _)];simp
theorem sB{ops:Array Oper}{Q:St->Prop}:∀{l:List Oper} {i:Nat} {L:Al} {h:ab} {K:Al->ab->Prop},dX T ops i l L h K->(∀L' h',K L' h'->Q ⟨al L' ρ,h'⟩)->aY C ops i l ⟨⟨al L ρ,h⟩,h.length,[]⟩ Q
 |[],i,L,h,K,x,hq=>aY.nil (hq _ _ x)
 |o::r,i,L,h,K,x,hq=>by
  rw[SP]at x
  split at x
  ·rename_i hg
   have hw:=xm (ρ:=ρ) hg
   have plain:∀{v:PV},cZ o.op=false->(∀run,au C run 1 o.op (al L ρ) h=some (v,h))->(fT o.dst v L λL=>dX T ops (i+1) r L h K)->aY C ops i (o::r) ⟨⟨al L ρ,h⟩,h.length,[]⟩ Q:=λ{v} hh hv k=>
    aY.step (x1:=⟨⟨cd (al L ρ) o.dst v,h⟩,h.length,[]⟩) ⟨0,λn _=>by simp only[cz,hw,hh,if_true,hv]⟩ (by rw[kz];exact sB (gm k) hq)
   have two:∀{v:PV} {h':ab},cZ o.op=true->level ops (before ops) i=2->(∃n0,∀n,n0<=n->au C (fo C n) 2 o.op (al L ρ) h=some (v,h'))->(fT o.dst v L λL=>dX T ops (i+1) r L h' K)->aY C ops i (o::r) ⟨⟨al L ρ,h⟩,h.length,[]⟩ Q:=λ{v h'} hh hl hv k=>by
    obtain⟨n0,hn⟩:=hv;refine aY.step (x1:=⟨⟨cd (al L ρ) o.dst v,h'⟩,h'.length,[]⟩) ⟨n0,λn h1=>?_⟩ (by rw[kz];exact sB (gm k) hq);simp only[cz,hw,hh,ab2,if_false,hl,if_true,hn n h1]
   have one:∀{v:PV},cZ o.op=true->aV h=true->(o.op.operands.toList.all λy=>bq (aQ h) (ev (al L ρ) y))=true->(∃n0,∀n lv,n0<=n->1<=lv->au C (fo C n) lv o.op (al L ρ) h=some (v,h))->(fT o.dst v L λL=>dX T ops (i+1) r L h K)->aY C ops i (o::r) ⟨⟨al L ρ,h⟩,h.length,[]⟩ Q:=λ{v} hh dw kU hv k=>by
    by_cases hl:level ops (before ops) i=2
    ·obtain⟨n0,hn⟩:=hv;exact two hh hl ⟨n0,λn h1=>hn n 2 h1 (by omega)⟩ k
    ·obtain⟨n0,hn⟩:=hv;refine aY.step (x1:=⟨⟨cd (al L ρ) o.dst v,h⟩,h.length,[]⟩) ⟨n0,λn h1=>?_⟩ (by rw[kz];exact sB (gm k) hq);have hM:cy ((before ops).getD i 0).testBit h.length [] h=h:=by simp[cy]
     simp only[cz,hw,hh,ab2,if_false,hl,hM,dw,kU,and_self,if_true,hn n 1 h1 (abn _)];simp
   split at x
   ·rename_i f args hc
    obtain⟨v,e,k⟩:=bL x
    split at k
    ·rename_i dn
     obtain⟨us,e2,k⟩:=jn k;have k:=kT k
     have kU:∃c:Call,o.op=.call c/\c.callee=.value f/\c.args.toList=args:=by
      unfold zG at hc
      split at hc
      ·rename_i h1
       obtain⟨rfl,rfl⟩:=abv (abi hc);exact⟨_,h1,rfl,rfl⟩
      ·cases hc
     obtain⟨c,c1,c2,c3⟩:=kU
     refine Jw hw c1 c2 (fvs:=dn) (λF=>by rw[an e];rfl) (us0:=us) (by rw[c3];exact e2) (λy hy=>abp.2 hy) (λrun lv=>by
      rw[c1];simp only[au,c2,gr,an e,c3,gV e2]) k (λv h' kk=>?_)
     rw[kz];exact sB (gm kk) hq
    ·rename_i kk cs
     obtain⟨us,e2,k⟩:=jn k;obtain⟨_,k⟩:=oh k;obtain⟨_,k⟩:=jm k;have k:=kT (kT k)
     have kU:∃c:Call,o.op=.call c/\c.callee=.value f/\c.args.toList=args:=by
      unfold zG at hc
      split at hc
      ·rename_i h1
       obtain⟨rfl,rfl⟩:=abv (abi hc);exact⟨_,h1,rfl,rfl⟩
      ·cases hc
     obtain⟨c,c1,c2,c3⟩:=kU
     refine Jw hw c1 c2 (fvs:=cs) (λF=>by rw[an e];rfl) (us0:=us) (by rw[c3];exact e2) (λy hy=>by
      rcases hy with hy |hy
      ·simp[hy]
      ·have:y∈cs.take kk++cs.drop kk:=by rw[ac0];exact hy
       rcases abp.1 this with h |h
       ·exact abp.2 (.inl (abp.2 (.inl h)))
       ·exact abp.2 (.inr h)) (λrun lv=>by
      rw[c1];simp only[au,c2,gr,an e,c3,gV e2]) k (λv h' kk=>?_)
     rw[kz];exact sB (gm kk) hq
    ·exact k.elim
   ·split at x
    ·obtain⟨hh,v,h1,k⟩:=qF T x;exact plain hh (λrun=>h1 run 1 ρ h) k
    ·split at x
     ·rename_i hh _ _
      cases x with
      |mk k hc hv=>
       obtain⟨_,v,h1,k⟩:=lH T k.out;exact one hh hc (HT hv) ⟨0,λn lv _ _=>h1 _ lv ρ⟩ k
      |m2 k hl=>
       obtain⟨_,v,h1,k⟩:=lH T k.out;exact two hh hl ⟨0,λn _=>h1 _ 2 ρ⟩ k
     ·rename_i hh _ _
      split at x
      ·rename_i kU
       obtain⟨sz,es,k,hb⟩:=nJ T x
       split at k
       ·have hb:∀run lv,ar es=true->au C run lv o.op (al L ρ) h=some (.aa true es,h):=λrun lv hv=>by
         rw[kU];simp only[au,aC,hb];rw[if_pos hv]
        cases k with
        |m2 k Gz=>
         cases k with
         |mk k hc hv=>exact one hh hc (HT hv) ⟨0,λn lv _ _=>hb _ lv Gz⟩ k.out
         |m2 k hl=>exact two hh hl ⟨0,λn _=>hb _ 2 Gz⟩ k.out
        |mk k _ hl=>
         obtain⟨v,h',h1,k⟩:=rf T k.out;exact two hh hl ⟨0,λn _=>h1 _ ρ⟩ k
       ·exact k.elim
      ·cases x with
       |mk k hl=>
        obtain⟨v,h',h1,k⟩:=rf T k.out;exact two hh hl ⟨0,λn _=>h1 _ ρ⟩ k
  ·rename_i hg
   have hw:=xm (ρ:=ρ) hg;refine aY.step (x1:=⟨⟨cd (al L ρ) o.dst .undef,h⟩,h.length,[]⟩) ⟨0,λn _=>by simp only[cz,hw]⟩ (by rw[kz];exact sB (gm x) hq)
  ·exact x.elim
inductive Tj(ops:Array Oper)(L:Al)(h:ab)(Q:Al->ab->Prop):Prop
 |mk (k:Rn (dX T ops 0 ops.toList L h Q)) (hk:sH ops=false:=by rfl)
 |raw (k:∀ρ,aY C ops 0 ops.toList ⟨⟨al L ρ,h⟩,h.length,[]⟩ (λs=>∃L' h',s=⟨al L' ρ,h'⟩/\Q L' h')) (hk:sH ops=false:=by rfl)
 |calm (L':Al) (h':ab) (e:∀run ρ,js C run ops ⟨al L ρ,h⟩=some ⟨al L' ρ,h'⟩) (kk:Rn (Q L' h')) (hk:sH ops=true:=by rfl)
inductive va(C:cR) where
 |top (Q:Ex->St->Prop)
 |fn (f:Func) (Q:PV->ab->Prop)
 |seq (b:Code) (k:va C)
 |block (id:Nat) (k:va C)
 |loop (I:Al->ab->Prop) (k:va C)
theorem kI{k:IntKind}{a b:Int}(h:a=b):some (PV.int k a)=some (PV.int k b):=by rw[h]
inductive Nx(I:Al->ab->Prop)(L:Al)(h:ab):Prop
 |nx {L':Al} (a:I L' h) (hk:Sh L L':=by repeat(first |exact trivial |refine⟨?_,?_⟩|rfl |exact kI (by first |(simp;done)|(simp;omega)|omega)))
def NxS(I:Al->ab->Prop)(s:St):Prop:=∃L ρ,s.ρ=al L ρ/\I L s.h
theorem Nx.out{I:Al->ab->Prop}{L:Al}{h:ab}(x:Nx I L h)(ρ:Nat->PV):NxS I ⟨al L ρ,h⟩:=by
 cases x with |nx a hk=>exact⟨_,al L ρ,congrArg St.ρ (St.aU (h:=h) hk),a⟩
def va.den:va C->Ex->St->Prop
 | .top Q=>Q
 | .fn f Q=>aJ C f Q
 | .seq b k=>aD C b k.den
 | .block id k=>az id k.den
 | .loop I k=>aL (NxS I) k.den
inductive Wx(L:Al)(h:ab)(l:List ResultVar)(Q:PV->ab->Prop):Prop
 |mk {vs:List PV} (kk:Rn (Q (aO vs) h)) (hr:zp T L h l=some vs:=by rfl)
def Ih(L:Al):List ResultVar->(List PV->Prop)->Option Prop
 |[],k=>some (k [])
 | .tmp t::r,k=>match lk L t with
  |some v=>Ih L r λl=>k (v::l)
  |none=>none
 | .cell _ _::_,_=>none
theorem Fx{L:Al}{ρ:Nat->PV}{h:ab}:∀{l:List ResultVar} {k:List PV->Prop} {p:Prop},Ih L l k=some p->p->∃vs,dq C.P h (al L ρ) l=some vs/\k vs
 |[],k,p,e,x=>⟨[],rfl,by rw[<-abi e]at x;exact x⟩
 | .tmp t::r,k,p,e,x=>by
  simp only[Ih]at e
  split at e
  ·rename_i v hv
   obtain⟨vs,h1,h2⟩:=Fx (ρ:=ρ) (h:=h) e x;exact⟨v::vs,by simp[dq,dC hv,h1],h2⟩
  ·cases e
 | .cell _ _::_,k,p,e,x=>by simp[Ih]at e
inductive cO(c:Code)(L:Al)(ρ:Nat->PV)(h:ab)(k:va C):Prop
 |lpx (e:Ev C (.loop c) ⟨al L ρ,h⟩ k.den)
inductive Tk where
 |c (c:Code)
 |e (e:Ex)
def kc(n:Nat):Tk->va C->Al->(Nat->PV)->ab->Prop:=
 Nat.rec (motive:=λ_=>Tk->va C->Al->(Nat->PV)->ab->Prop) (λ_ _ _ _ _=>False)
  (λn ih tk k L ρ h=>match tk with
   | .c c=>match c with
    | .skip=>ih (.e .normal) k L ρ h
    | .label _=>ih (.e .normal) k L ρ h
    | .region _ ops false=>Ig T ops.toList ops.toList L h λL' h'=>ih (.e .normal) k L' ρ h'
    | .region _ ops true=>Tj T ops L h λL' h'=>ih (.e .normal) k L' ρ h'
    | .seq a b=>ih (.c a) (.seq b k) L ρ h
    | .cond c a b=>mz L c λv=>match v with
     | .bool true=>ih (.c a) k L ρ h
     | .bool false=>ih (.c b) k L ρ h
     |_=>False
    | .block id c=>ih (.c c) (.block id k) L ρ h
    | .loop c=>cO c L ρ h k
    | .scope c=>ih (.c c) k L ρ h
    | .exit id=>ih (.e (.exit id)) k L ρ h
    | .ret=>ih (.e .ret) k L ρ h
    |_=>False
   | .e ex=>match k with
    | .top Q=>Q ex ⟨al L ρ,h⟩
    | .fn f Q=>match ex with
     | .exit _=>False
     |_=>match Ih L f.results.toList λvs=>Q (aO vs) h with
      |some p=>p
      |none=>Wx T L h f.results.toList Q
    | .seq b k=>match ex with
     | .normal=>ih (.c b) k L ρ h
     |ex=>ih (.e ex) k L ρ h
    | .block id k=>match ex with
     | .exit eA=>match Nat.beq eA id with
      |true=>ih (.e .normal) k L ρ h
      |false=>ih (.e (.exit eA)) k L ρ h
     |ex=>ih (.e ex) k L ρ h
    | .loop I k=>match ex with
     | .normal=>Nx I L h
     |ex=>ih (.e ex) k L ρ h) n
theorem Wy{n:Nat}{c:Code}{k:va C}{L:Al}{ρ:Nat->PV}{h:ab}:kc T (n+1) (.c c) k L ρ h=(match c with
  | .skip=>kc T n (.e .normal) k L ρ h
  | .label _=>kc T n (.e .normal) k L ρ h
  | .region _ ops false=>Ig T ops.toList ops.toList L h λL' h'=>kc T n (.e .normal) k L' ρ h'
  | .region _ ops true=>Tj T ops L h λL' h'=>kc T n (.e .normal) k L' ρ h'
  | .seq a b=>kc T n (.c a) (.seq b k) L ρ h
  | .cond c a b=>mz L c λv=>match v with
   | .bool true=>kc T n (.c a) k L ρ h
   | .bool false=>kc T n (.c b) k L ρ h
   |_=>False
  | .block id c=>kc T n (.c c) (.block id k) L ρ h
  | .loop c=>cO c L ρ h k
  | .scope c=>kc T n (.c c) k L ρ h
  | .exit id=>kc T n (.e (.exit id)) k L ρ h
  | .ret=>kc T n (.e .ret) k L ρ h
  |_=>False):=rfl
theorem Wz{n:Nat}{ex:Ex}{k:va C}{L:Al}{ρ:Nat->PV}{h:ab}:kc T (n+1) (.e ex) k L ρ h=(match k with
  | .top Q=>Q ex ⟨al L ρ,h⟩
  | .fn f Q=>match ex with
   | .exit _=>False
   |_=>match Ih L f.results.toList λvs=>Q (aO vs) h with
    |some p=>p
    |none=>Wx T L h f.results.toList Q
  | .seq b k=>match ex with
   | .normal=>kc T n (.c b) k L ρ h
   |ex=>kc T n (.e ex) k L ρ h
  | .block id k=>match ex with
   | .exit eA=>match Nat.beq eA id with
    |true=>kc T n (.e .normal) k L ρ h
    |false=>kc T n (.e (.exit eA)) k L ρ h
   |ex=>kc T n (.e ex) k L ρ h
  | .loop I k=>match ex with
   | .normal=>Nx I L h
   |ex=>kc T n (.e ex) k L ρ h):=rfl
theorem dJ:∀{n:Nat} {t:Tk} {k:va C} {L:Al} {ρ:Nat->PV} {h:ab},kc T n t k L ρ h->match t with | .c c=>Ev C c ⟨al L ρ,h⟩ k.den | .e ex=>k.den ex ⟨al L ρ,h⟩
 |0,_,_,_,_,_,x=>x.elim
 |n+1,.c c,k,L,ρ,h,x=>by
  have nx:∀{L':Al} {h':ab},kc T n (.e .normal) k L' ρ h'->k.den .normal ⟨al L' ρ,h'⟩:=λy=>dJ (n:=n) (t:=.e .normal) y
  show Ev C c ⟨al L ρ,h⟩ k.den;rw[Wy]at x
  split at x
  ·exact Ev.skip (nx x)
  ·exact Ev.label (nx x)
  ·exact Ev.region (qA T x λ_ _ y=>nx y)
  ·cases x with
   |mk x hk=>exact Ev.mJ (sB T x.out λ_ _ y=>nx y) hk
   |raw x hk=>
    obtain⟨y,⟨L',h',e,q⟩,n0,hn⟩:=x ρ;exact Ev.mJ ⟨y,by rw[e];exact nx q,n0,hn⟩ hk
   |calm L' h' e kk hk=>exact⟨.normal,⟨al L' ρ,h'⟩,nx kk.out,0,λn m _ _=>by simp only[bR,if_true,hk,e]⟩
  ·exact Ev.seq (dJ (n:=n) (t:=.c _) (k:=.seq _ k) x)
  ·obtain⟨v,e,k⟩:=bL x
   split at k
   ·exact Ev.Tu (an e ρ) (dJ (n:=n) (t:=.c _) k)
   ·exact Ev.Tv (an e ρ) (dJ (n:=n) (t:=.c _) k)
   ·exact k.elim
  ·exact Ev.block (dJ (n:=n) (t:=.c _) (k:=.block _ k) x)
  ·cases x with |lpx e=>exact e
  ·exact Ev.scope (dJ (n:=n) (t:=.c _) x)
  ·exact Ev.exit (dJ (n:=n) (t:=.e _) x)
  ·exact Ev.ret (dJ (n:=n) (t:=.e _) x)
  ·exact x.elim
 |n+1,.e ex,k,L,ρ,h,x=>by
  show k.den ex ⟨al L ρ,h⟩;rw[Wz]at x
  split at x
  ·exact x
  ·have fin:∀{ex:Ex} {f:Func} {Q:PV->ab->Prop},(ex=.normal\/ex=.ret)->(match Ih L f.results.toList λvs=>Q (aO vs) h with |some p=>p |none=>Wx T L h f.results.toList Q)->aJ C f Q ex ⟨al L ρ,h⟩:=λ{ex f Q} hex y=>by
    split at y
    ·rename_i p hp
     obtain⟨vs,h1,h2⟩:=Fx (C:=C) (ρ:=ρ) (h:=h) hp y;exact⟨hex,vs,h1,h2⟩
    ·cases y with |mk kk hr=>exact⟨hex,_,xi T hr,kk.out⟩
   split at x
   ·exact x.elim
   ·rename_i bN
    refine fin ?_ x
    cases ex with
    |normal=>exact .inl rfl
    |ret=>exact .inr rfl
    |exit id=>exact absurd rfl (bN id)
  ·split at x
   ·exact aD.normal (dJ (n:=n) (t:=.c _) x)
   ·have:=dJ (n:=n) (t:=.e _) x
    cases ex with
    |normal=>simp_all
    |ret=>exact aD.ret this
    |exit id=>exact aD.exit this
  ·split at x
   ·split at x
    ·rename_i hb
     have:=ab8 hb;subst this;exact az.Mm (dJ (n:=n) (t:=.e _) x)
    ·rename_i hb
     exact az.RK (by rw[beq_eq_false_iff_ne];rintro rfl;rw[Nat.beq_refl]at hb;cases hb) (dJ (n:=n) (t:=.e _) x)
   ·have:=dJ (n:=n) (t:=.e _) x
    cases ex with
    |normal=>exact az.normal this
    |ret=>exact az.ret this
    |exit id=>simp_all
  ·split at x
   ·exact x.out ρ
   ·have:=dJ (n:=n) (t:=.e _) x
    cases ex with
    |normal=>simp_all
    |ret=>exact aL.ret this
    |exit id=>exact aL.exit this
theorem aj.p{lv:Nat}{f:FuncId}{args args':List PV}{r:PV}{h:ab}{Q:PV->ab->Prop}(a:aI C f args' r)(q:Q r h)(hm:C.mode f=.pure:=by rfl)(hv:ar args=true:=by simp)(hn:aR args=args':=by simp):aj C lv f args h Q:=
 aj.pure hm hv (hn▸a) q
theorem Ww.p{ops:Array Oper}{i:Nat}{L:Al}{f:FuncId}{xs:List Operand}{us us':List PV}{h:ab}{K:PV->ab->Prop}{r:PV}(a:aI C f us' r)(kk:Rn (K r h))(hm:C.mode f=.pure:=by rfl)(hv:ar us=true:=by simp)(hn:aR us=us':=by simp)
  (hc:aV h=true:=by first |exact HV.closed (by assumption)|exact HR.closed (by assumption)|assumption |rfl |((refine HV.closed ?_;repeat' (first |assumption |apply HV.cB |(refine HV.one ?_;simp <;>fail)|exact HV.nil)) <;>fail)):Ww C ops i L f xs us h K:=.mk r (hn▸a) kk hm hv hc
theorem ay.x{f:FuncId}{fn:Func}{c:Code}{args:List PV}{h:ab}{Q:PV->ab->Prop}(hf:C.P.funcs[f]?=some fn)(hb:fn.body=some c)
  (k:Rn (kc T 10000 (.c c) (.fn fn Q) (CS 0 args) (λ_=>.undef) h)):ay C f args h Q:=ay.dG hf hb (dJ T k.out)
theorem aI.xd{f:FuncId}{fn:Func}{c:Code}{args:List PV}{r:PV}(hf:C.P.funcs[f]?=some fn)(hb:fn.body=some c)
  (k:Rn (kc T 10000 (.c c) (.fn fn λr0 hc=>∃r1,AG hc r0=some r1/\b9 r1=r) (CS 0 args) (λ_=>.undef) [])):aI C f args r:=aI.ofX (ay.x T hf hb k)
theorem aI.x{f:FuncId}{fn:Func}{c:Code}{args:List PV}{r:PV}(hf:C.P.funcs[f]?=some fn)(hb:fn.body=some c)
  (k:Rn (kc T 10000 (.c c) (.fn fn λr0 hc=>∃r1,rb hc r0=some r1/\b9 r1=r) (CS 0 args) (λ_=>.undef) [])):aI C f args r:=aI.of (ay.x T hf hb k)
theorem qV{h:ab}:∀{l:List PV},ar l=true->gz h l=some l:=by
 have one:∀{c:PV},aW c=true->oB h c=some c:=λ{c} hc=>by
  unfold oB
  split
  ·simp[aW]at hc
  ·rw[if_pos hc]
 have key:∀cs:List PV,ar cs=true->nw h cs=some cs:=by
  intro cs
  induction cs with
  |nil=>intro _;rfl
  |cons c cs ih=>
   intro hh
   simp only[ar,abq]at hh;simp only[nw,one hh.1,ih hh.2]
 intro l
 induction l with
 |nil=>intro _;rfl
 |cons c l ih=>
  intro hl
  simp only[ar,abq]at hl
  have:ke h c=some c:=by
   unfold ke
   split
   ·rw[key _ (by simpa[aW]using hl.1)];rfl
   ·exact one hl.1
  simp only[gz,ih hl.2,this]
theorem aj.po{f:FuncId}{sz:Nat}{v:PV}{h:ab}{es fA rest qg:List PV}{rv:PV}{Q:PV->ab->Prop}(o:Out sz h v es)(a:aI C f (.aa false fA::qg) rv)(q:∀h',(h'=h\/∃id ep,v=.ak id ep 0 es.length/\h'=h.set id ⟨.f,ep,sz,es⟩)->Q rv h')
  (hm:C.mode f=.pure:=by rfl) (hv:ar es=true:=by simp) (hr:ar rest=true:=by simp) (hn:aR es=fA:=by simp) (MT:aR rest=qg:=by simp):aj C 2 f (v::rest) h Q:=by
 subst hn MT;rcases o with⟨rfl,rfl⟩|⟨id,ep,rfl,e2⟩
 ·exact aj.pure hm (by simp[ar,aW,hr]) (by simpa[aR,b9]using a) (q h (.inl rfl))
 ·obtain⟨n0,hn⟩:=a
  by_cases hs:dO rv=true
  ·refine⟨rv,h,q h (.inl rfl),n0,λn h1=>?_⟩;obtain⟨r0,hc,r1,e1,e3,e4⟩:=hn n h1;have zH:dO r1=true:=by have:=ja r1;rw[e4]at this;rw[<-this];exact hs
   have hb:gz h (.ak id ep 0 es.length::rest)=some (.aa false es::rest):=by
    simp[gz,ke,oB,getM,e2,hv,qV hr]
   unfold dg;rw[hm];have Ab:ar (.ak id ep 0 es.length::rest)=false:=rfl;have Xe:aR (PV.aa false es::rest)=.aa false (aR es)::aR rest:=rfl;simp only[dp,Ab,abz,if_false,hb,Xe,e1,e3,zH,ady,if_true,e4]
  ·have hs:dO rv=false:=by simpa using hs
   refine⟨rv,h.set id ⟨.f,ep,sz,es⟩,q _ (.inr ⟨id,ep,rfl,rfl⟩),n0,λn h1=>?_⟩;obtain⟨r0,hc,r1,e1,e3,e4⟩:=hn n h1;have zH:dO r1=false:=by have:=ja r1;rw[e4]at this;rw[<-this];exact hs
   have hb:gz h (.ak id ep 0 es.length::rest)=some (.aa false es::rest):=by
    simp[gz,ke,oB,getM,e2,hv,qV hr]
   have Xe:aR (PV.aa false es::rest)=.aa false (aR es)::aR rest:=rfl
   have i0:∀l:List PV,ar l=true->jK l=[]:=by
    have i1:∀c:PV,aW c=true->zU c=[]:=λc hc=>by cases c <;>first |rfl |simp[aW]at hc
    intro l
    induction l with
    |nil=>intro _;rfl
    |cons c l ih=>
     intro hh
     simp only[ar,abq]at hh
     have:(cells c).flatMap zU=[]:=by
      rw[List.flatMap_eq_nil_iff]
      intro x hx
      cases c with
      |agg cs=>
       refine i1 x ?_;have h2:ar cs=true:=by simpa[aW]using hh.1
       rw[bB,abk]at h2;exact h2 x hx
      |_=>simp[cells]at hx;subst hx;exact i1 _ hh.1
     simp only[jK,acJ]at ih ⊢;rw[this,ih hh.2];rfl
   have xJ:jK (PV.ak id ep 0 es.length::rest)=[id]:=by
    have:=i0 rest hr;simp only[jK,acJ]at this ⊢;rw[this];rfl
   have S9:lC h [id]=false:=by simp[lC,e2]
   have yb:eZ h [id]=some (h.set id ⟨.f,ep,sz,es⟩):=by simp[eZ,kg,e2,hv]
   unfold dg;rw[hm];have Ab:ar (.ak id ep 0 es.length::rest)=false:=rfl;simp only[dp,Ab,abz,if_false,hb,Xe,e1,e3,xJ,zH,S9,Bool.or_self,abn,if_true,yb,abw,e4]
def gq(H h':ab):Prop:=∃J,HV J/\h'=H++J
theorem aI.ex{C:cR}{f:FuncId}{args:List PV}{Q:PV->Prop}{F:PV->PV}(a:ay C f args [] (λr0 hc=>∃x,Q x/\∃r1,rb hc r0=some r1/\b9 r1=F x)):∃x,Q x/\aI C f args (F x):=by
 obtain⟨r,h,⟨x,q,r1,e1,e2⟩,e⟩:=a;exact⟨x,q,aI.of ⟨r,h,⟨r1,e1,e2⟩,e⟩⟩
theorem gq.refl(H:ab):gq H H:=⟨[],HV.nil,by simp⟩
theorem gq.trans{a b c:ab}(x:gq a b)(y:gq b c):gq a c:=by
 obtain⟨J,hJ,rfl⟩:=x;obtain⟨K,hK,rfl⟩:=y;exact⟨J++K,hJ.cB hK,by rw[abI]⟩
theorem gq.cB{H h:ab}(x:gq H h){J:ab}(hJ:HV J):gq H (h++J):=x.trans ⟨J,hJ,rfl⟩
theorem gq.at{H h:ab}(x:gq H h){i:Nat}{o:aw}(e:H[i]?=some o):h[i]?=some o:=by
 obtain⟨J,_,rfl⟩:=x;rw[abj (ag e)];exact e
theorem gq.hv{H h:ab}(x:gq H h)(hH:HV H):HV h:=by
 obtain⟨J,hJ,rfl⟩:=x;exact hH.cB hJ
theorem aj.ex{f:FuncId}{args:List PV}{H:ab}{v:PV}{Q:PV->ab->Prop}(a:ay C f args H (λr h'=>r=v/\gq H h'))(q:∀h',gq H h'->Q v h')(hm:C.mode f=.opened:=by rfl):aj C 2 f args H Q:=by
 refine aj.opened hm (a.mono λr k hr=>?_);obtain⟨rfl,J,hJ,rfl⟩:=hr
 split
 ·rw[List.take_left];exact q _ (gq.refl _)
 ·exact q _ ⟨J,hJ,rfl⟩
def Fz(sz:Nat)(h:ab)(v:PV)(es:List PV)(h':ab):Prop:=h'=h\/∃id ep,v=.ak id ep 0 es.length/\h'=h.set id ⟨.f,ep,sz,es⟩
theorem Fz.hv{sz:Nat}{h h':ab}{v:PV}{es:List PV}(z:Fz sz h v es h')(H:HV h)(hv:ar es=true):HV h':=by
 rcases z with rfl |⟨id,ep,_,rfl⟩
 ·exact H
 ·exact H.set id (by simp) hv
theorem aj.pl{f:FuncId}{sz:Nat}{v:PV}{h:ab}{es fA rest qg:List PV}{rv:PV}{Q:PV->ab->Prop}(o:Ls sz h v es)(a:aI C f (.aa false fA::qg) rv)(q:∀h',Fz sz h v es h'->Q rv h')
  (hm:C.mode f=.pure:=by rfl) (hv:ar es=true:=by simp) (hr:ar rest=true:=by simp) (hn:aR es=fA:=by simp) (MT:aR rest=qg:=by simp):aj C 2 f (v::rest) h Q:=by
 rcases o with o |⟨fl,rfl⟩
 ·exact aj.po o a q hm hv hr hn MT
 ·subst hn MT;exact aj.pure hm (by simp[ar,aW,hv,hr]) (by simpa[aR,b9]using a) (q h (.inl rfl))
theorem aj.YX{f:FuncId}{sz:Nat}{v:PV}{h:ab}{es fA rest qg:List PV}{rv:PV}{Q:PV->ab->Prop}(o:Ls sz h v es)(a:aI C f (.aa false fA::qg) rv)(q:Q rv h)(hs:dO rv=true:=by rfl)
  (hm:C.mode f=.pure:=by rfl) (hv:ar es=true:=by simp) (hr:ar rest=true:=by simp) (hn:aR es=fA:=by simp) (MT:aR rest=qg:=by simp):aj C 2 f (v::rest) h Q:=by
 subst hn MT;rcases o with o |⟨fl,rfl⟩
 ·exact aj.out hm o hv hr a hs q
 ·exact aj.pure hm (by simp[ar,aW,hv,hr]) (by simpa[aR,b9]using a) q
theorem Ls.ke{sz:Nat}{h:ab}{v:PV}{es:List PV}(o:Ls sz h v es)(hv:ar es=true):∃r1,Pm.ke h v=some r1/\b9 r1=.aa false (aR es):=by
 rcases o with o |⟨f,rfl⟩
 ·exact o.ke hv
 ·exact⟨.aa f es,by simp[Pm.ke,oB,aW,hv],rfl⟩
theorem Ls.VV{sz:Nat}{h:ab}{v:PV}{es fA:List PV}{k:IntKind}{n:Int}(o:Ls sz h v es)(hv:ar es=true:=by simp)(hn:aR es=fA:=by simp):∃r1,rb h (aO [v,.int k n])=some r1/\b9 r1=.ct [.aa false fA,.int k n]:=by
 obtain⟨r1,h1,h2⟩:=o.ke hv;refine⟨.ct [r1,.int k n],by simp only[aO,rb,gz,h1];rfl,?_⟩;simp only[b9,aR,h2,hn]
theorem Ls.Gc{sz:Nat}{h:ab}{v:PV}{es fA:List PV}(o:Ls sz h v es)(hv:ar es=true:=by simp)(hn:aR es=fA:=by simp):∃r1,rb h (aO [v])=some r1/\b9 r1=.aa false fA:=by
 obtain⟨r1,h1,h2⟩:=o.ke hv;rw[hn]at h2;rcases o with(⟨rfl,rfl⟩|⟨id,ep,rfl,e⟩)|⟨f,rfl⟩ <;>exact⟨r1,h1,h2⟩
theorem cO.nat{c:Code}{L:Al}{ρ:Nat->PV}{h:ab}{k:va C}(I:Nat->Al->ab->Prop)(n:Nat)(h0:Nx (I n) L h)
  (step:∀n L h ρ,I n L h->Rn (kc T 10000 (.c c) (.loop (λL h=>∃j,j<n/\I j L h) k) L ρ h)):cO c L ρ h k:=by
 refine⟨Ev.loop (λn=>NxS (I n)) n (h0.out ρ) ?_⟩;rintro n ⟨ρs,hs⟩ ⟨L,ρ,e,hI⟩;have e:ρs=al L ρ:=e;subst e;obtain⟨ex,s',q,hn⟩:=dJ T (step n L hs ρ hI).out;refine⟨ex,s',?_,hn⟩
 cases ex with
 |normal=>
  obtain⟨L',ρ',h1,j,h2,h3⟩:=q;exact⟨j,h2,L',ρ',h1,h3⟩
 |ret=>exact q
 |exit id=>exact q
theorem cO.zip{α:Type}{c:Code}{L:Al}{ρ:Nat->PV}{h:ab}{k:va C}(l:List α)(I:List α->List α->Al->ab->Prop)(h0:Nx (I [] l) L h)
  (step:∀p a q L h ρ,l=p++a::q->I p (a::q) L h->Rn (kc T 10000 (.c c) (.loop (I (p++[a]) q) k) L ρ h))
  (last:∀L h ρ,I l [] L h->Rn (kc T 10000 (.c c) (.loop (λ_ _=>False) k) L ρ h)):cO c L ρ h k:=by
 refine⟨Ev.loop (λn s=>∃p q,l=p++q/\q.length=n/\NxS (I p q) s) l.length ⟨[],l,rfl,rfl,h0.out ρ⟩ ?_⟩;rintro n ⟨ρs,hs⟩ ⟨p,q,e,hn,L,ρ,e2,hI⟩;have e2:ρs=al L ρ:=e2;subst e2
 cases q with
 |nil=>
  rw[abJ]at e;subst e;obtain⟨ex,s',q,hn⟩:=dJ T (last L hs ρ hI).out;refine⟨ex,s',?_,hn⟩
  cases ex with
  |normal=>obtain⟨_,_,_,hf⟩:=q;exact hf.elim
  |ret=>exact q
  |exit id=>exact q
 |cons a q=>
  obtain⟨ex,s',qq,MT⟩:=dJ T (step p a q L hs ρ e hI).out;refine⟨ex,s',?_,MT⟩
  cases ex with
  |normal=>exact⟨q.length,by simp at hn;omega,p++[a],q,by simp[e],rfl,qq⟩
  |ret=>exact qq
  |exit id=>exact qq
end
end Go.Pm
namespace Go.Pm
open Go.Proofs
attribute [local irreducible] aD az aL aJ Ev ah aj ay aY
set_option maxRecDepth 4000
set_option maxHeartbeats 4000000
theorem AU(l:List Tm)(t:Tm):ae l++[enc t]=ae (l++[t]):=by rw[c9,c9];simp
theorem td{B:Nat}:∀{l:List Tm},(∀t∈l,ax t<=B)->bp l<=l.length * B
 |[],_=>by simp[bp]
 |t::l,h=>by
  have h1:=h t (by simp);have h2:=td (l:=l) (λu hu=>h u (by simp[hu]));simp only[bp,abx,Nat.succ_mul];omega
end Go.Pm
namespace Go.Pm
variable{P:Program}{w:World}{F:Nat->Prop}{β:List (Nat×Nat)}{h:ab}
def Alike(h h':ab):Prop:=h.length=h'.length/\∀(id:Nat) (o o':aw),h[id]?=some o->h'[id]?=some o'->o.ep=o'.ep/\o.bM=o'.bM/\o.es=o'.es/\(o.mu=.x↔o'.mu=.x)
theorem nE{α:Type}{l:List α}{i:Nat}(h:i<l.length):∃x,l[i]?=some x:=⟨l[i],abo h⟩
theorem Alike.UF{h':ab}(a:Alike h h')(β:List (Nat×Nat)):IK h β h' β:=by
 intro id o bc e1 e2 e3
 have bW:=ag e1;obtain⟨o',ho⟩:=nE (l:=h') (i:=id) (by rw[<-a.1];exact bW);obtain⟨p1,p2,p3,p4⟩:=a.2 id o o' e1 ho;exact⟨o',bc,ho,e2,λhh=>e3 (p4.2 hh),⟨by omega,λhz=>by omega⟩,λ_=>⟨p2.symm,λ_=>by rw[p3],rfl⟩⟩
theorem aE.alike{h':ab}(a:Alike h h'){A A':Nat->Prop}(hA:∀b,A' b->A b){v:Value}{p:PV}(r:aE w A β h v p):aE w A' β h' v p:=
 r.UF (a.UF β) (λ_ _ _=>rfl) (λb _ hn ha=>hn (hA b ha))
theorem kY.alike{h':ab}(a:Alike h h'){A A':Nat->Prop}(hA:∀b,A' b->A b){o o':aw}{bc:Nat×Nat}(e1:o.bM=o'.bM)(e2:o.es=o'.es)(r:kY w A β h o bc):kY w A' β h' o' bc:=by
 rcases r with⟨T,cs,h1,h2,h3,h4,h5⟩|⟨h0,es,clock,h1,h2,h3⟩
 ·refine .inl ⟨T,cs,h1,by rw[<-e2];exact h2,by rw[<-e1];exact h3,by rw[<-e1];exact h4,λi e he=>?_⟩;rw[<-e2]at he;obtain⟨k1,k2⟩:=h5 i e he;refine⟨by rw[<-e1];exact k1,λj p hp=>?_⟩;obtain⟨v,m1,m2⟩:=k2 j p hp;exact⟨v,by rw[<-e1];exact m1,m2.alike a hA⟩
 ·refine .inr ⟨by rw[<-e1];exact h0,es,clock,h1,by rw[<-e2];exact h2,λi e he=>?_⟩;rw[<-e2]at he;obtain⟨k,v,m,q1,q2,q3,q4⟩:=h3 i e he;exact⟨k,v,m,q1,q2,q3.alike a hA,q4.alike a hA⟩
theorem bO(o:aw):(bS o).ep=o.ep/\(bS o).bM=o.bM/\(bS o).es=o.es/\((bS o).mu=.x↔o.mu=.x)/\(bS o).mu≠.m/\((bS o).mu=.f↔o.mu=.f):=by
 cases o with
 |mk mu ep bM es=>cases mu <;>simp[bS]
theorem gJ(h:ab):Alike h (h.map bS):=by
 refine⟨by simp,λid o o' e1 e2=>?_⟩;rw[abB,e1]at e2;obtain rfl:=abi e2;obtain⟨p1,p2,p3,p4,_⟩:=bO o;exact⟨p1.symm,p2.symm,p3.symm,p4.symm⟩
theorem jD(h:ab)(β:List (Nat×Nat))(b:Nat):¬Mb (h.map bS) β b:=by
 rintro⟨id,o,bc,e1,e2,e3,e4⟩;rw[abB]at e1
 cases hh:h[id]? with
 |none=>rw[hh]at e1;cases e1
 |some o2=>
  rw[hh]at e1;obtain rfl:=abi e1;exact(bO o2).2.2.2.2.1 e3
theorem CF{h:ab}{id:Nat}{o:aw}(e:(h.map bS)[id]?=some o):∃o2,h[id]?=some o2/\o=bS o2:=by
 rw[abB]at e
 cases hh:h[id]? with
 |none=>rw[hh]at e;cases e
 |some o2=>rw[hh]at e;exact⟨o2,rfl,(abi e).symm⟩
theorem bm.lock(H:bm w F β h):bm w (Av F h β) β (h.map bS):=by
 have hA:∀b,Av (Av F h β) (h.map bS) β b->Av F h β b:=λb hb=>hb.elim id (λhm=>absurd hm (jD h β b))
 refine⟨by simp[H.len],λb hb=>Av.lt H hb,?_,?_,?_⟩
 ·intro id o bc e1 e2 e3
  obtain⟨o2,f1,rfl⟩:=CF e1;obtain⟨p1,p2,p3,p4,_⟩:=bO o2;exact(H.obj id o2 bc f1 e2 (λhh=>e3 (p4.2 hh))).alike (gJ h) hA p2.symm p3.symm
 ·intro id eA o o' bc dm bN e1 e2 e3 e4 m1 m2
  obtain⟨o2,f1,rfl⟩:=CF e1;exact absurd m1 (bO o2).2.2.2.2.1
 ·intro id o bc e1 e2 e3
  obtain⟨o2,f1,rfl⟩:=CF e1;obtain⟨p1,p2,p3,p4,p5,p6⟩:=bO o2;rcases e3 with e3 |e3
  ·exact absurd e3 p5
  ·exact xC H f1 e2 (p6.1 e3)
theorem bm.unlock(H:bm w F β h){w':World}{h1:ab}{β1:List (Nat×Nat)}(q2:bm w' (Av F h β) β1 h1)(q3:eg w (h.map bS) β w' h1 β1)(zY:(h1.drop h.length).all (λo=>decide (o.mu≠.l))=true):
  (∀(v:Value) (p:PV),aE w' (Av (Av F h β) h1 β1) β1 h1 v p->aE w' (Av F (h++h1.drop h.length) β1) β1 (h++h1.drop h.length) v p)/\bm w' F β1 (h++h1.drop h.length)/\eg w h β w' (h++h1.drop h.length) β1/\dH w w':=by
 have hn:h.length<=h1.length:=by have:=q3.len;simpa using this
 have Vq:β1.length=h1.length:=q2.len
 have old:∀(id:Nat) (o:aw),h[id]?=some o->h1[id]?=some (bS o)/\β1[id]?=β[id]?:=λid o ho=>by
  have e1:(h.map bS)[id]?=some (bS o):=by rw[abB,ho];rfl
  exact q3.LN id (bS o) e1 (bO o).2.2.2.2.1
 have yV:∀(id:Nat),id<h.length->(h++h1.drop h.length)[id]?=h[id]?:=λid bW=>abj bW
 have CG:∀(id:Nat),h.length<=id->(h++h1.drop h.length)[id]?=h1[id]?:=λid bW=>by
  rw[abt bW,abS];congr 1;omega
 have al:Alike h1 (h++h1.drop h.length):=by
  refine⟨by simp;omega,λid o o' e1 e2=>?_⟩
  by_cases bW:id<h.length
  ·rw[yV id bW]at e2;rw[(old id o' e2).1]at e1;obtain rfl:=abi e1;obtain⟨p1,p2,p3,p4,_⟩:=bO o';exact⟨p1,p2,p3,p4⟩
  ·rw[CG id (by omega)]at e2;rw[e1]at e2;obtain rfl:=abi e2;exact⟨rfl,rfl,rfl,Iff.rfl⟩
 have Dt:∀b,Av F (h++h1.drop h.length) β1 b->Av (Av F h β) h1 β1 b:=by
  rintro b (hb |⟨id,o,bc,e1,e2,e3,e4⟩)
  ·exact .inl (.inl hb)
  ·by_cases bW:id<h.length
   ·rw[yV id bW]at e1;rw[(old id o e1).2]at e2;exact .inl (.inr ⟨id,o,bc,e1,e2,e3,e4⟩)
   ·rw[CG id (by omega)]at e1;exact .inr ⟨id,o,bc,e1,e2,e3,e4⟩
 have newmu:∀(id:Nat) (o:aw),h.length<=id->h1[id]?=some o->o.mu≠.l:=λid o bW ho=>by
  have:o∈h1.drop h.length:=by
   apply aby (i:=id - h.length);rw[abS];rw[show h.length+(id - h.length)=id by omega];exact ho
  have:=abk.1 zY o this;simpa using this
 refine⟨λv p q1=>q1.alike al Dt,⟨by rw[Vq,<-al.1],λb hb=>ab5 (H.fin b hb) q3.size,?_,?_,?_⟩,?_,⟨q3.size,λb hb=>q3.aU b hb (jD h β b),q3.os,q3.tape,q3.output,q3.drawn⟩⟩
 ·intro id o bc e1 e2 e3
  by_cases bW:id<h.length
  ·rw[yV id bW]at e1;obtain⟨p1,p2,p3,p4,_⟩:=bO o;exact(q2.obj id (bS o) bc (old id o e1).1 e2 (λhh=>e3 (p4.1 hh))).alike al Dt p2 p3
  ·rw[CG id (by omega)]at e1;exact(q2.obj id o bc e1 e2 e3).alike al Dt rfl rfl
 ·intro id eA o o' bc dm bN e1 e2 e3 e4 m1 m2
  by_cases bW:id<h.length <;>by_cases Vi:eA<h.length
  ·rw[yV id bW]at e1;rw[yV eA Vi]at e2;rw[(old id o e1).2]at e3;rw[(old eA o' e2).2]at e4;exact H.iL id eA o o' bc dm bN e1 e2 e3 e4 m1 m2
  ·rw[yV id bW]at e1;rw[CG eA (by omega)]at e2;have nl:=newmu eA o' (by omega) e2
   cases hm:o'.mu with
   |m=>
    have:=q2.iL eA id o' (bS o) dm bc (acd bN) e2 (old id o e1).1 e4 e3 hm (λhh=>by rw[(bO o).2.2.2.1]at hh;rw[m1]at hh;cases hh);exact acd this
   |l=>exact absurd hm nl
   |f=>
    have P9:=q2.out eA o' dm e2 e4 (.inr hm);rw[(old id o e1).2]at e3
    intro heq
    exact P9 (.inr ⟨id,o,bc,e1,e3,m1,heq⟩)
   |x=>exact absurd hm m2
  ·rw[CG id (by omega)]at e1;rw[yV eA Vi]at e2;exact q2.iL id eA o (bS o') bc dm bN e1 (old eA o' e2).1 e3 e4 m1 (λhh=>m2 ((bO o').2.2.2.1.1 hh))
  ·rw[CG id (by omega)]at e1;rw[CG eA (by omega)]at e2;exact q2.iL id eA o o' bc dm bN e1 e2 e3 e4 m1 m2
 ·intro id o bc e1 e2 e3
  by_cases bW:id<h.length
  ·rw[yV id bW]at e1;rw[(old id o e1).2]at e2;exact H.out id o bc e1 e2 e3
  ·rw[CG id (by omega)]at e1;exact λhf=>q2.out id o bc e1 e2 e3 (.inl hf)
 ·refine⟨q3.size,by simp,λb hb _=>q3.aU b hb (jD h β b),?_,?_,?_,q3.os,q3.tape,q3.output,q3.drawn⟩
  ·rintro b hb ⟨id,o,bc,e1,e2,e3,e4⟩
   by_cases bW:id<h.length
   ·rw[yV id bW]at e1;rw[(old id o e1).2]at e2;exact⟨id,o,bc,e1,e2,e3,e4⟩
   ·rw[CG id (by omega)]at e1;exact absurd (q3.shr b hb ⟨id,o,bc,e1,e2,e3,e4⟩) (jD h β b)
  ·intro id o bc e1 e2 e3
   have bW:=ag e1;exact⟨o,bc,by rw[yV id bW];exact e1,by rw[(old id o e1).2];exact e2,e3,⟨abn _,λh=>h⟩,λ_=>⟨rfl,λ_=>rfl,rfl⟩⟩
  ·intro id o e1 _
   exact⟨by rw[yV id (ag e1)];exact e1,(old id o e1).2⟩
theorem tH{f:FuncId}{g:List PV->ab->Option (PV×ab)}(S:fL P f g){lv:Nat}{args:List PV}{r:PV}{h':ab}(e:ek g lv args h=some (r,h'))(H:bm w F β h){vs:List Value}
  (ha:L2 (aE w (Av F h β) β h) vs args):mZ P lv w F β h f vs r h':=by
 unfold ek at e
 split at e
 ·rename_i FH
  refine(S args h r h' e w F β vs H ha).mono ?_;rintro en w' ⟨v,β1,q0,q1,q2,q3,q4⟩;exact⟨v,β1,q0,q1,q2,q3,λhh=>by omega⟩
 ·split at e
  ·split at e
   ·rename_i r0 h1 he
    split at e
    ·rename_i zY
     obtain⟨rfl,rfl⟩:=abv (abi e);have PW:∀b,Av (Av F h β) (h.map bS) β b->Av F h β b:=λb hb=>hb.elim id (λhm=>absurd hm (jD h β b))
     refine(S args (h.map bS) r0 h1 he w (Av F h β) β vs H.lock ⟨ha.1,λj hj=>(ha.2 j hj).alike (gJ h) PW⟩).mono ?_;rintro en w' ⟨v,β1,rfl,q1,q2,q3,q4⟩;obtain⟨u1,u2,u3,u4⟩:=H.unlock q2 q3 zY;exact⟨v,β1,rfl,u1 v _ q1,u2,u3,λ_=>u4⟩
    ·cases e
   ·cases e
  ·cases e
theorem iJ{α:Type}{l:List α}{n i:Nat}{x:α}(e:(l.take n)[i]?=some x):i<n/\l[i]?=some x:=by
 rw[abF]at e
 split at e
 ·exact⟨by assumption,e⟩
 ·cases e
theorem aE.yW{A A':Nat->Prop}(hA:∀b,A' b->A b){n:Nat}(hn:n<=h.length){v:Value}{p:PV}(r:aE w A β h v p)(hb:dY n p=true):aE w A' (β.take n) (h.take n) v p:=by
 cases p with
 |ak id ep off len=>
  have bW:id<n:=by simpa[dY]using hb
  cases r with
  |val hs=>cases hs
  |ak _ _ _ _ _ o bc h0 h1 h2 h3 h4 h5=>
   exact .ak v id ep off len o bc h0 (by rw[abF,if_pos bW];exact h1) (by rw[abF,if_pos bW];exact h2) h3 h4 h5
 |ptr id ep i off=>
  have bW:id<n:=by simpa[dY]using hb
  cases r with
  |val hs=>cases hs
  |ptr _ _ _ _ _ o bc h0 h1 h2 h3 h4 h5=>
   exact .ptr v id ep i off o bc h0 (by rw[abF,if_pos bW];exact h1) (by rw[abF,if_pos bW];exact h2) h3 h4 h5
 |_=>exact .val ((r.JE (by simpa[dY]using hb)).wc hA)
theorem aE.OG{A A':Nat->Prop}(hA:∀b,A' b->A b){n:Nat}(hn:n<=h.length){v:Value}{p:PV}(r:aE w A β h v p)(hb:cK n p=true):aE w A' (β.take n) (h.take n) v p:=by
 unfold cK at hb
 split at hb
 ·obtain⟨vs,rfl,hl,hh⟩:=r.sM;exact .agg vs _ hl (λj hj=>(hh j hj).yW hA hn (fK hb hj))
 ·exact r.yW hA hn hb
theorem aE.V7{A A':Nat->Prop}(hA:∀b,A' b->A b){n:Nat}(hn:n<=h.length){v:Value}{p:PV}(r:aE w A β h v p)(hb:dZ n p=true):aE w A' (β.take n) (h.take n) v p:=by
 unfold dZ at hb
 split at hb
 ·obtain⟨vs,rfl,hl,hh⟩:=r.wS;exact .ct vs _ hl (λj hj=>(hh j hj).OG hA hn (fK hb hj))
 ·exact r.OG hA hn hb
theorem ql{n:Nat}{e q:PV}(hb:cK n e=true)(hq:q∈Pm.cells e):dY n q=true:=by
 cases e <;>first
  |(simp only[Pm.cells,abP]at hq;subst hq;exact hb)
  |(simp only[cK]at hb;exact abk.1 hb q hq)
theorem CH{run:iI}{f:FuncId}(S:fL P f (run f)){lv:Nat}{args:List PV}{r:PV}{h':ab}(e:ir run lv f args h=some (r,h'))(H:bm w F β h){vs:List Value}
  (ha:L2 (aE w (Av F h β) β h) vs args):mZ P lv w F β h f vs r h':=by
 unfold ir at e
 split at e
 ·rename_i r0 h1 he
  have C:=tH S he H ha
  split at e
  ·rename_i hc
   obtain⟨rfl,rfl⟩:=abv (abi e);simp only[abq]at hc;refine C.mono ?_;rintro en w' ⟨v,β1,rfl,q1,q2,q3,q4⟩;have hn:=q3.len
   have hA:∀b,Av F (h1.take h.length) (β1.take h.length) b->Av F h1 β1 b:=by
    rintro b (hb |⟨id,o,bc,e1,e2,e3,e4⟩)
    ·exact .inl hb
    ·exact .inr ⟨id,o,bc,(iJ e1).2,(iJ e2).2,e3,e4⟩
   refine⟨v,β1.take h.length,rfl,q1.V7 hA hn hc.1,⟨by simp[q2.len],q2.fin,?_,?_,?_⟩,?_,q4⟩
   ·intro id o bc e1 e2 e3
    have fu:o∈h1.take h.length:=aby e1;have eK:=abk.1 (abk.1 hc.2 o fu);rcases q2.obj id o bc (iJ e1).2 (iJ e2).2 e3 with⟨T,cs,k1,k2,k3,k4,k5⟩|⟨k0,es,clock,k1,k2,k3⟩
    ·refine .inl ⟨T,cs,k1,k2,k3,k4,λi el cr=>⟨(k5 i el cr).1,λj p hp=>?_⟩⟩;obtain⟨u,m1,m2⟩:=(k5 i el cr).2 j p hp;exact⟨u,m1,m2.yW hA hn (ql (eK el (aby cr)) (aby hp))⟩
    ·refine .inr ⟨k0,es,clock,k1,k2,λi el cr=>?_⟩;obtain⟨k,v,m,g1,g2,g3,g4⟩:=k3 i el cr;have hb:=eK el (aby cr);subst g1;exact⟨k,v,m,rfl,g2,g3.yW hA hn (ql hb (by simp[Pm.cells])),g4.yW hA hn (ql hb (by simp[Pm.cells]))⟩
   ·intro id eA o o' bc dm bN e1 e2 e3 e4 m1 m2
    exact q2.iL id eA o o' bc dm bN (iJ e1).2 (iJ e2).2 (iJ e3).2 (iJ e4).2 m1 m2
   ·intro id o bc e1 e2 e3
    exact q2.out id o bc (iJ e1).2 (iJ e2).2 e3
   ·refine⟨q3.size,by simp;omega,q3.aU,?_,?_,?_,q3.os,q3.tape,q3.output,q3.drawn⟩
    ·rintro b hb ⟨id,o,bc,e1,e2,e3,e4⟩;exact q3.shr b hb ⟨id,o,bc,(iJ e1).2,(iJ e2).2,e3,e4⟩
    ·intro id o bc e1 e2 e3
     obtain⟨o',dm,f1,f2,f3,f4,f5⟩:=q3.refs id o bc e1 e2 e3;have bW:=ag e1;exact⟨o',dm,by rw[abF,if_pos bW];exact f1,by rw[abF,if_pos bW];exact f2,f3,f4,f5⟩
    ·intro id o e1 e2
     obtain⟨f1,f2⟩:=q3.LN id o e1 e2;have bW:=ag e1;exact⟨by rw[abF,if_pos bW];exact f1,by rw[abF,if_pos bW];exact f2⟩
  ·obtain⟨rfl,rfl⟩:=abv (abi e);exact C
 ·cases e
def Y'(P:Program)(f:FuncId)(g:List PV->Option PV):Prop:=
 ∀args r,g args=some r->∀(w:World) (A:Nat->Prop) (vs:List Value),(∀b,A b->b<w.heap.size)->L2 (ch w A) vs args->
  Calls P f vs.toArray w λe w'=>∃v,e=.returned v/\ch w' A v r/\dH w w'
structure gu(C:cR):Prop where
 enters : ∀ f, (∀ h : C.mode f = .no, False) → (∀ g, C.mode f ≠ .ext g) → ∃ fn, C.P.funcs[f]? = some fn ∧ fn.body.isSome = true ∧ (fn.name == "runtime.NumGoroutine") = false
 sF:∀f g,C.mode f=.sF g->Y' C.P f g
 cS:∀f g,C.mode f=.cS g->fL C.P f g
 ext:∀f g,C.mode f=.ext g->∀args r,g args=some r->∀(w:World) (A:Nat->Prop) (vs:List Value),L2 (ch w A) vs args->∃v,(callFunc f vs.toArray).run C.P w=.ok (.value v) w/\ch w A v r
theorem AV{C:cR}(K:gu C){run:iI}{f:FuncId}(S:C.mode f=.pure\/C.mode f=.opened->fL C.P f (run f)){lv:Nat}{args:List PV}{r:PV}{h':ab}(e:dg C run lv f args h=some (r,h'))(H:bm w F β h){vs:List Value}
  (ha:L2 (aE w (Av F h β) β h) vs args) (bN:∀g,C.mode f≠.ext g):mZ C.P lv w F β h f vs r h'/\C.mode f≠.no:=by
 unfold dg at e
 split at e
 ·cases e
 ·rename_i hm
  exact⟨BZ (S (.inl hm)) e H ha,by rw[hm];simp⟩
 ·rename_i hm
  exact⟨CH (S (.inr hm)) e H ha,by rw[hm];simp⟩
 ·rename_i g hm
  refine⟨?_,by rw[hm];simp⟩
  split at e
  ·rename_i hv
   obtain⟨e1,rfl⟩:=dI e;rw[bB]at hv;refine(K.sF f g hm (aR args) r e1 w (Av F h' β) vs (λb hb=>Av.lt H hb) ⟨by simp[cI,ha.1],λj hj=>?_⟩).mono ?_
   ·rw[fZ];have FC:j<args.length:=by simpa[cI]using hj
    exact((ha.2 j FC).JE (fK hv FC)).b9
   ·rintro en w' ⟨v,rfl,q1,q2⟩;exact⟨v,β,rfl,.val q1,H.Mq q2,q2.SZ h' β,λ_=>q2⟩
  ·cases e
 ·rename_i g hm
  exact⟨tH (K.cS f g hm) e H ha,by rw[hm];simp⟩
 ·rename_i g hm
  exact absurd hm (bN g)
end Go.Pm
namespace Go.Pm
variable{w:World}{F:Nat->Prop}{β:List (Nat×Nat)}{h:ab}
theorem sT{C:cR}(K:gu C){f:FuncId}(hm:C.mode f≠.no)(bN:∀g,C.mode f≠.ext g)(args:Array Value)(w:World):(callFunc f args).run C.P w=.ok (.enter f args) w:=by
 obtain⟨fn,h1,h2,h3⟩:=K.enters f hm bN;have hb:fn.body.isNone=false:=by cases hh:fn.body <;>simp_all
 simp only[callFunc,Sem.run_bind,run_program,Result.andThen_ok,h1,h3,hb,abz,if_false,Sem.run_pure]
def ig(C:cR)(run:iI):Prop:=∀f,(C.mode f=.pure\/C.mode f=.opened)->fL C.P f (run f)
theorem L2.append{R:Value->PV->Prop}{vs us:List Value}{cs ds:List PV}(a:L2 R vs cs)(b:L2 R us ds):L2 R (vs++us) (cs++ds):=by
 obtain⟨a1,a2⟩:=a;obtain⟨b1,b2⟩:=b;refine⟨by simp[a1,b1],λj hj=>?_⟩
 by_cases XN:j<cs.length
 ·have:=a2 j XN;simp only[List.getD]at this ⊢;rwa[abj (by omega),abj XN]
 ·have:=b2 (j - cs.length) (by simp at hj;omega);simp only[List.getD]at this ⊢;rwa[abt (by omega),abt (by omega),a1]
theorem L2.take{R:Value->PV->Prop}{vs:List Value}{cs:List PV}(a:L2 R vs cs)(k:Nat):L2 R (vs.take k) (cs.take k):=by
 refine⟨by simp[a.1],λj hj=>?_⟩;simp only[ab7]at hj;have:=a.2 j (by omega);simp only[List.getD]at this ⊢;rwa[abF,abF,if_pos (by omega),if_pos (by omega)]
theorem L2.drop{R:Value->PV->Prop}{vs:List Value}{cs:List PV}(a:L2 R vs cs)(k:Nat):L2 R (vs.drop k) (cs.drop k):=by
 refine⟨by simp[a.1],λj hj=>?_⟩;simp only[acX]at hj;have:=a.2 (k+j) (by omega);simp only[List.getD]at this ⊢;rwa[abS,abS]
theorem ju{C:cR}(K:gu C){run:iI}(S:ig C run)(H:bm w F β h){a:Act}{ρ:Nat->PV}(R:iz w (Av F h β) β h a ρ){lv:Nat}{o:Oper}{p:PV}{h':ab}(e:au C run lv o.op ρ h=some (p,h'))
  {next:Act->World->Prop} {Q:Exit->Act->World->Prop} (hK:∀v w' β',aE w' (Av F h' β') β' h' v p->bm w' F β' h'->eg w h β w' h' β'->(lv<=1->dH w w')->next (a.put o.dst v) w'):o.wp C.P a w next Q:=by
 have simple:wg C.P lv w F β h (execOp a.eval o) p h'->o.wp C.P a w next Q:=by
  rintro⟨v,w',β',h1,h2,h3,h4,h5⟩;unfold Oper.wp;rcases h1 with h1 |⟨h1,rfl⟩
  ·rw[h1];exact hK v w' β' h2 h3 h4 h5
  ·rw[h1];exact hK undef w' β' h2 h3 h4 h5
 unfold au at e
 split at e
 ·rename_i c kU
  have hex:execOp a.eval o=(do let d<-resolve a.eval c o.type;invoke d.target d.args):=by
   cases o;simp only at kU;subst kU;rfl
  split at e
  ·rename_i f Fy
   unfold gr at e
   split at e
   ·rename_i g dn hf
    have hv:=R.ev f;rw[hf]at hv;obtain⟨cv,c1,c2,c3⟩:=hv.F9;have rz:=(R.Mt c.args.toList).append (show L2 (aE w (Av F h β) β h) cv dn from⟨c2,c3⟩)
    by_cases hx:∃q,C.mode g=.ext q
    ·obtain⟨q,hq⟩:=hx;unfold dg at e;rw[hq]at e;simp only at e
     split at e
     ·rename_i Ab
      obtain⟨e1,rfl⟩:=dI e;rw[bB]at Ab
      obtain⟨v,x1,x2⟩:=K.ext g q hq _ p e1 w (Av F h' β) (c.args.toList.map a.eval++cv) ⟨by simp only[cI,acy];exact rz.1,λj hj=>by
       rw[fZ];have FC:j<(c.args.toList.map (Pm.ev ρ)++dn).length:=by simpa[cI]using hj
       exact((rz.2 j FC).JE (fK Ab FC)).b9⟩
      refine simple ⟨v,w,β,.inl ?_,.val x2,H,eg.refl w h' β,λ_=>dH.refl w⟩;rw[hex];simp only[resolve,Fy,c1,Deferred.ofValue,Sem.run_bind,Sem.run_pure,Result.andThen_ok,invoke];rw[<-x1]
      congr 2
      apply acT;simp
     ·cases e
    have bN:∀q,C.mode g≠.ext q:=λq hq=>hx ⟨q,hq⟩
    obtain⟨cs,hm⟩:=AV K (S g) e H rz bN
    have gp:(execOp a.eval o).run C.P w=.ok (.enter g ((c.args.toList.map a.eval)++cv).toArray) w:=by
     rw[hex];simp only[resolve,Fy,c1,Deferred.ofValue,Sem.run_bind,Sem.run_pure,Result.andThen_ok,invoke];rw[sT K hm bN]
     congr 2
     apply acT;simp
    unfold Oper.wp;rw[gp];refine cs.mono ?_;rintro en w' ⟨v,β',rfl,q1,q2,q3,q4⟩;exact hK v w' β' q1 q2 q3 q4
   ·rename_i g kk dn hf
    have hv:=R.ev f;rw[hf]at hv;obtain⟨cv,c1,c2,c3⟩:=hv.Qv;have FE:L2 (aE w (Av F h β) β h) cv dn:=⟨c2,c3⟩;have rz:=((FE.take kk).append (R.Mt c.args.toList)).append (FE.drop kk)
    by_cases hx:∃q,C.mode g=.ext q
    ·obtain⟨q,hq⟩:=hx;unfold dg at e;rw[hq]at e;simp only at e
     split at e
     ·rename_i Ab
      obtain⟨e1,rfl⟩:=dI e;rw[bB]at Ab
      obtain⟨v,x1,x2⟩:=K.ext g q hq _ p e1 w (Av F h' β) (cv.take kk++c.args.toList.map a.eval++cv.drop kk) ⟨by simp only[cI,acy];exact rz.1,λj hj=>by
       rw[fZ];have FC:j<(dn.take kk++c.args.toList.map (Pm.ev ρ)++dn.drop kk).length:=by simpa[cI]using hj
       exact((rz.2 j FC).JE (fK Ab FC)).b9⟩
      refine simple ⟨v,w,β,.inl ?_,.val x2,H,eg.refl w h' β,λ_=>dH.refl w⟩;rw[hex];simp only[resolve,Fy,c1,Deferred.ofValue,Sem.run_bind,Sem.run_pure,Result.andThen_ok,invoke];rw[<-x1]
      congr 2
      apply acT;simp
     ·cases e
    have bN:∀q,C.mode g≠.ext q:=λq hq=>hx ⟨q,hq⟩
    obtain⟨cs,hm⟩:=AV K (S g) e H rz bN
    have gp:(execOp a.eval o).run C.P w=.ok (.enter g (cv.take kk++c.args.toList.map a.eval++cv.drop kk).toArray) w:=by
     rw[hex];simp only[resolve,Fy,c1,Deferred.ofValue,Sem.run_bind,Sem.run_pure,Result.andThen_ok,invoke];rw[sT K hm bN]
     congr 2
     apply acT;simp
    unfold Oper.wp;rw[gp];refine cs.mono ?_;rintro en w' ⟨v,β',rfl,q1,q2,q3,q4⟩;exact hK v w' β' q1 q2 q3 q4
   ·cases e
  ·rename_i b Qw
   refine simple ?_
   have hb:∀cb cb',builtin b c.argTypes o.type cb (c.args.map a.eval)=builtin b c.argTypes o.type cb' (c.args.map a.eval):=by
    intro cb cb'
    cases b <;>first |rfl |simp[bt]at e
   have gp:(execOp a.eval o).run C.P w=(builtin b c.argTypes o.type #[] (c.args.map a.eval)).run C.P w:=by
    rw[hex];simp only[resolve,Qw,Sem.run_bind,Sem.run_pure,Result.andThen_ok,invoke];rw[hb _ #[]]
   obtain⟨v,w',β',h1,h2⟩:=DF (ty:=o.type) (cb:=#[]) H R e;refine⟨v,w',β',?_,h2⟩;rw[gp];exact h1
  ·cases e
 ·rename_i hnc
  exact simple (F' H R hnc e)
structure SR(N:Nat)(w:World)(F:Nat->Prop)(β:List (Nat×Nat))(s:St)(a:Act):Prop where
 hr:bm w F β s.h
 er:iz w (Av F s.h β) β s.h a s.ρ
 df:a.defers=[]
 sz:N<=a.tmps.size
theorem MM(a:Act)(d:Option Nat)(v:Value)(t:Nat)(N:Nat)(hd:∀k,d=some k->k<a.tmps.size):(a.put d v).tmps.getD t undef=if d=some t then v else a.tmps.getD t undef:=by
 cases d with
 |none=>simp[Act.put]
 |some k=>
  have:=hd k rfl
  by_cases hk:k=t
  ·subst hk;simp[Act.put,this]
  ·have:¬(some k=some t):=λh=>hk (abi h)
   simp[Act.put,this,hk]
theorem oI(ρ:Nat->PV)(d:Option Nat)(p:PV)(t:Nat):cd ρ d p t=if d=some t then p else ρ t:=by
 cases d with
 |none=>simp[cd]
 |some k=>
  by_cases hk:t=k
  ·subst hk;simp[cd,pj]
  ·have:¬(some k=some t):=λh=>hk (abi h).symm
   simp[cd,pj,hk,this]
theorem gC(a:Act)(d:Option Nat)(v:Value):(a.put d v).tmps.size=a.tmps.size:=by cases d <;>simp[Act.put]
theorem dQ(a:Act)(d:Option Nat)(v:Value):(a.put d v).defers=a.defers:=by cases d <;>simp[Act.put]
theorem iz.put{A:Nat->Prop}{a:Act}{ρ:Nat->PV}(r:iz w A β h a ρ){d:Option Nat}(hd:∀k,d=some k->k<a.tmps.size){v:Value}{p:PV}(hv:aE w A β h v p):iz w A β h (a.put d v) (cd ρ d p):=by
 intro t
 rw[MM a d v t 0 hd,oI]
 split
 ·exact hv
 ·exact r t
theorem iz.mono{w':World}{h':ab}{β':List (Nat×Nat)}(s:eg w h β w' h' β'){a:Act}{ρ:Nat->PV}(r:iz w (Av F h β) β h a ρ):iz w' (Av F h' β') β' h' a ρ:=λt=>(r t).mono s
theorem cU{A:Nat->Prop}{a:Act}{ρ:Nat->PV}(r:iz w A β h a ρ){ops:Array Oper}{o:Oper}{b:Bool}(e:bA ops o ρ=some b):Region.wanted o (yielded ops a.tmps)=b:=by
 unfold bA at e;unfold Region.wanted
 split at e
 ·rename_i hg
  rw[hg];exact abi e
 ·rename_i j want hg
  rw[hg];simp only
  split at e
  ·rename_i hd
   obtain rfl:=abi e;have:((ops[j]?).bind (·.dst))=none:=by simpa using hd
   simp[yielded,this]
  ·rename_i d hd
   have LO:((ops[j]?).bind (·.dst))=some d:=by simpa using hd
   have hr:=r d
   split at e
   ·rename_i bb hb
    obtain rfl:=abi e;rw[hb]at hr;have hv:=hr.gG
    have:a.tmps[d]?=some (.bool bb):=by
     rcases ab0 d a.tmps.size with cG |Ac
     ·simp[cG]at hv;simp[cG,hv]
     ·simp[adf Ac,undef]at hv
    simp[yielded,LO,this]
   ·rename_i hb
    obtain rfl:=abi e;rw[hb]at hr;have hv:=hr.JQ;rcases ab0 d a.tmps.size with cG |Ac
    ·simp[cG]at hv;simp[yielded,LO,cG,hv]
    ·simp[yielded,LO,adf Ac]
   ·cases e
def jL(N:Nat)(o:Oper):Bool:=match o.dst with |some d=>decide (d<N)|none=>true
theorem iA{N:Nat}{o:Oper}(hd:jL N o=true){a:Act}(hs:N<=a.tmps.size):∀k,o.dst=some k->k<a.tmps.size:=by
 intro k hk
 have:k<N:=by simpa[jL,hk]using hd
 exact ab5 this hs
theorem AW{C:cR}(K:gu C){run:iI}(S:ig C run){N:Nat}{s s':St}{a:Act}(R:SR N w F β s a){ops:Array Oper}{o:Oper}(hd:jL N o=true)(e:fU C run ops o s=some s')
  {next:Act->World->Prop} {Q:Exit->Act->World->Prop} (hK:∀a' w' β',SR N w' F β' s' a'->eg w s.h β w' s'.h β'->next a' w'):
  if Region.wanted o (yielded ops a.tmps)then o.wp C.P a w next Q else next (a.put o.dst undef) w:=by
 unfold fU at e;have Iz:=iA hd R.sz
 split at e
 ·rename_i hw
  rw[cU R.er hw,if_pos rfl]
  split at e
  ·rename_i v h' hv
   obtain rfl:=abi e;refine ju K S R.hr R.er hv (λu w' β' q1 q2 q3 _=>hK _ w' β' ⟨q2,(R.er.mono q3).put Iz q1,by rw[dQ];exact R.df,by rw[gC];exact R.sz⟩ q3)
  ·cases e
 ·rename_i hw
  rw[cU R.er hw,if_neg (by simp)];obtain rfl:=abi e;exact hK _ w β ⟨R.hr,R.er.put Iz .undef,by rw[dQ];exact R.df,by rw[gC];exact R.sz⟩ (eg.refl w s.h β)
 ·cases e
theorem Ga{C:cR}(K:gu C){run:iI}(S:ig C run){N:Nat}{ops:Array Oper}{Q:Exit->Act->World->Prop}(hd:ops.toList.all (jL N)=true):
  ∀(l:List Oper) (k:Nat) {w:World} {β:List (Nat×Nat)} {s s':St} {a:Act},ops.toList.drop k=l->SR N w F β s a->dE C run ops l s=some s'->
   (∀a' w' β',SR N w' F β' s' a'->eg w s.h β w' s'.h β'->Q .normal a' w')->wpOps C.P ops Q (List.map (·+k) (List.range l.length)) a w:=by
 intro l
 induction l with
 |nil=>
  intro k w β s s' a hl R e hQ
  simp[dE]at e;subst e;simpa[wpOps]using hQ a w β R (eg.refl w s.h β)
 |cons o r ih=>
  intro k w β s s' a hl R e hQ
  simp only[dE]at e
  have hk:ops[k]?=some o:=by
   rw[<-abQ];have:(ops.toList.drop k)[0]?=some o:=by rw[hl];rfl
   rwa[abS]at this
  have hr:ops.toList.drop (k+1)=r:=by
   have:=congrArg (List.drop 1) hl;rwa[List.drop_drop]at this
  have xU:List.map (·+k) (List.range (o::r).length)=k::List.map (·+(k+1)) (List.range r.length):=by
   rw[abx,adF];simp only[abD,abE,adh]
   congr 1
   apply ach
   intro x _
   simp;omega
  rw[xU];simp only[wpOps,hk]
  split at e
  ·rename_i s1 he
   have XO:jL N o=true:=abk.1 hd o (by
    have:o∈ops.toList.drop k:=by rw[hl];simp
    exact ab4 this)
   have:=AW K S R XO he (Q:=Q) (next:=wpOps C.P ops Q (List.map (·+(k+1)) (List.range r.length))) (λa' w' β' R' S'=>ih (k+1) hr R' e (λa2 w2 β2 R2 S2=>hQ a2 w2 β2 R2 (S'.trans S2)))
   split
   ·rename_i hw;rw[if_pos hw]at this;exact .inl this
   ·rename_i hw;rw[if_neg hw]at this;exact this
  ·cases e
theorem JR{C:cR}(K:gu C){run:iI}(S:ig C run){N:Nat}{ops:Array Oper}{id:Nat}{Q:Exit->Act->World->Prop}(hd:ops.toList.all (jL N)=true){s s':St}{a:Act}(R:SR N w F β s a)
  (e:dE C run ops ops.toList s=some s') (hQ:∀a' w' β',SR N w' F β' s' a'->eg w s.h β w' s'.h β'->Q .normal a' w'):(Code.region id ops false).wp C.P Q a w:=by
 refine wp_region ?_;have:=Ga K S hd ops.toList 0 (by simp) R e hQ;simpa using this
end Go.Pm
