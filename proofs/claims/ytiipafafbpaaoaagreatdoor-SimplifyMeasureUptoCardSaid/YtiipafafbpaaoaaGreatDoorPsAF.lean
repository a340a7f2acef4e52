/-
  Pm, a part. Conditions: none.
-/
import Derived.Test.YtiipafafbpaaoaaGreatDoorPsAE
set_option linter.unusedVariables false
set_option linter.unusedSimpArgs false
set_option linter.unnecessarySimpa false
set_option linter.unusedSectionVars false
namespace Go.Pm
open Go.Proofs
attribute [local irreducible] aE az aO aL Ev ai ah ay bh
set_option maxRecDepth 4000
set_option maxHeartbeats 4000000
def mU:Option Tm->List Pw->Int
 |_,[]=>0
 |f,p::l=>if valid p.1≠0 then valid p.1 else if gQ p.1=true then 1 else if p.2=0\/p.2< -1000\/1000<p.2 then 7 else
  if(match f with |some q=>decide (0<=aZ q p.1)|none=>false)=true then 5 else mU (some p.1) l
theorem qT(f:Option Tm)(p:Pw)(l:List Pw):mU f (p::l)=if valid p.1≠0 then valid p.1 else if gQ p.1=true then 1 else if p.2=0\/p.2< -1000\/1000<p.2 then 7 else
  if(match f with |some q=>decide (0<=aZ q p.1)|none=>false)=true then 5 else mU (some p.1) l:=by
 cases f <;>rfl
theorem yA(f:Option Tm):mU f []=0:=by cases f <;>rfl
def oe(l:List Pw):Int:=if 200<l.length then 3 else mU none l
def YJ(l:List Pw)(i:Nat):Option Tm:=match i with |0=>none |i+1=>(l[i]?).map (·.1)
set_option maxHeartbeats 8000000 in
theorem Kc(l:List Pw)(W:∀p∈l,aC p.1<100000000)(hl:l.length<100000000):aT C 244 [.aa false (cQ l)] (.int .i64 (oe l)):=by
 have cL:=jR l;have g:200<l.length->oe l=3:=λh=>by rw[oe,if_pos h]
 have V:¬200<l.length->oe l=mU none l:=λh=>by rw[oe,if_neg h]
 refine aT.of (ay.gk Tryz.func244 rfl ?_);generalize oe l=P at g V ⊢;refine wE (λG=>?_) λG=>?_;exact⟨_,rfl,by rw[g yxa];rfl⟩
 ·have V:=V yxa;clear g;refine Ev.loop (I:=λB st=>∃(i:Nat) (J:ab) (q:Nat->PV),st=⟨al [(0,.aa false (cQ l)),(9,.aa false (cQ l)),(10,.int .i64 (cQ l).length),(11,.int .i64 i)] q,J⟩/\B+i=l.length/\HV J/\P=mU (YJ l i) (l.drop i)) l.length ?_ ?_;exact⟨0,[],_,St.ba ⟨rfl,rfl,rfl,rfl,trivial⟩,rfl,HV.nil,V⟩
  ·clear V;rintro B _ ⟨i,J,q,rfl,hk,Y,M⟩;refine wE (λG=>?_) λG=>?_
   ·obtain⟨f,v,u,y,n1,X,S,Z,ve,N⟩:=vq G;have K:=dZ _ (W _ X);have t:=A9 f v u y;rw[Z,qT]at M;simp only at K M;rw[bE]at K t;have d:=Y.cz (HV.one (ep:=0) (n:=5) (es:=[.agg [.int .i64 f,.str v,.int .i64 u,.aa false (ae y),.int .i64 n1]]) rfl);have eW:=d.closed;clear G;refine R.lj T6 rfl rfl rfl rfl S rfl rfl ?_;refine wB ?_;refine R.call rfl rfl (ah.pure rfl yxk (by simpa[aY,b9,bI]using K) ?_);refine wE (λG=>?_) λG=>?_
    ·rw[if_pos yxc]at M;exact⟨_,rfl,by rw[M];rfl⟩
    ·rw[if_neg yxc]at M;refine R.call rfl rfl (ah.pure rfl yxk (by simpa[aY,b9,bI]using t) ?_)
     cases j:gQ (.mk f v u y)
     ·rw[if_neg (by rw[j];simp)]at M
      (repeat' (first |refine ai.nil ?_ |(apply R.FN;exact rfl;exact rfl;exact rfl)|(apply R.vA;exact rfl;exact rfl;exact rfl)|(apply R.move;exact rfl)|(apply R.assign;exact rfl)|(apply R.oV;exact rfl;exact rfl)|(apply R.nD;exact rfl;exact rfl)|(apply R.fieldAddr T6;exact rfl;exact rfl;exact rfl;exact rfl)|(apply R.cmp;exact rfl;exact rfl;exact rfl;all_goals intro G;all_goals(try(exfalso;omega)))|(apply R.arith;exact rfl;exact rfl;exact rfl;exact(oQ yxa yxa))|(apply R.WI T6;exact rfl;exact rfl;exact rfl;exact rfl)|refine Ev.seq ?_ |refine Ev.region ?_ |refine Ev.lT ?_ |refine bh.nil ?_ |(apply D.move;exact rfl)|(apply D.assign;exact rfl)|(apply D.FN;exact rfl;exact rfl;exact rfl;exact rfl)|(apply D.vA;exact rfl;exact rfl;exact rfl)|(apply D.nD;exact rfl;exact rfl)|(apply D.cmp;exact rfl;exact rfl;exact rfl;all_goals intro G;all_goals(try(exfalso;omega)))|(apply D.arith;exact rfl;exact rfl;exact rfl;exact(oQ yxa yxa))|(apply Ev.ie;exact rfl)|refine Ev.ret ?_ |refine Ev.skip ?_ |refine aE.normal ?_ |refine aE.ret ?_ |refine az.normal ?_ |refine az.ret ?_ |refine aO.normal ?_ |refine aO.ret ?_ |(apply aL.ret;exact rfl)|fail))
      all_goals try(rw[if_pos yxa]at M;exact⟨_,rfl,by rw[M];rfl⟩)
      ·-- a factor before it
       rw[if_neg yxa]at M;obtain⟨a,rfl⟩:∃a,i=a+1:=⟨i - 1,by omega⟩;obtain⟨A,H,F,w,n2,b,nK,PX,Q,e⟩:=vq (l:=l) (i:=a) yxa;have U:=dT _ _ (by have:=W _ b;simp only at this;omega:aC (.mk A H F w)<1000000000) (by have:=W _ X;simp only at this;omega:aC (.mk f v u y)<1000000000);rw[bE,bE]at U;have O:YJ l (a+1)=some (.mk A H F w):=by simp only[YJ,e];rfl
       rw[O]at M;simp only at M;refine D.lj T6 yxc rfl (congrArg (λz=>some (PV.int .i64 z)) (show((a+1:Nat):Int) - 1=(a:Int) by omega)) rfl rfl nK rfl rfl ?_;refine wB ?_;refine D.pR yxc rfl rfl rfl rfl rfl rfl (by simpa[aY,b9,bI]using U) ?_;refine wE (λG=>?_) λG=>?_
       ·rw[if_pos (decide_eq_true yxc)]at M;exact⟨_,rfl,by rw[M];rfl⟩
       ·rw[if_neg (by rw[decide_eq_false yxc];simp)]at M;refine⟨B - 1,by omega,a+1+1,_,_,St.ba ⟨rfl,rfl,rfl,rfl,trivial⟩,by omega,d,?_⟩;have:YJ l (a+1+1)=some (.mk f v u y):=by simp only[YJ,N];rfl
        rw[this];exact M
      ·rw[if_neg yxa]at M;obtain rfl:i=0:=by omega
       simp only[YJ,agn,if_false]at M;refine⟨B - 1,by omega,0+1,_,_,St.ba ⟨rfl,rfl,rfl,rfl,trivial⟩,by omega,d,?_⟩;have:YJ l (0+1)=some (.mk f v u y):=by simp only[YJ,N];rfl
       rw[this];exact M
     ·rw[if_pos j]at M;refine wB ?_;exact⟨_,rfl,by rw[M];rfl⟩
   ·rw[Nq G,yA]at M;exact⟨_,rfl,by rw[M];rfl⟩
end Go.Pm
namespace Go.Pm
variable{x y:Operand}{k:IntKind}{G d ep sz:Nat}{K u z:PV}{H h:ab}{es:List PV}{ops:Array Oper}{j:String}{e:Array Edge}{r:List Oper}{Y:Nat->PV}{L:List (Nat×PV)}{Q:St->Prop}
open Go.Proofs
section
variable{C:cA}(T:li C.P)
variable{ops:Array Oper}{d:Nat}{ty:TypeId}{pos:String}{af:Array Edge}{r:List Oper}{Y:Nat->PV}{L:List (Nat×PV)}{h:ab}{Q:St->Prop}
set_option maxRecDepth 4000
set_option maxHeartbeats 4000000
theorem _root_.zbi{P:Prop}(h:P:=by
 
 refine⟨_,_,q,B+1,λn m O X=>?_⟩;obtain⟨m,rfl⟩:∃a,m=a+1:=⟨m - 1,by omega⟩;simp only[bT,iter,z n (m+1) yxa yxa]):P:=h
theorem Ev.qJ{c:Code}{s:St}{Q:Ex->St->Prop}(k:Ev C c s (aO (λU=>Ev C (.loop c) U Q) Q)):Ev C (.loop c) s Q:=by
 obtain⟨A,U,q,B,z⟩:=k
 cases A with
 |normal=>
  obtain⟨v,e,b,S,t⟩:=q;refine⟨v,e,b,max B S+1,λn m O X=>?_⟩;obtain⟨m,rfl⟩:∃a,m=a+1:=⟨m - 1,by omega⟩;have D:=z n (m+1) yxa yxa;have N:=t n m yxa yxa;simp only[bT]at N ⊢;simp only[iter,D];exact te (λs x R=>zS (λ_ _ _ _ R=>R) (ahz m) c R) (agb m) N
 |exit V=>exact zbi
 |ret=>exact zbi
theorem R.Es{t el:TypeId}(U:cW L x=some (.aa true []))(g:T.kd t=some (.sl el))(k:ai C ops r ⟨al ((d,.int .i64 0)::L) Y,h⟩ Q):
  ai C ops (⟨some d,.call ⟨.builtin .cap,#[x],#[t]⟩,ty,pos,af,none⟩::r) ⟨al L Y,h⟩ Q:=
 ai.fO (λX=>by simp[ar,ak U,bA,Zl,bG (T.dA _ _ g)]) k
theorem R.F7{t el:TypeId}(U:cW L x=some (.aa true []))(F:cW L y=some (.int k 0))(g:T.kd t=some (.sl el))(S:T.ts el=some sz)(w:ai C ops r ⟨al ((d,.aa true [])::L) Y,h⟩ Q):
  ai C ops (⟨some d,.slice t x none (some y) none,ty,pos,af,none⟩::r) ⟨al L Y,h⟩ Q:=
 ai.fO (λX=>by simp[ar,aD,ak U,ak F,cS,bG (T.dA _ _ g),T.eT _ _ S,dq]) w
theorem R.LD{t el:TypeId}{V len:Nat}{o:ax}(U:cW L x=some (.an V ep 0 len))(F:cW L y=some (.int k 0))(g:T.kd t=some (.sl el))(N:getM h V ep=some o)(S:T.ts el=some o.bQ)(hle:len<=o.es.length)(w:ai C ops r ⟨al ((d,.an V ep 0 0)::L) Y,h⟩ Q):
  ai C ops (⟨some d,.slice t x none (some y) none,ty,pos,af,none⟩::r) ⟨al L Y,h⟩ Q:=
 ai.fO (λX=>by
  have O:¬((len:Int)<0):=yxa
  simp[ar,aD,ak U,ak F,cS,bG (T.dA _ _ g),T.eT _ _ S,beyond,O,dq,N,hle]) w
theorem R.LF{st xt el:TypeId}{n:Nat}{K:IntKind}(U:cW L x=some (.aa true []))(F:cW L y=some (.int K (n:Int)))(g:T.kd st=some (.sl el))(D:T.kd xt=some (.int K))(S:T.ts el=some (sz+1))(W:T.tb el=some G)(M:T.tz el=some z)(O:G<=1000)(A:(cells z).length=sz+1)(f:(cells z).all bP=true)
  (q:0<n) (hn:n<1000000000) (w:ai C ops r ⟨al ((d,.an h.length 0 0 n)::L) Y,h++[⟨.m,0,sz+1,List.replicate n z⟩]⟩ Q):
  ai C ops (⟨some d,.call ⟨.builtin .append,#[x,y],#[st,xt]⟩,ty,pos,af,none⟩::r) ⟨al L Y,h⟩ Q:=by
 refine ai.fO (λX=>?_) w;have a:(List.replicate n z).isEmpty=false:=by cases n with |zero=>omega |succ n=>rfl
 have b:(List.replicate n z).all (λv=>decide ((cells v).length=sz+1)&& (cells v).all bP)=true:=by
  rw[af9];intro v J;rw[(ahq.1 J).2,A,f];simp
 have e:bR C.P 2 h st xt (.aa true []) (.int K (n:Int))=some (.an h.length 0 0 n,h++[⟨.m,0,sz+1,List.replicate n z⟩]):=by
  unfold bR;rw[bG (T.dA _ _ g)];simp only[T.eT _ _ S,T.vg _ _ W,T.pJ _ _ M,cH,uv (T.dA _ _ D)];rw[if_pos ⟨by omega,by omega⟩];simp only[ahV];rw[if_pos ⟨by omega,by omega,⟨A,f⟩,b⟩];simp only[a,agn,if_false,agH,agz,ahG,agS,newObj,ahx];rw[if_pos ⟨trivial,by omega,kq hn O,trivial⟩]
 simp only[ar,bA,agp,agF,ak U,ak F,e]
def Gr(H:ab)(sz:Nat)(h:ab)(v:PV)(es:List PV):Prop:=(v=.aa true []/\es=[]/\h=H)\/∃g o,v=.an H.length g 0 es.length/\h=H++[⟨.m,g,sz,o⟩]/\o.take es.length=es/\es.length<=o.length
theorem Out.cr{sz:Nat}{h:ab}{v:PV}{es:List PV}(o:Out sz h v es):cr h v=some es:=by
 rcases o with⟨rfl,rfl⟩|⟨V,g,rfl,N⟩
 rfl
 simp[Pm.cr,getM,N]
def Ls(sz:Nat)(h:ab)(v:PV)(es:List PV):Prop:=Out sz h v es\/∃f,v=.aa f es
theorem Ls.cr{sz:Nat}{h:ab}{v:PV}{es:List PV}(o:Ls sz h v es):cr h v=some es:=by
 rcases o with o |⟨f,rfl⟩;exact o.cr
 rfl
theorem Ls.cz{sz:Nat}{h:ab}{v:PV}{es:List PV}(o:Ls sz h v es)(J:ab):Ls sz (h++J) v es:=o.imp (λx=>x.cz J) id
theorem R.LG{st xt el uA:TypeId}{ys:List PV}{v:PV}{o:List PV}(U:cW L x=some (.an H.length ep 0 es.length))(F:cW L y=some u)(j:T.kd st=some (.sl el))(D:T.kd xt=some (.sl uA))(S:T.ts el=some (sz+1))(W:T.tb el=some G)(M:T.tz el=some z)
  (V:G<=1000) (A:(cells z).length=sz+1) (n:(cells z).all bP=true) (i:eE (sz+1) ys) (q:Ls (sz+1) H u ys) (hn:es.length+ys.length<1000000000) (K:o.take es.length=es) (O:es.length<=o.length)
  (w:∀e a,a.take (es++ys).length=es++ys->(es++ys).length<=a.length->(ys≠[]->a=es++ys)->(ys=[]->a=o)->ai C ops r ⟨al ((d,.an H.length e 0 (es++ys).length)::L) Y,H++[⟨.m,e,sz+1,a⟩]⟩ Q):
  ai C ops (⟨some d,.call ⟨.builtin .append,#[x,y],#[st,xt]⟩,ty,pos,af,none⟩::r) ⟨al L Y,H++[⟨.m,ep,sz+1,o⟩]⟩ Q:=by
 have Z:=(q.cz [⟨.m,ep,sz+1,o⟩]).cr;have N:getM (H++[(⟨.m,ep,sz+1,o⟩:ax)]) H.length ep=some ⟨.m,ep,sz+1,o⟩:=by simp[getM]
 unfold eE at i
 cases t:ys with
 |nil=>
  subst t;refine ai.fO (λX=>?_) (w ep o (by simpa using K) (by simpa using O) (λh=>absurd rfl h) (λ_=>rfl))
  have g:bR C.P 2 (H++[⟨.m,ep,sz+1,o⟩]) st xt (.an H.length ep 0 es.length) u=some (.an H.length ep 0 (es++[]).length,H++[⟨.m,ep,sz+1,o⟩]):=by
   unfold bR;rw[bG (T.dA _ _ j)];simp only[T.eT _ _ S,T.vg _ _ W,T.pJ _ _ M,cH,bG (T.dA _ _ D),Z];rw[if_pos ⟨by omega,by omega,⟨A,n⟩,i⟩];simp only[N];rw[if_pos ⟨by omega,trivial⟩];simp
  simp only[ar,bA,agp,agF,ak U,ak F,g]
 |cons y0 ys0=>
  have b:ys.isEmpty=false:=by rw[t];rfl
  refine ai.fO (λX=>?_) (w (ep+1) (es++ys) ahe (agb _) (λ_=>rfl) (λh=>by rw[h]at b;cases b))
  have g:bR C.P 2 (H++[⟨.m,ep,sz+1,o⟩]) st xt (.an H.length ep 0 es.length) u=some (.an H.length (ep+1) 0 (es++ys).length,H++[⟨.m,ep+1,sz+1,es++ys⟩]):=by
   unfold bR;rw[bG (T.dA _ _ j)];simp only[T.eT _ _ S,T.vg _ _ W,T.pJ _ _ M,cH,bG (T.dA _ _ D),Z];rw[if_pos ⟨by omega,by omega,⟨A,n⟩,i⟩];simp only[N];rw[if_pos ⟨by omega,trivial⟩];simp only[b,agn,if_false]
   have B:mN H.length u=false:=by
    rcases q with(⟨rfl,_⟩|⟨id,e,rfl,J⟩)|⟨f,rfl⟩
    rfl
    rotate_left
    rfl
    ·have:=ag J;simp[mN];omega
   rw[if_neg (by rw[B];simp),if_pos ⟨trivial,by omega,trivial,kq hn V⟩,K]
   have:(H++[(⟨.m,ep,sz+1,o⟩:ax)]).set H.length ⟨.m,ep+1,sz+1,es++ys⟩=H++[⟨.m,ep+1,sz+1,es++ys⟩]:=by
    refine(ahn H.length _ (agb _)).trans ?_;simp
   rw[this,agf]
  simp only[ar,bA,agp,agF,ak U,ak F,g]
theorem _root_.zbg{P:Prop}(h:P:=by
 unfold bR;rw[bG (T.dA _ _ g)];simp only[T.eT _ _ S,T.vg _ _ W,T.pJ _ _ M,cH,bG (T.dA _ _ D),Z];rw[if_pos ⟨by omega,by omega,⟨A,f⟩,rfl⟩]
 rfl):P:=h
theorem R.LH{st xt el e:TypeId}(U:cW L x=some (.aa true []))(F:cW L y=some u)(g:T.kd st=some (.sl el))(D:T.kd xt=some (.sl e))(S:T.ts el=some (sz+1))(W:T.tb el=some G)(M:T.tz el=some z)
  (O:G<=1000) (A:(cells z).length=sz+1) (f:(cells z).all bP=true) (a:Ls (sz+1) h u []) (w:ai C ops r ⟨al ((d,.aa true [])::L) Y,h⟩ Q):
  ai C ops (⟨some d,.call ⟨.builtin .append,#[x,y],#[st,xt]⟩,ty,pos,af,none⟩::r) ⟨al L Y,h⟩ Q:=by
 refine ai.fO (λX=>?_) w;have Z:=a.cr
 have b:bR C.P 2 h st xt (.aa true []) u=some (.aa true [],h):=by
  exact zbg
 simp only[ar,bA,agp,agF,ak U,ak F,b]
end
section
variable{C:cA}(T:li C.P)
set_option maxRecDepth 4000
set_option maxHeartbeats 4000000
def X2(H:ab)(x y K:PV):Prop:=x=.aa true [y,K]\/∃V,x=.an V 0 0 2/\H[V]?=some ⟨.m,0,1,[y,K]⟩
theorem X2.cz{x y:PV}(a:X2 H x y K)(J:ab):X2 (H++J) x y K:=by
 rcases a with a |⟨V,D,N⟩;exact .inl a;exact .inr ⟨V,D,by rw[af8 (ag N)];exact N⟩
theorem Out.cells{v:PV}(o:Out sz h v es):cells v=[v]:=by
 rcases o with⟨rfl,rfl⟩|⟨V,g,rfl,N⟩ <;>rfl
theorem Ls.cells{sz:Nat}{h:ab}{v:PV}{es:List PV}(o:Ls sz h v es):Pm.cells v=[v]:=by
 rcases o with o |⟨f,rfl⟩;exact o.cells
 rfl
theorem R.XW{ty:TypeId}{t el:TypeId}{v:PV}(U:cW L x=some v)(g:T.kd t=some (.sl el))(o:Ls sz h v es)(k:ai C ops r ⟨al ((d,(.int .i64 es.length))::L) Y,h⟩ Q):
  ai C ops (⟨some d,.call ⟨.builtin .len,#[x],#[t]⟩,ty,j,e,none⟩::r) ⟨al L Y,h⟩ Q:=by
 rcases o with o |⟨f,rfl⟩;exact R.Jj T U g o k;exact R.xp T (xs:=[]) (ts:=[]) U g k
theorem R.ZF{ty:TypeId}{t el:TypeId}{y:PV}
  (U:cW L x=some u) (g:T.kd t=some (.sl el)) (a:X2 h u y K) (k:ai C ops r ⟨al ((d,(.int .i64 2))::L) Y,h⟩ Q):
  ai C ops (⟨some d,.call ⟨.builtin .len,#[x],#[t]⟩,ty,j,e,none⟩::r) ⟨al L Y,h⟩ Q:=by
 rcases a with rfl |⟨V,rfl,N⟩;exact R.xp T (xs:=[]) (ts:=[]) U g k;exact R.QA T (xs:=[]) (ts:=[]) (o:=⟨.m,0,1,[y,K]⟩) U g (bw N rfl yxb) (by show 0+2<=2;omega) k
theorem R.ND{D:Nat}{ty e:TypeId}{A:String}{n f:Array Edge}{t b el:TypeId}{Z:Operand}{y v:PV}{i:Nat}
  (U:cW L x=some u) (B:cW L Z=some (.int k (i:Int))) (g:T.kd t=some (.sl el)) (S:T.ts el=some 1) (H:T.ts b=some 1) (P:T.ta b=some false) (a:X2 h u y K) (J:[y,K][i]?=some v) (G:cells v=[v])
  (w:∀p,ai C ops r ⟨al ((D,v)::(d,p)::L) Y,h⟩ Q):
  ai C ops (⟨some d,.indexAddr t x Z,ty,j,n,none⟩::⟨some D,.load b (.tmp d),e,A,f,none⟩::r) ⟨al L Y,h⟩ Q:=by
 have F:∀p,cW ((d,p)::L) (.tmp d)=some p:=λp=>by simp[cW,lk]
 rcases a with rfl |⟨V,rfl,N⟩
 ·refine R.lj T U B g (sz:=0) S J G rfl ?_;exact R.kr T (F _) H P (cs:=[]) rfl (w _)
 ·have q:i<2:=by have:=ag J;simpa using this
  refine R.Et T (o:=⟨.m,0,1,[y,K]⟩) U B g (bw N rfl yxb) S q (by show 0+2<=2;omega) ?_;refine R.kr T (F _) H P (c:=v) (cs:=[]) ?_ (w _);simp only[dP,bw N rfl (show Mu.m≠.x by simp),agz,J,G,ahs]
end
attribute [local irreducible] aE az aO aL Ev ai ah ay bh
set_option maxRecDepth 4000
set_option maxHeartbeats 4000000
theorem Vo(n:Nat)(hn:n<1000000000)(H:ab):ay C 151 [.aa true [],.int .i64 n] H (λr h'=>Gr H 4 h' r []/\(n=0->r=.aa true [])/\(r=.aa true []->n=0)):=by
 refine ay.gk Tryz.func151 rfl ?_;refine wF λG=>?_;apply R.Es T6;exact rfl;exact rfl;refine wD ?_;refine R.arith (c':=0) rfl rfl rfl yxe ?_
 (repeat' (first |refine ai.nil ?_ |(apply R.move;exact rfl)|(apply R.assign;exact rfl)|(apply R.cmp;exact rfl;exact rfl;exact rfl;all_goals intro G;all_goals(try(exfalso;omega)))|(apply R.arith;exact rfl;exact rfl;exact rfl;exact(oQ yxa yxa))|refine Ev.seq ?_ |refine Ev.region ?_ |(apply Ev.ie;exact rfl)|refine Ev.ret ?_ |refine Ev.skip ?_ |refine aE.normal ?_ |(apply aL.ret;exact rfl)|fail))
 ·apply R.Es T6;exact rfl;exact rfl
  skip
  apply R.F7 T6;exact rfl;exact rfl;exact rfl;exact rfl;refine wD ?_;apply R.LF T6 (n:=n);exact rfl;exact(congrArg (λz=>some (PV.int .i64 z)) yxb)
  all_goals first |exact rfl |exact(by decide:(_:Nat)<=1000)|omega |skip
  refine wD ?_;apply R.LD T6 (o:=⟨.m,0,4,List.replicate n (.agg [.int .i64 0,.str ByteArray.empty,.int .i64 0,.aa true []])⟩);exact rfl;exact rfl;exact rfl;exact l9;exact rfl;simp;refine wD ?_;exact⟨.inr ⟨0,List.replicate n (.agg [.int .i64 0,.str ByteArray.empty,.int .i64 0,.aa true []]),rfl,rfl,rfl,by simp⟩,λh=>by omega,λh=>by cases h⟩
 exact⟨.inl ⟨rfl,rfl,rfl⟩,λ_=>rfl,λ_=>by omega⟩
theorem ch(a b:List Tm):ae (a++b)=ae a++ae b:=by rw[dw,dw,dw,agN]
def aeu(H:ab)(l:List Tm)(r:PV)(h':ab):Prop:=(l=[]/\r=.aa true []/\h'=H)\/∃g,r=.an H.length g 0 (ae l).length/\h'=H++[⟨.m,g,4,ae l⟩]
set_option maxHeartbeats 8000000 in
theorem CT(a b:List Tm)(H:ab)(x y K:PV)(U:X2 H x y K)(h1:Ls 4 H y (ae a))(X:Ls 4 H K (ae b))(hl:a.length+b.length<100000000):
  ay C 121 [x] H (aeu H (a++b)):=by
 refine ay.gk Tryz.func121 rfl ?_;have D:=aj a;have e:=aj b;refine wD ?_;apply R.ZF T6;exact rfl;exact rfl;exact U;refine wD ?_;apply Ev.qJ;refine wF λG=>?_;apply R.ND T6 (i:=0);exact rfl;exact rfl;exact rfl;exact rfl;exact rfl;exact rfl;exact U;exact rfl;exact h1.cells
 intro p1
 refine wD ?_;apply R.XW T6;exact rfl;exact rfl;exact h1;refine wF λG=>?_;apply Ev.qJ;refine wF λG=>?_;apply R.ND T6 (i:=1);exact rfl;exact rfl;exact rfl;exact rfl;exact rfl;exact rfl;exact U;exact rfl;exact X.cells
 intro p2
 refine wD ?_;apply R.XW T6;exact rfl;exact rfl;exact X;refine wF λG=>?_;apply Ev.qJ;refine wF λG=>?_;refine R.call rfl rfl (ah.opened rfl ?_);refine ay.heap (args':=[.aa true [],.int .i64 ((a.length+b.length:Nat):Int)]) rfl (by simp[D,e]) ((Vo (a.length+b.length) yxa H).mono ?_);rintro r d ⟨N,M,Z⟩
 have f:(if(eI H.length r&& (d.take H.length).all λo=>o.es.all (cY H.length))=true then d.take H.length else d)=d:=by
  rcases N with⟨_,_,rfl⟩|⟨g,o,rfl,rfl,_,_⟩;simp;rw[if_neg (by simp[eI,cY,eu])]
 rw[f]
 have w:X2 d x y K:=by
  rcases N with⟨_,_,rfl⟩|⟨g,o,rfl,rfl,_,_⟩;exact U;exact U.cz _
 by_cases n:a.length+b.length=0
 ·have z:=M n;subst z;have j:a=[]:=agm yxa;have W:b=[]:=agm yxa;subst j;subst W;rcases N with⟨_,_,rfl⟩|⟨g,o,t,_⟩
  ·refine wD ?_;apply R.ZF T6;exact rfl;exact rfl;exact w;refine wD ?_;apply Ev.qJ;refine wF λG=>?_;apply R.ND T6 (i:=0);exact rfl;exact rfl;exact rfl;exact rfl;exact rfl;exact rfl;exact w;exact rfl;exact h1.cells
   intro B
   refine wD ?_;refine R.LH T6 rfl rfl rfl rfl rfl rfl rfl yxe rfl rfl h1 ?_;refine wD ?_;apply Ev.qJ;refine wF λG=>?_;apply R.ND T6 (i:=1);exact rfl;exact rfl;exact rfl;exact rfl;exact rfl;exact rfl;exact w;exact rfl;exact X.cells
   intro J
   refine wD ?_;refine R.LH T6 rfl rfl rfl rfl rfl rfl rfl yxe rfl rfl X ?_;refine wD ?_;apply Ev.qJ;refine wF λG=>?_;exact .inl ⟨rfl,rfl,rfl⟩
  cases t
 ·rcases N with⟨z,_,_⟩|⟨g,o,rfl,rfl,h,q⟩
  ·exact absurd (Z z) n
  ·refine wD ?_;apply R.ZF T6;exact rfl;exact rfl;exact w;refine wD ?_;apply Ev.qJ;refine wF λG=>?_;apply R.ND T6 (i:=0);exact rfl;exact rfl;exact rfl;exact rfl;exact rfl;exact rfl;exact w;exact rfl;exact h1.cells
   intro B
   refine wD ?_;refine R.LG T6 (es:=[]) (ys:=ae a) (v:=.ji) rfl rfl rfl rfl rfl rfl rfl yxe rfl rfl (qK a) h1 yxd h q ?_
   intro F o1 O Y S t4
   refine wD ?_;apply Ev.qJ;refine wF λG=>?_;apply R.ND T6 (i:=1);exact rfl;exact rfl;exact rfl;exact rfl;exact rfl;exact rfl;exact(U.cz _);exact rfl;exact X.cells
   intro J
   refine wD ?_;refine R.LG T6 (es:=ae a) (ys:=ae b) (v:=.ji) rfl rfl rfl rfl rfl rfl rfl yxe rfl rfl (qK b) X yxa O Y ?_
   intro V A u1 u2 Q P
   refine wD ?_;apply Ev.qJ;refine wF λG=>?_
   have u:A=ae (a++b):=by
    rw[ch]
    by_cases W:ae b=[]
    ·rw[P W,W,agC];refine S (λj=>?_);rw[j]at D;rw[W]at e;simp at D e;omega
    exact Q W
   refine .inr ⟨V,?_,by rw[u]⟩;rw[ch];rfl
end Go.Pm
namespace Go.Pm
open Go.Proofs
set_option maxRecDepth 4000
set_option maxHeartbeats 4000000
def gZ:Tm:=.mk 0 ByteArray.empty 0 []
theorem LP.obj{H:ab}{v:PV}{sz:Nat}{es:List PV}{r:PV}{h':ab}(a:LP H v sz es r h'){b:Nat}{o:ax}(e:H[b]?=some o)(W:∀ep n,v≠.an b ep 0 n):h'[b]?=some o/\∀ep n,r≠.an b ep 0 n:=by
 refine⟨by rw[a.fr b (ag e) W];exact e,λep n R=>?_⟩;rcases a.ref b ep n R with⟨P,q,Q⟩|Q;exact W P q Q;have:=ag e;omega
end Go.Pm
namespace Go.Pm
variable{J h h0:ab}{V ep i lv n off sz:Nat}{o:ax}{H:Op}{e rv u:PV}{c:Code}{a b:Int}{K:PV->Prop}{U args cs es j rest us:List PV}{f:FuncId}{P:Program}{ops:Array Oper}{r:List Oper}{Q:PV->ab->Prop}{s:St}{xs:List Operand}{Y:Nat->PV}
abbrev Al:=List (Nat×PV)
variable{L:Al}
inductive Rn(p:Prop):Prop
 |go (k:p)
theorem Rn.out{p:Prop}(h:Rn p):p:=h.casesOn id
inductive u7(p a b:Prop):Prop
 |tt (k:Rn a) (h:p:=by first |assumption |omega |decide)
 |ff (k:Rn b) (h:¬p:=by first |assumption |omega |decide)
 |mk (t:p->Rn a) (f:¬p->Rn b)
theorem u7.out{p a b:Prop}(h:u7 p a b):(p/\a)\/(¬p/\b):=by
 cases h with
 |tt k h=>exact .inl ⟨h,k.out⟩
 |ff k h=>exact .inr ⟨h,k.out⟩
 |mk t f=>
  by_cases K:p
  exact .inl ⟨K,(t K).out⟩;exact .inr ⟨K,(f K).out⟩
inductive Wr(k:IntKind)(c:Int)(K:Int->Prop):Prop
 |mk (kk:Rn (K c)) (h:k.wrap c=c:=by first |exact oQ yxa yxa|exact XO yxa yxa)
 |raw (c':Int) (h:k.wrap c=c') (kk:Rn (K c'))
theorem Wr.out{k:IntKind}{c:Int}{K:Int->Prop}(h:Wr k c K):K (k.wrap c):=by
 cases h with
 |mk w h=>rw[h];exact w.out
 |raw a h w=>rw[h];exact w.out
inductive Sd(p a:Prop):Prop
 |mk (k:Rn a) (h:p:=by first |assumption |omega |decide |rfl |(dsimp only;omega)|(simp;done)|(simp;omega))
theorem Sd.out{p a:Prop}(h:Sd p a):p/\a:=by cases h with |mk k h=>exact⟨h,k.out⟩
theorem kD(e:getM h V ep=some o):getM (h++J) V ep=some o:=by
 obtain⟨O,X,Q⟩:=getM_some e;exact bw (by rw[af8 (ag O)];exact O) X Q
inductive IE(h:ab)(id ep:Nat)(K:ax->Prop):Prop
 |mk {o:ax} (kk:Rn (K o)) (ho:getM h id ep=some o:=by first |exact bw yxc rfl yxp|rfl |exact l9 |exact kD (bw yxc rfl yxp)|exact kD l9 |exact kD (kD (bw yxc rfl yxp)))
theorem IE.out{h:ab}{V ep:Nat}{K:ax->Prop}(x:IE h V ep K):∃o,getM h V ep=some o/\K o:=by cases x with |mk w f=>exact⟨_,f,w.out⟩
inductive Xx(es:List PV)(i:Int)(sz:Nat)(K:List PV->Prop):Prop
 |mk {n:Nat} {v:PV} (kk:Rn (K (cells v))) (hi:i=(n:Int):=by first |rfl |exact(Int.natCast_succ _).symm |exact(aiG yxa).symm) (hv:es[n]?=some v:=by first |assumption |rfl) (hl:(cells v).length=sz:=by rfl)
theorem Xx.out{es:List PV}{i:Int}{sz:Nat}{K:List PV->Prop}(x:Xx es i sz K):∃(n:Nat) (v:PV),i=n/\es[n]?=some v/\(cells v).length=sz/\K (cells v):=by
 cases x with |mk w O X Q=>exact⟨_,_,O,X,Q,w.out⟩
inductive ByX(s:ByteArray)(i:Int)(K:UInt8->Prop):Prop
 |mk {n:Nat} {b:UInt8} (kk:Rn (K b)) (hi:i=(n:Int):=by first |rfl |exact(Int.natCast_succ _).symm |exact(aiG yxa).symm) (hv:s[n]?=some b:=by first |assumption |rfl)
theorem ByX.out{s:ByteArray}{i:Int}{K:UInt8->Prop}(x:ByX s i K):∃(n:Nat) (b:UInt8),i=n/\s[n]?=some b/\K b:=by cases x with |mk w O X=>exact⟨_,_,O,X,w.out⟩
inductive U3(o:ax):ab->ab->Nat->Prop
 |nil:U3 o [] [o] 0
 |cons {x:ax} {l l':ab} {n:Nat}:U3 o l l' n->U3 o (x::l) (x::l') (n+1)
 |gen {l:ab}:U3 o l (l++[o]) l.length
theorem U3.eq{l H:ab}(a:U3 o l H n):H=l++[o]/\n=l.length:=by
 induction a with
 |nil=>exact⟨rfl,rfl⟩
 |cons _ P=>obtain⟨rfl,rfl⟩:=P;exact⟨rfl,rfl⟩
 |gen=>exact⟨rfl,rfl⟩
inductive zc(h:ab)(o:ax)(K:Nat->ab->Prop):Prop
 |mk {n:Nat} {h':ab} (kk:Rn (K n h')) (ha:U3 o h h' n:=by repeat(first |exact .nil |apply U3.cons |exact .gen))
theorem zc.out{h:ab}{o:ax}{K:Nat->ab->Prop}(x:zc h o K):K h.length (h++[o]):=by
 cases x with |mk w j=>obtain⟨rfl,rfl⟩:=j.eq;exact w.out
def HR(h:ab):Prop:=∀o∈h,o.mu≠.x/\bB (λi=>decide (i<h.length)) o.es=true
mutual
theorem vX{f g:Nat->Bool}(B:∀i,f i=true->g i=true):∀p,bq f p=true->bq g p=true
 | .int ..,_ | .bool _,_ | .str _,_ | .ji,_ | .mM,_ | .jD,_ | .aa ..,_ | .eX _,_ | .undef,_ | .any,_=>rfl
 | .an ..,h=>by simp only[bq]at h ⊢;exact B _ h
 | .ptr ..,h=>by simp only[bq]at h ⊢;exact B _ h
 | .cq _,h=>by simp only[bq]at h ⊢;exact B _ h
 | .agg Y,h=>by simp only[bq]at h ⊢;exact eK B Y h
 | .b8 Y,h=>by simp only[bq]at h ⊢;exact eK B Y h
 | .fn _ Y,h=>by simp only[bq]at h ⊢;exact eK B Y h
 | .pK _ _ Y,h=>by simp only[bq]at h ⊢;exact eK B Y h
theorem eK{f g:Nat->Bool}(B:∀i,f i=true->g i=true):∀cs,bB f cs=true->bB g cs=true
 |[],_=>rfl
 |c::r,h=>by
  simp only[bB,age]at h ⊢;exact⟨vX B c h.1,eK B r h.2⟩
end
theorem HR.NV(H:HR h)(B:i<h.length):bj h i=true:=by
 unfold bj;rw[agd B];simpa using(H _ (agO B)).1
theorem HR.closed(H:HR h):br h=true:=by
 unfold br;rw[af9]
 intro o f
 rw[eK (λi B=>H.NV (of_decide_eq_true B)) _ (H o f).2];simp
theorem HV.hr(H:HV h):HR h:=λo f=>⟨(H o f).1,bg _ _ (H o f).2⟩
theorem HR.cz(H:HR h)(N:∀o∈J,o.mu≠.x/\bB (λi=>decide (i<h.length+J.length)) o.es=true):HR (h++J):=by
 intro o f
 rw[agf];rcases agh.1 f with f |f;exact⟨(H o f).1,eK (λi B=>by have:=of_decide_eq_true B;exact decide_eq_true yxa) _ (H o f).2⟩;exact N o f
theorem HR.cx(H:HR h)(N:HV J):HR (h++J):=H.cz λo f=>⟨(N o f).1,bg _ _ (N o f).2⟩
theorem HR.Gt(H:HR h)(h1:o.mu≠.x:=by simp)(X:bB (λi=>decide (i<h.length+1)) o.es=true:=by simp[bB,bq];omega):HR (h++[o]):=H.cz λy f=>by
 obtain rfl:=agu.1 f;exact⟨h1,X⟩
theorem HR.set{h:ab}(H:HR h)(V:Nat){o:ax}(h1:o.mu≠.x:=by simp)(X:bB (λi=>decide (i<h.length)) o.es=true:=by simp[bB,bq];omega):HR (h.set V o):=by
 intro y f
 rw[aiA];rcases ah0 f with f |rfl;exact H y f;exact⟨h1,X⟩
structure LR(H:ab)(v:PV)(sz:Nat)(eG:List PV)(r:PV)(h':ab):Prop where
 out:Out sz h' r eG
 hr:HR h'
 len:H.length<=h'.length
 fr:∀j,j<H.length->(∀ep n,v≠.an j ep 0 n)->h'[j]?=H[j]?
 ref:∀j ep n,r=.an j ep 0 n->(∃jy n',v=.an j jy 0 n')\/H.length<=j
 mu:∀(j:Nat) (o:ax),h'[j]?=some o->H[j]?=some o\/o.mu=.m
theorem Tq{x:ax}(U:x.mu=.m)(j:Nat)(o:ax)(e:(h++[x])[j]?=some o):h[j]?=some o\/o.mu=.m:=by
 by_cases M:j<h.length
 rw[af8 M]at e;exact .inl e
 ·rw[agl yxa]at e;have:=agq e;simp at this;subst this;exact .inr U
theorem Tr{x:ax}(U:x.mu=.m)(j:Nat)(o:ax)(e:(h.set V x)[j]?=some o):h[j]?=some o\/o.mu=.m:=by
 by_cases M:V=j
 ·subst M;have A:=ag e;rw[agc (by simpa using A)]at e;obtain rfl:=af7 e;exact .inr U
 rw[aga M]at e;exact .inl e
inductive Xy(h:ab)(sz:Nat)(v:PV)(ys:List PV)(K:PV->ab->Prop):Prop
 |lp {es:List PV} (kk:∀v' h',LP h v sz (es++ys) v' h'->Rn (K v' h')) (ho:Out sz h v es:=by first |assumption |exact .inl ⟨rfl,rfl⟩) (zT:eE sz ys:=by first |rfl |(simp;done)) (hn:es.length+ys.length<1000000000:=by first |omega |(simp only[agj,agH];omega))
   (JK:aw (es++ys)=true:=by simp) (hH:HV h:=by first |assumption |exact HV.nil)
 |lr {es:List PV} (kk:∀v' h',LR h v sz (es++ys) v' h'->Rn (K v' h')) (ho:Out sz h v es:=by first |assumption |exact .inl ⟨rfl,rfl⟩) (zT:eE sz ys:=by first |rfl |(simp;done)) (hn:es.length+ys.length<1000000000:=by first |omega |(simp only[agj,agH];omega))
   (JK:bB (λi=>decide (i<h.length)) (es++ys)=true:=by first |exact bg _ _ yxb|(simp[bB,bq];done)) (hH:HR h:=by assumption)
 |nn {full:Bool} {es:List PV} (kk:Rn (K (.aa full es) h)) (vj:ys=[]) (hv:v=.aa full es:=by rfl)
 |mn {id ep len:Nat} {es:List PV} (kk:Rn (K (.an id ep 0 len) h)) (vj:ys=[]) (ho:h[id]?=some ⟨.m,ep,sz,es⟩:=by first |assumption |rfl) (hle:len<=es.length:=by first |omega |(simp;done)) (hv:v=.an id ep 0 len:=by rfl)
 |ms {id ep len:Nat} {es:List PV} (kk:Rn (K (.an id (ep+1) 0 (len+ys.length)) (h.set id ⟨.m,ep+1,sz,es.take len++ys⟩))) (bD:ys.isEmpty=false) (ho:h[id]?=some ⟨.m,ep,sz,es⟩:=by first |assumption |rfl) (hle:len<=es.length:=by first |omega |(simp;done)) (hv:v=.an id ep 0 len:=by rfl)
   (zT:eE sz ys:=by first |rfl |(simp;done)) (hn:len+ys.length<1000000000:=by first |omega |(simp only[agj,agH];omega))
 |sn {es:List PV} (kk:Rn (K (.an h.length 0 0 (es.length+ys.length)) (h++[⟨.m,0,sz,es++ys⟩]))) (bD:ys.isEmpty=false) (hn:es.length+ys.length<1000000000) (hv:v=.aa true es:=by rfl) (zT:eE sz ys:=by first |rfl |(simp;done)) (heo:eE sz es:=by first |rfl |(simp;done))
inductive yP(C:cA)(op:Op)(L:Al)(h:ab)(K:PV->ab->Prop):Prop
 |mk {v:PV} {h':ab} (hc:∀run Y,ar C run 2 op (al L Y) h=some (v,h')) (kk:Rn (K v h'))
theorem yP.out{C:cA}{H:Op}{L:Al}{h:ab}{K:PV->ab->Prop}(x:yP C H L h K):∃v h',(∀run Y,ar C run 2 H (al L Y) h=some (v,h'))/\K v h':=by cases x with |mk G w=>exact⟨_,_,G,w.out⟩
inductive pI(C:cA)(op:Op)(L:Al)(K:PV->Prop):Prop
 |mk {v:PV} (hc:∀run lv Y h,ar C run lv op (al L Y) h=some (v,h)) (kk:Rn (K v))
theorem pI.out{C:cA}{H:Op}{L:Al}{K:PV->Prop}(x:pI C H L K):∃v,(∀run lv Y h,ar C run lv H (al L Y) h=some (v,h))/\K v:=by cases x with |mk G w=>exact⟨_,G,w.out⟩
inductive my(C:cA)(op:Op)(L:Al)(h:ab)(K:PV->Prop):Prop
 |mk {v:PV} (hc:∀run lv Y,ar C run lv op (al L Y) h=some (v,h)) (kk:Rn (K v))
theorem my.out{C:cA}{H:Op}{L:Al}{h:ab}{K:PV->Prop}(x:my C H L h K):∃v,(∀run lv Y,ar C run lv H (al L Y) h=some (v,h))/\K v:=by cases x with |mk G w=>exact⟨_,G,w.out⟩
def CC{v:Type}:List v->Nat->Option v
 |[],_=>none
 |a::_,0=>some a
 |_::l,n+1=>CC l n
theorem tI{v:Type}:∀(l:List v) (n:Nat),CC l n=l[n]?
 |[],n=>by simp[CC]
 |a::l,0=>by simp[CC]
 |a::l,n+1=>by simp[CC,tI l n]
def rr:Nat->List PV->(List PV->Prop)->Prop
 |0,l,k=>k l
 |n+1,_::l,k=>rr n l k
 |_+1,[],_=>False
theorem j8:∀{n:Nat} {l:List PV} {k:List PV->Prop},rr n l k->n<=l.length/\k (l.drop n)
 |0,l,k,h=>⟨by omega,h⟩
 |n+1,_::l,k,h=>by obtain⟨O,X⟩:=j8 (n:=n) h;exact⟨by simp;omega,X⟩
 |_+1,[],_,h=>h.elim
def BS:Nat->List PV->(List PV->Prop)->Prop
 |0,_,k=>k []
 |n+1,c::l,k=>BS n l λr=>k (c::r)
 |_+1,[],_=>False
theorem qv:∀{n:Nat} {l:List PV} {k:List PV->Prop},BS n l k->n<=l.length/\k (l.take n)
 |0,l,k,h=>⟨by omega,h⟩
 |n+1,c::l,k,h=>by obtain⟨O,X⟩:=qv (n:=n) h;exact⟨by simp;omega,X⟩
 |_+1,[],_,h=>h.elim
def PH:Nat->List PV->List PV->(List PV->Prop)->Prop
 |0,Y,[],k=>k Y
 |0,_::Y,v::W,k=>PH 0 Y W λr=>k (v::r)
 |n+1,c::Y,W,k=>PH n Y W λr=>k (c::r)
 |0,[],_::_,_=>False
 |_+1,[],_,_=>False
theorem wX:∀{n:Nat} {cs vs:List PV} {k:List PV->Prop},PH n cs vs k->n+vs.length<=cs.length/\k (cs.take n++vs++cs.drop (n+vs.length))
 |0,cs,[],k,h=>⟨by simp,by simpa[PH]using h⟩
 |0,_::cs,v::vs,k,h=>by obtain⟨O,X⟩:=wX (n:=0) (cs:=cs) h;exact⟨by simp at O ⊢;omega,by simpa using X⟩
 |n+1,c::cs,vs,k,h=>by
  obtain⟨O,X⟩:=wX (n:=n) h;exact⟨by simp;omega,by rw[show n+1+vs.length=(n+vs.length)+1 by omega];simpa using X⟩
 |0,[],_::_,_,h=>h.elim
 |_+1,[],_,_,h=>h.elim
def pq(L:Al):List Operand->(List PV->Prop)->Prop
 |[],k=>k []
 |x::f,k=>match cW L x with
  |some v=>pq L f λr=>k (v::r)
  |none=>False
theorem iZ{L:Al}:∀{xs:List Operand} {k:List PV->Prop},pq L xs k->∃vs,Bw L xs=some vs/\k vs
 |[],k,h=>⟨[],rfl,h⟩
 |x::xs,k,h=>by
  unfold pq at h
  split at h
  ·rename_i v J
   obtain⟨vs,e,g⟩:=iZ h;exact⟨v::vs,by simp[Bw,J,e],g⟩
  exact h.elim
def wY:List PV->List PV->(List PV->Prop)->Prop
 |[],b,k=>k b
 |a::l,b,k=>wY l b λr=>k (a::r)
theorem kG:∀{a b:List PV} {k:List PV->Prop},wY a b k->k (a++b)
 |[],_,_,h=>h
 |_::l,b,k,h=>kG (a:=l) h
variable{C:cA}(T:li C.P)
section
variable{Y:Nat->PV}{L:Al}{h:ab}
theorem Xz(a:Int):a.fdiv (2^ (min (1:Int).toNat 64))=a / 2:=by
 show a.fdiv 2=a / 2;rw[Int.fdiv_eq_ediv_of_nonneg _ yxa]
inductive XA(a b:Int)(bits:Nat)(K:Int->Prop):Prop
 |mk {c:Int} (kk:Rn (K c)) (h:a.fdiv (2^ (min b.toNat bits))=c:=by first |exact Xz _ |rfl) (h0:0<=b:=by omega)
theorem XA.out{a b:Int}{d:Nat}{K:Int->Prop}(x:XA a b d K):0<=b/\K (a.fdiv (2^ (min b.toNat d))):=by
 cases x with |mk w h B=>rw[h];exact⟨B,w.out⟩
inductive Zg(k:IntKind)(c:Int)(K:Int->Prop):Prop
 |mk (c':Int) (h:k.wrap c=c') (kk:Rn (K c'))
theorem Zg.out{k:IntKind}{c:Int}{K:Int->Prop}(h:Zg k c K):K (k.wrap c):=by
 cases h with
 |mk a h w=>rw[h];exact w.out
inductive XB(k:IntKind)(a b:Int)(K:Int->Prop):Prop
 |mk (c:Int) (h:k.wrap (a * 2^ (min b.toNat k.bits))=c) (h0:0<=b) (kk:Rn (K c))
theorem XB.out{k:IntKind}{a b:Int}{K:Int->Prop}(x:XB k a b K):0<=b/\K (k.wrap (a * 2^ (min b.toNat k.bits))):=by
 cases x with |mk c h B w=>rw[h];exact⟨B,w.out⟩
def aed(k:IntKind)(H:BinOp)(a b:Int)(K:PV->Prop):Prop:=
 match H with
 | .eql=>u7 (a=b) (K (.bool true)) (K (.bool false))
 | .neq=>u7 (a=b) (K (.bool false)) (K (.bool true))
 | .lss=>u7 (a<b) (K (.bool true)) (K (.bool false))
 | .leq=>u7 (a<=b) (K (.bool true)) (K (.bool false))
 | .gtr=>u7 (b<a) (K (.bool true)) (K (.bool false))
 | .geq=>u7 (b<=a) (K (.bool true)) (K (.bool false))
 | .add=>Wr k (a+b) λc=>K (.int k c)
 | .sub=>Wr k (a - b) λc=>K (.int k c)
 | .mul=>Wr k (a * b) λc=>K (.int k c)
 | .quo=>Sd (b≠0) (Wr k (a.tdiv b) λc=>K (.int k c))
 | .rem=>Sd (b≠0) (K (.int k (a.tmod b)))
 | .and=>Zg k (BitVec.ofInt k.bits a&&&BitVec.ofInt k.bits b).toNat λc=>K (.int k c)
 | .or=>Zg k (BitVec.ofInt k.bits a |||BitVec.ofInt k.bits b).toNat λc=>K (.int k c)
 | .xor=>Zg k (BitVec.ofInt k.bits a^^^BitVec.ofInt k.bits b).toNat λc=>K (.int k c)
 |_=>False
theorem mG{p:Prop}{x:PV->Prop}{u v c:Bool}(h:u7 p (x (.bool u)) (x (.bool v)))(h1:p->c=u)(X:¬p->c=v):x (.bool c):=by
 rcases h.out with⟨Q,G⟩|⟨Q,G⟩;rw[h1 Q];exact G;rw[X Q];exact G
theorem _root_.zan{P:Prop}(h:P:=by
 exact⟨_,λt=>by simp only[fS,ja];rfl,mG h (λh=>by simp[h]) (λh=>by simp[h])⟩):P:=h
theorem Uo{k:IntKind}{H:BinOp}(h:aed k H a b K):∃v,(∀t,fS C.P H t (.int k a) (.int k b)=some v)/\K v:=by
 cases H with
 |eql=>exact zan
 |neq=>exact zan
 |lss=>exact zan
 |leq=>exact zan
 |gtr=>exact zan
 |geq=>exact zan
 |add=>exact⟨_,λt=>by simp only[fS,ja];rfl,Wr.out h⟩
 |sub=>exact⟨_,λt=>by simp only[fS,ja];rfl,Wr.out h⟩
 |mul=>exact⟨_,λt=>by simp only[fS,ja];rfl,Wr.out h⟩
 |quo=>obtain⟨O,X⟩:=Sd.out h;exact⟨_,λt=>by simp only[fS,ja,if_true,if_neg O],Wr.out X⟩
 |rem=>obtain⟨O,X⟩:=Sd.out h;exact⟨_,λt=>by simp only[fS,ja,if_true,if_neg O],X⟩
 |and=>exact⟨_,λt=>by simp only[fS,ja];rfl,Zg.out h⟩
 |or=>exact⟨_,λt=>by simp only[fS,ja];rfl,Zg.out h⟩
 |xor=>exact⟨_,λt=>by simp only[fS,ja];rfl,Zg.out h⟩
 |_=>exact False.elim h
def aee(H:BinOp)(a b:ByteArray)(K:PV->Prop):Prop:=
 match H with
 | .eql=>u7 (a.toList=b.toList) (K (.bool true)) (K (.bool false))
 | .neq=>u7 (a.toList=b.toList) (K (.bool false)) (K (.bool true))
 | .lss=>u7 (Op.bytesLess a.toList b.toList=true) (K (.bool true)) (K (.bool false))
 | .gtr=>u7 ((!(Op.bytesLess a.toList b.toList ||a.toList==b.toList))=true) (K (.bool true)) (K (.bool false))
 | .leq=>u7 ((Op.bytesLess a.toList b.toList ||a.toList==b.toList)=true) (K (.bool true)) (K (.bool false))
 | .geq=>u7 (Op.bytesLess a.toList b.toList=true) (K (.bool false)) (K (.bool true))
 | .add=>Sd (a.size+b.size<1000000000) (K (.str (a++b)))
 |_=>False
theorem _root_.zbj{P:Prop}(h:P:=by
 exact⟨_,λt=>by simp only[fS,pL],mG h (λh=>h) (λh=>by simpa using h)⟩):P:=h
theorem Up{H:BinOp}{a b:ByteArray}(h:aee H a b K):∃v,(∀t,fS C.P H t (.str a) (.str b)=some v)/\K v:=by
 cases H with
 |eql=>exact⟨_,λt=>by simp only[fS,pL];rfl,mG h (λh=>by simp[h]) (λh=>by simp[h])⟩
 |neq=>exact⟨_,λt=>by simp only[fS,pL];rfl,mG h (λh=>by simp[h]) (λh=>by simp[h])⟩
 |lss=>exact zbj
 |gtr=>exact zbj
 |leq=>exact zbj
 |geq=>exact⟨_,λt=>by simp only[fS,pL];rfl,mG h (λh=>by simp[h]) (λh=>by simpa using h)⟩
 |add=>
  obtain⟨O,X⟩:=Sd.out h;exact⟨_,λt=>by simp only[fS,pL];rw[if_neg (by show¬((a.size+b.size:Nat):Int)>9223372036854775807;omega)],X⟩
 |_=>exact False.elim h
def mB(L:Al)(x:Operand)(K:PV->Prop):Prop:=match cW L x with |some v=>K v |none=>False
theorem bM{x:Operand}(h:mB L x K):∃v,cW L x=some v/\K v:=by
 unfold mB at h
 split at h
 exact⟨_,by assumption,h⟩;exact h.elim
def Uq(t:TypeId)(cs:List PV)(off:Nat)(K:PV->Prop):Prop:=
 match T.ta t,T.ts t with
 |some false,some _=>rr off cs λr=>match r with |c::_=>K c |[]=>False
 |some true,some q=>rr off cs λr=>BS q r λl=>K (.agg l)
 |_,_=>False
theorem PI{t:TypeId}(h:Uq T t cs off K):∃v,zC C.P t cs off=some v/\K v:=by
 unfold Uq at h
 split at h
 ·rename_i O X
  obtain⟨Q,G⟩:=j8 h
  cases J:cs.drop off with
  |nil=>rw[J]at G;exact G.elim
  |cons c r=>
   rw[J]at G;refine⟨c,?_,G⟩
   have:cs[off]?=some c:=by
    have:=congrArg List.head? J;simpa[List.head?_drop]using this
   simp[zC,T.Ts _ _ O,T.eT _ _ X,this]
 ·rename_i q O X
  obtain⟨Q,G⟩:=j8 h;obtain⟨d,N⟩:=qv G;refine⟨_,?_,N⟩;simp only[zC,T.Ts _ _ O,T.eT _ _ X];rw[if_pos];simp at d;omega
 exact h.elim
def Ur(G:List (Nat×TypeId)):List (Nat×Operand)->List PV->Al->(List PV->Prop)->Prop
 |[],Y,_,K=>K Y
 |(i,x)::r,Y,L,K=>mB L x λv=>match CC G i with
  |some (U,A)=>match T.ts A with
   |some q=>match Nat.beq (cells v).length q,(cells v).all bP with
    |true,true=>PH U Y (cells v) λf=>Ur G r f L K
    |_,_=>False
   |none=>False
  |none=>False
theorem Ea{G:List (Nat×TypeId)}:∀{F:List (Nat×Operand)} {cs:List PV} {K:List PV->Prop},Ur T G F cs L K->∃vs f,mF L F=some vs/\kN (tD T.ts G) cs vs=some f/\K f
 |[],cs,K,h=>⟨[],cs,rfl,rfl,h⟩
 |(i,x)::r,cs,K,h=>by
  obtain⟨v,O,X⟩:=bM h
  split at X
  ·rename_i U A Q
   split at X
   ·rename_i q a
    split at X
    ·rename_i d b
     obtain⟨H,n⟩:=wX X;obtain⟨vs,f,D,N,P⟩:=Ea n;have d:=agW d;refine⟨(i,v)::vs,f,by simp[mF,O,D],?_,P⟩;rw[tI]at Q;simp only[kN,tD,Q,a,ago];rw[if_pos ⟨d,b,by omega⟩];exact N
    exact X.elim
   exact X.elim
  exact X.elim
def aef(G:List (Nat×TypeId)):Bool:=G.all λo=>(T.ts o.2).isSome
theorem XC{l:List PV}{c:PV}(h:cs.drop n=c::l):n<cs.length:=by
 rcases agM n cs.length with O |O;exact O;rw[agU O]at h;cases h
theorem abO{V:Array Field}{f:Nat}{F:TypeId}(h:(V.toList.map λf=>(f.offset,f.type))[f]?=some (off,F)):∃fl,V[f]?=some fl/\fl.offset=off/\fl.type=F:=by
 rw[agt]at h
 cases H:V.toList[f]? with
 |none=>rw[H]at h;cases h
 |some fl=>
  rw[H]at h;simp at h;exact⟨fl,by simpa using H,h.1,h.2⟩
def vL(H:Op)(L:Al)(K:PV->Prop):Prop:=
 match H with
 | .move x | .assign x=>mB L x K
 | .pick c a b=>mB L c λv=>match v with
  | .bool true=>mB L a K
  | .bool false=>mB L b K
  |_=>False
 | .binOp H t x y h=>mB L x λv=>mB L y λu=>match v,u with
  | .int k a,.int k' b=>match H with
   | .shr=>XA a b k.bits λc=>K (.int k c)
   | .shl=>XB k a b λc=>K (.int k c)
   |H=>match decide (k=k')with
    |true=>aed k H a b K
    |false=>False
  | .str a,.str b=>aee H a b K
  | .bool a,.bool b=>match T.kd t with
   |some .bool=>match H with
    | .eql=>K (.bool (a==b))
    | .neq=>K (.bool !(a==b))
    |_=>False
   |_=>False
  | .agg _,.agg _=>pI C (.binOp H t x y h) L K
  |_,_=>False
 | .unOp .neg _ x=>mB L x λv=>match v with
  | .int k n=>Wr k (0 - n) λc=>K (.int k c)
  |_=>False
 | .unOp .not _ x=>mB L x λv=>match v with
  | .bool true=>K (.bool false)
  | .bool false=>K (.bool true)
  |_=>False
 | .convert s d x=>mB L x λv=>match v,T.kd s,T.kd d with
  | .int _ n,some _,some (.int k)=>Wr k n λc=>K (.int k c)
  | .str s,some _,some .str=>K (.str s)
  | .aa _ S,some (.sl e),some .str=>match T.kd e,qy S with
   |some (.int .u8),some l=>K (.str (Zj l))
   |_,_=>False
  |_,_,_=>False
 | .extract x i=>mB L x λv=>match v with
  | .b8 vs=>match CC vs i with
   |some u=>K u
   |none=>False
  |_=>False
 | .makeFunc (.func f) first M=>match first.toList with
  |[]=>pq L M.toList λl=>K (.fn f l)
  |x::r=>pq L (x::r) λl=>pq L M.toList λB=>wY l B λD=>K (.pK f l.length D)
 | .nilCheck x=>mB L x λv=>match v with
  | .ptr id g i o=>K (.ptr id g i o)
  | .eX Y=>K (.eX Y)
  | .fn f Y=>K (.fn f Y)
  |_=>False
 | .field s x f=>mB L x λv=>match v,T.kd s with
  | .agg Y,some (.st G)=>match CC G f with
   |some (U,F)=>Uq T F Y U K
   |none=>False
  |_,_=>False
 | .fieldAddr s x f=>mB L x λv=>match T.kd s with
  |some (.st G)=>match CC G f with
   |some (U,F)=>match T.ts F with
    |some (_+1)=>match v with
     | .eX Y=>rr U Y λr=>match r with |c::l=>K (.eX (c::l))|[]=>False
     | .ptr id g i o=>K (.ptr id g i (o+U))
     |_=>False
    |_=>False
   |none=>False
  |_=>False
 | .index t x Z=>mB L x λv=>mB L Z λu=>match v,u,T.kd t with
  | .str s,.int _ i,some .str=>ByX s i λb=>K (.int .u8 b.toNat)
  | .agg _,_,_=>pI C H L K
  |_,_,_=>False
 | .build t O=>match T.tz t,T.kd t with
  |some z,some (.st G)=>match aef T G,(cells z).all bP with
   |true,true=>Ur T G O.toList (cells z) L λY=>K (.agg Y)
   |_,_=>False
  |some _,some (.arr _ _)=>pI C H L K
  |_,_=>False
 |_=>False
theorem _root_.zcj{P:Prop}(h:P:=by
 exact⟨rfl,_,λrun lv Y h=>by simp only[ar,aD,ak e,ak N,fS,s9];rw[if_neg yxa];rfl,k⟩):P:=h
theorem qa(S:vL T H L K):cI H=false/\∃v,(∀run lv Y h,ar C run lv H (al L Y) h=some (v,h))/\K v:=by
 unfold vL at S
 split at S
 ·obtain⟨v,e,k⟩:=bM S;exact⟨rfl,v,λrun lv Y h=>by simp only[ar,aD,ak e],k⟩
 ·obtain⟨v,e,k⟩:=bM S;exact⟨rfl,v,λrun lv Y h=>by simp only[ar,aD,ak e],k⟩
 ·obtain⟨v,e,k⟩:=bM S
  split at k
  ·obtain⟨u,N,k⟩:=bM k;exact⟨rfl,u,λrun lv Y h=>by simp only[ar,aD,ak e,ak N,if_true],k⟩
  ·obtain⟨u,N,k⟩:=bM k;exact⟨rfl,u,λrun lv Y h=>by simp only[ar,aD,ak e,ak N,agn,if_false],k⟩
  exact k.elim
 ·obtain⟨v,e,k⟩:=bM S;obtain⟨u,N,k⟩:=bM k
  split at k
  ·split at k
   ·obtain⟨B,k⟩:=XA.out k;exact zcj
   ·obtain⟨B,k⟩:=XB.out k;exact zcj
   ·split at k
    ·rename_i g
     obtain rfl:=of_decide_eq_true g;obtain⟨w,P,k⟩:=Uo (C:=C) k;exact⟨rfl,w,λrun lv Y h=>by simp only[ar,aD,ak e,ak N,P,ago],k⟩
    ·exact k.elim
  ·obtain⟨w,P,k⟩:=Up (C:=C) k;exact⟨rfl,w,λrun lv Y h=>by simp only[ar,aD,ak e,ak N,P,ago],k⟩
  ·split at k
   ·rename_i g
    have y:=E6 (T.dA _ _ g)
    split at k
    exact⟨rfl,_,λrun lv Y h=>by simp only[ar,aD,ak e,ak N,fS,y,ago],k⟩;exact⟨rfl,_,λrun lv Y h=>by simp only[ar,aD,ak e,ak N,fS,y,ago],k⟩;exact k.elim
   ·exact k.elim
  ·obtain⟨v,O,k⟩:=pI.out k;exact⟨rfl,v,O,k⟩
  exact k.elim
 ·obtain⟨v,e,k⟩:=bM S
  split at k
  exact⟨rfl,_,λrun lv Y h=>by simp only[ar,aD,ak e,Zi,ago],k.out⟩;exact k.elim
 ·obtain⟨v,e,k⟩:=bM S
  split at k
  exact⟨rfl,_,λrun lv Y h=>by simp only[ar,aD,ak e,Zi,ago,ah6],k⟩;exact⟨rfl,_,λrun lv Y h=>by simp only[ar,aD,ak e,Zi,ago,aic],k⟩;exact k.elim
 ·obtain⟨v,e,k⟩:=bM S
  split at k
  ·rename_i O X
   obtain⟨u,Q,_⟩:=pz (T.dA _ _ O);exact⟨rfl,_,λrun lv Y h=>by simp only[ar,aD,ak e,zB,Q,uv (T.dA _ _ X),ago],k.out⟩
  ·rename_i O X
   obtain⟨u,Q,_⟩:=pz (T.dA _ _ O);exact⟨rfl,_,λrun lv Y h=>by simp only[ar,aD,ak e,zB,Q,qX (T.dA _ _ X),ago],k⟩
  ·rename_i O X
   split at k
   ·rename_i Q G
    exact⟨rfl,_,λrun lv Y h=>by simp only[ar,aD,ak e,zB,bG (T.dA _ _ O),qX (T.dA _ _ X),uv (T.dA _ _ Q),G,ago],k⟩
   exact k.elim
  exact k.elim
 ·obtain⟨v,e,k⟩:=bM S
  split at k
  ·split at k
   ·rename_i O
    rw[tI]at O;exact⟨rfl,_,λrun lv Y h=>by simp only[ar,aD,ak e,O],k⟩
   ·exact k.elim
  exact k.elim
 ·split at S
  ·rename_i a
   obtain⟨W,e,k⟩:=iZ S;refine⟨rfl,_,λrun lv Y h=>?_,k⟩;have a:=Array.isEmpty_iff.2 (Array.toList_eq_nil_iff.1 a);simp only[ar,aD,a,if_true,gV e]
  ·rename_i first _ _ x r a
   obtain⟨W,e,k⟩:=iZ S;obtain⟨Z,N,k⟩:=iZ k;have k:=kG k;refine⟨rfl,_,λrun lv Y h=>?_,k⟩;have O:=gV (Y:=Y) e;have X:=gV (Y:=Y) N;rw[<-a]at O
   have f:¬first.isEmpty=true:=λR=>by
    have:=Array.isEmpty_iff.1 R;rw[this]at a;cases a
   have i:first.size=W.length:=by rw[<-O];simp
   simp only[ar,aD,if_neg f,agN,O,X,i]
 ·obtain⟨v,e,k⟩:=bM S
  split at k
  exact⟨rfl,_,λrun lv Y h=>by simp only[ar,aD,ak e],k⟩;exact⟨rfl,_,λrun lv Y h=>by simp only[ar,aD,ak e],k⟩;exact⟨rfl,_,λrun lv Y h=>by simp only[ar,aD,ak e],k⟩;exact k.elim
 ·obtain⟨v,e,k⟩:=bM S
  split at k
  ·rename_i q j O
   split at k
   ·rename_i U F X
    obtain⟨u,N,k⟩:=PI T k;obtain⟨V,Q,G⟩:=Tt (T.dA _ _ O);rw[tI,<-G]at X;refine⟨rfl,u,λrun lv Y h=>?_,k⟩;obtain⟨z,d,rfl,rfl⟩:=abO X;simp only[ar,aD,ak e,Ef,Q,d,N,ago]
   exact k.elim
  exact k.elim
 ·obtain⟨v,e,k⟩:=bM S
  split at k
  ·rename_i j O
   split at k
   ·rename_i U F X
    split at k
    ·rename_i M Q
     rw[tI]at X;have a:=pp T O X Q
     split at k
     ·obtain⟨G,A⟩:=j8 k;clear k
      split at A
      ·rename_i d
       exact⟨rfl,_,λrun lv Y h=>by simp only[ar,aD,ak e,iu,a,if_pos (XC d),d,ago],A⟩
      exact A.elim
     exact⟨rfl,_,λrun lv Y h=>by simp only[ar,aD,ak e,iu,a,ago],k⟩;exact k.elim
    exact k.elim
   exact k.elim
  exact k.elim
 ·obtain⟨v,e,t⟩:=bM S;obtain⟨u,N,k⟩:=bM t;clear t
  split at k
  ·rename_i O
   obtain⟨n,b,rfl,X,k⟩:=ByX.out k;exact⟨rfl,_,λrun lv Y h=>by simp[ar,aD,ak e,ak N,zD,qX (T.dA _ _ O),X],k⟩
  ·obtain⟨v,O,k⟩:=pI.out k;exact⟨rfl,v,O,k⟩
  exact k.elim
 ·split at S
  ·rename_i O X
   split at S
   ·rename_i Q G
    obtain⟨W,J,D,N,k⟩:=Ea T S;refine⟨rfl,_,λrun lv Y h=>?_,k⟩;have:=xY T O X Q G N;have e:=jY (Y:=Y) D;simp only[ar,aD,e,this,ago]
   exact S.elim
  ·obtain⟨v,O,k⟩:=pI.out S;exact⟨rfl,v,O,k⟩
  ·exact S.elim
 exact S.elim
theorem pI.abP{C:cA}{T:li C.P}{t el:TypeId}{m:Nat}{x y:Operand}{v H D:PV}(U:cW L x=some u)(F:cW L y=some v)(g:T.kd t=some (.arr m el))(M:T.tz t=some (.agg [H,D]))(S:T.ts el=some 1)(f:bP H=true/\bP D=true)
  (a:cells u=[u]) (J:cells v=[v]) (b:bP u=true) (d:bP v=true) (w:Rn (K (.agg [u,v]))):pI C (.build t #[(0,x),(1,y)]) L K:=by
 refine .mk (λX W Y h=>?_) w;have O:(cells (PV.agg [H,D])).all bP=true:=by simp[cells,f.1,f.2]
 simp only[ar,aD,agp,agF,ak U,ak F,xh,T.pJ _ _ M,KP (T.dA _ _ g),T.eT _ _ S,O,if_true];have G:cells (PV.agg [H,D])=[H,D]:=rfl;simp[kN,a,J,b,d,G,rI]
def XD:Option Kd->PV->Bool
 |some (.int k),.int k' _=>decide (k'=k)
 |some .str,.str _ |some .bool,.bool _=>true
 |_,_=>false
theorem BT{t:TypeId}(e:XD (T.kd t) u=true):rz C.P t u=true:=by
 unfold XD at e
 split at e
 ·rename_i k B n g
  simp only[rz,uv (T.dA _ _ g)];exact e
 ·rename_i s g
  simp only[rz,qX (T.dA _ _ g)]
 ·rename_i s g
  simp only[rz,E6 (T.dA _ _ g)]
 cases e
theorem qZ{mu:Mu}(e:h[V]?=some ⟨mu,0,0,es⟩)(d:mu≠.x):xi h V=some ⟨mu,0,0,es⟩:=by
 simp[xi,getM,e,d]
theorem zw{t:TypeId}(h:rz P t u=true):Ci P t u=true:=by unfold Ci;rw[h];rfl
theorem BU{t:TypeId}(h:rz P t u=true):rN P t u es=oO u es 0:=by unfold rN;rw[if_pos h]
theorem XE{t:TypeId}{y:PV}(h:rz P t u=true):No P t u y es=Qc u y es:=by unfold No Qc;rw[BU h]
inductive LkX(h:ab)(v u:PV)(K:Option PV->Prop):Prop
 |nil (kk:Rn (K none)) (hv:v=.jD:=by rfl)
 |UC {id i:Nat} {mu:Mu} {es:List PV} {p:PV} (hf:oO u es 0=some (some (i,p))) (kk:Rn (K (some p))) (ho:h[id]?=some ⟨mu,0,0,es⟩:=by first |assumption |rfl) (hm:mu≠.x:=by simp) (hv:v=.cq id:=by rfl)
 |RG {id:Nat} {mu:Mu} {es:List PV} (hf:oO u es 0=some none) (kk:Rn (K none)) (ho:h[id]?=some ⟨mu,0,0,es⟩:=by first |assumption |rfl) (hm:mu≠.x:=by simp) (hv:v=.cq id:=by rfl)
theorem LkX.out{v u:PV}{K:Option PV->Prop}(x:LkX h v u K){t O R:TypeId}{z:PV}(Z:C.P.underlying t=some (.map O R))(M:jN C.P R=some z)(g:rz C.P O u=true)(G:Bool):
  ∃r:Option PV,lQ C.P h t v u G=some (match r with |some p=>fQ G p true |none=>fQ G z false)/\K r:=by
 cases x with
 |nil w J=>subst J;exact⟨none,by simp only[lQ,Z,M,zw g,if_true],w.out⟩
 |UC a w f d J=>subst J;exact⟨some _,by simp only[lQ,Z,M,zw g,BU g,if_true,qZ f d,a],w.out⟩
 |RG a w f d J=>subst J;exact⟨none,by simp only[lQ,Z,M,zw g,BU g,if_true,qZ f d,a],w.out⟩
inductive Qa(i:Int)(K:Nat->Prop):Prop
 |mk {n:Nat} (kk:Rn (K n)) (hi:i=(n:Int):=by first |rfl |exact(Int.natCast_succ _).symm |exact(aiG yxa).symm)
theorem Qa.out{i:Int}{K:Nat->Prop}(x:Qa i K):∃n:Nat,i=n/\K n:=by cases x with |mk w h=>exact⟨_,h,w.out⟩
inductive PJ(es:List PV)(i:Nat)(K:PV->Prop):Prop
 |mk {e:PV} (kk:Rn (K e)) (h:es[i]?=some e:=by first |assumption |rfl)
theorem PJ.out{es:List PV}{i:Nat}{K:PV->Prop}(x:PJ es i K):∃e,es[i]?=some e/\K e:=by cases x with |mk w h=>exact⟨_,h,w.out⟩
inductive XF(h:ab)(v:PV)(K:Int->Prop):Prop
 |mk {full:Bool} {es:List PV} (kk:Rn (K (es.length:Int))) (hv:v=.aa full es:=by rfl)
 |m2 {sz:Nat} {es:List PV} (kk:Rn (K (es.length:Int))) (ho:Out sz h v es:=by assumption)
 |m3 {id ep off len:Nat} {o:ax} (kk:Rn (K (len:Int))) (hv:v=.an id ep off len:=by rfl) (ho:getM h id ep=some o:=by first |exact bw yxc rfl yxp|rfl |exact l9 |exact kD (bw yxc rfl yxp)) (hl:off+len<=o.es.length:=by first |omega |(simp;done)|(simp;omega))
theorem XF.out{v:PV}{K:Int->Prop}{t el:TypeId}(x:XF h v K)(g:C.P.underlying t=some (.slice el)):∃n:Int,qz C.P h t v=some (.int .i64 n)/\K n:=by
 cases x with
 |mk w J=>subst J;exact⟨_,by simp only[qz,g],w.out⟩
 |m2 w f=>
  rcases f with⟨rfl,rfl⟩|⟨V,a,rfl,N⟩;exact⟨_,by simp only[qz,g],w.out⟩;exact⟨_,by simp only[qz,g,bw N rfl (by simp:Mu.m≠Mu.x)];rw[if_pos yxb],w.out⟩
 |m3 w J f A=>subst J;exact⟨_,by simp only[qz,g,f];rw[if_pos A],w.out⟩
def AH(t:TypeId)(cs:List PV)(K:PV->Prop):Prop:=
 match T.ta t,T.ts t with
 |some false,some _=>match cs with |c::_=>K c |[]=>False
 |some true,some (q+1)=>BS (q+1) cs λl=>K (.agg l)
 |_,_=>False
theorem BW{t:TypeId}{p:PV}(a:dP h p=some cs)(x:AH T t cs K):∃v,jO C.P h t p=some v/\K v:=by
 unfold AH at x
 split at x
 ·rename_i O X
  split at x
  exact⟨_,by simp only[jO,T.Ts _ _ O,T.eT _ _ X,a],x⟩;exact x.elim
 ·rename_i q O X
  obtain⟨d,N⟩:=qv x;exact⟨_,by simp only[jO,T.Ts _ _ O,T.eT _ _ X,a];rw[if_pos ⟨by omega,d⟩],N⟩
 exact x.elim
def bdX(L:Al)(x:Option Operand)(d:Nat)(K:Nat->Prop):Prop:=
 match x with
 |none=>K d
 |some x=>mB L x λv=>match v with
  | .int _ i=>Qa i K
  |_=>False
theorem zx{x:Option Operand}{d:Nat}{K:Nat->Prop}(R:bdX L x d K):∃n:Nat,K n/\∀(Y:Nat->PV) t,(n<=t->dq (x.map (ev (al L Y))) d t=some n):=by
 unfold bdX at R
 split at R
 exact⟨_,R,λ_ _ _=>rfl⟩
 ·obtain⟨v,e,k⟩:=bM R
  split at k
  ·obtain⟨n,B,A⟩:=Qa.out k;clear k;subst B;refine⟨n,A,λY t Z=>?_⟩;simp only[ago,ak e,dq];rw[if_pos ⟨by omega,by omega⟩];simp
  exact k.elim
theorem aeg(h1:getM h V ep=some o)(X:o.es[i]?=some e):dP h (.ptr V ep i off)=some ((cells e).drop off):=by simp only[dP,h1,X]
def sf(H:Op)(L:Al)(h:ab)(K:PV->Prop):Prop:=
 match H with
 | .load t x=>mB L x λp=>match p with
  | .eX Y=>AH T t Y K
  | .ptr id g i U=>IE h id g λo=>PJ o.es i λe=>rr U (cells e) λY=>AH T t Y K
  |_=>False
 | .indexAddr t x Z=>mB L x λv=>mB L Z λu=>match T.kd t,v,u with
  |some (.sl d),.aa _ S,.int _ i=>match T.ts d with
   |some (q+1)=>Xx S i (q+1) λY=>K (.eX Y)
   |_=>False
  |some (.sl d),.an id g U f,.int _ i=>match T.ts d with
   |some q=>IE h id g λo=>Qa i λn=>Sd (n<f/\U+f<=o.es.length/\q=o.bQ) (K (.ptr id g (U+n) 0))
   |_=>False
  |some (.arr m d),.eX Y,.int _ i=>match T.ts d with
   |some q=>Qa i λn=>Sd (n<m/\n * q<Y.length) (rr (n * q) Y λr=>K (.eX r))
   |_=>False
  |some (.arr m d),.ptr id g j U,.int _ i=>match T.ts d with
   |some q=>Qa i λn=>Sd (n<m) (K (.ptr id g j (U+n * q)))
   |_=>False
  |_,_,_=>False
 | .call ⟨.builtin b,V,J⟩=>match b,V.toList,J.toList with
  | .len,x::_,t::_=>mB L x λv=>match T.kd t with
   |some .str=>match v with
    | .str s=>K (.int .i64 s.size)
    |_=>False
   |some (.sl _)=>XF h v λn=>K (.int .i64 n)
   |_=>False
  | .max,[x,y],_=>mB L x λv=>mB L y λu=>match v,u with
   | .int k a,.int _ b=>K (.int k (max a b))
   |_,_=>False
  | .min,[x,y],_=>mB L x λv=>mB L y λu=>match v,u with
   | .int k a,.int _ b=>K (.int k (min a b))
   |_,_=>False
  |_,_,_=>False
 | .slice t x w B none=>mB L x λv=>match T.kd t,v with
  |some .str,.str s=>bdX L B s.size λb=>bdX L w 0 λa=>Sd (a<=b/\b<=s.size) (K (.str (s.extract a b)))
  |some (.sl d),.aa full S=>match T.ts d with
   |some q=>bdX L B S.length λb=>bdX L w 0 λa=>Sd ((a<=b/\b<=S.length)/\(S[a]?).all (λv=>(cells v).length==q)=true) (K (.aa (full&&b==S.length) ((S.drop a).take (b - a))))
   |_=>False
  |some (.sl _),.an _ _ _ _=>my C H L h K
  |_,_=>False
 | .lookup t m k G=>mB L m λv=>mB L k λu=>match T.kd t with
  |some (.mp O R)=>match T.tz R,XD (T.kd O) u with
   |some z,true=>LkX h v u λr=>match r with
    |some p=>K (fQ G p true)
    |none=>K (fQ G z false)
   |_,_=>my C H L h K
  |_=>False
 |_=>False
theorem jT(S:sf T H L h K):cI H=true/\∃v,(∀run lv Y,ar C run lv H (al L Y) h=some (v,h))/\K v:=by
 unfold sf at S
 split at S
 ·obtain⟨p,e,k⟩:=bM S
  split at k
  ·obtain⟨v,N,k⟩:=BW T (h:=h) (p:=.eX _) rfl k;exact⟨rfl,v,λrun lv Y=>by simp only[ar,aD,ak e,N,ago],k⟩
  ·obtain⟨o,P,k⟩:=IE.out k;obtain⟨f,M,k⟩:=PJ.out k;obtain⟨_,k⟩:=j8 k;obtain⟨v,N,k⟩:=BW T (h:=h) (aeg P M) k;exact⟨rfl,v,λrun lv Y=>by simp only[ar,aD,ak e,N,ago],k⟩
  exact k.elim
 ·obtain⟨v,e,t⟩:=bM S;obtain⟨u,N,k⟩:=bM t;clear t
  split at k
  ·rename_i g
   split at k
   ·rename_i q V
    obtain⟨n,w,rfl,X,Q,k⟩:=Xx.out k;refine⟨rfl,_,λrun lv Y=>?_,k⟩;have F:=ag X;simp only[ar,aD,ak e,ak N,cT,bG (T.dA _ _ g),T.eT _ _ V];rw[if_pos ⟨by omega,by omega⟩];simp only[ahV,X];rw[if_pos ⟨by omega,Q⟩];rfl
   exact k.elim
  ·rename_i g
   split at k
   ·rename_i q V
    obtain⟨o,P,k⟩:=IE.out k;obtain⟨n,B,A⟩:=Qa.out k;clear k;subst B;obtain⟨⟨O,X,Q⟩,k⟩:=Sd.out A;refine⟨rfl,_,λrun lv Y=>?_,k⟩;simp only[ar,aD,ak e,ak N,cT,bG (T.dA _ _ g),T.eT _ _ V,P];rw[if_pos ⟨by omega,by omega,Q,X⟩];rfl
   exact k.elim
  ·rename_i g
   split at k
   ·rename_i q V
    obtain⟨n,B,A⟩:=Qa.out k;clear k;subst B;obtain⟨⟨O,X⟩,k⟩:=Sd.out A;obtain⟨_,k⟩:=j8 k;refine⟨rfl,_,λrun lv Y=>?_,k⟩;simp only[ar,aD,ak e,ak N,cT,KP (T.dA _ _ g),T.eT _ _ V];rw[if_pos ⟨by omega,by omega,by simpa using X⟩];rfl
   exact k.elim
  ·rename_i g
   split at k
   ·rename_i q V
    obtain⟨n,B,A⟩:=Qa.out k;clear k;subst B;obtain⟨O,k⟩:=Sd.out A;refine⟨rfl,_,λrun lv Y=>?_,k⟩;simp only[ar,aD,ak e,ak N,cT,KP (T.dA _ _ g),T.eT _ _ V];rw[if_pos ⟨by omega,by omega⟩];rfl
   exact k.elim
  exact k.elim
 ·split at S
  ·rename_i j Z
   obtain⟨v,e,k⟩:=bM S
   split at k
   ·rename_i g
    split at k
    ·refine⟨rfl,_,λrun lv Y=>?_,k⟩;simp only[ar,j,Z,agp,ak e,bA,qz,qX (T.dA _ _ g),ago]
    exact k.elim
   ·rename_i g
    obtain⟨n,O,k⟩:=XF.out k (bG (T.dA _ _ g));refine⟨rfl,_,λrun lv Y=>?_,k⟩;simp only[ar,j,Z,agp,ak e,bA,O,ago]
   exact k.elim
  ·rename_i j
   obtain⟨v,e,t⟩:=bM S;obtain⟨u,N,k⟩:=bM t;clear t
   split at k
   ·rename_i a _ b
    refine⟨rfl,_,λrun lv Y=>?_,k⟩;have:(if b>a then b else a)=Max.max a b:=by split <;>omega
    simp only[ar,j,agp,agF,ak e,ak N,bA,Qd,this,ago]
   exact k.elim
  ·rename_i j
   obtain⟨v,e,t⟩:=bM S;obtain⟨u,N,k⟩:=bM t;clear t
   split at k
   ·rename_i a _ b
    refine⟨rfl,_,λrun lv Y=>?_,k⟩;have:(if b<a then b else a)=Min.min a b:=by split <;>omega
    simp only[ar,j,agp,agF,ak e,ak N,bA,U4,this,ago]
   exact k.elim
  ·exact S.elim
 ·obtain⟨v,e,k⟩:=bM S
  split at k
  ·rename_i g
   obtain⟨b,k,W⟩:=zx k;obtain⟨a,k,j⟩:=zx k;obtain⟨⟨O,X⟩,k⟩:=Sd.out k;refine⟨rfl,_,λrun lv Y=>?_,k⟩;simp only[ar,aD,ak e,cS,qX (T.dA _ _ g),ah8,W Y _ X,j Y _ O]
   rfl
  ·rename_i g
   split at k
   ·rename_i q V
    obtain⟨b,k,W⟩:=zx k;obtain⟨a,k,j⟩:=zx k;obtain⟨⟨⟨O,X⟩,Q⟩,k⟩:=Sd.out k;refine⟨rfl,_,λrun lv Y=>?_,k⟩;simp only[ar,aD,ak e,cS,bG (T.dA _ _ g),T.eT _ _ V,ah8];rw[show∀n:Nat,dq none n n=some n from λ_=>rfl];simp only[W Y _ X,j Y _ O];rw[if_pos ⟨rfl,Q⟩]
    rfl
   exact k.elim
  ·obtain⟨w,O,k⟩:=my.out k;exact⟨rfl,w,O,k⟩
  exact k.elim
 ·rename_i G
  obtain⟨v,e,t⟩:=bM S;obtain⟨u,N,k⟩:=bM t;clear t
  split at k
  ·rename_i g
   split at k
   ·rename_i d i
    obtain⟨r,O,A⟩:=LkX.out (C:=C) k (MW (T.dA _ _ g)) (T.pJ _ _ d) (BT T i) G
    cases r with
    |none=>exact⟨rfl,_,λrun lv Y=>by simp only[ar,aD,ak e,ak N,O,ago],A⟩
    |some p=>exact⟨rfl,_,λrun lv Y=>by simp only[ar,aD,ak e,ak N,O,ago],A⟩
   ·obtain⟨v,O,A⟩:=my.out k;exact⟨rfl,v,O,A⟩
  exact k.elim
 exact S.elim
inductive BX{α:Type}:List α->Nat->α->List α->Prop
 |zero {x y:α} {l:List α}:BX (x::l) 0 y (y::l)
 |succ {x y:α} {l l':List α} {n:Nat}:BX l n y l'->BX (x::l) (n+1) y (x::l')
 |last {x y:α} {l:List α}:BX (l++[x]) l.length y (l++[y])
 |gen {l:List α} {n:Nat} {y:α}:BX l n y (l.set n y)
theorem BX.eq{v:Type}{l H:List v}{y:v}(a:BX l n y H):H=l.set n y:=by
 induction a with
 |zero=>rfl
 |succ _ P=>rw[P];rfl
 |last=>simp
 |gen=>rfl
inductive XG(h:ab)(id ep bQ:Nat)(es:List PV)(i:Nat)(e':PV)(K:ab->Prop):Prop
 |mk {eG:List PV} {h':ab} (kk:Rn (K h')) (h1:BX es i e' eG:=by repeat(first |exact .zero |apply BX.succ |exact .last |exact .gen)) (h2:BX h id ⟨.m,ep,bQ,eG⟩ h':=by repeat(first |exact .zero |apply BX.succ |exact .last |exact .gen))
theorem XG.out{V i ep B:Nat}{es:List PV}{A:PV}{K:ab->Prop}(x:XG h V ep B es i A K):K (h.set V ⟨.m,ep,B,es.set i A⟩):=by
 cases x with |mk w O X=>obtain rfl:=O.eq;obtain rfl:=X.eq;exact w.out
def rcX(off sz:Nat)(e v:PV)(K:PV->Prop):Prop:=
 match off,Nat.beq sz (cells e).length with
 |0,true=>K v
 |_,_=>PH off (cells e) (cells v) λY=>K (.agg Y)
theorem XH{v:PV}(A:(cells v).length=sz)(x:rcX off sz e v K):off+sz<=(cells e).length/\(K (gw off sz e v)\/(∃cs,K (.agg cs)/\cs=(cells e).take off++cells v++(cells e).drop (off+sz)/\¬(off=0/\sz=(cells e).length))):=by
 unfold rcX at x
 split at x
 ·rename_i X
  have:=agW X;refine⟨by omega,.inl ?_⟩;rw[gw,if_pos ⟨rfl,this⟩];exact x
 ·rename_i z
  obtain⟨O,X⟩:=wX x;rw[A]at O X;refine⟨O,.inr ⟨_,X,rfl,λR=>?_⟩⟩;obtain⟨rfl,Q⟩:=R;exact z rfl (by rw[<-Q];exact Nat.beq_refl _)
theorem Us{v:PV}(A:(cells v).length=sz)(x:rcX off sz e v K):off+sz<=(cells e).length/\K (gw off sz e v):=by
 obtain⟨O,X |⟨Y,Q,rfl,G⟩⟩:=XH A x;exact⟨O,X⟩;exact⟨O,by rw[gw,if_neg G];exact Q⟩
def Fw(n sz:Nat):List (Nat×Operand)->List PV->Al->(List PV->Prop)->Prop
 |[],S,_,K=>K S
 |(i,x)::r,S,L,K=>mB L x λv=>match Nat.beq (cells v).length sz,(cells v).all bP,Nat.ble (i+1) n with
  |true,true,true=>Ut S i v λU=>Fw n sz r U L K
  |_,_,_=>False
 where Ut:List PV->Nat->PV->(List PV->Prop)->Prop
 |[],_,_,_=>False
 |_::l,0,v,k=>k (v::l)
 |e::l,i+1,v,k=>Ut l i v λr=>k (e::r)
theorem Eb:∀{es:List PV} {i:Nat} {v:PV} {k:List PV->Prop},Fw.Ut es i v k->k (es.set i v)
 |[],_,_,_,h=>h.elim
 |_::l,0,v,k,h=>h
 |e::l,i+1,v,k,h=>Eb (es:=l) h
theorem BY{n sz:Nat}:∀{F:List (Nat×Operand)} {es:List PV} {K:List PV->Prop},Fw n sz F es L K->∃vs,mF L F=some vs/\vs.all (Bz sz n)=true/\K (vs.foldl (λes x=>es.set x.1 x.2) es)
 |[],es,K,h=>⟨[],rfl,rfl,h⟩
 |(i,x)::r,es,K,h=>by
  obtain⟨v,O,X⟩:=bM h
  split at X
  ·rename_i Q G d
   obtain⟨vs,D,N,P⟩:=BY (Eb X);refine⟨(i,v)::vs,by simp[mF,O,D],?_,P⟩;rw[ahh,N,ahO];simp only[Bz,G,ahO,age,decide_eq_true_eq];exact⟨agW Q,ahm d⟩
  exact X.elim
def abQ:Nat->PV->(List PV->Prop)->Prop
 |0,_,k=>k []
 |n+1,z,k=>abQ n z λl=>k (z::l)
theorem IF:∀{n:Nat} {z:PV} {k:List PV->Prop},abQ n z k->k (List.replicate n z)
 |0,_,_,h=>h
 |n+1,z,k,h=>IF (n:=n) h
inductive BsX(h:ab)(sz:Nat)(es:List PV)(K:PV->ab->Prop):Prop
 |mk (kk:Rn (K (.aa true es) h)) (hv:aw es=true:=by first |rfl |(simp <;>fail))
 |m2 {n:Nat} {h':ab} (kk:Rn (K (.an n 0 0 es.length) h')) (hv:aw es=false:=by first |rfl |(simp <;>fail)) (ha:U3 ⟨.m,0,sz,es⟩ h h' n:=by repeat(first |exact .nil |apply U3.cons |exact .gen))
def Co(t:TypeId)(n:Nat)(F:List (Nat×Operand))(L:Al)(K:Nat->List PV->Prop):Prop:=
 match T.kd t with
 |some (.sl d)=>match T.ts d,T.tz d with
  |some (q+1),some z=>match Nat.ble (n * (q+1)) 16777216,Nat.beq (cells z).length (q+1),(cells z).all bP with
   |true,true,true=>abQ n z λS=>Fw n (q+1) F S L λU=>K (q+1) U
   |_,_,_=>False
  |_,_=>False
 |_=>False
theorem pZ{t:TypeId}{F:List (Nat×Operand)}{K:Nat->List PV->Prop}(x:Co T t n F L K):∃sz es,K sz es/\∀(Y:Nat->PV) (h:ab) (lv:Nat),
  ek C.P lv h t n (F.map λ(i,x)=>(i,ev (al L Y) x))=if aw es=true then some (.aa true es,h)else if 2<=lv then some (.an h.length 0 0 n,newObj h sz es)else none:=by
 unfold Co at x
 split at x
 ·rename_i d g
  split at x
  ·rename_i sz z V R
   split at x
   ·rename_i O X Q
    obtain⟨W,D,N,a⟩:=BY (IF x);refine⟨_,_,a,λY h lv=>?_⟩;rw[jY D];simp only[ek,bG (T.dA _ _ g),T.eT _ _ V,T.pJ _ _ R];rw[if_pos ⟨by omega,ahm O,agW X,Q,N⟩]
    rfl
   exact x.elim
  exact x.elim
 exact x.elim
inductive UpX(h:ab)(id:Nat)(u y:PV)(K:ab->Prop):Prop
 |mk {es eG:List PV} (hp:Qc u y es=some eG) (kk:Rn (K (h.set id ⟨.m,0,0,eG⟩))) (ho:h[id]?=some ⟨.m,0,0,es⟩:=by first |assumption |rfl)
theorem UpX.out{V:Nat}{u y:PV}{K:ab->Prop}(x:UpX h V u y K){t O R:TypeId}(Z:C.P.underlying t=some (.map O R))(g:rz C.P O u=true):∃h',iQ C.P h t (.cq V) u y=some h'/\K h':=by
 cases x with
 |mk a w f=>exact⟨_,by simp only[iQ,Z,qZ f (by simp:Mu.m≠Mu.x),zw g,XE g,a,and_self,if_true],w.out⟩
def uj(H:Op)(L:Al)(h:ab)(K:PV->ab->Prop):Prop:=
 match H with
 | .store t a x=>mB L a λp=>mB L x λv=>match p,T.ts t with
  | .ptr g j i U,some q=>match Nat.beq (cells v).length q,(cells v).all bP with
   |true,true=>IE h g j λo=>match o with
    |⟨.m,j,B,S⟩=>PJ S i λe=>rcX U q e v λA=>XG h g j B S i A λd=>K .undef d
    |_=>False
   |_,_=>False
  |_,_=>False
 | .alloc t=>match T.tz t,T.ts t with
  |some z,some q=>match(cells z).all bP,Nat.beq (cells z).length q,Nat.ble 1 q with
   |true,true,true=>zc h ⟨.m,0,q,[z]⟩ λn d=>K (.ptr n 0 0 0) d
   |_,_,_=>False
  |_,_=>yP C (.alloc t) L h K
 | .box t x=>mB L x λz=>match T.ts t with
  |some q=>match(cells z).all bP,Nat.beq (cells z).length q,Nat.ble 1 q with
   |true,true,true=>zc h ⟨.m,0,q,[z]⟩ λn d=>K (.ptr n 0 0 0) d
   |_,_,_=>False
  |_=>False
 | .makeSlice t l c=>mB L l λu=>mB L c λv=>match T.kd t,u,v with
  |some (.sl f),.int _ a,.int _ b=>match T.ts f,T.tb f,T.tz f with
   |some (q+1),some G,some z=>match Nat.ble G 1000,Nat.beq (cells z).length (q+1),(cells z).all bP with
    |true,true,true=>Qa a λn=>Sd (a<=b/\b<=1073741824) (zc h ⟨.m,0,q+1,List.replicate n z⟩ λm d=>K (.an m 0 0 n) d)
    |_,_,_=>False
   |_,_,_=>False
  |_,_,_=>False
 | .call ⟨.builtin .append,V,J⟩=>match V.toList,J.toList with
  |[x,y],[Y,N]=>mB L y λu=>match u with
   | .aa full Q=>match T.kd Y,T.kd N with
    |some (.sl f),some (.sl _)=>match T.ts f,T.tb f,T.tz f with
     |some (q+1),some G,some z=>match Nat.ble G 1000,Nat.beq (cells z).length (q+1),(cells z).all bP with
      |true,true,true=>mB L x λv=>Xy h (q+1) v Q K
      |_,_,_=>False
     |_,_,_=>False
    |_,_=>False
   |_=>yP C H L h K
  |_,_=>yP C H L h K
 | .buildSlice t n F=>Co T t n F.toList L λq S=>match Nat.beq S.length n with
  |true=>BsX h q S K
  |false=>False
 | .makeMap t none=>zc h ⟨.m,0,0,[]⟩ λn d=>K (.cq n) d
 | .makeMap t (some x)=>mB L x λv=>match v,T.kd t with
  | .int _ _,some (.mp _ _)=>zc h ⟨.m,0,0,[]⟩ λn d=>K (.cq n) d
  |_,_=>False
 | .mapUpdate t m k x | .insert t m k x=>mB L m λv=>mB L k λu=>mB L x λy=>match v,T.kd t with
  | .cq g,some (.mp O _)=>match XD (T.kd O) u with
   |true=>UpX h g u y λd=>K .undef d
   |false=>yP C H L h K
  |_,_=>False
 |H=>yP C H L h K
theorem _root_.zak{P:Prop}(h:P:=by
 rcases o with⟨rfl,rfl⟩|⟨V,g,rfl,N⟩
 ·simp only[ar,bA,agp,agF,ak U,ak F,bR,bG (T.dA _ _ b),bG (T.dA _ _ D),T.eT _ _ q,T.vg _ _ W,T.pJ _ _ M,cH,cr];rw[if_pos ⟨by omega,by omega,⟨A,d⟩,rfl⟩];rfl
 ·simp only[ar,bA,agp,agF,ak U,ak F,bR,bG (T.dA _ _ b),bG (T.dA _ _ D),T.eT _ _ q,T.vg _ _ W,T.pJ _ _ M,cH,cr,bw N rfl (by simp:Mu.m≠Mu.x)];rw[if_pos ⟨by omega,by omega,⟨A,d⟩,rfl⟩,if_pos ⟨by simp,trivial⟩];rfl):P:=h
theorem _root_.zbc{P:Prop}(h:P:=by
 have:=lA T (h:=h) (full:=full) (len:=S.length) b D q W M O A d u Q B (bw N rfl yxb) rfl rfl (agb _);simp only[ar,bA,agp,agF,ak U,ak F,this,ahe]):P:=h
theorem _root_.zbs{P:Prop}(h:P:=by
 have:=iB T (h:=h) (lv:=2) (full:=full) yxa b D q W M O A d u Q (by simpa using B);simp only[ar,bA,agp,agF,ak U,ak F,this]):P:=h
theorem Xy.out{st xt el uA:TypeId}{sz iq:Nat}{z:PV}{full:Bool}{ys:List PV}{x y:Operand}{v:PV}{K:PV->ab->Prop}(a:Xy h (sz+1) v ys K)(U:cW L x=some v)(F:cW L y=some (.aa full ys))(b:T.kd st=some (.sl el))(D:T.kd xt=some (.sl uA))(q:T.ts el=some (sz+1))(W:T.tb el=some iq)(M:T.tz el=some z)
  (O:iq<=1000) (A:(cells z).length=sz+1) (d:(cells z).all bP=true):
  ∃v' h',(∀run Y,ar C run 2 (.call ⟨.builtin .append,#[x,y],#[st,xt]⟩) (al L Y) h=some (v',h'))/\K v' h':=by
 cases a with
 | @nn fl S w H J=>
  subst J H;refine⟨_,_,λrun Y=>?_,w.out⟩;simp only[ar,bA,agp,agF,ak U,ak F,bR,bG (T.dA _ _ b),bG (T.dA _ _ D),T.eT _ _ q,T.vg _ _ W,T.pJ _ _ M,cH,cr];rw[if_pos ⟨by omega,by omega,⟨A,d⟩,rfl⟩]
  rfl
 | @mn V g t S w H N hle J=>
  subst J H;refine⟨_,_,λrun Y=>?_,w.out⟩;simp only[ar,bA,agp,agF,ak U,ak F,bR,bG (T.dA _ _ b),bG (T.dA _ _ D),T.eT _ _ q,T.vg _ _ W,T.pJ _ _ M,cH,cr,bw N rfl (by simp:Mu.m≠Mu.x)];rw[if_pos ⟨by omega,by omega,⟨A,d⟩,rfl⟩,if_pos ⟨by omega,trivial⟩];rfl
 | @ms V g t S w Q N hle J u B=>
  subst J;refine⟨_,_,λrun Y=>?_,w.out⟩;have:=lA T (h:=h) (full:=full) (len:=t) b D q W M O A d u Q B (bw N rfl yxb) rfl rfl hle;simp only[ar,bA,agp,agF,ak U,ak F,this]
 | @sn S w Q B J u P=>
  subst J;refine⟨_,_,λrun Y=>?_,w.out⟩;unfold eE at u P;simp only[ar,bA,agp,agF,ak U,ak F,bR,bG (T.dA _ _ b),bG (T.dA _ _ D),T.eT _ _ q,T.vg _ _ W,T.pJ _ _ M,cH,cr];rw[if_pos ⟨by omega,by omega,⟨A,d⟩,u⟩,if_neg (by rw[Q];simp),if_pos ⟨trivial,by omega,kq B O,P⟩]
  rfl
 | @lp S w o u B Z G=>
  by_cases Q:ys.isEmpty=true
  ·have H:ys=[]:=by simpa using Q
   subst H;refine⟨v,h,λrun Y=>?_,(w v h ⟨by simpa using o,G,agb _,λj _ _=>rfl,λj g n R=>.inl ⟨g,n,R⟩⟩).out⟩;exact zak
  have Q:ys.isEmpty=false:=by simpa using Q
  rcases o with⟨rfl,rfl⟩|⟨V,g,rfl,N⟩
  ·refine⟨.an h.length 0 0 ys.length,h++[⟨.m,0,sz+1,ys⟩],λrun Y=>?_,(w (.an h.length 0 0 ys.length) (h++[⟨.m,0,sz+1,ys⟩]) ⟨.inr ⟨h.length,0,by simp,by simp⟩,G.cz (HV.one (by simpa using Z)),by simp,λj X _=>af8 X,λj g n R=>?_⟩).out⟩
   ·exact zbs
   ·cases R;exact .inr (agb _)
  ·have cK:=ag N;refine⟨.an V (g+1) 0 (S.length+ys.length),h.set V ⟨.m,g+1,sz+1,S++ys⟩,λrun Y=>?_,(w (.an V (g+1) 0 (S.length+ys.length)) (h.set V ⟨.m,g+1,sz+1,S++ys⟩) ⟨.inr ⟨V,g+1,by simp,agc cK⟩,G.set V yxb Z,by simp,λj X Q=>aga (λR=>Q g S.length (by rw[R])),λj jy n R=>?_⟩).out⟩
   ·exact zbc
   cases R;exact .inl ⟨g,S.length,rfl⟩
 | @lr S w o u B Z G=>
  by_cases Q:ys.isEmpty=true
  ·have H:ys=[]:=by simpa using Q
   subst H;refine⟨v,h,λrun Y=>?_,(w v h ⟨by simpa using o,G,agb _,λj _ _=>rfl,λj g n R=>.inl ⟨g,n,R⟩,λj o e=>.inl e⟩).out⟩;exact zak
  have Q:ys.isEmpty=false:=by simpa using Q
  rcases o with⟨rfl,rfl⟩|⟨V,g,rfl,N⟩
  ·refine⟨.an h.length 0 0 ys.length,h++[⟨.m,0,sz+1,ys⟩],λrun Y=>?_,(w (.an h.length 0 0 ys.length) (h++[⟨.m,0,sz+1,ys⟩]) ⟨.inr ⟨h.length,0,by simp,by simp⟩,G.Gt yxb (eK (f:=λi=>decide (i<h.length)) (λi hi=>by have:=of_decide_eq_true hi;exact decide_eq_true yxa) _ (by simpa using Z)),by simp,λj X _=>af8 X,λj g n R=>?_,Tq rfl⟩).out⟩
   ·exact zbs
   ·cases R;exact .inr (agb _)
  ·have cK:=ag N;refine⟨.an V (g+1) 0 (S.length+ys.length),h.set V ⟨.m,g+1,sz+1,S++ys⟩,λrun Y=>?_,(w (.an V (g+1) 0 (S.length+ys.length)) (h.set V ⟨.m,g+1,sz+1,S++ys⟩) ⟨.inr ⟨V,g+1,by simp,agc cK⟩,G.set V yxb Z,by simp,λj X Q=>aga (λR=>Q g S.length (by rw[R])),λj jy n R=>?_,Tr rfl⟩).out⟩
   ·exact zbc
   cases R;exact .inl ⟨g,S.length,rfl⟩
theorem _root_.zar{P:Prop}(h:P:=by
 obtain⟨v,e,t⟩:=bM S;obtain⟨u,N,f⟩:=bM t;obtain⟨y,P,k⟩:=bM f;clear t f
 split at k
 ·rename_i g
  split at k
  ·rename_i i
   obtain⟨h',O,A⟩:=UpX.out (C:=C) k (MW (T.dA _ _ g)) (BT T i);exact⟨_,h',λrun Y=>by simp only[ar,aD,ak e,ak N,ak P,O,agb,if_true,ago],A⟩
  exact k.out
 exact k.elim):P:=h
theorem nq{K:PV->ab->Prop}(S:uj T H L h K):∃v h',(∀run Y,ar C run 2 H (al L Y) h=some (v,h'))/\K v h':=by
 unfold uj at S
 split at S
 ·obtain⟨p,e,t⟩:=bM S;obtain⟨v,N,k⟩:=bM t;clear t
  split at k
  ·rename_i V
   split at k
   ·rename_i j O
    obtain⟨o,P,k⟩:=IE.out k
    split at k
    ·obtain⟨el,M,k⟩:=PJ.out k;have j:=agW j;obtain⟨d,k⟩:=Us j k;refine⟨_,_,λrun Y=>?_,XG.out k⟩;simp only[ar,aD,ak e,ak N,jc,T.eT _ _ V,P,M,agb,if_true];rw[if_pos ⟨trivial,j,O,d⟩];rfl
    exact k.elim
   exact k.elim
  exact k.elim
 ·split at S
  ·rename_i hz V
   split at S
   ·rename_i O X Q
    have X:=agW X;have Q:=ahm Q;refine⟨_,_,λrun Y=>?_,zc.out S⟩;simp only[ar,aD,T.pJ _ _ hz];rw[if_pos ⟨by omega,O,by omega⟩,newObj,X]
   exact S.elim
  ·exact S.out
 ·obtain⟨z,e,k⟩:=bM S
  split at k
  ·rename_i V
   split at k
   ·rename_i O X Q
    have X:=agW X;have Q:=ahm Q;refine⟨_,_,λrun Y=>?_,zc.out k⟩;simp only[ar,aD,ak e];rw[if_pos ⟨by omega,O,by omega⟩,newObj,X]
   exact k.elim
  exact k.elim
 ·obtain⟨u,e,t⟩:=bM S;obtain⟨v,N,k⟩:=bM t;clear t
  split at k
  ·rename_i g
   split at k
   ·rename_i V F R
    split at k
    ·rename_i O X Q
     obtain⟨n,U,A⟩:=Qa.out k;clear k;subst U;obtain⟨⟨G,d⟩,k⟩:=Sd.out A;have O:=ahm O;refine⟨_,_,λrun Y=>?_,zc.out k⟩;simp only[ar,aD,ak e,ak N,kY,bG (T.dA _ _ g),T.eT _ _ V,T.vg _ _ F,T.pJ _ _ R];rw[if_pos ⟨by omega,by omega,G,d,by omega,by omega,agW X,Q⟩];simp[newObj]
    exact k.elim
   exact k.elim
  exact k.elim
 ·split at S
  ·rename_i x y st xt q Z
   obtain⟨u,e,k⟩:=bM S
   split at k
   ·split at k
    ·rename_i g im
     split at k
     ·rename_i V F R
      split at k
      ·rename_i O X Q
       obtain⟨v,N,k⟩:=bM k;obtain⟨v',h',d,D⟩:=Xy.out T k N e g im V F R (ahm O) (agW X) Q;refine⟨v',h',λrun Y=>?_,D⟩;rw[<-d run Y];simp only[ar,q,Z]
      exact k.elim
     exact k.elim
    ·exact k.elim
   exact k.out.imp λv a=>a.imp λh' b=>b
  ·obtain⟨v,h',b⟩:=S.out;exact⟨v,h',b⟩
 ·obtain⟨sz,es,k,W⟩:=pZ T S
  split at k
  ·rename_i w
   have w:=agW w
   cases k with
   |mk B J=>exact⟨_,_,λrun Y=>by simp only[ar,aD,W];rw[if_pos J],B.out⟩
   |m2 B J q=>
    obtain⟨rfl,rfl⟩:=q.eq;refine⟨_,_,λrun Y=>?_,B.out⟩;simp only[ar,aD,W];rw[if_neg (by rw[J];simp),if_pos (agb 2),newObj,w]
  exact k.elim
 exact⟨_,_,λrun Y=>by simp only[ar,aD,lY,ah8];rw[if_pos yxa];rfl,zc.out S⟩
 ·obtain⟨v,e,k⟩:=bM S
  split at k
  ·rename_i g
   exact⟨_,_,λrun Y=>by simp only[ar,aD,lY,ago,ak e,MW (T.dA _ _ g)];rw[if_pos yxa];rfl,zc.out k⟩
  exact k.elim
 ·exact zar
 ·exact zar
 obtain⟨v,h',b⟩:=S.out;exact⟨v,h',b⟩
def push(d:Option Nat)(v:PV)(L:Al):Al:=match d with |some d=>(d,v)::L |none=>L
def eV(d:Option Nat)(v:PV)(L:Al)(K:Al->Prop):Prop:=match d with |some d=>K ((d,v)::L)|none=>K L
theorem gF{d:Option Nat}{v:PV}{K:Al->Prop}(h:eV d v L K):K (push d v L):=by
 unfold eV at h
 split at h <;>exact h
theorem kH(d:Option Nat)(v:PV):bZ (al L Y) d v=al (push d v L) Y:=by
 cases d with
 |none=>rfl
 |some d=>exact cy d v L Y
def gdX(ops:List Oper)(g:Option (Nat×Bool))(L:Al):Option Bool:=
 match g with
 |none=>some true
 |some (j,t)=>match CC ops j with
  |some o=>match o.dst with
   |some d=>match lk L d with
    |some (.bool true)=>some t
    |some (.bool false)=>match t with |true=>some false |false=>some true
    |some .undef=>some false
    |_=>none
   |none=>some false
  |none=>some false
theorem zy{o:Oper}{b:Bool}(R:gdX ops.toList o.guard L=some b):bC ops o (al L Y)=some b:=by
 unfold gdX at R;unfold bC
 split at R
 ·rename_i N;rw[N];exact R
 ·rename_i j t N
  rw[N];simp only;rw[tI]at R
  cases f:ops.toList[j]? with
  |none=>rw[f]at R;simpa using R
  |some y=>
   rw[f]at R;simp only[aix]at R ⊢
   cases J:y.dst with
   |none=>rw[J]at R;simpa using R
   |some d=>
    rw[J]at R;simp only at R ⊢
    split at R
    ·rename_i A;rw[fi A Y];simp at R;subst R;cases t <;>rfl
    ·rename_i A;rw[fi A Y];cases t <;>simp at R <;>subst R <;>rfl
    ·rename_i A;rw[fi A Y];simpa using R
    cases R
def uk(H:Op):Option (Operand×List Operand):=match H with | .call ⟨.value f,V,_⟩=>some (f,V.toList)|_=>none
def abR(H:Op):Bool:=match H with | .load .. | .indexAddr .. | .slice .. | .lookup ..=>true | .call ⟨.builtin .len,_,_⟩| .call ⟨.builtin .max,_,_⟩| .call ⟨.builtin .min,_,_⟩=>true |_=>false
def Uu(H:Op)(L:Al)(h:ab)(K:PV->ab->Prop):Prop:=
 match uk H with
 |some (f,V)=>mB L f λv=>match v with
  | .fn f M=>pq L V λU=>wY U M λU=>ah C 2 f U h λv d=>Rn (K v d)
  | .pK f k Y=>pq L V λU=>BS k Y λa=>rr k Y λb=>wY a U λU=>wY U b λU=>ah C 2 f U h λv d=>Rn (K v d)
  |_=>False
 |none=>match cI H with
  |false=>vL T H L λv=>K v h
  |true=>match abR H with
   |true=>sf T H L h λv=>K v h
   |false=>uj T H L h K
def yR(ops:List Oper)(l:List Oper):Al->ab->(Al->ab->Prop)->Prop:=
 List.rec (motive:=λ_=>Al->ab->(Al->ab->Prop)->Prop) (λL h Q=>Q L h)
  (λo _ P L h Q=>match gdX ops o.guard L with
   |some true=>Uu T o.op L h λv d=>eV o.dst v L λL=>P L d Q
   |some false=>eV o.dst .undef L λL=>P L h Q
   |none=>False) l
theorem PK{ops:List Oper}{o:Oper}{Q:Al->ab->Prop}:yR T ops (o::r) L h Q=match gdX ops o.guard L with
  |some true=>Uu T o.op L h λv d=>eV o.dst v L λL=>yR T ops r L d Q
  |some false=>eV o.dst .undef L λL=>yR T ops r L h Q
  |none=>False:=rfl
theorem ah.mono{b:PV->ab->Prop}(a:ah C lv f args h Q)(y:∀r h,Q r h->b r h):ah C lv f args h b:=by
 obtain⟨r,d,q,e⟩:=a;exact⟨r,d,y _ _ q,e⟩
theorem ai.aeh{o:Oper}{Q:St->Prop}{c:Call}{x:Operand}{k:Nat}(H:bC ops o s.Y=some true)(a:o.op=.call c)(U:c.callee=.value x)(u:ev s.Y x=.pK f k cs)
  (j:cs.take k++c.args.toList.map (ev s.Y)++cs.drop k=args) (G:ah C 2 f args s.h (λv h'=>ai C ops r ⟨bZ s.Y o.dst v,h'⟩ Q)):ai C ops (o::r) s Q:=by
 exact za1
theorem _root_.zal{P:Prop}(h:P:=by
 unfold uk at G
 split at G
 ·rename_i O
  obtain⟨rfl,rfl⟩:=agk (af7 G);exact⟨_,O,rfl,rfl⟩
 cases G):P:=h
theorem jr{ops:Array Oper}{Q:St->Prop}:∀{l:List Oper} {L:Al} {h:ab} {K:Al->ab->Prop},yR T ops.toList l L h K->(∀u h',K u h'->Q ⟨al u Y,h'⟩)->ai C ops l ⟨al L Y,h⟩ Q
 |[],L,h,K,x,y=>ai.nil (y _ _ x)
 |o::r,L,h,K,x,y=>by
  rw[PK]at x
  split at x
  ·rename_i a
   have H:=zy (Y:=Y) a
   have P:∀{v:PV} {h':ab},(∀X Y,ar C X 2 o.op (al L Y) h=some (v,h'))->(eV o.dst v L λL=>yR T ops.toList r L h' K)->ai C ops (o::r) ⟨al L Y,h⟩ Q:=λ{v h'} J k=>
    ai.step (s1:=⟨bZ (al L Y) o.dst v,h'⟩) (λX=>by simp only[gL,H,J X Y]) (by rw[kH];exact jr (gF k) y)
   unfold Uu at x
   split at x
   ·rename_i f V G
    obtain⟨v,e,k⟩:=bM x
    split at k
    ·obtain⟨U,N,k⟩:=iZ k;have k:=kG k
     have S:∃c:Call,o.op=.call c/\c.callee=.value f/\c.args.toList=V:=by
      exact zal
     obtain⟨c,A,t,q⟩:=S;refine ai.call H A t (ak e Y) (by rw[q,gV N]) (k.mono λv h' w=>?_);rw[kH];exact jr (gF w.out) y
    ·obtain⟨U,N,k⟩:=iZ k;obtain⟨_,k⟩:=qv k;obtain⟨_,k⟩:=j8 k;have k:=kG (kG k)
     have S:∃c:Call,o.op=.call c/\c.callee=.value f/\c.args.toList=V:=by
      exact zal
     obtain⟨c,A,t,q⟩:=S;refine ai.aeh H A t (ak e Y) (by rw[q,gV N]) (k.mono λv h' w=>?_);rw[kH];exact jr (gF w.out) y
    exact k.elim
   ·split at x
    ·obtain⟨_,v,O,k⟩:=qa T x;exact P (λX Y=>O X 2 Y h) k
    ·split at x
     ·obtain⟨_,v,O,k⟩:=jT T x;exact P (λX Y=>O X 2 Y) k
     ·obtain⟨v,h',O,k⟩:=nq T x;exact P O k
  ·rename_i a
   have H:=zy (Y:=Y) a;exact ai.step (s1:=⟨bZ (al L Y) o.dst .undef,h⟩) (λX=>by simp only[gL,H]) (by rw[kH];exact jr (gF x) y)
  exact x.elim
def aei(h:ab)(v:PV):Prop:=match v with
 | .ptr id _ _ _=>bj h id=true
 | .an id _ _ _=>bj h id=true
 |v=>bq (bj h) v=true
def Pc(L:Al)(h:ab):List Operand->Prop
 |[]=>True
 |y::r=>match cW L y with
  |some v=>aei h v/\Pc L h r
  |none=>False
theorem E3(e:h[V]?=some o)(h1:o.mu≠.x):bj h V=true:=by simp[bj,e,h1]
theorem Ng(h1:o.mu≠.x):bj (h++[o]) h.length=true:=by simp[bj,h1]
theorem zz(e:bj h V=true):bj (h++J) V=true:=by
 unfold bj at e ⊢
 split at e
 ·rename_i o f
  rw[af8 (ag f),f];exact e
 cases e
theorem Nh{Y:Nat->PV}:∀{l:List Operand},Pc L h l->∀y∈l,bq (bj h) (ev (al L Y) y)=true
 |[],_,y,F=>by cases F
 |x::l,a,y,F=>by
  unfold Pc at a
  split at a
  ·rename_i v J
   rcases agi.1 F with rfl |F
   ·rw[ak J];have f:=a.1;unfold aei at f
    split at f
    simpa only[bq]using f;simpa only[bq]using f;exact f
   exact Nh a.2 y F
  exact a.elim
inductive DRd(ops:Array Oper)(i:Nat)(op:Op)(L:Al)(h:ab)(a:Prop):Prop
 |mk (k:Rn a) (hc:br h=true:=by first |exact HV.closed yxc|exact HR.closed yxc|assumption |rfl |((refine HV.closed ?_;repeat' (first |assumption |apply HV.cz |(refine HV.one ?_;simp <;>fail)|exact HV.nil)) <;>fail))
   (hv:Pc L h op.operands.toList:=by(repeat' (first |exact trivial |refine⟨?_,?_⟩|rfl |exact E3 yxc yxp|exact Ng yxb|exact zz (E3 yxc yxp)|exact zz (Ng yxb)|exact zz (zz (E3 yxc yxp)))) <;>fail)
 |m2 (k:Rn a) (hl:level ops (before ops) i=2:=by rfl)
inductive DTw(ops:Array Oper)(i:Nat)(a:Prop):Prop
 |mk (k:Rn a) (hl:level ops (before ops) i=2:=by rfl)
inductive DCa(C:cA)(ops:Array Oper)(i:Nat)(L:Al)(f:FuncId)(xs:List Operand)(us:List PV)(h:ab)(K:PV->ab->Prop):Prop
 |m2 (k:ah C 2 f us h λv h'=>Rn (K v h')) (hl:level ops (before ops) i=2:=by rfl)
 |o1 (r:PV) (a:ay C f us (h.map cm) (λr' h'=>r'=r/\h'.length=h.length)) (kk:Rn (K r h)) (hv:bB (bj h) us=true) (hm:C.mode f=.opened:=by rfl) (hl:level ops (before ops) i=1:=by rfl)
   (hc:br h=true:=by first |exact HV.closed yxc|exact HR.closed yxc|assumption)
 |mk (r:PV) (a:aT C f (aY us) r) (kk:Rn (K r h)) (hm:C.mode f=.pure:=by rfl) (hv:aw us=true:=by simp) (hc:br h=true:=by first |exact HV.closed yxc|exact HR.closed yxc|assumption |rfl |((refine HV.closed ?_;repeat' (first |assumption |apply HV.cz |(refine HV.one ?_;simp <;>fail)|exact HV.nil)) <;>fail))
inductive DBs(ops:Array Oper)(i:Nat)(op:Op)(L:Al)(h:ab)(es:List PV)(p q:Prop):Prop
 |mk (k:Rn q) (hv:aw es=false:=by rfl) (hl:level ops (before ops) i=2:=by rfl)
 |m2 (k:DRd ops i op L h p) (hv:aw es=true:=by first |rfl |(simp <;>fail))
theorem K5(J:Pc L h H.operands.toList):(H.operands.toList.all λy=>bq (bj h) (ev (al L Y) y))=true:=by
 rw[af9];exact Nh J
def dX(ops:Array Oper)(i:Nat)(l:List Oper):Al->ab->(Al->ab->Prop)->Prop:=
 List.rec (motive:=λ_=>Nat->Al->ab->(Al->ab->Prop)->Prop) (λ_ L h Q=>Q L h)
  (λo _ P i L h Q=>match gdX ops.toList o.guard L with
  |some true=>match uk o.op with
   |some (f,V)=>mB L f λv=>match v with
    | .fn f M=>pq L V λU=>wY U M λU=>DCa C ops i L f V U h λv d=>eV o.dst v L λL=>P (i+1) L d Q
    | .pK f k Y=>pq L V λU=>BS k Y λa=>rr k Y λb=>wY a U λU=>wY U b λU=>DCa C ops i L f V U h λv d=>eV o.dst v L λL=>P (i+1) L d Q
    |_=>False
   |none=>match cI o.op with
    |false=>vL T o.op L λv=>eV o.dst v L λL=>P (i+1) L h Q
    |true=>match abR o.op with
     |true=>DRd ops i o.op L h (sf T o.op L h λv=>eV o.dst v L λL=>P (i+1) L h Q)
     |false=>match o.op with
      | .buildSlice t n F=>Co T t n F.toList L λq S=>match Nat.beq S.length n with
       |true=>DBs ops i o.op L h S (eV o.dst (.aa true S) L λL=>P (i+1) L h Q) (uj T o.op L h λv d=>eV o.dst v L λL=>P (i+1) L d Q)
       |false=>False
      |op=>DTw ops i (uj T op L h λv d=>eV o.dst v L λL=>P (i+1) L d Q)
  |some false=>eV o.dst .undef L λL=>P (i+1) L h Q
  |none=>False) l i
theorem XI{o:Oper}{Q:Al->ab->Prop}:dX T ops i (o::r) L h Q=(
  match gdX ops.toList o.guard L with
  |some true=>match uk o.op with
   |some (f,args)=>mB L f λv=>match v with
    | .fn f M=>pq L args λus=>wY us M λus=>DCa C ops i L f args us h λv h'=>eV o.dst v L λL=>dX T ops (i+1) r L h' Q
    | .pK f k cs=>pq L args λus=>BS k cs λa=>rr k cs λb=>wY a us λus=>wY us b λus=>DCa C ops i L f args us h λv h'=>eV o.dst v L λL=>dX T ops (i+1) r L h' Q
    |_=>False
   |none=>match cI o.op with
    |false=>vL T o.op L λv=>eV o.dst v L λL=>dX T ops (i+1) r L h Q
    |true=>match abR o.op with
     |true=>DRd ops i o.op L h (sf T o.op L h λv=>eV o.dst v L λL=>dX T ops (i+1) r L h Q)
     |false=>match o.op with
      | .buildSlice t n F=>Co T t n F.toList L λsz es=>match Nat.beq es.length n with
       |true=>DBs ops i o.op L h es (eV o.dst (.aa true es) L λL=>dX T ops (i+1) r L h Q) (uj T o.op L h λv h'=>eV o.dst v L λL=>dX T ops (i+1) r L h' Q)
       |false=>False
      |op=>DTw ops i (uj T op L h λv h'=>eV o.dst v L λL=>dX T ops (i+1) r L h' Q)
  |some false=>eV o.dst .undef L λL=>dX T ops (i+1) r L h Q
  |none=>False):=rfl
theorem Ni{o:Oper}{c:Call}{f:Operand}{g:FuncId}{us0 fvs:List PV}{Q:St->Prop}{K:PV->ab->Prop}(H:bC ops o (al L Y)=some true)(t:o.op=.call c)(U:c.callee=.value f)
  (j:∀F:Nat->Bool,bq F (ev (al L Y) f)=bB F fvs) (N:Bw L c.args.toList=some us0) (q:∀y,y∈us0\/y∈fvs->y∈us) (X:∀run lv,ar C run lv o.op (al L Y) h=dG C run lv g us h) {xs:List Operand} (k:DCa C ops i L g xs us h K)
  (d:∀v h',K v h'->bh C ops (i+1) r ⟨⟨bZ (al L Y) o.dst v,h'⟩,h'.length,[]⟩ Q):bh C ops i (o::r) ⟨⟨al L Y,h⟩,h.length,[]⟩ Q:=by
 have R:cI o.op=true:=by rw[t];rfl
 have u:cO ((before ops).getD i 0).testBit h.length [] h=h:=by simp[cO]
 have S:bB (bj h) us=true->(o.op.operands.toList.all λy=>bq (bj h) (ev (al L Y) y))=true:=λJ=>by
  rw[dx,af9]at J;rw[t,af9]
  intro y b
  simp[Op.operands,Call.operands,U]at b;rcases b with rfl |b
  ·rw[j,dx,af9];exact λx hx=>J x (q x (.inr hx))
  ·refine J _ (q _ (.inl ?_));rw[<-gV (Y:=Y) N];exact agv.2 ⟨y,by simpa using b,rfl⟩
 cases k with
 |m2 k A=>
  obtain⟨v,h',w,B,z⟩:=k;exact bh.step (x1:=⟨⟨bZ (al L Y) o.dst v,h'⟩,h'.length,[]⟩) ⟨B,λn O=>by simp only[cM,H,R,agQ,if_false,A,if_true,X,z n O]⟩ (d _ _ w.out)
 |o1 v a w J e A G=>
  obtain⟨W,h',⟨rfl,D⟩,B,z⟩:=a;have D:h'.drop h.length=[]:=agU yxa;refine bh.step (x1:=⟨⟨bZ (al L Y) o.dst W,h⟩,h.length,[]⟩) ⟨B,λn O=>?_⟩ (d _ _ w.out)
  have M:dG C (dC C n) 1 g us h=some (W,h):=by
   unfold dG;simp[e,jj,eP,z n O,D]
  simp only[cM,H,R,agQ,if_false,A,u,G,S J,and_self,if_true,X,M];simp
 |mk P a w e J G=>
  have M:∃B,∀n lv,B<=n->1<=lv->dG C (dC C n) lv g us h=some (P,h):=by
   obtain⟨B,z⟩:=a;refine⟨B,λn lv O _=>?_⟩;obtain⟨r0,G,r1,V,N,Z⟩:=z n O;unfold dG;rw[e];simp only[dL,J,if_true,V,N,Z]
  obtain⟨B,z⟩:=M;refine bh.step (x1:=⟨⟨bZ (al L Y) o.dst P,h⟩,h.length,[]⟩) ⟨B,λn O=>?_⟩ (d _ _ w.out)
  by_cases A:level ops (before ops) i=2
  simp only[cM,H,R,agQ,if_false,A,if_true,X,z n 2 O yxa]
  ·simp only[cM,H,R,agQ,if_false,A,u,G,S (bg _ _ J),and_self,if_true,X,z n 1 O (agb _)];simp
theorem sj{ops:Array Oper}{Q:St->Prop}:∀{l:List Oper} {i:Nat} {L:Al} {h:ab} {K:Al->ab->Prop},dX T ops i l L h K->(∀L' h',K L' h'->Q ⟨al L' Y,h'⟩)->bh C ops i l ⟨⟨al L Y,h⟩,h.length,[]⟩ Q
 |[],i,L,h,K,x,b=>bh.nil (b _ _ x)
 |o::r,i,L,h,K,x,b=>by
  rw[XI]at x
  split at x
  ·rename_i M
   have H:=zy (Y:=Y) M
   have P:∀{v:PV},cI o.op=false->(∀X,ar C X 1 o.op (al L Y) h=some (v,h))->(eV o.dst v L λL=>dX T ops (i+1) r L h K)->bh C ops i (o::r) ⟨⟨al L Y,h⟩,h.length,[]⟩ Q:=λ{v} R J k=>
    bh.step (x1:=⟨⟨bZ (al L Y) o.dst v,h⟩,h.length,[]⟩) ⟨0,λn _=>by simp only[cM,H,R,if_true,J]⟩ (by rw[kH];exact sj (gF k) b)
   have a:∀{v:PV} {h':ab},cI o.op=true->level ops (before ops) i=2->(∃B,∀n,B<=n->ar C (dC C n) 2 o.op (al L Y) h=some (v,h'))->(eV o.dst v L λL=>dX T ops (i+1) r L h' K)->bh C ops i (o::r) ⟨⟨al L Y,h⟩,h.length,[]⟩ Q:=λ{v h'} R A J k=>by
    obtain⟨B,z⟩:=J;refine bh.step (x1:=⟨⟨bZ (al L Y) o.dst v,h'⟩,h'.length,[]⟩) ⟨B,λn O=>?_⟩ (by rw[kH];exact sj (gF k) b);simp only[cM,H,R,agQ,if_false,A,if_true,z n O]
   have j:∀{v:PV},cI o.op=true->br h=true->(o.op.operands.toList.all λy=>bq (bj h) (ev (al L Y) y))=true->(∃B,∀n W,B<=n->1<=W->ar C (dC C n) W o.op (al L Y) h=some (v,h))->(eV o.dst v L λL=>dX T ops (i+1) r L h K)->bh C ops i (o::r) ⟨⟨al L Y,h⟩,h.length,[]⟩ Q:=λ{v} R eW S J k=>by
    by_cases A:level ops (before ops) i=2
    ·obtain⟨B,z⟩:=J;exact a R A ⟨B,λn O=>z n 2 O yxa⟩ k
    ·obtain⟨B,z⟩:=J;refine bh.step (x1:=⟨⟨bZ (al L Y) o.dst v,h⟩,h.length,[]⟩) ⟨B,λn O=>?_⟩ (by rw[kH];exact sj (gF k) b);have hM:cO ((before ops).getD i 0).testBit h.length [] h=h:=by simp[cO]
     simp only[cM,H,R,agQ,if_false,A,hM,eW,S,and_self,if_true,z n 1 O (agb _)];simp
   split at x
   ·rename_i f V G
    obtain⟨v,e,k⟩:=bM x
    split at k
    ·rename_i dp
     obtain⟨U,N,k⟩:=iZ k;have k:=kG k
     have S:∃c:Call,o.op=.call c/\c.callee=.value f/\c.args.toList=V:=by
      exact zal
     obtain⟨c,g,t,q⟩:=S
     refine Ni H g t (fvs:=dp) (λF=>by rw[ak e];rfl) (us0:=U) (by rw[q];exact N) (λy d=>agh.2 d) (λX W=>by
      rw[g];simp only[ar,t,gp,ak e,q,gV N]) k (λv h' w=>?_)
     rw[kH];exact sj (gF w) b
    ·rename_i w D
     obtain⟨U,N,k⟩:=iZ k;obtain⟨_,k⟩:=qv k;obtain⟨_,k⟩:=j8 k;have k:=kG (kG k)
     have S:∃c:Call,o.op=.call c/\c.callee=.value f/\c.args.toList=V:=by
      exact zal
     obtain⟨c,g,t,q⟩:=S
     refine Ni H g t (fvs:=D) (λF=>by rw[ak e];rfl) (us0:=U) (by rw[q];exact N) (λy d=>by
      rcases d with d |d;simp[d]
      ·have:y∈D.take w++D.drop w:=by rw[ahu];exact d
       rcases agh.1 this with h |h;exact agh.2 (.inl (agh.2 (.inl h)))
       ·exact agh.2 (.inr h)) (λX W=>by
      rw[g];simp only[ar,t,gp,ak e,q,gV N]) k (λv h' w=>?_)
     rw[kH];exact sj (gF w) b
    exact k.elim
   ·split at x
    ·obtain⟨R,v,O,k⟩:=qa T x;exact P R (λX=>O X 1 Y h) k
    ·split at x
     ·rename_i R _ _
      cases x with
      |mk k G J=>
       obtain⟨_,v,O,k⟩:=jT T k.out;exact j R G (K5 J) ⟨0,λn W _ _=>O _ W Y⟩ k
      |m2 k A=>
       obtain⟨_,v,O,k⟩:=jT T k.out;exact a R A ⟨0,λn _=>O _ 2 Y⟩ k
     ·rename_i R _ _
      split at x
      ·rename_i S
       obtain⟨sz,es,k,u⟩:=pZ T x
       split at k
       ·have u:∀X W,aw es=true->ar C X W o.op (al L Y) h=some (.aa true es,h):=λX W J=>by
         rw[S];simp only[ar,aD,u];rw[if_pos J]
        cases k with
        |m2 k Z=>
         cases k with
         |mk k G J=>exact j R G (K5 J) ⟨0,λn W _ _=>u _ W Z⟩ k.out
         |m2 k A=>exact a R A ⟨0,λn _=>u _ 2 Z⟩ k.out
        |mk k _ A=>
         obtain⟨v,h',O,k⟩:=nq T k.out;exact a R A ⟨0,λn _=>O _ Y⟩ k
       exact k.elim
      ·cases x with
       |mk k A=>
        obtain⟨v,h',O,k⟩:=nq T k.out;exact a R A ⟨0,λn _=>O _ Y⟩ k
  ·rename_i M
   have H:=zy (Y:=Y) M;refine bh.step (x1:=⟨⟨bZ (al L Y) o.dst .undef,h⟩,h.length,[]⟩) ⟨0,λn _=>by simp only[cM,H]⟩ (by rw[kH];exact sj (gF x) b)
  exact x.elim
def EvF(C:cA)(h0:ab)(l:List Oper)(s:St)(Q:St->Prop):Prop:=∃U,Q U/\∃B,∀n,B<=n->eQ C (dC C n) [] h0 l s=some U
theorem EvF.step{o:Oper}{s1:St}{Q:St->Prop}(e:∃B,∀n,B<=n->fe C (dC C n) [] h0 o s=some s1)(k:EvF C h0 r s1 Q):EvF C h0 (o::r) s Q:=by
 obtain⟨S,t⟩:=e;obtain⟨y,q,B,z⟩:=k;exact⟨y,q,max B S,λn O=>by simp only[eQ,t n yxa,z n yxa]⟩
inductive FCa(C:cA)(f:FuncId)(us:List PV)(K:PV->Prop):Prop
 |p {us':List PV} {r:PV} (a:aT C f us' r) (kk:Rn (K r)) (hm:C.mode f=.pure:=by rfl) (hv:aw us=true:=by simp) (hn:aY us=us':=by simp)
def abS(H:Op)(L:Al):Option Nat:=match H with
 | .store _ a _=>(match cW L a with
  |some (.ptr V _ _ _)=>some V
  |_=>none)
 | .mapUpdate _ m _ _ | .insert _ m _ _=>(match cW L m with
  |some (.cq V)=>some V
  |_=>none)
 |_=>none
inductive FWt(h0:ab)(op:Op)(L:Al)(a:Prop):Prop
 |mk (k:Rn a) (hm:oF op=true:=by rfl)
 |m2 {id:Nat} (k:Rn a) (hw:nu op=true:=by rfl) (ht:abS op L=some id:=by rfl) (bL:h0.length<=id:=by first |exact agb _ |(simp;done)|(simp;omega))
theorem Uv(e:abS H L=some V):Qg H (al L Y)=some V:=by
 unfold abS at e
 split at e
 ·split at e
  ·rename_i U
   simp only[Qg,ak U];exact e
  ·cases e
 ·split at e
  ·rename_i U
   simp only[Qg,ak U];exact e
  ·cases e
 ·split at e
  ·rename_i U
   simp only[Qg,ak U];exact e
  ·cases e
 cases e
theorem aej(g:oF H=true):aD P 1 H Y h=aD P 2 H Y h:=by
 cases H <;>simp[oF]at g
 case alloc t=>simp[aD]
 case makeMap t x=>
  cases x with
  |some x=>simp at g
  |none=>simp[aD,lY]
def fX(h0:ab)(l:List Oper):Al->ab->(Al->ab->Prop)->Prop:=
 List.rec (motive:=λ_=>Al->ab->(Al->ab->Prop)->Prop) (λL h Q=>Q L h)
  (λo _ P L h Q=>match uk o.op with
   |some (f,V)=>mB L f λv=>match v with
    | .fn f M=>pq L V λU=>wY U M λU=>FCa C f U λv=>eV o.dst v L λL=>P L h Q
    |_=>False
   |none=>match cI o.op with
    |false=>vL T o.op L λv=>eV o.dst v L λL=>P L h Q
    |true=>match fF o.op with
     |true=>sf T o.op L h0 λv=>eV o.dst v L λL=>P L h Q
     |false=>match vn o.op with
      |true=>False
      |false=>FWt h0 o.op L (uj T o.op L h λv d=>eV o.dst v L λL=>P L d Q)) l
theorem XJ{o:Oper}{Q:Al->ab->Prop}:fX T h0 (o::r) L h Q=(match uk o.op with
   |some (f,args)=>mB L f λv=>match v with
    | .fn f M=>pq L args λus=>wY us M λus=>FCa C f us λv=>eV o.dst v L λL=>fX T h0 r L h Q
    |_=>False
   |none=>match cI o.op with
    |false=>vL T o.op L λv=>eV o.dst v L λL=>fX T h0 r L h Q
    |true=>match fF o.op with
     |true=>sf T o.op L h0 λv=>eV o.dst v L λL=>fX T h0 r L h Q
     |false=>match vn o.op with
      |true=>False
      |false=>FWt h0 o.op L (uj T o.op L h λv h'=>eV o.dst v L λL=>fX T h0 r L h' Q)):=rfl
theorem JG{h0:ab}{Q:St->Prop}:∀{l:List Oper} {L:Al} {h:ab} {K:Al->ab->Prop},fX T h0 l L h K->(∀u h',K u h'->Q ⟨al u Y,h'⟩)->EvF C h0 l ⟨al L Y,h⟩ Q
 |[],L,h,K,x,y=>⟨_,y _ _ x,0,λ_ _=>rfl⟩
 |o::r,L,h,K,x,y=>by
  rw[XJ]at x
  have X:∀{v:PV} {h':ab},(∃B,∀n,B<=n->fe C (dC C n) [] h0 o ⟨al L Y,h⟩=some ⟨bZ (al L Y) o.dst v,h'⟩)->(eV o.dst v L λL=>fX T h0 r L h' K)->EvF C h0 (o::r) ⟨al L Y,h⟩ Q:=λ{v h'} e k=>
   EvF.step e (by rw[kH];exact JG (gF k) y)
  split at x
  ·rename_i f V G
   obtain⟨v,e,k⟩:=bM x
   split at k
   ·rename_i g dp
    obtain⟨us,N,i⟩:=iZ k;have k2:=kG i;clear i
    have mP:∃c:Call,o.op=.call c/\c.callee=.value f/\c.args.toList=V:=by
     exact zal
    obtain⟨⟨cf,ca,ct⟩,A,t,q⟩:=mP;simp only at t q;subst t q
    cases k2 with
    |p a kk d J S=>
     obtain⟨B,D⟩:=a;refine X ⟨B,λn O=>?_⟩ kk.out;obtain⟨r0,AZ,r1,F,U,P⟩:=D n O
     have qx:rQ C o.op (al L Y)=true:=by
      rw[A];simp only[rQ,ak e,gV N,J,d,zE,ahd]
     have j:ar C (dC C n) 1 o.op (al L Y) h=some (b9 r1,h):=by
      rw[A];simp only[ar,gp,ak e,gV N,dG,d,dL,J,if_true,S,F,U]
     rw[P]at j;have R:cI o.op=true:=by rw[A];rfl
     have z:fF o.op=false:=by rw[A];rfl
     have M:I8 o.op=true:=by rw[A];rfl
     have W:vn o.op=false:=by rw[A];rfl
     simp only[fe,R,z,W,M,qx,j,agQ,agn,if_false,if_true]
   exact k.elim
  ·rename_i G
   split at x
   ·obtain⟨R,v,O,k⟩:=qa T x;exact X ⟨0,λn _=>by simp only[fe,R,if_true,O]⟩ k
   ·rename_i R
    split at x
    ·rename_i z
     obtain⟨_,v,O,k⟩:=jT T x;refine X ⟨0,λn _=>?_⟩ k;have:=O (dC C n) 1 Y;rw[fw (.inl z)]at this;have b:Lw [] o.op (al L Y)=true:=by unfold Lw;split <;>simp
     simp only[fe,R,z,b,agQ,if_false,if_true,this]
    ·rename_i z
     split at x
     exact x.elim
     rename_i W
     cases x with
     |mk k d=>
      obtain⟨v,h',O,k⟩:=nq T k.out;refine X ⟨0,λn _=>?_⟩ k;have:=O (dC C n) Y;rw[wx (.inl d),<-aej d]at this;simp only[fe,R,z,W,(qY d).2.2.1,d,agQ,agn,if_false,if_true,this]
     |m2 k H Z w=>
      obtain⟨v,h',O,k⟩:=nq T k.out;refine X ⟨0,λn _=>?_⟩ k;have:=O (dC C n) Y;rw[wx (.inr H)]at this;simp only[fe,R,z,W,(lV H).2.2.1,(lV H).2.2.2,Uv Z,decide_eq_true w,aiq,agQ,agn,if_false,if_true,this]
inductive UI(ops:Array Oper)(L:Al)(h:ab)(Q:Al->ab->Prop):Prop
 |mk (k:Rn (dX T ops 0 ops.toList L h Q)) (hk:(pO ops ||kb ops)=false:=by rfl)
 |raw (k:∀Y,bh C ops 0 ops.toList ⟨⟨al L Y,h⟩,h.length,[]⟩ (λs=>∃L' h',s=⟨al L' Y,h'⟩/\Q L' h')) (hk:(pO ops ||kb ops)=false:=by rfl)
 |calm (L':Al) (h':ab) (e:∀run Y,ka C run ops ⟨al L Y,h⟩=some ⟨al L' Y,h'⟩) (kk:Rn (Q L' h')) (hk:pO ops=true:=by rfl)
 |m2 (k:Rn (fX T h ops.toList L h Q)) (hk:(!pO ops&&kb ops)=true:=by rfl) (hw:∀Y,Eh ops (al L Y)=[]:=by intro _;rfl)
theorem Ev.regionF{Q:Ex->St->Prop}(k:EvF C h ops.toList ⟨al L Y,h⟩ (Q .normal))(g:(!pO ops&&kb ops)=true)(H:∀Y,Eh ops (al L Y)=[]):Ev C (.region V ops true) ⟨al L Y,h⟩ Q:=by
 obtain⟨y,q,B,z⟩:=k;simp only[age,ahg]at g;exact⟨.normal,y,q,B,λn m O X=>by simp only[bT,if_true,g.1,g.2,H,agn,if_false,z n O]⟩
inductive x8(C:cA) where
 |top (Q:Ex->St->Prop)
 |fn (f:Func) (Q:PV->ab->Prop)
 |seq (b:Code) (k:x8 C)
 |block (id:Nat) (k:x8 C)
 |loop (I:Al->ab->Prop) (k:x8 C)
theorem kI{k:IntKind}(h:a=b):some (PV.int k a)=some (PV.int k b):=by rw[h]
inductive Nx(I:Al->ab->Prop)(L:Al)(h:ab):Prop
 |nx {L':Al} (a:I L' h) (hk:NU L L':=by repeat(first |exact trivial |refine⟨?_,?_⟩|rfl |exact kI (by first |(simp;done)|(simp;omega)|omega)))
def NxS(I:Al->ab->Prop)(s:St):Prop:=∃L Y,s.Y=al L Y/\I L s.h
theorem Nx.out{I:Al->ab->Prop}(x:Nx I L h)(Y:Nat->PV):NxS I ⟨al L Y,h⟩:=by
 cases x with |nx a g=>exact⟨_,al L Y,congrArg St.Y (St.ba (h:=h) g),a⟩
def x8.den:x8 C->Ex->St->Prop
 | .top Q=>Q
 | .fn f Q=>aL C f Q
 | .seq b k=>aE C b k.den
 | .block id k=>az id k.den
 | .loop I k=>aO (NxS I) k.den
inductive abT(L:Al)(h:ab)(l:List ResultVar)(Q:PV->ab->Prop):Prop
 |mk {vs:List PV} (kk:Rn (Q (bo vs) h)) (hr:BA T L h l=some vs:=by rfl)
def Lu(L:Al):List ResultVar->(List PV->Prop)->Option Prop
 |[],k=>some (k [])
 | .tmp t::r,k=>match lk L t with
  |some v=>Lu L r λl=>k (v::l)
  |none=>none
 | .cell _ _::_,_=>none
theorem IG{L:Al}{Y:Nat->PV}{h:ab}:∀{l:List ResultVar} {k:List PV->Prop} {p:Prop},Lu L l k=some p->p->∃vs,dM C.P h (al L Y) l=some vs/\k vs
 |[],k,p,e,x=>⟨[],rfl,by rw[<-af7 e]at x;exact x⟩
 | .tmp t::r,k,p,e,x=>by
  simp only[Lu]at e
  split at e
  ·rename_i v J
   obtain⟨vs,O,X⟩:=IG (Y:=Y) (h:=h) e x;exact⟨v::vs,by simp[dM,fi J,O],X⟩
  cases e
 | .cell _ _::_,k,p,e,x=>by simp[Lu]at e
inductive dU(c:Code)(L:Al)(Y:Nat->PV)(h:ab)(k:x8 C):Prop
 |lpx (e:Ev C (.loop c) ⟨al L Y,h⟩ k.den)
inductive Tk where
 |c (c:Code)
 |e (e:Ex)
def j9(n:Nat):Tk->x8 C->Al->(Nat->PV)->ab->Prop:=
 Nat.rec (motive:=λ_=>Tk->x8 C->Al->(Nat->PV)->ab->Prop) (λ_ _ _ _ _=>False)
  (λn P V k L Y h=>match V with
   | .c c=>match c with
    | .skip=>P (.e .normal) k L Y h
    | .label _=>P (.e .normal) k L Y h
    | .region _ O false=>yR T O.toList O.toList L h λu d=>P (.e .normal) k u Y d
    | .region _ O true=>UI T O L h λu d=>P (.e .normal) k u Y d
    | .seq a b=>P (.c a) (.seq b k) L Y h
    | .cond c a b=>mB L c λv=>match v with
     | .bool true=>P (.c a) k L Y h
     | .bool false=>P (.c b) k L Y h
     |_=>False
    | .block id c=>P (.c c) (.block id k) L Y h
    | .loop c=>dU c L Y h k
    | .scope c=>P (.c c) k L Y h
    | .exit id=>P (.e (.exit id)) k L Y h
    | .ret=>P (.e .ret) k L Y h
    |_=>False
   | .e ex=>match k with
    | .top Q=>Q ex ⟨al L Y,h⟩
    | .fn f Q=>match ex with
     | .exit _=>False
     |_=>match Lu L f.results.toList λW=>Q (bo W) h with
      |some p=>p
      |none=>abT T L h f.results.toList Q
    | .seq b k=>match ex with
     | .normal=>P (.c b) k L Y h
     |ex=>P (.e ex) k L Y h
    | .block id k=>match ex with
     | .exit ee=>match Nat.beq ee id with
      |true=>P (.e .normal) k L Y h
      |false=>P (.e (.exit ee)) k L Y h
     |ex=>P (.e ex) k L Y h
    | .loop I k=>match ex with
     | .normal=>Nx I L h
     |ex=>P (.e ex) k L Y h) n
theorem abU{k:x8 C}:j9 T (n+1) (.c c) k L Y h=(match c with
  | .skip=>j9 T n (.e .normal) k L Y h
  | .label _=>j9 T n (.e .normal) k L Y h
  | .region _ ops false=>yR T ops.toList ops.toList L h λu h'=>j9 T n (.e .normal) k u Y h'
  | .region _ ops true=>UI T ops L h λu h'=>j9 T n (.e .normal) k u Y h'
  | .seq a b=>j9 T n (.c a) (.seq b k) L Y h
  | .cond c a b=>mB L c λv=>match v with
   | .bool true=>j9 T n (.c a) k L Y h
   | .bool false=>j9 T n (.c b) k L Y h
   |_=>False
  | .block id c=>j9 T n (.c c) (.block id k) L Y h
  | .loop c=>dU c L Y h k
  | .scope c=>j9 T n (.c c) k L Y h
  | .exit id=>j9 T n (.e (.exit id)) k L Y h
  | .ret=>j9 T n (.e .ret) k L Y h
  |_=>False):=rfl
theorem abV{A:Ex}{k:x8 C}:j9 T (n+1) (.e A) k L Y h=(match k with
  | .top Q=>Q A ⟨al L Y,h⟩
  | .fn f Q=>match A with
   | .exit _=>False
   |_=>match Lu L f.results.toList λvs=>Q (bo vs) h with
    |some p=>p
    |none=>abT T L h f.results.toList Q
  | .seq b k=>match A with
   | .normal=>j9 T n (.c b) k L Y h
   |A=>j9 T n (.e A) k L Y h
  | .block id k=>match A with
   | .exit ee=>match Nat.beq ee id with
    |true=>j9 T n (.e .normal) k L Y h
    |false=>j9 T n (.e (.exit ee)) k L Y h
   |A=>j9 T n (.e A) k L Y h
  | .loop I k=>match A with
   | .normal=>Nx I L h
   |A=>j9 T n (.e A) k L Y h):=rfl
theorem dW:∀{n:Nat} {t:Tk} {k:x8 C} {L:Al} {Y:Nat->PV} {h:ab},j9 T n t k L Y h->match t with | .c c=>Ev C c ⟨al L Y,h⟩ k.den | .e A=>k.den A ⟨al L Y,h⟩
 |0,_,_,_,_,_,x=>x.elim
 |n+1,.c c,k,L,Y,h,x=>by
  have j:∀{u:Al} {d:ab},j9 T n (.e .normal) k u Y d->k.den .normal ⟨al u Y,d⟩:=λy=>dW (n:=n) (t:=.e .normal) y
  show Ev C c ⟨al L Y,h⟩ k.den;rw[abU]at x
  split at x
  exact Ev.skip (j x);exact Ev.label (j x);exact Ev.region (jr T x λ_ _ y=>j y)
  ·cases x with
   |mk x g=>exact Ev.lT (sj T x.out λ_ _ y=>j y) g
   |raw x g=>
    obtain⟨y,⟨u,d,e,q⟩,B,z⟩:=x Y;exact Ev.lT ⟨y,by rw[e];exact j q,B,z⟩ g
   |calm u d e w g=>exact⟨.normal,⟨al u Y,d⟩,j w.out,0,λn m _ _=>by simp only[bT,if_true,g,e]⟩
   |m2 x g H=>exact Ev.regionF (JG T x.out λ_ _ y=>j y) g H
  exact Ev.seq (dW (n:=n) (t:=.c _) (k:=.seq _ k) x)
  ·obtain⟨v,e,k⟩:=bM x
   split at k
   exact Ev.LQ (ak e Y) (dW (n:=n) (t:=.c _) k);exact Ev.LS (ak e Y) (dW (n:=n) (t:=.c _) k);exact k.elim
  exact Ev.block (dW (n:=n) (t:=.c _) (k:=.block _ k) x)
  cases x with |lpx e=>exact e
  exact Ev.scope (dW (n:=n) (t:=.c _) x);exact Ev.exit (dW (n:=n) (t:=.e _) x);exact Ev.ret (dW (n:=n) (t:=.e _) x);exact x.elim
 |n+1,.e A,k,L,Y,h,x=>by
  show k.den A ⟨al L Y,h⟩;rw[abV]at x
  split at x
  exact x
  ·have J:∀{A:Ex} {f:Func} {Q:PV->ab->Prop},(A=.normal\/A=.ret)->(match Lu L f.results.toList λa=>Q (bo a) h with |some p=>p |none=>abT T L h f.results.toList Q)->aL C f Q A ⟨al L Y,h⟩:=λ{A f Q} M y=>by
    split at y
    ·rename_i p K
     obtain⟨a,O,X⟩:=IG (C:=C) (Y:=Y) (h:=h) K y;exact⟨M,a,O,X⟩
    cases y with |mk w i=>exact⟨M,_,zr T i,w.out⟩
   split at x
   exact x.elim
   ·rename_i b
    refine J ?_ x
    cases A with
    |normal=>exact .inl rfl
    |ret=>exact .inr rfl
    |exit V=>exact absurd rfl (b V)
  ·split at x
   ·exact aE.normal (dW (n:=n) (t:=.c _) x)
   ·have:=dW (n:=n) (t:=.e _) x
    cases A with
    |normal=>simp_all
    |ret=>exact aE.ret this
    |exit V=>exact aE.exit this
  ·split at x
   ·split at x
    ·rename_i W
     have:=agW W;subst this;exact az.UC (dW (n:=n) (t:=.e _) x)
    ·rename_i W
     exact az.RG (by rw[beq_eq_false_iff_ne];rintro rfl;rw[Nat.beq_refl]at W;cases W) (dW (n:=n) (t:=.e _) x)
   ·have:=dW (n:=n) (t:=.e _) x
    cases A with
    |normal=>exact az.normal this
    |ret=>exact az.ret this
    |exit V=>simp_all
  ·split at x
   ·exact x.out Y
   ·have:=dW (n:=n) (t:=.e _) x
    cases A with
    |normal=>simp_all
    |ret=>exact aO.ret this
    |exit V=>exact aO.exit this
theorem ah.p{args':List PV}{r:PV}(a:aT C f args' r)(q:Q r h)(d:C.mode f=.pure:=by rfl)(J:aw args=true:=by simp)(hn:aY args=args':=by simp):ah C lv f args h Q:=
 ah.pure d J (hn▸a) q
theorem DCa.p{u:List PV}{K:PV->ab->Prop}{r:PV}(a:aT C f u r)(w:Rn (K r h))(d:C.mode f=.pure:=by rfl)(J:aw us=true:=by simp)(hn:aY us=u:=by simp)
  (G:br h=true:=by first |exact HV.closed yxc|exact HR.closed yxc|assumption |rfl |((refine HV.closed ?_;repeat' (first |assumption |apply HV.cz |(refine HV.one ?_;simp <;>fail)|exact HV.nil)) <;>fail)):DCa C ops i L f xs us h K:=.mk r (hn▸a) w d J G
theorem ay.x{i:Func}(u:C.P.funcs[f]?=some i)(W:i.body=some c)
  (k:Rn (j9 T 10000 (.c c) (.fn i Q) (Bx 0 args) (λ_=>.undef) h)):ay C f args h Q:=ay.gk u W (dW T k.out)
theorem aT.xd{i:Func}{r:PV}(u:C.P.funcs[f]?=some i)(W:i.body=some c)
  (k:Rn (j9 T 10000 (.c c) (.fn i λR G=>∃b,yb G R=some b/\b9 b=r) (Bx 0 args) (λ_=>.undef) [])):aT C f args r:=aT.ofX (ay.x T u W k)
theorem aT.x{f:FuncId}{i:Func}{c:Code}{args:List PV}{r:PV}(u:C.P.funcs[f]?=some i)(W:i.body=some c)
  (k:Rn (j9 T 10000 (.c c) (.fn i λR G=>∃b,rb G R=some b/\b9 b=r) (Bx 0 args) (λ_=>.undef) [])):aT C f args r:=aT.of (ay.x T u W k)
theorem qg:∀{l:List PV},aw l=true->iR h l=some l:=by
 have V:∀{c:PV},aW c=true->rf h c=some c:=λ{c} G=>by
  unfold rf
  split
  simp[aW]at G;rw[if_pos G]
 have H:∀Y:List PV,aw Y=true->oE h Y=some Y:=by
  intro Y
  induction Y with
  |nil=>intro _;rfl
  |cons c Y P=>
   intro R
   simp only[aw,age]at R;simp only[oE,V R.1,P R.2]
 intro l
 induction l with
 |nil=>intro _;rfl
 |cons c l P=>
  intro A
  simp only[aw,age]at A
  have:kZ h c=some c:=by
   unfold kZ
   split
   rw[H _ (by simpa[aW]using A.1)];rfl;exact V A.1
  simp only[iR,P A.2,this]
theorem ah.po{v:PV}{e t:List PV}(o:Out sz h v es)(a:aT C f (.aa false e::t) rv)(q:∀h',(h'=h\/∃V ep,v=.an V ep 0 es.length/\h'=h.set V ⟨.f,ep,sz,es⟩)->Q rv h')
  (d:C.mode f=.pure:=by rfl) (J:aw es=true:=by simp) (z:aw rest=true:=by simp) (hn:aY es=e:=by simp) (u:aY rest=t:=by simp):ah C 2 f (v::rest) h Q:=by
 subst hn u;rcases o with⟨rfl,rfl⟩|⟨V,ep,rfl,N⟩;exact ah.pure d (by simp[aw,aW,z]) yxq (q h (.inl rfl))
 ·obtain⟨B,hn⟩:=a
  by_cases S:fm rv=true
  ·refine⟨rv,h,q h (.inl rfl),B,λn O=>?_⟩;obtain⟨H,G,b,D,P,M⟩:=hn n O;have g:fm b=true:=by have:=lE b;rw[M]at this;rw[<-this];exact S
   have W:iR h (.an V ep 0 es.length::rest)=some (.aa false es::rest):=by
    simp[iR,kZ,rf,getM,N,J,qg z]
   unfold dG;rw[d];have i:aw (.an V ep 0 es.length::rest)=false:=rfl;have y:aY (PV.aa false es::rest)=.aa false (aY es)::aY rest:=rfl;simp only[dL,i,agn,if_false,W,y,D,P,g,aiq,if_true,M]
  ·have S:fm rv=false:=by simpa using S
   refine⟨rv,h.set V ⟨.f,ep,sz,es⟩,q _ (.inr ⟨V,ep,rfl,rfl⟩),B,λn O=>?_⟩;obtain⟨H,G,b,D,P,M⟩:=hn n O;have g:fm b=false:=by have:=lE b;rw[M]at this;rw[<-this];exact S
   have W:iR h (.an V ep 0 es.length::rest)=some (.aa false es::rest):=by
    simp[iR,kZ,rf,getM,N,J,qg z]
   have y:aY (PV.aa false es::rest)=.aa false (aY es)::aY rest:=rfl
   have A:∀l:List PV,aw l=true->jQ l=[]:=by
    have F:∀c:PV,aW c=true->tJ c=[]:=λc G=>by cases c <;>first |rfl |simp[aW]at G
    intro l
    induction l with
    |nil=>intro _;rfl
    |cons c l j=>
     intro R
     simp only[aw,age]at R
     have:(cells c).flatMap tJ=[]:=by
      rw[List.flatMap_eq_nil_iff]
      intro x U
      cases c with
      |agg Y=>
       refine F x ?_;have X:aw Y=true:=by simpa[aW]using R.1
       rw[bz,af9]at X;exact X x U
      |_=>simp[cells]at U;subst U;exact F _ R.1
     simp only[jQ,ahC]at j ⊢;rw[this,j R.2];rfl
   have K:jQ (PV.an V ep 0 es.length::rest)=[V]:=by
    have:=A rest z;simp only[jQ,ahC]at this ⊢;rw[this];rfl
   have Z:pM h [V]=false:=by simp[pM,N]
   have w:gm h [V]=some (h.set V ⟨.f,ep,sz,es⟩):=by simp[gm,mO,N,J]
   unfold dG;rw[d];have i:aw (.an V ep 0 es.length::rest)=false:=rfl;simp only[dL,i,agn,if_false,W,y,D,P,K,g,Z,Bool.or_self,agb,if_true,w,ago,M]
def hC(H h':ab):Prop:=∃J,HV J/\h'=H++J
theorem aT.ex{C:cA}{Q:PV->Prop}{F:PV->PV}(a:ay C f args [] (λR G=>∃x,Q x/\∃b,rb G R=some b/\b9 b=F x)):∃x,Q x/\aT C f args (F x):=by
 obtain⟨r,h,⟨x,q,b,D,N⟩,e⟩:=a;exact⟨x,q,aT.of ⟨r,h,⟨b,D,N⟩,e⟩⟩
theorem hC.refl(H:ab):hC H H:=⟨[],HV.nil,by simp⟩
theorem hC.trans{a b c:ab}(x:hC a b)(y:hC b c):hC a c:=by
 obtain⟨J,N,rfl⟩:=x;obtain⟨K,n,rfl⟩:=y;exact⟨J++K,N.cz n,by rw[ags]⟩
theorem hC.cz{H:ab}(x:hC H h)(N:HV J):hC H (h++J):=x.trans ⟨J,N,rfl⟩
theorem hC.at{H:ab}(x:hC H h)(e:H[i]?=some o):h[i]?=some o:=by
 obtain⟨J,_,rfl⟩:=x;rw[af8 (ag e)];exact e
theorem hC.hv{H:ab}(x:hC H h)(w:HV H):HV h:=by
 obtain⟨J,N,rfl⟩:=x;exact w.cz N
theorem ah.ex{H:ab}{v:PV}(a:ay C f args H (λr h'=>r=v/\hC H h'))(q:∀h',hC H h'->Q v h')(d:C.mode f=.opened:=by rfl):ah C 2 f args H Q:=by
 refine ah.opened d (a.mono λr k z=>?_);obtain⟨rfl,J,N,rfl⟩:=z
 split
 ·rw[List.take_left];exact q _ (hC.refl _)
 exact q _ ⟨J,N,rfl⟩
def Fz(sz:Nat)(h:ab)(v:PV)(es:List PV)(h':ab):Prop:=h'=h\/∃V g,v=.an V g 0 es.length/\h'=h.set V ⟨.f,g,sz,es⟩
theorem ah.pl{v:PV}(o:Ls sz h v es)(a:aT C f (.aa false U::j) rv)(q:∀h',Fz sz h v es h'->Q rv h')
  (d:C.mode f=.pure:=by rfl) (J:aw es=true:=by simp) (z:aw rest=true:=by simp) (hn:aY es=U:=by simp) (t:aY rest=j:=by simp):ah C 2 f (v::rest) h Q:=by
 rcases o with o |⟨n,rfl⟩;exact ah.po o a q d J z hn t
 ·subst hn t;exact ah.pure d (by simp[aw,aW,J,z]) yxq (q h (.inl rfl))
theorem ah.plS{v:PV}(o:Ls sz h v es)(a:aT C f (.aa false U::j) rv)(q:Q rv h)(S:fm rv=true:=by rfl)
  (d:C.mode f=.pure:=by rfl) (J:aw es=true:=by simp) (z:aw rest=true:=by simp) (hn:aY es=U:=by simp) (t:aY rest=j:=by simp):ah C 2 f (v::rest) h Q:=by
 subst hn t;rcases o with o |⟨n,rfl⟩;exact ah.out d o J z a S q;exact ah.pure d (by simp[aw,aW,J,z]) yxq q
theorem Ls.kZ{sz:Nat}{h:ab}{v:PV}{es:List PV}(o:Ls sz h v es)(J:aw es=true):∃b,Pm.kZ h v=some b/\b9 b=.aa false (aY es):=by
 rcases o with o |⟨f,rfl⟩;exact o.kZ J;exact⟨.aa f es,by simp[Pm.kZ,rf,aW,J],rfl⟩
theorem Ls.Cy{v:PV}{k:IntKind}{n:Int}(o:Ls sz h v es)(J:aw es=true:=by simp)(hn:aY es=U:=by simp):∃b,rb h (bo [v,.int k n])=some b/\b9 b=.b8 [.aa false U,.int k n]:=by
 obtain⟨b,O,X⟩:=o.kZ J;refine⟨.b8 [b,.int k n],by simp only[bo,rb,iR,O];rfl,?_⟩;simp only[b9,aY,X,hn]
theorem Ls.NO{v:PV}(o:Ls sz h v es)(J:aw es=true:=by simp)(hn:aY es=U:=by simp):∃b,rb h (bo [v])=some b/\b9 b=.aa false U:=by
 obtain⟨b,O,X⟩:=o.kZ J;rw[hn]at X;rcases o with(⟨rfl,rfl⟩|⟨V,g,rfl,e⟩)|⟨f,rfl⟩ <;>exact⟨b,O,X⟩
theorem dU.nat{k:x8 C}(I:Nat->Al->ab->Prop)(n:Nat)(h0:Nx (I n) L h)
  (D:∀n L h Y,I n L h->Rn (j9 T 10000 (.c c) (.loop (λL h=>∃j,j<n/\I j L h) k) L Y h)):dU c L Y h k:=by
 refine⟨Ev.loop (λn=>NxS (I n)) n (h0.out Y) ?_⟩;rintro n ⟨y,S⟩ ⟨L,Y,e,d⟩;have e:y=al L Y:=e;subst e;obtain⟨A,U,q,z⟩:=dW T (D n L S Y d).out;refine⟨A,U,?_,z⟩
 cases A with
 |normal=>
  obtain⟨u,b,O,j,X,Q⟩:=q;exact⟨j,X,u,b,O,Q⟩
 |ret=>exact q
 |exit V=>exact q
theorem dU.zip{v:Type}{k:x8 C}(l:List v)(I:List v->List v->Al->ab->Prop)(h0:Nx (I [] l) L h)
  (D:∀p a q L h Y,l=p++a::q->I p (a::q) L h->Rn (j9 T 10000 (.c c) (.loop (I (p++[a]) q) k) L Y h))
  (w:∀L h Y,I l [] L h->Rn (j9 T 10000 (.c c) (.loop (λ_ _=>False) k) L Y h)):dU c L Y h k:=by
 refine⟨Ev.loop (λn s=>∃p q,l=p++q/\q.length=n/\NxS (I p q) s) l.length ⟨[],l,rfl,rfl,h0.out Y⟩ ?_⟩;rintro n ⟨y,S⟩ ⟨p,q,e,z,L,Y,N,d⟩;have N:y=al L Y:=N;subst N
 cases q with
 |nil=>
  rw[agC]at e;subst e;obtain⟨A,U,q,z⟩:=dW T (w L S Y d).out;refine⟨A,U,?_,z⟩
  cases A with
  |normal=>obtain⟨_,_,_,u⟩:=q;exact u.elim
  |ret=>exact q
  |exit V=>exact q
 |cons a q=>
  obtain⟨A,U,Q,t⟩:=dW T (D p a q L S Y e d).out;refine⟨A,U,?_,t⟩
  cases A with
  |normal=>exact⟨q.length,by simp at z;omega,p++[a],q,by simp[e],rfl,Q⟩
  |ret=>exact Q
  |exit V=>exact Q
end
end Go.Pm
namespace Go.Pm
open Go.Proofs
attribute [local irreducible] aE az aO aL Ev ai ah ay bh
set_option maxRecDepth 4000
set_option maxHeartbeats 4000000
theorem CX(l:List Tm)(t:Tm):ae l++[enc t]=ae (l++[t]):=by rw[dw,dw];simp
theorem AB{B:Nat}:∀{l:List Tm},(∀t∈l,aC t<=B)->bm l<=l.length * B
 |[],_=>by simp[bm]
 |t::l,h=>by
  have O:=h t yxb;have X:=AB (l:=l) (λu y=>h u yxj);simp only[bm,agj,Nat.succ_mul];omega
end Go.Pm
