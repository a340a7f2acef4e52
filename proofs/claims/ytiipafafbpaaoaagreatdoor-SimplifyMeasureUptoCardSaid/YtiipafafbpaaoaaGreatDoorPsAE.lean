/-
  Pm, a part. Conditions: none.
-/
import Derived.Test.YtiipafafbpaaoaaGreatDoorPsAD
import Derived.Test.YtiipafafbpaaoaaGreatDoorProg
import Derived.KernelRfl
import Derived.Lib.Bytealg
set_option linter.unusedVariables false
set_option linter.unusedSimpArgs false
set_option linter.unnecessarySimpa false
set_option linter.unusedSectionVars false
namespace Go.Pm
variable{x:Operand}{H:Op}{h':ab}{p:PV}{cs:List PV}{sz:Nat}
def bh(C:cA)(ops:Array Oper)(i:Nat)(l:List Oper)(x:zd)(Q:St->Prop):Prop:=
 ∃y:zd,Q y.s/\∃B,∀n,B<=n->dQ C (dC C n) ops (before ops) i l x=some y
variable{C:cA}(T:li C.P)
variable{ops:Array Oper}{i:Nat}{d:Nat}{ty:TypeId}{pos:String}{af:Array Edge}{r:List Oper}{Y:Nat->PV}{L:List (Nat×PV)}{h:ab}{L0:Nat}{own:List Nat}{Q:St->Prop}
theorem Ev.lT{V:Nat}{Q:Ex->St->Prop}(k:bh C ops 0 ops.toList ⟨⟨al L Y,h⟩,h.length,[]⟩ (Q .normal))(g:(pO ops ||kb ops)=false:=by rfl):Ev C (.region V ops true) ⟨al L Y,h⟩ Q:=by
 obtain⟨y,q,B,z⟩:=k;obtain⟨f,A⟩:=ahZ.1 g;exact⟨.normal,y.s,q,B,λn m O X=>by simp only[bT,if_true,f,A,agn,if_false,z n O,ago]⟩
theorem bh.nil{s:St}(k:Q s):bh C ops i [] ⟨s,L0,own⟩ Q:=⟨⟨s,L0,own⟩,k,0,λ_ _=>rfl⟩
theorem bh.step{o:Oper}{x x1:zd}(e:∃B,∀n,B<=n->cM C (dC C n) ops (before ops) i o x=some x1)(k:bh C ops (i+1) r x1 Q):bh C ops i (o::r) x Q:=by
 obtain⟨S,t⟩:=e;obtain⟨y,q,B,z⟩:=k;exact⟨y,q,max B S,λn O=>by simp only[dQ,t n yxa,z n yxa]⟩
theorem bh.plain{v:PV}(R:cI H=false)(G:∀run,ar C run 1 H (al L Y) h=some (v,h'))(k:bh C ops (i+1) r ⟨⟨al ((d,v)::L) Y,h⟩,L0,own⟩ Q):
  bh C ops i (⟨some d,H,ty,pos,af,none⟩::r) ⟨⟨al L Y,h⟩,L0,own⟩ Q:=by
 refine bh.step ⟨0,λn _=>?_⟩ k;simp only[cM,bC,R,if_true,G,cy]
theorem bh.two{v:PV}(R:cI H=true)(A:level ops (before ops) i=2)(G:∃B,∀n,B<=n->ar C (dC C n) 2 H (al L Y) h=some (v,h'))(k:bh C ops (i+1) r ⟨⟨al ((d,v)::L) Y,h'⟩,h'.length,[]⟩ Q):
  bh C ops i (⟨some d,H,ty,pos,af,none⟩::r) ⟨⟨al L Y,h⟩,L0,own⟩ Q:=by
 obtain⟨B,z⟩:=G;refine bh.step ⟨B,λn O=>?_⟩ k;simp only[cM,bC,R,agQ,if_false,A,if_true,z n O,cy]
theorem bh.one{v:PV}(R:cI H=true)(A:level ops (before ops) i≠2)(V:br h=true)(S:(H.operands.toList.all λy=>bq (bj h) (ev (al L Y) y))=true)
  (G:∃B,∀n,B<=n->ar C (dC C n) 1 H (al L Y) h=some (v,h)) (k:bh C ops (i+1) r ⟨⟨al ((d,v)::L) Y,h⟩,h.length,[]⟩ Q):
  bh C ops i (⟨some d,H,ty,pos,af,none⟩::r) ⟨⟨al L Y,h⟩,h.length,[]⟩ Q:=by
 obtain⟨B,z⟩:=G;refine bh.step ⟨B,λn O=>?_⟩ k;have u:cO ((before ops).getD i 0).testBit h.length [] h=h:=by simp[cO]
 simp only[cM,bC,R,agQ,if_false,A,u,V,S,and_self,if_true,z n O,cy];simp
theorem dx(f:Nat->Bool)(cs:List PV):bB f cs=cs.all (bq f):=by
 induction cs with
 |nil=>rfl
 |cons c r P=>simp[bB,P]
theorem bh.read{v:PV}(R:cI H=true)(V:br h=true)(S:(H.operands.toList.all λy=>bq (bj h) (ev (al L Y) y))=true)
  (G:∃B,∀n lv,B<=n->1<=lv->ar C (dC C n) lv H (al L Y) h=some (v,h)) (k:bh C ops (i+1) r ⟨⟨al ((d,v)::L) Y,h⟩,h.length,[]⟩ Q):
  bh C ops i (⟨some d,H,ty,pos,af,none⟩::r) ⟨⟨al L Y,h⟩,h.length,[]⟩ Q:=by
 obtain⟨B,z⟩:=G
 by_cases A:level ops (before ops) i=2
 exact bh.two R A ⟨B,λn O=>z n 2 O yxa⟩ k;exact bh.one R A V S ⟨B,λn O=>z n 1 O (agb _)⟩ k
theorem D.move{x:Operand}{v:PV}(U:cW L x=some v)(k:bh C ops (i+1) r ⟨⟨al ((d,v)::L) Y,h⟩,L0,own⟩ Q):bh C ops i (⟨some d,.move x,ty,pos,af,none⟩::r) ⟨⟨al L Y,h⟩,L0,own⟩ Q:=
 bh.plain (h':=h) rfl (λX=>by simp only[ar,aD,ak U]) k
theorem D.assign{x:Operand}{v:PV}(U:cW L x=some v)(k:bh C ops (i+1) r ⟨⟨al ((d,v)::L) Y,h⟩,L0,own⟩ Q):bh C ops i (⟨some d,.assign x,ty,pos,af,none⟩::r) ⟨⟨al L Y,h⟩,L0,own⟩ Q:=
 bh.plain (h':=h) rfl (λX=>by simp only[ar,aD,ak U]) k
theorem D.fieldAddr{s:TypeId}{x:Operand}{f V ep j o off:Nat}{F:TypeId}{G:List (Nat×TypeId)}{sz:Nat}(U:cW L x=some (.ptr V ep j o))(g:T.kd s=some (.st G))(u:G[f]?=some (off,F))(S:T.ts F=some (sz+1))
  (k:bh C ops (i+1) r ⟨⟨al ((d,.ptr V ep j (o+off))::L) Y,h⟩,L0,own⟩ Q):bh C ops i (⟨some d,.fieldAddr s x f,ty,pos,af,none⟩::r) ⟨⟨al L Y,h⟩,L0,own⟩ Q:=
 bh.plain (h':=h) rfl (λX=>by simp[ar,aD,ak U,iu,pp T g u S]) k
theorem D.kr{t:TypeId}{c:PV}(V:br h=true)(U:cW L x=some p)(J:bq (bj h) p=true)(S:T.ts t=some sz)(Z:T.ta t=some false)(K:dP h p=some (c::cs))
  (k:bh C ops (i+1) r ⟨⟨al ((d,c)::L) Y,h⟩,h.length,[]⟩ Q):bh C ops i (⟨some d,.load t x,ty,pos,af,none⟩::r) ⟨⟨al L Y,h⟩,h.length,[]⟩ Q:=
 bh.read rfl V (by simp[Op.operands,ak U,J]) ⟨0,λn W _ _=>by simp[ar,aD,ak U,jO,T.eT _ _ S,T.Ts _ _ Z,K]⟩ k
theorem D.vK{t:TypeId}{f:List PV}(V:br h=true)(U:cW L x=some p)(J:bq (bj h) p=true)(S:T.ts t=some (sz+1))(Z:T.ta t=some true)(K:dP h p=some cs)(G:ug (sz+1) cs f)
  (k:bh C ops (i+1) r ⟨⟨al ((d,.agg f)::L) Y,h⟩,h.length,[]⟩ Q):bh C ops i (⟨some d,.load t x,ty,pos,af,none⟩::r) ⟨⟨al L Y,h⟩,h.length,[]⟩ Q:=by
 obtain⟨rfl,a⟩:=G.eq;exact bh.read rfl V (by simp[Op.operands,ak U,J]) ⟨0,λn W _ _=>by simp[ar,aD,ak U,jO,T.eT _ _ S,T.Ts _ _ Z,K,a]⟩ k
theorem D.lj{t el:TypeId}{Z:Operand}{full:Bool}{es:List PV}{k:IntKind}{j:Nat}{v:PV}(V:br h=true)(U:cW L x=some (.aa full es))(B:cW L Z=some (.int k (j:Int)))(g:T.kd t=some (.sl el))(S:T.ts el=some (sz+1))
  (J:es[j]?=some v) (G:cells v=cs) (A:cs.length=sz+1) (w:bh C ops (i+1) r ⟨⟨al ((d,.eX cs)::L) Y,h⟩,h.length,[]⟩ Q):bh C ops i (⟨some d,.indexAddr t x Z,ty,pos,af,none⟩::r) ⟨⟨al L Y,h⟩,h.length,[]⟩ Q:=by
 have F:j<es.length:=by
  rcases agM j es.length with h |h;exact h;rw[agr h]at J;cases J
 subst G;have q:es[j]=v:=by rw[agd F]at J;exact af7 J
 exact bh.read rfl V (by simp[Op.operands,ak U,ak B,bq]) ⟨0,λn W _ _=>by simp[ar,aD,ak U,ak B,cT,bG (T.dA _ _ g),T.eT _ _ S,F,q,A]⟩ w
theorem _root_.zci{P:Prop}(h:P:=by
 rw[dx]at e;have:ev (al L Y) y∈args:=by rw[<-q];exact agv.2 ⟨y,F,rfl⟩
 exact af9.1 e _ this):P:=h
theorem D.pR{xs:List Operand}{J:Array TypeId}{f:FuncId}{M args:List PV}{v:PV}(V:br h=true)(u:cW L x=some (.fn f M))(j:Bw L xs=some args)(t:C.mode f=.pure)(w:aw (args++M)=true)
  (e:bB (bj h) args=true) (g:bB (bj h) M=true) (a:aT C f (aY (args++M)) v)
  (k:bh C ops (i+1) r ⟨⟨al ((d,v)::L) Y,h⟩,h.length,[]⟩ Q):bh C ops i (⟨some d,.call ⟨.value x,xs.toArray,J⟩,ty,pos,af,none⟩::r) ⟨⟨al L Y,h⟩,h.length,[]⟩ Q:=by
 obtain⟨B,z⟩:=a;have q:=gV (Y:=Y) j;refine bh.read rfl V ?_ ⟨B,λn W O X=>?_⟩ k
 ·rw[af9]
  intro y F
  simp[Op.operands,Call.operands]at F;rcases F with rfl |F;rw[ak u];simpa[bq]using g
  ·exact zci
 ·obtain⟨R,G,A,b,N,P⟩:=z n O;simp only[ar,gp,ak u];unfold dG;rw[t];simp only[q,dL,w,if_true,b,N,P]
end Go.Pm
namespace Go.Pm
variable{x y:Operand}{G V Z b ep i j lv n sz:Nat}{k:IntKind}{c e p z:PV}{cs es ys:List PV}{P:List Nat}{full t:Bool}{o:ax}{h:ab}{H:Op}
variable{C:cA}(T:li C.P)
variable{ops:Array Oper}{d:Nat}{ty:TypeId}{pos:String}{af:Array Edge}{r:List Oper}{Y:Nat->PV}{L:List (Nat×PV)}{h:ab}{Q:St->Prop}
theorem R.wu{t:TypeId}{Z:Operand}{s:ByteArray}{b:UInt8}(U:cW L x=some (.str s))(B:cW L Z=some (.int k (i:Int)))(g:T.kd t=some .str)(J:s[i]?=some b)
  (w:ai C ops r ⟨al ((d,.int .u8 b.toNat)::L) Y,h⟩ Q):ai C ops (⟨some d,.index t x Z,ty,pos,af,none⟩::r) ⟨al L Y,h⟩ Q:=
 ai.fO (λX=>by simp[ar,aD,ak U,ak B,zD,qX (T.dA _ _ g),J]) w
theorem R.max{ts:Array TypeId}{x y:Operand}{k:IntKind}{a b:Int}(U:cW L x=some (.int k a))(F:cW L y=some (.int k b))(w:ai C ops r ⟨al ((d,.int k (max a b))::L) Y,h⟩ Q):
  ai C ops (⟨some d,.call ⟨.builtin .max,#[x,y],ts⟩,ty,pos,af,none⟩::r) ⟨al L Y,h⟩ Q:=by
 refine ai.fO (v:=.int k (Max.max a b)) (λX=>?_) w;have:(if b>a then b else a)=Max.max a b:=by split <;>omega
 simp[ar,ak U,ak F,bA,Qd,this]
theorem R.Tv{t u:TypeId}{a b:ByteArray}(U:cW L x=some (.str a))(F:cW L y=some (.str b))(e:a.toList=b.toList)(f:ai C ops r ⟨al ((d,(.bool true))::L) Y,h⟩ Q):
  ai C ops (⟨some d,.binOp .eql t x y u,ty,pos,af,none⟩::r) ⟨al L Y,h⟩ Q:=ai.fO (λX=>by simp[ar,aD,ak U,ak F,fS,pL,e]) f
def mF(L:List (Nat×PV)):List (Nat×Operand)->Option (List (Nat×PV))
 |[]=>some []
 |(i,x)::f=>match cW L x,mF L f with
  |some v,some W=>some ((i,v)::W)
  |_,_=>none
theorem jY{L:List (Nat×PV)}{Y:Nat->PV}:∀{xs:List (Nat×Operand)} {vs:List (Nat×PV)},mF L xs=some vs->xs.map (λ(i,x)=>(i,ev (al L Y) x))=vs
 |[],vs,e=>by simp[mF]at e;subst e;rfl
 |(i,x)::xs,vs,e=>by
  simp only[mF]at e
  split at e
  ·rename_i v n O X
   obtain rfl:=af7 e;simp only[agp,ak O,jY X]
  cases e
def tD(ts:Nat->Option Nat)(G:List (Nat×TypeId))(i:Nat):Option (Nat×Nat):=
 match G[i]? with
 |some (U,A)=>(ts A).map λs=>(U,s)
 |none=>none
theorem By{p q:Nat->Option (Nat×Nat)}(h:∀i x,p i=some x->q i=some x):∀{O:List (Nat×PV)} {cs r:List PV},kN p cs O=some r->kN q cs O=some r
 |[],cs,r,e=>e
 |(i,v)::O,cs,r,e=>by
  simp only[kN]at e ⊢
  split at e
  cases e
  ·rename_i U N K
   rw[h _ _ K];simp only
   split at e
   ·rename_i G
    rw[if_pos G];exact By h e
   cases e
theorem xY{t:TypeId}{G:List (Nat×TypeId)}{O:List (Nat×PV)}(M:T.tz t=some z)(g:T.kd t=some (.st G))(j:(G.all λo=>(T.ts o.2).isSome)=true)(h1:(cells z).all bP=true)
  (u:kN (tD T.ts G) (cells z) O=some cs):xh C.P t O=some (.agg cs):=by
 obtain⟨V,D,N⟩:=Tt (T.dA _ _ g)
 have b:(V.toList.all λf=>(dF C.P f.type).isSome)=true:=by
  rw[<-N,List.all_map]at j;rw[af9]at j ⊢
  intro f u
  have:=j f u;simp only[Function.comp]at this
  cases R:T.ts f.type with
  |none=>rw[R]at this;cases this
  |some n=>rw[T.eT _ _ R];rfl
 have K:kN (jP C.P V) (cells z) O=some cs:=by
  refine By (λi x U=>?_) u;unfold tD at U;rw[<-N,agt]at U;unfold jP;have S:V[i]?=V.toList[i]?:=by simp
  rw[S]
  cases R:V.toList[i]? with
  |none=>rw[R]at U;cases U
  |some f=>
   rw[R]at U;simp only[ago]at U ⊢
   cases w:T.ts f.type with
   |none=>rw[w]at U;cases U
   |some n=>rw[w]at U;rw[T.eT _ _ w];exact U
 unfold xh;rw[T.pJ _ _ M,D];simp only[b,h1,and_self,if_true,K,ago]
theorem R.build{t:TypeId}{O:Array (Nat×Operand)}{F:List (Nat×PV)}{z:PV}{G:List (Nat×TypeId)}{cs:List PV}(K:mF L O.toList=some F)(M:T.tz t=some z)(g:T.kd t=some (.st G))(j:(G.all λo=>(T.ts o.2).isSome)=true)(h1:(cells z).all bP=true)
  (u:kN (tD T.ts G) (cells z) F=some cs) (w:ai C ops r ⟨al ((d,.agg cs)::L) Y,h⟩ Q):ai C ops (⟨some d,.build t O,ty,pos,af,none⟩::r) ⟨al L Y,h⟩ Q:=
 ai.fO (λX=>by simp only[ar,aD,jY K,xY T M g j h1 u,ago]) w
theorem D.build{i Z:Nat}{P:List Nat}{t:TypeId}{O:Array (Nat×Operand)}{F:List (Nat×PV)}{z:PV}{G:List (Nat×TypeId)}{cs:List PV}(K:mF L O.toList=some F)(M:T.tz t=some z)(g:T.kd t=some (.st G))(j:(G.all λo=>(T.ts o.2).isSome)=true)(h1:(cells z).all bP=true)
  (u:kN (tD T.ts G) (cells z) F=some cs) (w:bh C ops (i+1) r ⟨⟨al ((d,.agg cs)::L) Y,h⟩,Z,P⟩ Q):bh C ops i (⟨some d,.build t O,ty,pos,af,none⟩::r) ⟨⟨al L Y,h⟩,Z,P⟩ Q:=
 bh.plain (h':=h) rfl (λX=>by simp only[ar,aD,jY K,xY T M g j h1 u,ago]) w
theorem D.KR{s:TypeId}{f off:Nat}{F:TypeId}{b:List (Nat×TypeId)}{a:List PV}(U:cW L x=some (.eX cs))(g:T.kd s=some (.st b))(u:b[f]?=some (off,F))(S:T.ts F=some (sz+1))
  (G:cs.drop off=c::a) (k:bh C ops (i+1) r ⟨⟨al ((d,.eX (c::a))::L) Y,h⟩,Z,P⟩ Q):bh C ops i (⟨some d,.fieldAddr s x f,ty,pos,af,none⟩::r) ⟨⟨al L Y,h⟩,Z,P⟩ Q:=by
 have A:off<cs.length:=by
  rcases agM off cs.length with h |h;exact h;rw[agU h]at G;cases G
 exact bh.plain (h':=h) rfl (λX=>by simp[ar,aD,ak U,iu,pp T g u S,A,G]) k
def Bz(sz n:Nat)(p:Nat×PV):Bool:=decide ((cells p.2).length=sz)&& (cells p.2).all bP&&decide (p.1<n)
theorem sS{t el:TypeId}{F:List (Nat×PV)}(g:T.kd t=some (.sl el))(S:T.ts el=some (sz+1))(M:T.tz el=some z)(hn:n * (sz+1)<=16777216)(A:(cells z).length=sz+1)(h1:(cells z).all bP=true)
  (K:F.all (Bz (sz+1) n)=true) (q:Ch z n F=es) (J:aw es=true):ek C.P lv h t n F=some (.aa true es,h):=by
 unfold ek;rw[bG (T.dA _ _ g)];simp only[T.eT _ _ S,T.pJ _ _ M];have w:(F.all λp=>decide ((cells p.2).length=sz+1)&& (cells p.2).all bP&&decide (p.1<n))=true:=K;rw[if_pos ⟨by omega,hn,A,h1,w⟩,q,if_pos J]
theorem R.buildSlice{t el:TypeId}{n sz:Nat}{z:PV}{O:Array (Nat×Operand)}{F:List (Nat×PV)}{es:List PV}(f:mF L O.toList=some F)(g:T.kd t=some (.sl el))(S:T.ts el=some (sz+1))(M:T.tz el=some z)(hn:n * (sz+1)<=16777216)(A:(cells z).length=sz+1)(h1:(cells z).all bP=true)
  (K:F.all (Bz (sz+1) n)=true) (q:Ch z n F=es) (J:aw es=true) (w:ai C ops r ⟨al ((d,.aa true es)::L) Y,h⟩ Q):
  ai C ops (⟨some d,.buildSlice t n O,ty,pos,af,none⟩::r) ⟨al L Y,h⟩ Q:=
 ai.fO (λX=>by simp only[ar,aD,jY f,sS T g S M hn A h1 K q J]) w
theorem D.buildSlice{i:Nat}{t el:TypeId}{n sz:Nat}{z:PV}{O:Array (Nat×Operand)}{F:List (Nat×PV)}{es:List PV}(V:br h=true)(f:mF L O.toList=some F)(e:(F.all λp=>bq (bj h) p.2)=true)(g:T.kd t=some (.sl el))(S:T.ts el=some (sz+1))(M:T.tz el=some z)(hn:n * (sz+1)<=16777216)(A:(cells z).length=sz+1)(h1:(cells z).all bP=true)
  (K:F.all (Bz (sz+1) n)=true) (q:Ch z n F=es) (J:aw es=true) (w:bh C ops (i+1) r ⟨⟨al ((d,.aa true es)::L) Y,h⟩,h.length,[]⟩ Q):
  bh C ops i (⟨some d,.buildSlice t n O,ty,pos,af,none⟩::r) ⟨⟨al L Y,h⟩,h.length,[]⟩ Q:=by
 refine bh.read rfl V ?_ ⟨0,λn W _ _=>by simp only[ar,aD,jY f,sS T g S M hn A h1 K q J]⟩ w;rw[af9]
 intro y b
 have a:y∈O.toList.map (·.2):=by simpa[Op.operands]using b
 obtain⟨x,U,rfl⟩:=agv.1 a;have:=jY (Y:=Y) f;rw[<-this,List.all_map,af9]at e;exact e x U
theorem kq(h1:n<1000000000)(X:b<=1000):roomy n b=true:=by
 have:n * b<=1000000000 * 1000:=aih yxa X;simp[roomy];omega
def eE(sz:Nat)(ys:List PV):Prop:=ys.all (λv=>decide ((cells v).length=sz)&& (cells v).all bP)=true
theorem iB{st xt el b:TypeId}(h1:1<=lv)(g:T.kd st=some (.sl el))(D:T.kd xt=some (.sl b))(S:T.ts el=some (sz+1))(W:T.tb el=some G)(M:T.tz el=some z)(O:G<=1000)(A:(cells z).length=sz+1)(f:(cells z).all bP=true)
  (F:eE (sz+1) ys) (Q:ys.isEmpty=false) (hn:ys.length<1000000000):bR C.P lv h st xt (.aa true []) (.aa full ys)=some (.an h.length 0 0 ys.length,h++[⟨.m,0,sz+1,ys⟩]):=by
 unfold bR;rw[bG (T.dA _ _ g)];simp only[T.eT _ _ S,T.vg _ _ W,T.pJ _ _ M,cH,bG (T.dA _ _ D),cr];unfold eE at F;rw[if_pos ⟨by omega,by omega,⟨A,f⟩,F⟩];simp only[Q,agn,if_false,agH,agz,ahG,agS,newObj];rw[if_pos ⟨trivial,h1,kq hn O,trivial⟩]
theorem lA{st xt el b:TypeId}{len:Nat}(g:T.kd st=some (.sl el))(D:T.kd xt=some (.sl b))(S:T.ts el=some (sz+1))(W:T.tb el=some G)(M:T.tz el=some z)(O:G<=1000)(A:(cells z).length=sz+1)(f:(cells z).all bP=true)
  (F:eE (sz+1) ys) (Q:ys.isEmpty=false) (hn:len+ys.length<1000000000) (N:getM h V ep=some o) (d:o.mu=.m) (Z:o.bQ=sz+1) (hle:len<=o.es.length):
  bR C.P 2 h st xt (.an V ep 0 len) (.aa full ys)=some (.an V (ep+1) 0 (len+ys.length),h.set V {o with ep:=ep+1,es:=o.es.take len++ys}):=by
 unfold bR;rw[bG (T.dA _ _ g)];simp only[T.eT _ _ S,T.vg _ _ W,T.pJ _ _ M,cH,bG (T.dA _ _ D),cr];unfold eE at F;rw[if_pos ⟨by omega,by omega,⟨A,f⟩,F⟩];simp only[N];rw[if_pos ⟨by omega,Z.symm⟩];simp only[Q,agn,if_false];rw[if_neg (by simp[mN]),if_pos ⟨trivial,by omega,d,kq hn O⟩]
def Out(sz:Nat)(h:ab)(v:PV)(es:List PV):Prop:=(v=.aa true []/\es=[])\/∃V g,v=.an V g 0 es.length/\h[V]?=some ⟨.m,g,sz,es⟩
theorem Out.nil(sz:Nat)(h:ab):Out sz h (.aa true []) []:=.inl ⟨rfl,rfl⟩
theorem Out.cz{v:PV}(o:Out sz h v es)(J:ab):Out sz (h++J) v es:=by
 rcases o with o |⟨V,g,D,N⟩;exact .inl o
 ·refine .inr ⟨V,g,D,?_⟩
  have:V<h.length:=by
   rcases agM V h.length with R |R;exact R;rw[agr R]at N;cases N
  rw[af8 this];exact N
def HV(h:ab):Prop:=∀o∈h,o.mu≠.x/\aw o.es=true
mutual
theorem zk(f:Nat->Bool):∀p,aW p=true->bq f p=true
 | .int ..,_ | .bool _,_ | .str _,_ | .ji,_ | .mM,_ | .jD,_ | .aa ..,_ | .eX _,_=>rfl
 | .agg Y,h=>by simp only[bq];exact bg f Y (by simpa[aW]using h)
 | .b8 Y,h=>by simp only[bq];exact bg f Y (by simpa[aW]using h)
 | .fn _ Y,h=>by simp only[bq];exact bg f Y (by simpa[aW]using h)
 | .pK _ _ Y,h=>by simp only[bq];exact bg f Y (by simpa[aW]using h)
 | .an ..,h | .ptr ..,h | .undef,h | .any,h=>by simp[aW]at h
theorem bg(f:Nat->Bool):∀cs,aw cs=true->bB f cs=true
 |[],_=>rfl
 |c::r,h=>by
  simp only[aw,age]at h;simp only[bB,zk f c h.1,bg f r h.2,ahd]
end
theorem HV.closed(H:HV h):br h=true:=by
 unfold br;rw[af9]
 intro o f
 rw[bg _ _ (H o f).2];simp
theorem HV.NV(H:HV h)(t:V<h.length):bj h V=true:=by
 unfold bj;rw[agd t];simpa using(H _ (agO t)).1
theorem HV.nil:HV []:=λo f=>by cases f
theorem HV.cz{k:ab}(H:HV h)(K:HV k):HV (h++k):=λo f=>(agh.1 f).elim (H o) (K o)
theorem HV.one(h:aw es=true):HV [⟨.m,ep,n,es⟩]:=λo f=>by simp at f;subst f;exact⟨by simp,h⟩
theorem HV.set{h:ab}(H:HV h)(V:Nat){o:ax}(h1:o.mu≠.x)(X:aw o.es=true):HV (h.set V o):=λy a=>by
 rcases ah0 a with a|rfl;exact H y a;exact⟨h1,X⟩
theorem bw(e:h[V]?=some o)(h1:o.ep=ep)(X:o.mu≠.x):getM h V ep=some o:=by simp[getM,e,h1,X]
theorem W3{off:Nat}(W:h[b]?=some ⟨.m,0,n,[e]⟩):dP h (.ptr b 0 0 off)=some ((cells e).drop off):=by simp[dP,getM,W]
theorem R.uC{t:TypeId}{off:Nat}(U:cW L x=some (.ptr b 0 0 off))(S:T.ts t=some sz)(Z:T.ta t=some false)(W:h[b]?=some ⟨.m,0,n,[e]⟩)(G:(cells e).drop off=c::cs)(k:ai C ops r ⟨al ((d,c)::L) Y,h⟩ Q):
  ai C ops (⟨some d,.load t x,ty,pos,af,none⟩::r) ⟨al L Y,h⟩ Q:=R.kr T U S Z ((W3 W).trans (by rw[G])) k
theorem R.mw{t:TypeId}{a:Operand}{n off:Nat}{v:PV}(j:cW L a=some (.ptr b ep i off))(U:cW L x=some v)(S:T.ts t=some sz)(N:getM h b ep=some o)(d:o.mu=.m)(B:o.es[i]?=some e)(A:(cells v).length=sz)(h1:(cells v).all bP=true)(hle:off+sz<=(cells e).length)
  (k:ai C ops r ⟨al L Y,h.set b {o with es:=o.es.set i (gw off sz e v)}⟩ Q):ai C ops (⟨none,.store t a x,ty,pos,af,none⟩::r) ⟨al L Y,h⟩ Q:=by
 have f:ai C ops r ⟨bZ (al L Y) none .undef,h.set b {o with es:=o.es.set i (gw off sz e v)}⟩ Q:=k;refine ai.val (v:=.undef) (h':=h.set b {o with es:=o.es.set i (gw off sz e v)}) rfl (λX=>?_) f;simp only[ar,aD,ak j,ak U,jc,T.eT _ _ S,N,B,agb,if_true];rw[if_pos ⟨d,A,h1,hle⟩]
 rfl
theorem DQ(n:Nat)(h:aW p=true):eu n p=true:=by
 unfold eu
 split <;>first |(simp[aW]at h;done)|exact h
theorem KT(n:Nat)(h:aW p=true):cY n p=true:=by
 unfold cY
 split
 ·rename_i Y
  rw[af9]
  intro c G
  have:aw Y=true:=by simpa[aW]using h
  rw[bz]at this;exact DQ n (af9.1 this c G)
 exact DQ n h
theorem HV.cY(H:HV h)(n:Nat):(h.all λo=>o.es.all (cY n))=true:=by
 rw[af9]
 intro o f
 have:=(H o f).2;rw[bz]at this;rw[af9]
 intro e q
 exact KT n (af9.1 this e q)
mutual
theorem lE:∀p:PV,fm (b9 p)=fm p
 | .int .. | .bool _ | .str _ | .ji | .mM | .jD | .cq _ | .aa .. | .eX _ | .fn .. | .pK .. | .an .. | .ptr .. | .undef | .any=>rfl
 | .agg cs=>by simp only[b9,fm];exact sT cs
 | .b8 cs=>by simp only[b9,fm];exact sT cs
theorem sT:∀cs:List PV,rH (aY cs)=rH cs
 |[]=>rfl
 |c::r=>by simp only[aY,rH,lE c,sT r]
end
theorem ah.adW{f:FuncId}{args args':List PV}{rv:PV}{Q:PV->ab->Prop}(d:C.mode f=.pure)(J:aw args=false)(e:iR h args=some args')(a:aT C f (aY args') rv)(S:fm rv=true)(q:Q rv h):ah C lv f args h Q:=by
 obtain⟨B,z⟩:=a;refine⟨rv,h,q,B,λn O=>?_⟩;obtain⟨R,G,b,D,N,P⟩:=z n O;unfold dG;rw[d]
 have g:fm b=true:=by
  have:=lE b;rw[P]at this;rw[<-this];exact S
 simp only[dL,J,agn,if_false,e,D,N,P,g,aiq,if_true]
theorem R.WI{t:TypeId}{off:Nat}(U:cW L x=some (.ptr h.length 0 0 off))(S:T.ts t=some sz)(Z:T.ta t=some false)(G:(cells e).drop off=c::cs)
  (k:ai C ops r ⟨al ((d,c)::L) Y,h++[⟨.m,0,n,[e]⟩]⟩ Q):ai C ops (⟨some d,.load t x,ty,pos,af,none⟩::r) ⟨al L Y,h++[⟨.m,0,n,[e]⟩]⟩ Q:=
 R.kr T U S Z (afo.trans (by rw[G])) k
theorem D.FN{x:zd}{b:Bool}(J:(ops.toList[j]?).bind (·.dst)=some V)(U:x.s.Y=al L Y)(W:lk L V=some (.bool b))(a:(b==t)=true)(k:bh C ops i (⟨some d,H,ty,pos,af,none⟩::r) x Q):
  bh C ops i (⟨some d,H,ty,pos,af,some (j,t)⟩::r) x Q:=by
 obtain⟨y,q,B,z⟩:=k;refine⟨y,q,B,λn O=>?_⟩;rw[<-z n O];simp only[dQ,cM,bC,J,U,fi W,a]
theorem bh.off{g:Option (Nat×Bool)}(a:bC ops ⟨some d,H,ty,pos,af,g⟩ (al L Y)=some false)(k:bh C ops (i+1) r ⟨⟨al ((d,.undef)::L) Y,h⟩,Z,P⟩ Q):
  bh C ops i (⟨some d,H,ty,pos,af,g⟩::r) ⟨⟨al L Y,h⟩,Z,P⟩ Q:=by
 refine bh.step ⟨0,λn _=>?_⟩ k;simp only[cM,a,cy]
theorem D.vA{b:Bool}(J:(ops.toList[j]?).bind (·.dst)=some V)(W:lk L V=some (.bool b))(q:(b==t)=false)(k:bh C ops (i+1) r ⟨⟨al ((d,.undef)::L) Y,h⟩,Z,P⟩ Q):
  bh C ops i (⟨some d,H,ty,pos,af,some (j,t)⟩::r) ⟨⟨al L Y,h⟩,Z,P⟩ Q:=bh.off (by simp only[bC,J,fi W,q]) k
theorem D.oV{c:Operand}{v:PV}(G:cW L c=some (.bool true))(U:cW L x=some v)(k:bh C ops (i+1) r ⟨⟨al ((d,v)::L) Y,h⟩,Z,P⟩ Q):bh C ops i (⟨some d,.pick c x y,ty,pos,af,none⟩::r) ⟨⟨al L Y,h⟩,Z,P⟩ Q:=
 bh.plain (h':=h) rfl (λX=>by simp only[ar,aD,ak G,ak U,if_true]) k
theorem D.nD{c:Operand}{v:PV}(G:cW L c=some (.bool false))(U:cW L y=some v)(k:bh C ops (i+1) r ⟨⟨al ((d,v)::L) Y,h⟩,Z,P⟩ Q):bh C ops i (⟨some d,.pick c x y,ty,pos,af,none⟩::r) ⟨⟨al L Y,h⟩,Z,P⟩ Q:=
 bh.plain (h':=h) rfl (λX=>by simp only[ar,aD,ak G,ak U,agn,if_false]) k
theorem D.arith{i Z:Nat}{P:List Nat}{e:BinOp}{t u:TypeId}{x y:Operand}{k:IntKind}{a b c c':Int}(U:cW L x=some (.int k a))(F:cW L y=some (.int k b))(K:Pm.arith e a b=some c)(H:k.wrap c=c')(w:bh C ops (i+1) r ⟨⟨al ((d,(.int k c'))::L) Y,h⟩,Z,P⟩ Q):
  bh C ops i (⟨some d,.binOp e t x y u,ty,pos,af,none⟩::r) ⟨⟨al L Y,h⟩,Z,P⟩ Q:=by
 refine bh.plain (h':=h) rfl (λX=>?_) w;simp only[ar,aD,ak U,ak F]
 cases e <;>simp only[Pm.arith,agx,reduceCtorEq]at K <;>subst K <;>simp[fS,ja,H]
theorem D.cmp{e:BinOp}{t u:TypeId}{a b:Int}{p:Prop}(U:cW L x=some (.int k a))(F:cW L y=some (.int k b))(K:JE e a b=some p)
  (f:p->bh C ops (i+1) r ⟨⟨al ((d,(.bool true))::L) Y,h⟩,Z,P⟩ Q) (A:¬p->bh C ops (i+1) r ⟨⟨al ((d,(.bool false))::L) Y,h⟩,Z,P⟩ Q):bh C ops i (⟨some d,.binOp e t x y u,ty,pos,af,none⟩::r) ⟨⟨al L Y,h⟩,Z,P⟩ Q:=by
 by_cases R:p
 ·refine bh.plain (h':=h) rfl (λX=>?_) (f R);simp only[ar,aD,ak U,ak F]
  cases e <;>simp only[JE,agx,reduceCtorEq]at K <;>subst K <;>simp[fS,ja,R]
 ·refine bh.plain (h':=h) rfl (λX=>?_) (A R);simp only[ar,aD,ak U,ak F]
  cases e <;>simp only[JE,agx,reduceCtorEq]at K <;>subst K <;>simp[fS,ja,R] <;>omega
end Go.Pm
namespace Go.Pm
variable{Y:Nat->PV}{f:FuncId}{args args':List PV}
variable{C:cA}(T:li C.P)
variable{ops:Array Oper}{d:Nat}{ty:TypeId}{pos:String}{af:Array Edge}{r:List Oper}{Y:Nat->PV}{L:List (Nat×PV)}{h h':ab}{Q:St->Prop}
theorem ai.heap(e:h=h')(k:ai C ops r ⟨Y,h'⟩ Q):ai C ops r ⟨Y,h⟩ Q:=by subst e;exact k
theorem bh.heap{i:Nat}(e:h=h')(k:bh C ops i r ⟨⟨Y,h'⟩,h'.length,[]⟩ Q):bh C ops i r ⟨⟨Y,h⟩,h.length,[]⟩ Q:=by subst e;exact k
theorem ay.heap{Q:PV->ab->Prop}(e:h=h')(g:args=args')(k:ay C f args' h' Q):ay C f args h Q:=by subst e;subst g;exact k
theorem HV.take{h:ab}(H:HV h)(n:Nat):HV (h.take n):=λo f=>H o (ahi f)
theorem ah.zi{N:Nat}{P Q:PV->ab->Prop}(d:C.mode f=.opened)(e:h=h')(g:args=args')(i:h'.length=N)(a:ay C f args' h' P)
  (q:∀r k,P r k->HV k/\(eI N r=true->Q r (k.take N))/\(eI N r=false->Q r k)):ah C 2 f args h Q:=by
 subst e;subst g;subst i;refine ah.opened d (a.mono ?_)
 intro r k K
 obtain⟨O,X,b⟩:=q r k K
 cases W:eI h.length r
 rw[if_neg yxb];exact b W;rw[if_pos (by rw[(O.take h.length).cY];rfl)];exact X W
end Go.Pm
namespace Go.Pm
variable{ep i j off sz:Nat}{x:Operand}{o:ax}{e:PV}
variable{C:cA}(T:li C.P)
variable{ops:Array Oper}{d:Nat}{ty:TypeId}{pos:String}{af:Array Edge}{r:List Oper}{Y:Nat->PV}{L:List (Nat×PV)}{h:ab}{Q:St->Prop}
theorem ah.de{f:FuncId}{g:List PV->ab->Option (PV×ab)}{args:List PV}{h':ab}{rv:PV}{Q:PV->ab->Prop}(d:C.mode f=.de g)(a:g args h=some (rv,h'))(q:Q rv h'):ah C 2 f args h Q:=by
 refine⟨rv,h',q,0,λn O=>?_⟩;unfold dG;rw[d];simp only[eP,agb,if_true,a]
def loadT(h:ab)(t:TypeId)(p:PV):Option PV:=
 match T.ts t,T.ta t,dP h p with
 |some (q+1),some true,some Y=>if Nat.ble (q+1) Y.length then some (.agg (Y.take (q+1)))else none
 |some _,some false,some (c::_)=>some c
 |_,_,_=>none
theorem vI{t:TypeId}{p v:PV}(e:loadT T h t p=some v):jO C.P h t p=some v:=by
 unfold loadT at e;unfold jO
 split at e
 ·rename_i q Y O X Q
  rw[T.eT _ _ O,T.Ts _ _ X,Q]
  split at e
  ·rename_i a
   simp only;rw[if_pos ⟨by omega,ahm a⟩];exact e
  cases e
 ·rename_i O X Q
  rw[T.eT _ _ O,T.Ts _ _ X,Q];exact e
 cases e
def BA(L:List (Nat×PV))(h:ab):List ResultVar->Option (List PV)
 |[]=>some []
 | .tmp t::r=>match lk L t,BA L h r with
  |some v,some W=>some (v::W)
  |_,_=>none
 | .cell a t::r=>match lk L a with
  |some p=>match loadT T h t p,BA L h r with
   |some v,some W=>some (v::W)
   |_,_=>none
  |none=>none
theorem zr{Y:Nat->PV}:∀{l:List ResultVar} {vs:List PV},BA T L h l=some vs->dM C.P h (al L Y) l=some vs
 |[],vs,e=>by simp[BA]at e;subst e;rfl
 | .tmp t::r,vs,e=>by
  simp only[BA]at e
  split at e
  ·rename_i v n O X
   obtain rfl:=af7 e;simp[dM,fi O,zr X]
  cases e
 | .cell a t::r,vs,e=>by
  simp only[BA]at e
  split at e
  ·rename_i p K
   split at e
   ·rename_i v n O X
    obtain rfl:=af7 e;simp[dM,fi K,vI T O,zr X]
   cases e
  cases e
theorem aL.afp{i:Func}{Q:PV->ab->Prop}{vs:List PV}(z:BA T L h i.results.toList=some vs)(q:Q (bo vs) h):aL C i Q .ret ⟨al L Y,h⟩:=⟨.inr rfl,vs,zr T z,q⟩
theorem Jq{A J:ab}(h1:(A.all λo=>decide (o.mu=.x)||bB (bj (A++J)) o.es)=true)(N:HV J):br (A++J)=true:=by
 unfold br;rw[ag9,h1,ahA,af9]
 intro o f
 rw[bg _ _ (N o f).2];simp
theorem D.Et{t el:TypeId}{Z:Operand}{V len:Nat}{k:IntKind}(b:br h=true)(U:cW L x=some (.an V ep off len))(B:cW L Z=some (.int k (j:Int)))(g:T.kd t=some (.sl el))(f:getM h V ep=some o)(S:T.ts el=some o.bQ)(F:j<len)(hle:off+len<=o.es.length)
  (w:bh C ops (i+1) r ⟨⟨al ((d,.ptr V ep (off+j) 0)::L) Y,h⟩,h.length,[]⟩ Q):bh C ops i (⟨some d,.indexAddr t x Z,ty,pos,af,none⟩::r) ⟨⟨al L Y,h⟩,h.length,[]⟩ Q:=by
 have e:bj h V=true:=by
  unfold getM at f
  split at f
  ·rename_i y a
   split at f
   ·rename_i G
    unfold bj;rw[a];simpa using G.2
   cases f
  cases f
 exact bh.read rfl b (by simp[Op.operands,ak U,ak B,bq,e]) ⟨0,λn W _ _=>by simp[ar,aD,ak U,ak B,cT,bG (T.dA _ _ g),T.eT _ _ S,f,F,hle]⟩ w
theorem D.mw{Z:Nat}{P:List Nat}{t:TypeId}{a:Operand}{b:Nat}{v:PV}(d:level ops (before ops) i=2)(f:cW L a=some (.ptr b ep j off))(U:cW L x=some v)(S:T.ts t=some sz)(N:getM h b ep=some o)(g:o.mu=.m)(B:o.es[j]?=some e)(A:(cells v).length=sz)(h1:(cells v).all bP=true)(hle:off+sz<=(cells e).length)
  (k:bh C ops (i+1) r ⟨⟨al L Y,h.set b {o with es:=o.es.set j (gw off sz e v)}⟩,(h.set b {o with es:=o.es.set j (gw off sz e v)}).length,[]⟩ Q):bh C ops i (⟨none,.store t a x,ty,pos,af,none⟩::r) ⟨⟨al L Y,h⟩,Z,P⟩ Q:=by
 refine bh.step ⟨0,λn _=>?_⟩ k;simp only[cM,bC,cI,agQ,if_false,d,if_true,ar,aD,ak f,ak U,jc,T.eT _ _ S,N,B,agb,g,A,h1,hle,and_self,ago,bZ]
theorem D.Fl{t:TypeId}{f:List PV}{n:Nat}(V:br (h++[⟨.m,0,n,[e]⟩])=true)(U:cW L x=some (.ptr h.length 0 0 0))(S:T.ts t=some (sz+1))(Z:T.ta t=some true)(G:ug (sz+1) (cells e) f)
  (k:bh C ops (i+1) r ⟨⟨al ((d,(.agg f))::L) Y,h++[⟨.m,0,n,[e]⟩]⟩,(h++[⟨.m,0,n,[e]⟩]:ab).length,[]⟩ Q):bh C ops i (⟨some d,.load t x,ty,pos,af,none⟩::r) ⟨⟨al L Y,h++[⟨.m,0,n,[e]⟩]⟩,(h++[⟨.m,0,n,[e]⟩]:ab).length,[]⟩ Q:=
 D.vK T V U (by simp[bq,bj]) S Z pcN G k
end Go.Pm
namespace Go.Pm
open Go.Proofs
def uw(sz:Nat)(e:PV):Bool:=aW e&&decide ((cells e).length=sz)&& (cells e).all bP
def Zz(args:List PV)(h:ab):Option (PV×ab):=
 match args with
 |[.aa true [],.int .i64 i,.aa _ [e]]=>if i=0/\uw 5 e=true then some (.an h.length 0 0 1,newObj h 5 [e])else none
 |[.an V g 0 K,.int .i64 i,.aa _ [e]]=>match getM h V g with
  |some o=>if o.mu=.m/\o.bQ=5/\K<=o.es.length/\0<=i/\i<=K/\K<100000000/\uw 5 e=true/\(o.es.take K).all (uw 5)=true/\br h=true then
    some (.an V (g+1) 0 (K+1),h.set V {o with ep:=g+1,es:=(o.es.take K).take i.toNat++[e]++(o.es.take K).drop i.toNat})else none
  |none=>none
 |_=>none
def rV(args:List PV)(h:ab):Option (PV×ab):=
 match args with
 |[.aa true [],.int .i64 i,.aa _ [e]]=>if i=0/\uw 5 e=true then some (.an h.length 0 0 1,newObj h 5 [e])else none
 |_=>none
def jS(args:List PV)(h:ab):Option (PV×ab):=
 match args with
 |[.aa true [],.int .i64 i,.aa _ [e]]=>if i=0/\uw 4 e=true then some (.an h.length 0 0 1,newObj h 4 [e])else none
 |[.an V g 0 K,.int .i64 i,.aa _ [e]]=>match getM h V g with
  |some o=>if o.mu=.m/\o.bQ=4/\K<=o.es.length/\0<=i/\i<=K/\K<100000000/\uw 4 e=true/\(o.es.take K).all (uw 4)=true/\br h=true then
    some (.an V (g+1) 0 (K+1),h.set V {o with ep:=g+1,es:=(o.es.take K).take i.toNat++[e]++(o.es.take K).drop i.toNat})else none
  |none=>none
 |_=>none
def bW(B:Nat)(args:List PV)(h:ab):Option (PV×ab):=
 match args with
 |[.aa _ S]=>if S.isEmpty then some (.aa true [],h)
   else if S.all (λv=>decide ((cells v).length=B)&& (cells v).all bP)=true/\S.length<1000000000 then some (.an h.length 0 0 S.length,newObj h B S)else none
 |_=>none
def lm(f:FuncId):Mode:=
 if[0,1,74,215,171,216,6,73,324,320,185,186,210,294,98,162,163,283,264].contains f then .no
 else if f=164 then .ext λ|[.str a,.str b]=>some (.int .i64 (Lib.compareBytes a.data.toList b.data.toList))|_=>none
 else if f=262 then .de rV
 else if f=50 then .de (bW 4)
 else if f=312 then .de (bW 1)
 else if[14,140,230,195,245,313,285,302,303,314,315,133,173,99,50,312,121,151,66,118,67,68,187,42,45,80,41,79,28,57,46,199,233,200,198,206,284,239,240,241,279,277,278,243,242,282,301,212,130,129,168,170,214,20,22,25,62,54,89,61,95,90,269,270,296,268].contains f then .opened
 else if f<325 then .pure
 else .no
noncomputable def C:cA:=⟨Tryz.prog,lm⟩
end Go.Pm
namespace Go.Pm
variable{x:Operand}{e:PV}{b n off sz:Nat}
variable{C:cA}(T:li C.P)
variable{ops:Array Oper}{i:Nat}{d:Nat}{ty:TypeId}{pos:String}{af:Array Edge}{r:List Oper}{Y:Nat->PV}{L:List (Nat×PV)}{h:ab}{Q:St->Prop}
theorem D.uC{t:TypeId}{c:PV}{cs:List PV}(w:HV h)(U:cW L x=some (.ptr b 0 0 off))(S:T.ts t=some sz)(Z:T.ta t=some false)(W:h[b]?=some ⟨.m,0,n,[e]⟩)(G:(cells e).drop off=c::cs)
  (k:bh C ops (i+1) r ⟨⟨al ((d,c)::L) Y,h⟩,h.length,[]⟩ Q):bh C ops i (⟨some d,.load t x,ty,pos,af,none⟩::r) ⟨⟨al L Y,h⟩,h.length,[]⟩ Q:=
 D.kr T w.closed U (by simp only[bq];exact w.NV (ag W)) S Z ((W3 W).trans (by rw[G])) k
theorem D.KU{t:TypeId}{f:List PV}(w:HV h)(U:cW L x=some (.ptr b 0 0 off))(S:T.ts t=some (sz+1))(Z:T.ta t=some true)(W:h[b]?=some ⟨.m,0,n,[e]⟩)(G:ug (sz+1) ((cells e).drop off) f)
  (k:bh C ops (i+1) r ⟨⟨al ((d,.agg f)::L) Y,h⟩,h.length,[]⟩ Q):bh C ops i (⟨some d,.load t x,ty,pos,af,none⟩::r) ⟨⟨al L Y,h⟩,h.length,[]⟩ Q:=
 D.vK T w.closed U (by simp only[bq];exact w.NV (ag W)) S Z (W3 W) G k
theorem D.call{Z:Nat}{P:List Nat}{x:Operand}{xs:List Operand}{J:Array TypeId}{f:FuncId}{M args:List PV}(b:level ops (before ops) i=2)(u:cW L x=some (.fn f M))(j:Bw L xs=some args)
  (G:ah C 2 f (args++M) h (λv h'=>bh C ops (i+1) r ⟨⟨al ((d,v)::L) Y,h'⟩,h'.length,[]⟩ Q)):bh C ops i (⟨some d,.call ⟨.value x,xs.toArray,J⟩,ty,pos,af,none⟩::r) ⟨⟨al L Y,h⟩,Z,P⟩ Q:=by
 obtain⟨v,h',q,B,z⟩:=G;refine bh.two rfl b ⟨B,λn O=>?_⟩ q;simp only[ar,gp,ak u];have a:=gV (Y:=Y) j;simp only[a];exact z n O
theorem ah.out{f:FuncId}{v:PV}{es rest:List PV}{rv:PV}{Q:PV->ab->Prop}(d:C.mode f=.pure)(o:Out sz h v es)(J:aw es=true)(z:aw rest=true)(a:aT C f (.aa false (aY es)::aY rest) rv)(S:fm rv=true)(q:Q rv h):ah C 2 f (v::rest) h Q:=by
 rcases o with⟨rfl,rfl⟩|⟨V,g,rfl,N⟩;exact ah.pure d (by simp[aw,aW,z]) yxq q
 ·refine ah.adW (args':=.aa false es::rest) d yxk ?_ yxq S q;have O:kZ h (.an V g 0 es.length)=some (.aa false es):=by simp[kZ,rf,getM,N,J]
  have X:∀l:List PV,aw l=true->iR h l=some l:=by
   intro l
   induction l with
   |nil=>intro _;rfl
   |cons c l P=>
    intro A
    simp only[aw,age]at A;simp only[iR,P A.2]
    have:kZ h c=some c:=by
     unfold kZ
     split
     ·rename_i Y
      have b:aw Y=true:=by simpa[aW]using A.1
      have H:∀Y:List PV,aw Y=true->oE h Y=some Y:=by
       intro Y
       induction Y with
       |nil=>intro _;rfl
       |cons c Y P=>
        intro R
        simp only[aw,age]at R
        have:rf h c=some c:=by
         unfold rf
         split
         simp[aW]at R;rw[if_pos R.1]
        simp only[oE,this,P R.2]
      rw[H Y b];rfl
     ·unfold rf
      split
      simp[aW]at A;rw[if_pos A.1]
    rw[this]
  simp only[iR,O,X rest z]
structure LP(H:ab)(v:PV)(sz:Nat)(eG:List PV)(r:PV)(h':ab):Prop where
 out:Out sz h' r eG
 hv:HV h'
 len:H.length<=h'.length
 fr:∀j,j<H.length->(∀ep n,v≠.an j ep 0 n)->h'[j]?=H[j]?
 ref:∀j ep n,r=.an j ep 0 n->(∃jy n',v=.an j jy 0 n')\/H.length<=j
theorem AE{sz:Nat}:∀{es:List PV},es.all (uw sz)=true->aw es=true
 |[],_=>rfl
 |e::es,h=>by
  rw[ahh,age]at h;obtain⟨O,X⟩:=h;unfold uw at O;simp only[age]at O;simp only[aw,O.1.1,AE X,ahd]
end Go.Pm
namespace Go.Pm
variable{i:Nat}{x y:Int}
set_option maxRecDepth 20000
def tsL:List Nat:=[1,1,1,1,1,1,1,4,4,1,1,1,1,2,2,1,1,1,1,1,1,1,1,1,1,1,1,1,1,1,1,2,1,1,3,3,1,4,4,5,5,1,1,1,1,1,1,1,1,1,1,1,1,1,3,3,1,1,1,1,1,1,1,1,1,1,1,1,1,1,1,1,1,1,1,1,1,1,1,1,1,1,8,8,1,1,1,1,1,1,1,1,1,1,1,1,1,1,1,1,1,1,1,1,1,1,1,1,1,1,1,1,1,1,1,1,1,1,1,1,8,8,1,1,1,1,1,1,1,1,1,1,1,2,2,1,1,1,1,1,1,1,1,4,4,1,1,1,1,1,1,1,1,1,1,2,2,1,1,1,1,1,1,1,1,1,1,1,1,1,1,24,1,1,1,1,1,1,1,1,1,1,1,1,1,5,5,1,1,1,1,1,1,1,1,1,1,1,1,1,1,1,1,1,1,20,65,1,1,1,1,1,1,1,1,1,1,1,1,1,1,1,1,1,1,1,1,2,2,1,1,1,1,1,1,1,1,1,1,1,1,1,1,1,1,1,1,1,1,1,1,1,1,1,5,5,1,1,1,1,1,1,1,1,1,1,1,1,32,64,1,1,1,1,1,1,256,256,1,1,1,1,1,1,1,1,1,1,1,1,1,1,1,1,3,3,1,1,1,1,1,1,1,1,1,1,1,1,1,1,1,1,4,4,1,1,1,1,1,1,1,1,256,2,2,32,1,1,2,1,4,4,0,0,0,1,1,1,1,1,1,11,11]
def tbL:List Nat:=[0,8,8,8,1,1,1,24,24,16,16,16,8,24,24,8,8,8,8,8,16,4,24,8,8,24,8,24,8,0,8,16,8,24,56,56,24,56,56,80,80,8,0,8,8,24,0,8,8,8,8,8,8,8,56,56,8,8,8,8,8,8,8,8,8,24,0,8,8,0,8,8,8,8,8,8,8,8,8,8,8,8,112,112,0,8,8,8,8,8,8,8,8,0,8,8,8,8,0,8,8,8,8,0,8,8,8,8,8,24,0,8,8,8,24,8,8,8,8,8,112,112,24,8,8,8,8,8,8,8,8,8,8,32,32,8,8,8,16,16,0,8,8,40,40,8,8,8,8,8,8,8,0,8,8,48,48,8,8,8,8,8,8,8,8,8,8,8,8,24,8,24,8,8,8,0,8,0,8,24,8,8,24,0,8,64,64,8,8,8,8,8,0,8,8,8,8,8,4,8,8,8,8,8,8,160,65,8,8,8,0,8,0,8,8,8,8,24,0,8,0,8,8,8,8,8,8,24,24,8,8,8,8,8,8,8,8,8,8,8,8,8,8,8,8,8,8,8,24,24,0,8,8,8,72,72,8,8,24,8,8,8,8,8,8,8,0,8,32,64,8,8,8,8,8,8,256,256,0,8,8,8,8,8,8,0,8,8,8,8,8,8,0,8,56,56,8,8,8,8,8,8,8,8,0,8,8,8,8,0,8,24,80,80,8,8,8,8,8,8,8,8,256,2,2,32,8,8,48,24,40,40,0,0,0,8,1,1,8,4,4,48,48]
def aJ:Bool:=false
def eO:Bool:=true
def taL:List Bool:=[aJ,aJ,aJ,aJ,aJ,aJ,aJ,eO,eO,aJ,aJ,aJ,aJ,eO,eO,aJ,aJ,aJ,eO,eO,aJ,aJ,aJ,aJ,aJ,aJ,aJ,aJ,aJ,aJ,aJ,eO,aJ,aJ,eO,eO,aJ,eO,eO,eO,eO,aJ,aJ,aJ,aJ,aJ,aJ,aJ,aJ,aJ,aJ,aJ,aJ,aJ,eO,eO,aJ,aJ,aJ,aJ,aJ,aJ,aJ,aJ,aJ,aJ,aJ,aJ,aJ,aJ,aJ,aJ,aJ,aJ,aJ,aJ,aJ,aJ,aJ,aJ,aJ,aJ,eO,eO,aJ,aJ,aJ,aJ,aJ,aJ,aJ,aJ,aJ,aJ,aJ,aJ,aJ,aJ,aJ,aJ,aJ,aJ,aJ,aJ,aJ,aJ,aJ,aJ,aJ,aJ,aJ,aJ,aJ,aJ,aJ,aJ,aJ,aJ,aJ,aJ,eO,eO,aJ,aJ,aJ,aJ,aJ,aJ,aJ,aJ,aJ,aJ,aJ,eO,eO,aJ,aJ,aJ,aJ,aJ,aJ,aJ,aJ,eO,eO,aJ,aJ,aJ,aJ,aJ,aJ,aJ,aJ,aJ,aJ,eO,eO,aJ,aJ,aJ,aJ,aJ,aJ,aJ,aJ,aJ,aJ,aJ,aJ,aJ,aJ,eO,aJ,aJ,aJ,aJ,aJ,aJ,aJ,aJ,aJ,aJ,aJ,aJ,aJ,eO,eO,aJ,aJ,aJ,aJ,aJ,aJ,aJ,aJ,aJ,aJ,aJ,aJ,aJ,aJ,aJ,aJ,aJ,aJ,eO,eO,aJ,aJ,aJ,aJ,aJ,aJ,aJ,aJ,aJ,aJ,aJ,aJ,aJ,aJ,aJ,aJ,aJ,aJ,aJ,aJ,eO,eO,aJ,aJ,aJ,aJ,aJ,aJ,aJ,aJ,aJ,aJ,aJ,aJ,aJ,aJ,aJ,aJ,aJ,aJ,aJ,aJ,aJ,aJ,aJ,aJ,aJ,eO,eO,aJ,aJ,aJ,aJ,aJ,aJ,aJ,aJ,aJ,aJ,aJ,aJ,eO,eO,aJ,aJ,aJ,aJ,aJ,aJ,eO,eO,aJ,aJ,aJ,aJ,aJ,aJ,aJ,aJ,aJ,aJ,aJ,aJ,aJ,aJ,aJ,aJ,eO,eO,aJ,aJ,aJ,aJ,aJ,aJ,aJ,aJ,aJ,aJ,aJ,aJ,aJ,aJ,aJ,aJ,eO,eO,aJ,aJ,aJ,aJ,aJ,aJ,aJ,aJ,eO,eO,eO,eO,aJ,aJ,eO,aJ,eO,eO,eO,eO,eO,aJ,aJ,aJ,aJ,aJ,aJ,eO,eO]
def aQ:Kd:=.other
def W9:Kd:=.int .i64
def Xa:Kd:=.int .u64
def Xb:Kd:=.st [(0,38),(4,38)]
def ad2:Kd:=.st [(0,2),(1,3),(2,4),(3,6)]
def ad3:Kd:=.st [(0,9),(1,12)]
def ad4:Kd:=.st [(0,3),(1,33),(2,25)]
def ad5:Kd:=.st [(0,3),(1,9),(2,3),(3,36)]
def ad6:Kd:=.st [(0,36),(1,38)]
def ad7:Kd:=.st [(0,25),(1,27),(2,28)]
def YQ:Kd:=.st [(0,132),(1,45)]
def YR:Kd:=.st [(0,9),(1,3),(2,3),(3,3)]
def YS:Kd:=.st [(0,122),(1,33)]
def YT:Kd:=.st [(0,38),(4,3)]
def YU:Kd:=.st [(0,36),(1,3),(2,253),(3,253),(4,217)]
def YV:Kd:=.st [(0,217),(1,217),(2,4)]
def YW:Kd:=.st [(0,36),(1,311),(2,217),(3,4)]
def YX:Kd:=.st [(0,17),(1,17),(2,17),(3,9)]
def YY:Kd:=.st [(0,12),(1,12),(2,198),(3,336),(4,5),(5,5),(6,337),(7,338),(8,168),(9,339),(10,340)]
def kdL:List Kd:=[aQ,aQ,W9,W9,.bool,.int .u8,.int .u8,ad2,ad2,.str,.str,.str,Xa,ad3,ad3,aQ,aQ,aQ,.st [(0,17)],.st [(0,17)],aQ,.int .i32,.sl 45,aQ,aQ,.sl 40,aQ,.sl 35,W9,aQ,aQ,.arr 2 3,aQ,.sl 83,ad4,ad4,.sl 38,ad5,ad5,ad6,ad6,aQ,aQ,aQ,aQ,.sl 5,aQ,aQ,aQ,aQ,aQ,aQ,aQ,aQ,ad7,ad7,aQ,aQ,aQ,aQ,aQ,aQ,aQ,aQ,aQ,.sl 9,aQ,aQ,aQ,aQ,aQ,aQ,aQ,aQ,aQ,aQ,aQ,aQ,aQ,aQ,.mp 9 4,aQ,Xb,Xb,aQ,aQ,aQ,aQ,aQ,aQ,aQ,aQ,aQ,aQ,aQ,aQ,aQ,aQ,aQ,aQ,aQ,aQ,aQ,aQ,aQ,aQ,aQ,aQ,aQ,.sl 38,aQ,aQ,aQ,aQ,.sl 25,aQ,aQ,aQ,aQ,aQ,Xb,Xb,.sl 121,aQ,aQ,aQ,aQ,aQ,aQ,aQ,aQ,aQ,aQ,YQ,YQ,aQ,aQ,aQ,aQ,aQ,aQ,aQ,aQ,YR,YR,aQ,aQ,aQ,aQ,aQ,aQ,aQ,aQ,aQ,aQ,YS,YS,aQ,aQ,aQ,aQ,aQ,aQ,Xa,aQ,aQ,aQ,aQ,aQ,.sl 144,aQ,.arr 24 5,Xa,aQ,aQ,aQ,aQ,aQ,aQ,.sl 36,aQ,aQ,.sl 186,aQ,aQ,YT,YT,aQ,aQ,aQ,aQ,W9,aQ,aQ,aQ,aQ,aQ,aQ,.int .u32,aQ,aQ,aQ,aQ,aQ,aQ,.arr 20 172,.arr 65 5,aQ,aQ,aQ,aQ,aQ,aQ,aQ,aQ,aQ,aQ,.sl 3,aQ,aQ,aQ,aQ,aQ,aQ,aQ,aQ,aQ,.st [(0,9),(1,3)],.st [(0,9),(1,3)],aQ,.mp 228 38,aQ,aQ,aQ,aQ,aQ,Xa,aQ,aQ,aQ,aQ,aQ,aQ,aQ,aQ,aQ,aQ,aQ,.sl 172,.sl 172,aQ,aQ,aQ,.mp 3 249,YU,YU,aQ,aQ,.sl 182,aQ,aQ,aQ,aQ,aQ,aQ,aQ,aQ,aQ,.arr 32 5,.arr 64 5,aQ,aQ,aQ,aQ,aQ,aQ,.arr 256 4,.arr 256 4,aQ,aQ,aQ,aQ,aQ,aQ,aQ,aQ,aQ,aQ,aQ,aQ,aQ,aQ,aQ,aQ,YV,YV,aQ,aQ,aQ,aQ,aQ,aQ,aQ,aQ,aQ,aQ,aQ,aQ,aQ,aQ,aQ,.sl 291,YW,YW,aQ,aQ,aQ,aQ,aQ,aQ,aQ,aQ,.arr 256 5,.st [(0,5),(1,5)],.st [(0,5),(1,5)],.arr 16 324,aQ,aQ,.arr 2 217,.sl 328,YX,YX,.arr 0 16,.st [(0,332)],.st [(0,332)],aQ,.int .u8,.int .u8,aQ,.int .i32,.int .i32,YY,YY]
def aV:Option PV:=some (.mM)
def gH:Option PV:=none
def ra:Option PV:=some (.aa true [])
def uX:Option PV:=some (.ji)
def Xc:Option PV:=some (.int .i64 (0))
def Xd:Option PV:=some (.int .u8 (0))
def Xe:Option PV:=some (.int .u64 (0))
def Xf:Option PV:=some (.agg [.int .i64 (0),.str ByteArray.empty,.int .i64 (0),.aa true [],.int .i64 (0),.str ByteArray.empty,.int .i64 (0),.aa true []])
def abG:Option PV:=some (.str ByteArray.empty)
def abH:Option PV:=some (.int .i32 (0))
def TM:Option PV:=some (.agg [.aa true [],.aa true []])
def YZ:Option PV:=some (.agg [.int .i64 (0),.int .i64 (0),.bool false,.int .u8 (0)])
def cx:Option PV:=some (.agg [.str ByteArray.empty,.int .u64 (0)])
def cz:Option PV:=some (.agg [.int .i64 (0),.aa true [],.aa true []])
def dO:Option PV:=some (.agg [.int .i64 (0),.str ByteArray.empty,.int .i64 (0),.aa true []])
def eC:Option PV:=some (.agg [.aa true [],.int .i64 (0),.str ByteArray.empty,.int .i64 (0),.aa true []])
def fI:Option PV:=some (.agg [.aa true [],.aa true [],.int .i64 (0)])
def fO:Option PV:=some (.agg [.ji,.aa true []])
def gh:Option PV:=some (.agg [.str ByteArray.empty,.int .i64 (0),.int .i64 (0),.int .i64 (0)])
def gk:Option PV:=some (.agg [.int .i64 (0),.str ByteArray.empty,.int .i64 (0),.aa true [],.int .i64 (0)])
def gz:Option PV:=some (.agg [.str ByteArray.empty,.int .i64 (0)])
def ie:Option PV:=some (.agg [.aa true [],.int .i64 (0),.jD,.jD,.aa true []])
def iC:Option PV:=some (.agg [.aa true [],.aa true [],.bool false])
def Za:Option PV:=some (.agg [.aa true [],.aa true [],.aa true [],.bool false])
def Zb:Option PV:=some (.agg [.int .u8 (0),.int .u8 (0)])
def Zc:Option PV:=some (.agg [.ji,.ji,.ji,.str ByteArray.empty])
def Zd:Option PV:=some (.agg [.int .u64 (0),.int .u64 (0),.int .u32 (0),.int .u8 (0),.int .u8 (0),.int .u8 (0),.int .u8 (0),.mM,.ji,.int .i32 (0),.int .i32 (0)])
def tzL:List (Option PV):=[gH,aV,Xc,Xc,some (.bool false),Xd,Xd,YZ,YZ,abG,abG,abG,Xe,cx,cx,uX,uX,uX,some (.agg [.ji]),some (.agg [.ji]),gH,abH,ra,aV,aV,ra,aV,ra,Xc,gH,aV,some (.agg [.int .i64 (0),.int .i64 (0)]),aV,ra,cz,cz,ra,dO,dO,eC,eC,aV,gH,aV,aV,ra,gH,aV,aV,aV,aV,aV,aV,uX,fI,fI,aV,aV,aV,aV,aV,aV,aV,aV,aV,ra,gH,aV,aV,gH,aV,aV,aV,aV,aV,aV,aV,aV,aV,aV,some (.jD),aV,Xf,Xf,gH,aV,aV,aV,aV,aV,aV,aV,aV,gH,aV,aV,aV,aV,gH,aV,aV,aV,aV,gH,aV,aV,aV,aV,aV,ra,gH,aV,aV,aV,ra,aV,aV,aV,aV,aV,Xf,Xf,ra,aV,aV,aV,aV,aV,aV,aV,aV,aV,uX,fO,fO,aV,aV,aV,gH,gH,gH,aV,aV,gh,gh,aV,aV,aV,aV,aV,aV,aV,gH,aV,uX,TM,TM,aV,aV,aV,aV,aV,aV,Xe,aV,aV,uX,aV,uX,ra,aV,gH,Xe,aV,aV,gH,aV,gH,aV,ra,aV,aV,ra,gH,aV,gk,gk,aV,aV,aV,aV,Xc,gH,aV,aV,aV,aV,aV,some (.int .u32 (0)),uX,aV,aV,aV,aV,aV,gH,gH,aV,aV,aV,gH,aV,gH,aV,aV,aV,aV,ra,gH,aV,gH,aV,aV,aV,aV,aV,aV,gz,gz,aV,some (.jD),uX,aV,aV,aV,aV,Xe,aV,aV,aV,aV,aV,aV,aV,aV,aV,uX,aV,ra,ra,gH,aV,aV,some (.jD),ie,ie,aV,aV,ra,aV,aV,aV,aV,aV,aV,uX,gH,aV,gH,gH,aV,aV,aV,aV,aV,aV,gH,gH,gH,aV,aV,uX,aV,aV,aV,gH,aV,aV,aV,aV,uX,uX,gH,aV,iC,iC,aV,aV,aV,aV,aV,aV,aV,aV,gH,aV,aV,aV,aV,gH,aV,ra,Za,Za,aV,aV,aV,aV,aV,aV,aV,aV,gH,Zb,Zb,gH,aV,aV,TM,ra,Zc,Zc,some (.agg []),some (.agg []),some (.agg []),aV,Xd,Xd,aV,abH,abH,Zd,Zd]
def tN:Nat:=343
theorem afs:(List.range tN).map (dF C.P)=tsL.map some:=by kernel_rfl
theorem afu:(List.range tN).map (Nn C.P)=taL.map some:=by kernel_rfl
theorem afv:(List.range tN).map (pu C.P)=tbL.map some:=by kernel_rfl
theorem afw:(List.range tN).map (λt=>(C.P.underlying t).map rG)=kdL.map some:=by kernel_rfl
theorem afx:(List.range tN).map (λt=>if(tzL.getD t none).isSome then jN C.P t else none)=tzL.map id:=by kernel_rfl
theorem BD{v Z:Type}{g:v->Option Z}{f:Nat->Option Z}{l:List v}(h:(List.range tN).map f=l.map g)(t:Nat)(n:Z)(e:(l[t]?).bind g=some n):f t=some n:=by
 have k:=congrArg (λx=>x[t]?) h;simp only[agt]at k
 cases A:l[t]? with
 |none=>rw[A]at e;cases e
 |some a=>
  rw[A]at e k
  cases z:(List.range tN)[t]? with
  |none=>rw[z]at k;cases k
  |some i=>
   obtain⟨O,X⟩:=ahY.1 z;simp at X;subst X;rw[z]at k;exact(af7 k).trans e
def T6:li C.P where
 ts t:=(tsL[t]?).bind some
 ta t:=(taL[t]?).bind some
 tb t:=(tbL[t]?).bind some
 kd t:=(kdL[t]?).bind some
 tz t:=(tzL[t]?).bind id
 eT:=BD afs
 Ts:=BD afu
 vg:=BD afv
 dA:=BD afw
 pJ t n e:=by
  have:=BD afx t n e
  split at this
  exact this
  cases this
inductive Tm where
 |mk (kind:Int) (name:ByteArray) (sort:Int) (kids:List Tm)
variable{l:List Tm}{t:Tm}
def Tm.kids:Tm->List Tm | .mk _ _ _ k=>k
mutual
def enc:Tm->PV
 | .mk k s o l=>.agg [.int .i64 k,.str s,.int .i64 o,.aa false (ae l)]
def ae:List Tm->List PV
 |[]=>[]
 |t::l=>enc t::ae l
end
abbrev If(k:Int)(s:ByteArray)(o:Int)(l:List Tm):List PV:=[.I k,.str s,.I o,.aa false (ae l)]
mutual
theorem lL:∀t,aW (enc t)=true
 | .mk k s o l=>by simp[enc,aW,aw]
end
theorem fy(l:List Tm):aw (ae l)=true:=by
 induction l with
 |nil=>rfl
 |cons t l P=>simp[ae,aw,lL,P]
mutual
theorem mV:∀t,b9 (enc t)=enc t
 | .mk k s o l=>by simp[enc,b9,aY,bI l]
theorem bI:∀l,aY (ae l)=ae l
 |[]=>rfl
 |t::l=>by simp[ae,aY,mV t,bI l]
end
theorem aj(l:List Tm):(ae l).length=l.length:=by
 induction l with
 |nil=>rfl
 |cons t l P=>simp[ae,P]
theorem dw(l:List Tm):ae l=l.map enc:=by
 induction l with
 |nil=>rfl
 |cons t l P=>simp[ae,P]
theorem Xg(t:Tm):∃a b c d,enc t=.agg [a,b,c,d]:=by cases t;exact⟨_,_,_,_,by rw[enc]⟩
mutual
def aC:Tm->Nat
 | .mk k s o l=>1+s.size+bm l
def bm:List Tm->Nat
 |[]=>0
 |t::l=>aC t+bm l
end
theorem vS(t:Tm):0<aC t:=by cases t;simp[aC];omega
theorem bF(l:List Tm):l.length<=bm l:=by
 induction l with
 |nil=>simp
 |cons t l P=>have:=vS t;simp[bm];omega
theorem cc(h:t∈l):aC t<=bm l:=by
 induction l with
 |nil=>cases h
 |cons u l P=>
  simp only[bm];rcases agi.1 h with rfl |h;omega;have:=P h;omega
theorem Tm.ind{P:Tm->Prop}(h:∀k s o l,(∀t∈l,P t)->P (.mk k s o l)):∀t,P t:=by
 intro t
 have H:∀n t,aC t<=n->P t:=by
  intro n
  induction n with
  |zero=>intro t Z;have:=vS t;omega
  |succ n a=>
   intro t Z
   obtain⟨k,s,o,l⟩:=t;refine h k s o l (λu y=>a u ?_);have:=cc y;simp[aC]at Z;omega
 exact H (aC t) t (agb _)
theorem Xh(G:(i:Int)<((ae l).length:Int)):∃t f S O N,t∈l/\enc t=.agg [f,S,O,N]/\(ae l)[i]?=some (.agg [f,S,O,N])/\l.drop i=t::l.drop (i+1)/\i<l.length/\l[i]?=some t:=by
 have w:i<l.length:=by have:=aj l;omega
 obtain⟨f,S,O,N,j⟩:=Xg l[i];refine⟨l[i],f,S,O,N,agO w,j,?_,ahW w,w,agd w⟩;rw[dw,agt,agd w,<-j]
 rfl
theorem se(G:¬(i:Int)<((ae l).length:Int)):l.drop i=[]:=agU (by have:=aj l;omega)
theorem bE(k:Int)(s:ByteArray)(o:Int)(l:List Tm):enc (.mk k s o l)=.agg [.int .i64 k,.str s,.int .i64 o,.aa false (ae l)]:=by rw[enc]
theorem mb(a:(i:Int)<((ae l).length:Int)):∃k s o H,.mk k s o H∈l/\(ae l)[i]?=some (.agg [.int .i64 k,.str s,.int .i64 o,.aa false (ae H)])/\l.drop i=.mk k s o H::l.drop (i+1)/\i<l.length/\l[i]?=some (.mk k s o H):=by
 obtain⟨t,f,S,b,e,O,X,Q,G,d,N⟩:=Xh a;obtain⟨k,s,o,H⟩:=t;rw[bE]at X;exact⟨k,s,o,H,O,by rw[Q,<-X],G,d,N⟩
mutual
def size:Tm->Int
 | .mk _ _ _ l=>1+eL l
def eL:List Tm->Int
 |[]=>0
 |t::l=>size t+eL l
end
mutual
theorem dY:∀t,0<size t/\size t<=(aC t:Int)
 | .mk k s o l=>by
  have:=dR l;simp only[size,aC];omega
theorem dR:∀l,0<=eL l/\eL l<=(bm l:Int)
 |[]=>by simp[eL,bm]
 |t::l=>by
  have O:=dY t;have X:=dR l;simp only[eL,bm];omega
end
def fZ(a b:Int):Int:=if a<b then -1 else if b<a then 1 else 0
mutual
def aZ:Tm->Tm->Int
 | .mk k s o l,.mk k' U y H=>
  if fZ (size (.mk k s o l)) (size (.mk k' U y H))≠0 then fZ (size (.mk k s o l)) (size (.mk k' U y H))else
  if fZ k k'≠0 then fZ k k' else
  if Op.bytesLess s.toList U.toList=true then -1 else
  if(!(Op.bytesLess s.toList U.toList ||s.toList==U.toList))=true then 1 else
  if fZ o y≠0 then fZ o y else
  if fZ l.length H.length≠0 then fZ l.length H.length else oG l H
def oG:List Tm->List Tm->Int
 |[],_=>0
 |_::_,[]=>0
 |t::l,j::H=>if aZ t j≠0 then aZ t j else oG l H
end
def oq(x y:Int):Int:=if x≠0 then x else y
def fL:List UInt8->List UInt8->Int:=Lib.compareBytes
theorem TC:∀a b:List UInt8,Op.bytesLess a b=decide (fL a b<0)/\((a==b)=decide (fL a b=0))
 |[],[]=>by simp[Op.bytesLess,fL,Lib.compareBytes]
 |[],_::_=>by simp[Op.bytesLess,fL,Lib.compareBytes]
 |_::_,[]=>by simp[Op.bytesLess,fL,Lib.compareBytes]
 |a::x,b::y=>by
  obtain⟨O,X⟩:=TC x y;have G:fL (a::x) (b::y)=if a<b then -1 else if b<a then 1 else fL x y:=rfl
  have H:a<b\/b<a\/a=b:=by
   rcases aib a.toNat b.toNat with h |h |h;exact .inl (ahp.2 h);exact .inr (.inr (UInt8.toNat_inj.1 h));exact .inr (.inl (ahp.2 h))
  have A:∀p q:UInt8,p<q->¬q<p:=λp q O X=>by
   have:=ahp.1 O;have:=ahp.1 X;omega
  have i:∀p:UInt8,¬p<p:=λp O=>A p p O O
  rcases H with h |h |h
  ·have Q:a≠b:=λe=>i b (e▸h)
   rw[G,if_pos h];simp[Op.bytesLess,h,Q]
  ·have Q:a≠b:=λe=>i b (e▸h)
   have z:=A _ _ h;rw[G,if_neg z,if_pos h];simp[Op.bytesLess,z,Q]
  ·subst h;rw[G,if_neg (i a),if_neg (i a)];simp only[Op.bytesLess,O,i,decide_false,ahN,BEq.rfl,ahA,true_and];rw[<-X];simp[List.cons_beq_cons]
structure W7(x y z:Int):Prop where
 e1:x=0->z=y
 e2:y=0->z=x
 lt:x<0->y<0->z<0
theorem W7.lex{z d Y Z:Int}(a:W7 x y z)(b:x=0->y=0->W7 d Y Z):W7 (oq x d) (oq y Y) (oq z Z):=by
 obtain⟨D,N,e⟩:=a;unfold oq
 by_cases U:x=0 <;>by_cases F:y=0
 ·have M:z=0:=by rw[D U,F]
  rw[if_neg yxl,if_neg (by simp[F]),if_neg (by simp[M])];exact b U F
 ·have M:z=y:=D U;rw[if_neg yxl,if_pos F,M,if_pos F];exact⟨λ_=>rfl,λh=>absurd h F,λ_ h=>h⟩
 ·have M:z=x:=N F;rw[if_neg (by simp[F]:¬y≠0),if_pos U,M,if_pos U];exact⟨λh=>absurd h U,λ_=>rfl,λh _=>h⟩
 ·rw[if_pos U,if_pos F];refine⟨λh=>absurd h U,λh=>absurd h F,λO X=>?_⟩;have:=e O X;rw[if_pos yxa];exact this
theorem tF(x y:Int):oq (-x) (-y)=- oq x y:=by unfold oq;split <;>split <;>omega
theorem TD:oq x y=0↔x=0/\y=0:=by unfold oq;split <;>omega
theorem lO(h:oq x y=0):x=0/\y=0:=TD.1 h
theorem sU(a b c:Int):W7 (fZ a b) (fZ b c) (fZ a c):=by
 unfold fZ
 constructor <;>(repeat' split) <;>omega
theorem sV(a b:Int):fZ b a=- fZ a b:=by unfold fZ;(repeat' split) <;>omega
theorem jZ{a b:Int}(h:fZ a b=0):a=b:=by unfold fZ at h;(repeat' split at h) <;>omega
theorem TE(a b:Int):fZ a b=-1\/fZ a b=0\/fZ a b=1:=by unfold fZ;(repeat' split) <;>omega
theorem jL(a b:UInt8)(x y:List UInt8):fL (a::x) (b::y)=oq (fZ a.toNat b.toNat) (fL x y):=by
 have G:fL (a::x) (b::y)=if a<b then -1 else if b<a then 1 else fL x y:=rfl;rw[G]
 by_cases O:a<b
 ·have:=ahp.1 O;have e:fZ a.toNat b.toNat=-1:=by unfold fZ;rw[if_pos yxa]
  rw[if_pos O,e];rfl
 ·by_cases X:b<a
  ·have:=ahp.1 X;have e:fZ a.toNat b.toNat=1:=by unfold fZ;rw[if_neg yxa,if_pos yxa]
   rw[if_neg O,if_pos X,e];rfl
  ·have d:¬a.toNat<b.toNat:=λh=>O (ahp.2 h)
   have f:¬b.toNat<a.toNat:=λh=>X (ahp.2 h)
   have e:fZ a.toNat b.toNat=0:=by unfold fZ;rw[if_neg yxa,if_neg yxa]
   rw[if_neg O,if_neg X,e];rfl
theorem DT:∀a b c:List UInt8,W7 (fL a b) (fL b c) (fL a c)
 |[],[],[]=>by constructor <;>decide
 |[],[],_::_=>by constructor <;>intros <;>simp_all[fL,Lib.compareBytes]
 |[],_::_,[]=>by constructor <;>intros <;>simp_all[fL,Lib.compareBytes]
 |[],b::y,c::z=>by
  have D:fL [] (b::y)=-1:=rfl;have N:fL [] (c::z)=-1:=rfl;rw[D,N]
  constructor <;>intros <;>omega
 |_::_,[],[]=>by constructor <;>intros <;>simp_all[fL,Lib.compareBytes]
 |a::x,[],c::z=>by
  have D:fL (a::x) []=1:=rfl;have N:fL [] (c::z)=-1:=rfl;rw[D,N]
  constructor <;>intros <;>omega
 |a::x,b::y,[]=>by
  have D:fL (a::x) []=1:=rfl;have N:fL (b::y) []=1:=rfl;rw[D,N]
  constructor <;>intros <;>omega
 |a::x,b::y,c::z=>by
  rw[jL,jL,jL];exact(sU _ _ _).lex (λ_ _=>DT x y z)
theorem DU:∀a b:List UInt8,fL b a=- fL a b
 |[],[]=>rfl
 |[],_::_=>rfl
 |_::_,[]=>rfl
 |a::x,b::y=>by rw[jL,jL,DU x y,sV a.toNat b.toNat,tF]
theorem BC:∀{a b:List UInt8},fL a b=0->a=b
 |[],[],_=>rfl
 |[],_::_,h=>by cases h
 |_::_,[],h=>by cases h
 |a::x,b::y,h=>by
  rw[jL]at h;obtain⟨O,X⟩:=lO h;have:=jZ O;rw[BC X,UInt8.toNat_inj.1 (by omega:a.toNat=b.toNat)]
def Fq(s U:ByteArray):Int:=fL s.toList U.toList
theorem DV:∀a b:List UInt8,fL a b=-1\/fL a b=0\/fL a b=1
 |[],[]=>.inr (.inl rfl)
 |[],_::_=>.inl rfl
 |_::_,[]=>.inr (.inr rfl)
 |a::x,b::y=>by
  rw[jL];have O:=TE a.toNat b.toNat;have X:=DV x y;unfold oq
  split <;>omega
theorem My{a b:ByteArray}(h:a.toList=b.toList):a=b:=by
 rw[ByteArray.toList_eq,ByteArray.toList_eq]at h
 cases a;cases b
 simp at h;subst h
 rfl
theorem oz(k s o l k' s' o' l'):aZ (.mk k s o l) (.mk k' s' o' l')=oq (fZ (size (.mk k s o l)) (size (.mk k' s' o' l'))) (oq (fZ k k') (oq (Fq s s') (oq (fZ o o') (oq (fZ l.length l'.length) (oG l l'))))):=by
 rw[aZ];obtain⟨F,U⟩:=TC s.toList s'.toList;have P:=DV s.toList s'.toList;rw[F,U];unfold oq Fq
 split
 rfl
 ·split
  ·rfl
  ·rcases P with P |P |P
   ·rw[if_pos (by simp[P])];simp[P]
   ·rw[if_neg (by simp[P]),if_neg (by simp[P])];simp[P]
   ·rw[if_neg (by simp[P]),if_pos (by simp[P])];simp[P]
theorem oA(t t' l l'):oG (t::l) (t'::l')=oq (aZ t t') (oG l l'):=by rw[oG];rfl
theorem Im:∀{l H:List Tm},l.length=H.length->(∀t∈l,∀t',aZ t' t=- aZ t t')->oG H l=- oG l H
 |[],[],_,_=>by simp[oG]
 |t::l,t'::H,A,h=>by
  rw[oA,oA,h t yxb t',Im (by simpa using A) (λu y=>h u yxj),tF]
theorem di(t:Tm):∀t',aZ t' t=- aZ t t':=by
 induction t using Tm.ind with
 |h k s o l P=>
  rintro⟨B,U,y,H⟩;rw[oz,oz,sV (size (.mk k s o l)),sV k,show Fq U s=- Fq s U from DU _ _,sV o,sV (l.length:Int)];rw[<-tF,<-tF,<-tF,<-tF]
  congr 4
  unfold oq
  split
  rw[if_pos yxa]
  ·rename_i h
   rw[if_neg yxa];refine Im ?_ P;have d:fZ (l.length:Int) H.length=0:=by omega
   have:=jZ d;omega
theorem DW:∀{l H:List Tm},l.length=H.length->(∀t∈l,∀t',aZ t t'=0->t=t')->oG l H=0->l=H
 |[],[],_,_,_=>rfl
 |t::l,t'::H,A,h,e=>by
  rw[oA]at e;obtain⟨D,N⟩:=lO e;rw[h t yxb t' D,DW (by simpa using A) (λu y=>h u yxj) N]
theorem dD:∀{t':Tm},aZ t t'=0->t=t':=by
 induction t using Tm.ind with
 |h k s o l P=>
  rintro⟨B,U,y,H⟩ h;rw[oz]at h;obtain⟨_,h⟩:=lO h;obtain⟨O,h⟩:=lO h;obtain⟨X,h⟩:=lO h;obtain⟨Q,h⟩:=lO h;obtain⟨G,h⟩:=lO h;have a:=jZ G;rw[jZ O,My (BC X),jZ Q,DW yxa (λt Z t' e=>P t Z e) h]
theorem cP(t:Tm):aZ t t=0:=by have:=di t t;omega
theorem Io:∀{l H b:List Tm},l.length=H.length->H.length=b.length->(∀t∈l,∀t' a,W7 (aZ t t') (aZ t' a) (aZ t a))->W7 (oG l H) (oG H b) (oG l b)
 |[],[],[],_,_,_=>by simp[oG];constructor <;>omega
 |t::l,t'::H,a::b,O,X,h=>by
  rw[oA,oA,oA];exact(h t yxb t' a).lex (λ_ _=>Io (by simpa using O) (by simpa using X) (λu y=>h u yxj))
theorem TF(t:Tm):∀t' a,W7 (aZ t t') (aZ t' a) (aZ t a):=by
 induction t using Tm.ind with
 |h k s o l P=>
  rintro⟨B,U,y,H⟩ ⟨A,e,q,b⟩;rw[oz,oz,oz];refine(sU _ _ _).lex λ_ _=>(sU _ _ _).lex λ_ _=>(DT _ _ _).lex λ_ _=>(sU _ _ _).lex λ_ _=>(sU _ _ _).lex λO X=>?_;have d:=jZ O;have f:=jZ X;exact Io yxa yxa P
theorem fH{a b c:Tm}(h1:aZ a b<0)(X:aZ b c<0):aZ a c<0:=(TF a b c).lt h1 X
abbrev Pw:=Tm×Int
def Cj:Pw->PV
 |(.mk k s o l,n)=>.agg [.int .i64 k,.str s,.int .i64 o,.aa false (ae l),.int .i64 n]
def cQ(l:List Pw):List PV:=l.map Cj
def U9(l:List Pw):Prop:=l.Pairwise λp q=>aZ p.1 q.1<0
def Nz(l:List Pw):Prop:=∀p∈l,p.2≠0
def CF:List UInt8:=[109,117,108]
def CG:List UInt8:=[105,110,118]
def CH:List UInt8:=[111,110,101]
def gQ:Tm->Bool
 | .mk k s o l=>decide (k=3)&& (decide (s.toList=CF)||decide (s.toList=CG)||decide (s.toList=CH))
def Bd(B:Int)(l:List Pw):Prop:=∀p∈l,-B<=p.2/\p.2<=B
def wq(c:Int):Bool:=decide ((97<=c/\c<=122)\/(65<=c/\c<=90))
def AG(c:Int):Bool:=decide (48<=c/\c<=57)
def A7(c:Int):Bool:=wq c ||AG c ||decide (c=95)||decide (c=35)
def pg:List UInt8->Bool
 |[]=>true
 |c::l=>A7 c.toNat&&pg l
def ED:List UInt8->Bool
 |[]=>false
 |c::l=>decide (l.length<24)&&wq c.toNat&&pg (c::l)
def jE(s:ByteArray):Bool:=ED s.toList
theorem bsize(s:ByteArray):s.toList.length=s.size:=by rw[ByteArray.toList_eq];exact ahl
theorem V5{s:ByteArray}{c:UInt8}(h:s.toList[i]?=some c):s[i]?=some c:=by
 have F:=ag h;rw[ByteArray.toList_eq,agG]at h;have a:i<s.size:=by rw[<-bsize];exact F
 rw[getElem?_pos s i a];rw[ahc a]at h;exact h
def node:Tm->Int
 | .mk k s o l=>if(k≠1/\k≠2/\k≠3)\/o<0\/5<o\/(k=3/\o≠0)\/(k≠3/\0<l.length)then 1 else if jE s=false then 2 else if 8<l.length then 3 else 0
mutual
def nodes:Tm->Int
 | .mk k s o l=>if node (.mk k s o l)≠0 then node (.mk k s o l)else mr l
def mr:List Tm->Int
 |[]=>0
 |t::l=>if nodes t≠0 then nodes t else mr l
end
mutual
def depth:Tm->Int
 | .mk _ _ _ l=>lf l+1
def lf:List Tm->Int
 |[]=>0
 |t::l=>max (depth t) (lf l)
end
def valid(t:Tm):Int:=if nodes t≠0 then nodes t else if 400<size t\/40<depth t then 3 else 0
mutual
theorem qM:∀t,0<depth t/\depth t<=size t
 | .mk k s o l=>by have:=mQ l;simp only[depth,size];omega
theorem mQ:∀l,0<=lf l/\lf l<=eL l
 |[]=>by simp[lf,eL]
 |t::l=>by
  have O:=qM t;have X:=mQ l;simp only[lf,eL];omega
end
def aen:ByteArray:=⟨#[109,117,108]⟩
def aeo:ByteArray:=⟨#[105,110,118]⟩
def aep:ByteArray:=⟨#[111,110,101]⟩
theorem Qh:aen.toList=CF:=by rw[ByteArray.toList_eq];rfl
theorem Qi:aeo.toList=CG:=by rw[ByteArray.toList_eq];rfl
theorem Qj:aep.toList=CH:=by rw[ByteArray.toList_eq];rfl
theorem qE:∀{l:List Tm},mr l=0->∀t∈l,nodes t=0
 |[],_,t,h=>by cases h
 |u::l,e,t,h=>by
  rw[mr]at e
  split at e
  ·rename_i y;exact absurd e y
  ·rename_i y
   rcases agi.1 h with rfl |h;omega;exact qE e t h
theorem xk:∀{l:List Tm},∀t∈l,size t<=eL l
 |[],t,h=>by cases h
 |u::l,t,h=>by
  have O:=dY u;have X:=dR l;rw[eL];rcases agi.1 h with rfl |h;omega;have:=xk t h;omega
theorem qF:∀{l:List Tm},∀t∈l,depth t<=lf l
 |[],t,h=>by cases h
 |u::l,t,h=>by
  rw[lf];rcases agi.1 h with rfl |h;omega;have:=qF t h;omega
def VQ(S D:Int)(t:Tm):Prop:=nodes t=0/\size t<=S/\depth t<=D
theorem VQ.kids{S D k s o l}(h:VQ S D (.mk k s o l)):∀t∈l,VQ S D t:=by
 obtain⟨O,X,Q⟩:=h;rw[nodes]at O
 split at O
 ·rename_i z;exact absurd O z
 ·intro t Z
  have:=xk t Z;have:=qF t Z;have:=dR l;simp only[size]at X;simp only[depth]at Q;exact⟨qE O t Z,by omega,by omega⟩
theorem dS:valid t=0↔VQ 400 40 t:=by
 unfold valid VQ
 constructor
 ·intro h
  split at h
  ·rename_i z;exact absurd h z
  ·rename_i z
   split at h
   cases h
   exact⟨by omega,by omega,by omega⟩
 ·rintro⟨O,X,Q⟩;rw[if_neg yxa,if_neg yxa]
open Go.Proofs
attribute [local irreducible] aE az aO aL Ev ai ah ay bh
set_option maxHeartbeats 4000000
theorem HC(c:Int):A7 c=decide ((97<=c/\c<=122)\/(65<=c/\c<=90)\/(48<=c/\c<=57)\/c=95\/c=35):=by
 unfold A7 wq AG;simp only[<-Bool.decide_or]
 congr 1
 apply propext;omega
theorem HD(c:Int):aT C 223 [.int .u8 c] (.bool (A7 c)):=by
 refine aT.of (ay.gk Tryz.func223 rfl ?_)
 (repeat' (first |refine ai.nil ?_ |(apply R.FN;exact rfl;exact rfl;exact rfl)|(apply R.vA;exact rfl;exact rfl;exact rfl)|(apply R.gUn;exact rfl;exact rfl)|(apply R.move;exact rfl)|(apply R.assign;exact rfl)|(apply R.oV;exact rfl;exact rfl)|(apply R.nD;exact rfl;exact rfl)|(apply R.cmp;exact rfl;exact rfl;exact rfl;all_goals intro G)|refine Ev.seq ?_ |refine Ev.region ?_ |refine Ev.ret ?_ |refine aE.normal ?_ |(apply aL.ret;exact rfl)|fail))
 all_goals(refine⟨_,rfl,congrArg PV.bool ?_⟩;rw[HC];first |exact(decide_eq_true yxa).symm |exact(decide_eq_false yxa).symm)
theorem Fb(s:ByteArray)(i:Nat)(h:i<s.toList.length):pg (s.toList.drop i)=(A7 (s.toList[i]).toNat&&pg (s.toList.drop (i+1))):=by
 rw[ahW h,pg]
theorem Kr(s:ByteArray):(s.size=0/\s.toList=[])\/∃c l,s.toList=c::l/\s[0]?=some c/\s.size=l.length+1:=by
 have A:=bsize s
 cases h:s.toList with
 |nil=>rw[h]at A;exact .inl ⟨by simpa using A.symm,rfl⟩
 |cons c l=>exact .inr ⟨c,l,rfl,V5 (i:=0) (by rw[h];rfl),by rw[<-A,h];rfl⟩
theorem YE:(ByteArray.mk #[]).toList=[]:=by rw[ByteArray.toList_eq]
theorem Jk(s:ByteArray)(W:s.size<1000000000):aT C 184 [.str s] (.bool (jE s)):=by
 refine aT.of (ay.gk Tryz.func184 rfl ?_);have A:=bsize s;rcases Kr s with⟨e,z⟩|⟨c,l,V,J,D⟩
 ·have S:jE s=false:=by unfold jE;rw[z];rfl
  have d:s.toList=(ByteArray.mk #[]).toList:=by rw[z,YE]
  refine wB ?_;exact⟨_,rfl,by rw[S];rfl⟩
 ·have S:jE s=(decide (l.length<24)&&wq c.toNat&&pg s.toList):=by unfold jE;rw[V];rfl
  have K:=HC c.toNat;have a:wq c.toNat=decide ((97<=(c.toNat:Int)/\(c.toNat:Int)<=122)\/(65<=(c.toNat:Int)/\(c.toNat:Int)<=90)):=rfl
  (repeat' (first |(apply R.wu T6 (i:=0);exact rfl;exact rfl;exact rfl;assumption)|refine ai.nil ?_ |(apply R.FN;exact rfl;exact rfl;exact rfl)|(apply R.vA;exact rfl;exact rfl;exact rfl)|(apply R.gUn;exact rfl;exact rfl)|(apply R.move;exact rfl)|(apply R.assign;exact rfl)|(apply R.oV;exact rfl;exact rfl)|(apply R.nD;exact rfl;exact rfl)|(apply R.cmp;exact rfl;exact rfl;exact rfl;all_goals intro G;all_goals(try(exfalso;omega)))|(apply R.YF;exact rfl;exact rfl;all_goals intro G)|(apply R.Kt T6;exact rfl;exact rfl)|refine Ev.seq ?_ |refine Ev.region ?_ |(apply Ev.ie;exact rfl)|refine Ev.ret ?_ |refine aE.normal ?_ |refine aE.ret ?_ |(apply aL.ret;exact rfl)|fail))
  rw[V,YE]at G;cases G
  ·refine⟨_,rfl,?_⟩;rw[S,decide_eq_false yxa];rfl
  ·have h:=G;clear G;refine R.call rfl rfl (ah.pure rfl rfl (HD c.toNat) ?_)
   cases f:A7 c.toNat
   ·refine wD ?_;refine⟨_,rfl,?_⟩;rw[f]at K;have:=of_decide_eq_false K.symm;rw[S,a,decide_eq_false (p:=(97<=(c.toNat:Int)/\(c.toNat:Int)<=122)\/(65<=(c.toNat:Int)/\(c.toNat:Int)<=90)) yxa];simp[b9,bo]
   ·rw[f]at K;have K:=of_decide_eq_true K.symm
    by_cases N:(97<=(c.toNat:Int)/\(c.toNat:Int)<=122)\/(65<=(c.toNat:Int)/\(c.toNat:Int)<=90)
    ·have H:jE s=pg (s.toList.drop 0):=by rw[S,a,decide_eq_true N,decide_eq_true yxa];simp
     (repeat' (first |(apply R.wu T6 (i:=0);exact rfl;exact rfl;exact rfl;assumption)|refine ai.nil ?_ |(apply R.FN;exact rfl;exact rfl;exact rfl)|(apply R.move;exact rfl)|(apply R.oV;exact rfl;exact rfl)|(apply R.nD;exact rfl;exact rfl)|(apply R.cmp;exact rfl;exact rfl;exact rfl;all_goals intro G;all_goals(try(exfalso;omega)))|(apply R.not;exact rfl;exact rfl)|(apply R.Kt T6;exact rfl;exact rfl)|refine Ev.seq ?_ |refine Ev.region ?_ |(apply Ev.ie;exact rfl)|refine Ev.skip ?_ |refine Ev.block ?_ |refine aE.normal ?_ |fail))
     refine Ev.loop (I:=λB Y=>∃(i:Nat) (b:Nat->PV),Y=⟨al [(0,.str s),(38,.int .i64 s.size),(39,.int .i64 i)] b,[]⟩/\B+i=s.size/\jE s=pg (s.toList.drop i)) s.size ?_ ?_;exact⟨0,_,St.ba ⟨rfl,rfl,rfl,trivial⟩,rfl,H⟩
     ·rintro B _ ⟨i,b,rfl,g,M⟩;refine wE (λG=>?_) λG=>?_
      ·have w:i<s.toList.length:=yxa
       have Q:=V5 (agd w);rw[Fb s i w]at M;refine R.wu T6 rfl rfl rfl Q ?_;generalize U:s.toList[i]=x at M Q
       skip
       refine R.call rfl rfl (ah.pure rfl rfl (HD x.toNat) ?_)
       cases t:A7 x.toNat
       ·refine wB ?_;refine⟨_,rfl,?_⟩;rw[M,t];rfl
       ·refine wB ?_;refine⟨B - 1,by omega,i+1,_,St.ba ⟨rfl,rfl,rfl,trivial⟩,by omega,?_⟩;rw[M,t];rfl
      ·refine⟨_,rfl,?_⟩;rw[M,agU yxa];rfl
    ·have H:jE s=false:=by rw[S,a,decide_eq_false N];simp
     (repeat' (first |(apply R.wu T6 (i:=0);exact rfl;exact rfl;exact rfl;assumption)|refine ai.nil ?_ |(apply R.FN;exact rfl;exact rfl;exact rfl)|(apply R.vA;exact rfl;exact rfl;exact rfl)|(apply R.move;exact rfl)|(apply R.assign;exact rfl)|(apply R.oV;exact rfl;exact rfl)|(apply R.nD;exact rfl;exact rfl)|(apply R.cmp;exact rfl;exact rfl;exact rfl;all_goals intro G;all_goals(try(exfalso;omega)))|(apply R.not;exact rfl;exact rfl)|refine Ev.seq ?_ |refine Ev.region ?_ |(apply Ev.ie;exact rfl)|refine Ev.ret ?_ |refine aE.normal ?_ |refine aE.ret ?_ |(apply aL.ret;exact rfl)|fail))
     all_goals exact⟨_,rfl,by rw[H];rfl⟩
end Go.Pm
namespace Go.Pm
open Go.Proofs
attribute [local irreducible] aE az aO aL Ev ai ah ay
set_option maxRecDepth 4000
set_option maxHeartbeats 4000000
theorem qP(a b:Int):aT C 183 [.int .i64 a,.int .i64 b] (.int .i64 (fZ a b)):=by
 refine aT.of (ay.gk Tryz.func183 rfl ?_)
 (repeat' (first |refine ai.nil ?_ |(apply R.move;exact rfl)|(apply R.assign;exact rfl)|(apply R.cmp;exact rfl;exact rfl;exact rfl;all_goals intro G)|refine Ev.seq ?_ |refine Ev.region ?_ |(apply Ev.ie;exact rfl)|refine Ev.ret ?_ |refine Ev.skip ?_ |refine aE.normal ?_ |refine aE.ret ?_ |(apply aL.ret;exact rfl)|fail))
 all_goals(refine⟨_,rfl,congrArg (PV.int .i64) ?_⟩;unfold fZ;(repeat' split) <;>omega)
theorem wR(a b:Int):aT C 91 [.int .i64 a,.int .i64 b] (.int .i64 (fZ a b)):=by
 refine aT.of (ay.gk Tryz.func91 rfl ?_)
 (repeat' (first |refine ai.nil ?_ |(apply R.move;exact rfl)|(apply R.assign;exact rfl)|(apply R.cmp;exact rfl;exact rfl;exact rfl;all_goals intro G)|refine Ev.seq ?_ |refine Ev.region ?_ |(apply Ev.ie;exact rfl)|refine Ev.ret ?_ |refine Ev.skip ?_ |refine Ev.block ?_ |refine aE.normal ?_ |refine aE.ret ?_ |refine az.normal ?_ |refine az.ret ?_ |(apply aL.ret;exact rfl)|fail))
 all_goals(refine⟨_,rfl,congrArg (PV.int .i64) ?_⟩;unfold fZ;(repeat' split) <;>omega)
theorem W4(k s o l)(a:bm l<1000000000)(P:∀t∈l,aT C 29 [enc t] (.int .i64 (size t))):aT C 29 [enc (.mk k s o l)] (.int .i64 (size (.mk k s o l))):=by
 refine aT.of (ay.gk Tryz.func29 rfl ?_);rw[bE];have K:=bF l;have Z:=aj l;have D:=dR l;refine wB ?_;refine Ev.loop (I:=λB Y=>∃(i:Nat) (n:Int) (b:Nat->PV),Y=⟨al [(1,.ptr 0 0 0 0),(3,.int .i64 n),(4,.int .i64 i)] b,[⟨.m,0,4,[.agg [.int .i64 k,.str s,.int .i64 o,.aa false (ae l)]]⟩]⟩/\B+i=l.length/\0<=n/\1+eL l=n+eL (l.drop i)) l.length ?_ ?_;exact⟨0,1,_,St.ba ⟨rfl,rfl,rfl,trivial⟩,rfl,by omega,rfl⟩
 ·rintro B _ ⟨i,n,b,rfl,g,z,M⟩;refine wE (λG=>?_) λG=>?_
  ·obtain⟨f,v,u,y,X,Q,J,w,_⟩:=mb G;refine R.lj T6 rfl rfl rfl rfl Q rfl rfl ?_;have h:=cc X;have d:=dY (.mk f v u y);have U:=dR (l.drop (i+1));rw[J,eL]at M;refine wB ?_;refine R.call rfl rfl ?_;show ah C 2 _ [.agg [.int .i64 f,.str v,.int .i64 u,.aa false (ae y)]] _ _;rw[<-bE];refine ah.pure (r:=.int .i64 (size (.mk f v u y))) rfl (by simp[aw,lL]) (by simpa[aY,mV]using P _ X) ?_;refine wB ?_;exact⟨B - 1,by omega,i+1,n+size (.mk f v u y),_,St.ba ⟨rfl,rfl,rfl,trivial⟩,by omega,by omega,by omega⟩
  ·refine⟨_,rfl,?_⟩;simp only[b9,bo,size];rw[se G,eL]at M;rw[M];simp
theorem Ac(t:Tm)(W:aC t<1000000000):aT C 29 [enc t] (.int .i64 (size t)):=by
 induction t using Tm.ind with
 |h k s o l P=>
  simp only[aC]at W;exact W4 k s o l yxa (λt Z=>P t Z yxo)
theorem Tw(k s o l)(e:bm l<1000000000)(P:∀t∈l,aT C 27 [enc t] (.int .i64 (size t))):aT C 27 [enc (.mk k s o l)] (.int .i64 (size (.mk k s o l))):=by
 refine aT.of (ay.gk Tryz.func27 rfl ?_);rw[bE];have K:=bF l;have Z:=aj l;have D:=dR l;refine wB ?_;refine Ev.loop (I:=λB Y=>∃(i:Nat) (n:Int) (J:ab) (b:Nat->PV),Y=⟨al [(1,.ptr 0 0 0 0),(3,.int .i64 n),(7,.aa false (ae l)),(8,.int .i64 (ae l).length),(9,.int .i64 i)] b,⟨.m,0,4,[.agg [.int .i64 k,.str s,.int .i64 o,.aa false (ae l)]]⟩::J⟩/\B+i=l.length/\0<=n/\1+eL l=n+eL (l.drop i)) l.length ?_ ?_;exact⟨0,1,[],_,St.ba ⟨rfl,rfl,rfl,rfl,rfl,trivial⟩,rfl,by omega,rfl⟩
 ·rintro B _ ⟨i,n,J,b,rfl,g,z,M⟩;refine wE (λG=>?_) λG=>?_
  ·obtain⟨f,v,u,y,X,Q,a,w,_⟩:=mb G;refine R.lj T6 rfl rfl rfl rfl Q rfl rfl ?_;have h:=cc X;have d:=dY (.mk f v u y);have U:=dR (l.drop (i+1));rw[a,eL]at M;refine wB ?_;refine R.call rfl rfl ?_;show ah C 2 _ [.agg [.int .i64 f,.str v,.int .i64 u,.aa false (ae y)]] _ _;rw[<-bE];refine ah.pure (r:=.int .i64 (size (.mk f v u y))) rfl (by simp[aw,lL]) (by simpa[aY,mV]using P _ X) ?_;refine wB ?_;exact⟨B - 1,by omega,i+1,n+size (.mk f v u y),_,_,St.ba ⟨rfl,rfl,rfl,rfl,rfl,trivial⟩,by omega,by omega,by omega⟩
  ·refine⟨_,rfl,?_⟩;simp only[b9,bo,size];rw[se G,eL]at M;rw[M];simp
theorem tE(t:Tm)(W:aC t<1000000000):aT C 27 [enc t] (.int .i64 (size t)):=by
 induction t using Tm.ind with
 |h k s o l P=>
  simp only[aC]at W;exact Tw k s o l yxa (λt Z=>P t Z yxo)
end Go.Pm
namespace Go.Pm
variable{l:List Pw}{d i sz:Nat}{ops:Array Oper}{j:String}{e:Array Edge}{r:List Oper}{Y:Nat->PV}{L:List (Nat×PV)}{H X h:ab}{Q:St->Prop}{x:Operand}{B k:IntKind}{n q:Int}{es:List PV}
open Go.Proofs
attribute [local irreducible] aE az aO aL Ev ai ah ay bh
set_option maxRecDepth 4000
set_option maxHeartbeats 4000000
set_option maxHeartbeats 2000000 in
theorem Vy(k s o l k' s' o' l')(W:aC (.mk k s o l)<1000000000)(M:aC (.mk k' s' o' l')<1000000000)
  (P:∀t∈l,∀t'∈l',aT C 135 [enc t,enc t'] (.int .i64 (aZ t t'))):aT C 135 [enc (.mk k s o l),enc (.mk k' s' o' l')] (.int .i64 (aZ (.mk k s o l) (.mk k' s' o' l'))):=by
 refine aT.of (ay.gk Tryz.func135 rfl ?_);rw[bE,bE];have H:=Ac _ W;have j:=Ac _ M;have z:aw (ae l)=true:=fy l;have K:aw (ae l')=true:=fy l';have b:=aj l;have d:=aj l';have U:l.length<1000000000:=by have:=bF l;simp only[aC]at W;omega
 have b2:l'.length<1000000000:=by have:=bF l';simp only[aC]at M;omega
 rw[bE]at H j;refine wB ?_;refine D.pR rfl rfl rfl rfl (by simp[aw,aW,z]) rfl rfl (by simpa[aY,b9,bI]using H) ?_;refine wB ?_;refine D.pR rfl rfl rfl rfl (by simp[aw,aW,K]) rfl rfl (by simpa[aY,b9,bI]using j) ?_;refine D.pR rfl rfl rfl rfl rfl rfl rfl (qP _ _) ?_;refine wE (λG=>?_) λG=>?_;exact⟨_,rfl,by simp only[b9,bo,aZ];rw[if_pos G]⟩;have O:=G;clear G;refine R.call rfl rfl (ah.pure rfl rfl (qP k k') ?_)
 (repeat' (first |refine ai.nil ?_ |(apply R.move;exact rfl)|(apply R.assign;exact rfl)|(apply R.kr T6;exact rfl;exact rfl;exact rfl;exact rfl)|(apply R.fieldAddr T6;exact rfl;exact rfl;exact rfl;exact rfl)|(apply R.cmp;exact rfl;exact rfl;exact rfl;all_goals intro G)|(apply R.ZQ;exact rfl;exact rfl;exact rfl;all_goals intro G)|refine Ev.seq ?_ |refine Ev.region ?_ |(apply Ev.ie;exact rfl)|refine Ev.ret ?_ |refine Ev.skip ?_ |refine aE.normal ?_ |refine aE.ret ?_ |(apply aL.ret;exact rfl)|fail))
 exact⟨_,rfl,by simp only[b9,bo,aZ];rw[if_neg O,if_pos G]⟩
 ·rename_i X
  have Q:=G;exact⟨_,rfl,by simp only[b9,bo,aZ];rw[if_neg O,if_neg X,if_pos Q]⟩
 ·rename_i X Q
  have a:=G;exact⟨_,rfl,by simp only[b9,bo,aZ];rw[if_neg O,if_neg X,if_neg (by rw[Q];simp),if_pos a]⟩
 rename_i X Q
 have a:=G;clear G;refine R.call rfl rfl (ah.pure rfl rfl (qP o o') ?_);refine wE (λG=>?_) λG=>?_;exact⟨_,rfl,by simp only[b9,bo,aZ];rw[if_neg O,if_neg X,if_neg (by rw[Q];simp),if_neg (by rw[a];simp),if_pos G]⟩;have g:=G;clear G;refine R.call rfl rfl (ah.pure rfl rfl (qP (ae l).length (ae l').length) ?_);refine wE (λG=>?_) λG=>?_
 ·refine⟨_,rfl,?_⟩;simp only[b9,bo,aZ];rw[b,d]at G ⊢;rw[if_neg O,if_neg X,if_neg (by rw[Q];simp),if_neg (by rw[a];simp),if_neg g,if_pos G]
 have N:=G;clear G
 have uE:l.length=l'.length:=by
  rw[b,d]at N;unfold fZ at N
  repeat' split at N
  all_goals omega
 have y:aZ (.mk k s o l) (.mk k' s' o' l')=oG l l':=by
  rw[b,d]at N;rw[aZ,if_neg O,if_neg X,if_neg (by rw[Q];simp),if_neg (by rw[a];simp),if_neg g,if_neg N]
 refine Ev.loop (I:=λS Y=>∃(i:Nat) (f:Nat->PV),Y=⟨al [(2,.ptr 0 0 0 0),(3,.ptr 1 0 0 0),(9,.int .i64 i)] f,[⟨.m,0,4,[.agg [.int .i64 k,.str s,.int .i64 o,.aa false (ae l)]]⟩,⟨.m,0,4,[.agg [.int .i64 k',.str s',.int .i64 o',.aa false (ae l')]]⟩]⟩/\S+i=l.length/\oG l l'=oG (l.drop i) (l'.drop i)) l.length ?_ ?_;exact⟨0,_,St.ba ⟨rfl,rfl,rfl,trivial⟩,rfl,rfl⟩
 ·rintro S _ ⟨i,f,rfl,hk,Z⟩;refine wE (λG=>?_) λG=>?_
  ·obtain⟨k1,s1,o1,h,w,v,J,ve,_⟩:=mb G;obtain⟨k2,s2,o2,B,n,q,V,u,_⟩:=mb (l:=l') (i:=i) yxa;have A:aw (ae h)=true:=fy h;have F:aw (ae B)=true:=fy B;have e:=P _ w _ n;rw[bE,bE]at e;refine D.lj T6 rfl rfl rfl rfl rfl v rfl rfl ?_;refine wB ?_;refine D.lj T6 rfl rfl rfl rfl rfl q rfl rfl ?_;refine wB ?_;refine D.pR rfl rfl rfl rfl (by simp[aw,aW,A,F]) rfl rfl (by simpa[aY,b9,bI]using e) ?_;refine wE (λG=>?_) λG=>?_
   ·refine⟨_,rfl,?_⟩;simp only[b9,bo];rw[y,Z,J,V,oG,if_pos yxc]
   ·refine⟨S - 1,by omega,i+1,_,St.ba ⟨rfl,rfl,rfl,trivial⟩,by omega,?_⟩;rw[Z,J,V,oG,if_neg yxc]
  ·refine⟨_,rfl,?_⟩;simp only[b9,bo];rw[y,Z,se G,oG]
theorem QH(t t':Tm)(W:aC t<1000000000)(M:aC t'<1000000000):aT C 135 [enc t,enc t'] (.int .i64 (aZ t t')):=by
 induction t using Tm.ind generalizing t' with
 |h k s o l P=>
  obtain⟨B,U,y,H⟩:=t';refine Vy k s o l B U y H W M (λt Z t' a=>P t Z t' ?_ ?_);have:=cc Z;simp only[aC]at W;omega;have:=cc a;simp only[aC]at M;omega
theorem KL(k s o l):gQ (.mk k s o l)=decide (k=3/\(s.toList=CF\/s.toList=CG\/s.toList=CH)):=by
 simp only[gQ,<-Bool.decide_or,<-Bool.decide_and,or_assoc]
theorem abw:(ByteArray.mk #[109,117,108]).toList=CF:=Qh
theorem abx:(ByteArray.mk #[105,110,118]).toList=CG:=Qi
theorem aby:(ByteArray.mk #[111,110,101]).toList=CH:=Qj
theorem A9(k s o l):aT C 229 [enc (.mk k s o l)] (.bool (gQ (.mk k s o l))):=by
 refine aT.of (ay.gk Tryz.func229 rfl ?_);rw[bE,KL]
 (repeat' (first |refine ai.nil ?_ |(apply R.FN;exact rfl;exact rfl;exact rfl)|(apply R.vA;exact rfl;exact rfl;exact rfl)|(apply R.gUn;exact rfl;exact rfl)|(apply R.move;exact rfl)|(apply R.assign;exact rfl)|(apply R.oV;exact rfl;exact rfl)|(apply R.nD;exact rfl;exact rfl)|(apply R.kr T6;exact rfl;exact rfl;exact rfl;exact rfl)|(apply R.fieldAddr T6;exact rfl;exact rfl;exact rfl;exact rfl)|(apply R.cmp;exact rfl;exact rfl;exact rfl;all_goals intro G)|(apply R.YF;exact rfl;exact rfl;all_goals intro G)|(apply R.box;exact rfl;exact rfl;exact rfl;exact .nil)|refine Ev.seq ?_ |refine Ev.region ?_ |refine Ev.ret ?_ |refine aE.normal ?_ |(apply aL.ret;exact rfl)|fail))
 all_goals try simp only[abw,abx,aby]at *
 all_goals first
  |exact⟨_,rfl,congrArg PV.bool (decide_eq_true (by simp[*])).symm⟩
  |exact⟨_,rfl,congrArg PV.bool (decide_eq_false (by simp[*])).symm⟩
theorem K9(a b:ByteArray):aT C 128 [.str a,.str b] (.int .i64 (Fq a b)):=by
 have e:Fq a b=Lib.compareBytes a.data.toList b.data.toList:=by unfold Fq fL;rw[ByteArray.toList_eq,ByteArray.toList_eq]
 rw[e];refine aT.of (ay.gk Tryz.func128 rfl ?_);refine wB ?_;refine R.call rfl rfl (ah.ext rfl rfl rfl ?_);refine wB ?_;exact⟨_,rfl,rfl⟩
theorem TL(a b:ByteArray):aT C 92 [.str a,.str b] (.int .i64 (Fq a b)):=by
 refine aT.of (ay.gk Tryz.func92 rfl ?_);refine wB ?_;refine R.call rfl rfl (ah.pure rfl rfl (K9 a b) ?_);refine wB ?_;exact⟨_,rfl,rfl⟩
theorem W8(k s o l k' s' o' l')(W:aC (.mk k s o l)<1000000000)(M:aC (.mk k' s' o' l')<1000000000)
  (P:∀t∈l,∀t'∈l',aT C 59 [enc t,enc t'] (.int .i64 (aZ t t'))):aT C 59 [enc (.mk k s o l),enc (.mk k' s' o' l')] (.int .i64 (aZ (.mk k s o l) (.mk k' s' o' l'))):=by
 refine aT.of (ay.gk Tryz.func59 rfl ?_);have d:=oz k s o l k' s' o' l';have H:=tE _ W;have e:=tE _ M;rw[bE]at H e;rw[bE,bE];generalize aZ (.mk k s o l) (.mk k' s' o' l')=f at d ⊢;have q:=aj l;have N:=aj l';have F:l.length<1000000000:=by have:=bF l;simp only[aC]at W;omega
 have U:l'.length<1000000000:=by have:=bF l';simp only[aC]at M;omega
 have z:fZ (ae l).length (ae l').length=0->l.length=l'.length:=λh=>by have:=jZ h;omega
 rw[<-q,<-N]at d;refine wB ?_;refine D.pR rfl rfl rfl rfl yxk rfl rfl (by simpa[aY,b9,bI]using H) ?_;refine wB ?_;refine D.pR rfl rfl rfl rfl yxk rfl rfl (by simpa[aY,b9,bI]using e) ?_;refine D.pR rfl rfl rfl rfl rfl rfl rfl (wR _ _) ?_;generalize fZ (size (.mk k s o l)) (size (.mk k' s' o' l'))=v at d ⊢
 (repeat' (first |refine ai.nil ?_ |(apply R.move;exact rfl)|(apply R.assign;exact rfl)|(apply R.kr T6;exact rfl;exact rfl;exact rfl;exact rfl)|(apply R.fieldAddr T6;exact rfl;exact rfl;exact rfl;exact rfl)|(apply R.cmp;exact rfl;exact rfl;exact rfl;all_goals intro G;all_goals(try(exfalso;omega)))|refine Ev.seq ?_ |refine Ev.region ?_ |refine bh.nil ?_ |(apply D.assign;exact rfl)|(apply Ev.ie;exact rfl)|refine Ev.skip ?_ |refine Ev.block ?_ |refine aE.normal ?_ |fail))
 all_goals try(refine R.call rfl rfl (ah.pure rfl rfl (wR k k') ?_);generalize fZ k k'=K at d ⊢;(repeat' (first |refine ai.nil ?_ |(apply R.move;exact rfl)|(apply R.assign;exact rfl)|(apply R.kr T6;exact rfl;exact rfl;exact rfl;exact rfl)|(apply R.fieldAddr T6;exact rfl;exact rfl;exact rfl;exact rfl)|(apply R.cmp;exact rfl;exact rfl;exact rfl;all_goals intro G;all_goals(try(exfalso;omega)))|refine Ev.seq ?_ |refine Ev.region ?_ |(apply Ev.ie;exact rfl)|refine Ev.skip ?_ |refine Ev.block ?_ |refine aE.normal ?_ |fail)))
 all_goals try(refine R.call rfl rfl (ah.pure rfl rfl (TL s s') ?_);generalize Fq s s'=w at d ⊢;(repeat' (first |refine ai.nil ?_ |(apply R.move;exact rfl)|(apply R.assign;exact rfl)|(apply R.kr T6;exact rfl;exact rfl;exact rfl;exact rfl)|(apply R.fieldAddr T6;exact rfl;exact rfl;exact rfl;exact rfl)|(apply R.cmp;exact rfl;exact rfl;exact rfl;all_goals intro G;all_goals(try(exfalso;omega)))|refine Ev.seq ?_ |refine Ev.region ?_ |(apply Ev.ie;exact rfl)|refine Ev.skip ?_ |refine Ev.block ?_ |refine aE.normal ?_ |fail)))
 all_goals try(refine R.call rfl rfl (ah.pure rfl rfl (wR o o') ?_);generalize fZ o o'=O at d ⊢;(repeat' (first |refine ai.nil ?_ |(apply R.move;exact rfl)|(apply R.assign;exact rfl)|(apply R.kr T6;exact rfl;exact rfl;exact rfl;exact rfl)|(apply R.fieldAddr T6;exact rfl;exact rfl;exact rfl;exact rfl)|(apply R.cmp;exact rfl;exact rfl;exact rfl;all_goals intro G;all_goals(try(exfalso;omega)))|(apply R.xp T6;exact rfl;exact rfl)|refine Ev.seq ?_ |refine Ev.region ?_ |(apply Ev.ie;exact rfl)|refine Ev.skip ?_ |refine Ev.block ?_ |refine aE.normal ?_ |fail)))
 all_goals try(refine R.call rfl rfl (ah.pure rfl rfl (wR (ae l).length (ae l').length) ?_);generalize fZ (ae l).length (ae l').length=y at d z ⊢;refine wD ?_)
 all_goals(
  refine Ev.loop (I:=λS Y=>∃(i:Nat) (c:Int) (b:Nat->PV),Y=⟨al [(2,.ptr 0 0 0 0),(3,.ptr 1 0 0 0),(5,.int .i64 c),(6,.int .i64 i)] b,[⟨.m,0,4,[.agg [.int .i64 k,.str s,.int .i64 o,.aa false (ae l)]]⟩,⟨.m,0,4,[.agg [.int .i64 k',.str s',.int .i64 o',.aa false (ae l')]]⟩]⟩/\S+i=l.length/\f=oq c (oG (l.drop i) (l'.drop i))/\(c=0->l.length=l'.length)) l.length ?_ ?_
  ·refine⟨0,_,_,St.ba ⟨rfl,rfl,rfl,rfl,trivial⟩,rfl,?_,?_⟩
   ·rw[d];unfold oq;simp only[ahs];(repeat' split) <;>first |rfl |omega
   ·first |exact z |(intro h;exfalso;omega)
  ·clear d z;rintro S _ ⟨i,c,b,rfl,A,Z,z⟩
   (repeat' (first |refine ai.nil ?_ |(apply R.FN;exact rfl;exact rfl;exact rfl)|(apply R.vA;exact rfl;exact rfl;exact rfl)|(apply R.move;exact rfl)|(apply R.assign;exact rfl)|(apply R.oV;exact rfl;exact rfl)|(apply R.nD;exact rfl;exact rfl)|(apply R.kr T6;exact rfl;exact rfl;exact rfl;exact rfl)|(apply R.fieldAddr T6;exact rfl;exact rfl;exact rfl;exact rfl)|(apply R.cmp;exact rfl;exact rfl;exact rfl;all_goals intro G;all_goals(try(exfalso;omega)))|(apply R.xp T6;exact rfl;exact rfl)|refine Ev.seq ?_ |refine Ev.region ?_ |refine Ev.lT ?_ |(apply D.move;exact rfl)|(apply D.fieldAddr T6;exact rfl;exact rfl;exact rfl;exact rfl)|(apply D.kr T6;exact yxs;exact rfl;exact rfl;exact rfl;exact rfl;exact rfl)|(apply Ev.ie;exact rfl)|refine Ev.ret ?_ |refine Ev.skip ?_ |refine Ev.exit ?_ |refine Ev.block ?_ |refine aE.normal ?_ |refine aE.exit ?_ |refine az.UC ?_ |refine aO.exit ?_ |(apply aL.ret;exact rfl)|fail))
   ·have z:=z yxc;obtain⟨B,s1,o1,l1,X,Q,u,ve,_⟩:=mb G;obtain⟨k2,s2,o2,l2,j,g,V,n,_⟩:=mb (l:=l') (i:=i) yxa;have a:=P _ X _ j;rw[bE,bE]at a;refine D.lj T6 rfl rfl rfl rfl rfl Q rfl rfl ?_;refine wB ?_;refine D.lj T6 rfl rfl rfl rfl rfl g rfl rfl ?_;refine wB ?_;refine D.pR rfl rfl rfl rfl yxk rfl rfl (by simpa[aY,b9,bI]using a) ?_;refine wB ?_;refine⟨S - 1,by omega,i+1,_,_,St.ba ⟨rfl,rfl,rfl,rfl,trivial⟩,by omega,?_,λ_=>z⟩;have J:c=0:=by assumption
    rw[Z,J,u,V,oA];rfl
   ·refine⟨_,rfl,congrArg (PV.int .i64) ?_⟩;have J:c=0:=by assumption
    rw[Z,J,se G,oG];rfl
   ·refine⟨_,rfl,congrArg (PV.int .i64) ?_⟩;rw[Z,oq,if_pos yxc])
theorem dT(t t':Tm)(W:aC t<1000000000)(M:aC t'<1000000000):aT C 59 [enc t,enc t'] (.int .i64 (aZ t t')):=by
 induction t using Tm.ind generalizing t' with
 |h k s o l P=>
  obtain⟨B,U,y,H⟩:=t';refine W8 k s o l B U y H W M (λt Z t' a=>P t Z t' ?_ ?_);have:=cc Z;simp only[aC]at W;omega;have:=cc a;simp only[aC]at M;omega
theorem qD(k s o l n):Cj (.mk k s o l,n)=.agg [.int .i64 k,.str s,.int .i64 o,.aa false (ae l),.int .i64 n]:=rfl
theorem jR(l:List Pw):(cQ l).length=l.length:=by simp[cQ]
theorem vq(G:(i:Int)<((cQ l).length:Int)):∃k s o H n,(.mk k s o H,n)∈l/\(cQ l)[i]?=some (.agg [.int .i64 k,.str s,.int .i64 o,.aa false (ae H),.int .i64 n])/\l.drop i=(.mk k s o H,n)::l.drop (i+1)/\i<l.length/\l[i]?=some (.mk k s o H,n):=by
 have w:i<l.length:=by have:=jR l;omega
 rcases K:l[i]with⟨⟨k,s,o,H⟩,n⟩;refine⟨k,s,o,H,n,K▸agO w,?_,?_,w,?_⟩
 ·unfold cQ;rw[agt,agd w,K];rfl
 rw[ahW w,K];rw[agd w,K]
theorem Nq(G:¬(i:Int)<((cQ l).length:Int)):l.drop i=[]:=agU (by have:=jR l;omega)
theorem zF(l:List Pw):aw (cQ l)=true:=by
 induction l with
 |nil=>rfl
 |cons p l P=>
  obtain⟨⟨k,s,o,H⟩,n⟩:=p;simp only[cQ,agp,aw]at *;rw[P];rfl
theorem zG(l:List Pw):aY (cQ l)=cQ l:=by
 induction l with
 |nil=>rfl
 |cons p l P=>
  obtain⟨⟨k,s,o,H⟩,n⟩:=p;simp only[cQ,agp,aY]at *;rw[P,qD];simp[b9,aY,bI]
def Sm(l:List Pw):Prop:=(∀p∈l,aC p.1<1000000000)/\l.length<100000000
def UA(t:Tm):List Pw->Nat
 |[]=>0
 |p::l=>if aZ p.1 t<0 then UA t l+1 else 0
theorem Ql(t:Tm):∀l:List Pw,UA t l<=l.length
 |[]=>by simp[UA]
 |p::l=>by
  have:=Ql t l;rw[UA]
  split <;>simp <;>omega
theorem Ly(t:Tm):∀(l:List Pw),U9 l->∀(m:Nat) (p:Pw),l[m]?=some p->(aZ p.1 t<0↔m<UA t l)
 |[],_,m,p,h=>by simp at h
 |q::l,s,m,p,h=>by
  obtain⟨v,e⟩:=agE.1 s;rw[UA]
  cases m with
  |zero=>
   simp at h;subst h
   split
   simp;assumption;simp;omega
  |succ m=>
   have d:l[m]?=some p:=by simpa using h
   have P:=Ly t l e m p d;have a:=v p (agq d)
   split
   rw[P];omega
   ·rename_i y
    constructor
    ·intro K
     exact absurd (fH a K) y
    intro R;omega
def fdP(t:Tm)(l:List Pw):Bool:=match l[UA t l]? with |some p=>decide (aZ p.1 t=0)|none=>false
theorem R.XN{C:cA}(T:li C.P){ty:TypeId}{s t:TypeId}{v:Kd}
  (U:cW L x=some (.int k n)) (S:T.kd s=some v) (Z:T.kd t=some (.int B)) (H:B.wrap n=q) (w:ai C ops r ⟨al ((d,.int B q)::L) Y,h⟩ Q):ai C ops (⟨some d,.convert s t x,ty,j,e,none⟩::r) ⟨al L Y,h⟩ Q:=by
 obtain⟨u,y,_⟩:=pz (T.dA _ _ S);exact ai.fO (λX=>by simp[ar,aD,ak U,zB,y,uv (T.dA _ _ Z),H]) w
theorem R.aeq{C:cA}{ty:TypeId}{t u:TypeId}{y:Operand}
  (U:cW L x=some (.int k n)) (F:cW L y=some (.int B 1)) (W:Nat.ble 1 k.bits=true) (hn:n / 2=q) (w:ai C ops r ⟨al ((d,.int k q)::L) Y,h⟩ Q):ai C ops (⟨some d,.binOp .shr t x y u,ty,j,e,none⟩::r) ⟨al L Y,h⟩ Q:=by
 refine ai.fO (λX=>?_) w;have M:=ahm W;have D:min (1:Int).toNat k.bits=1:=by simp;omega
 simp only[ar,aD,ak U,ak F,fS,s9];rw[if_neg yxe];simp only[D];rw[<-hn,Int.fdiv_eq_ediv_of_nonneg _ yxe]
 rfl
theorem XO(h1:0<=n)(X:n<=9223372036854775807):IntKind.u64.wrap n=n:=by
 have:IntKind.u64.wrap n=n % 18446744073709551616:=by simp[IntKind.wrap,IntKind.bits,IntKind.signed]
 rw[this];omega
theorem Qm(p:Pw)(t:Tm)(K:aC p.1<1000000000)(Z:aC t<1000000000):aT C 261 [Cj p,enc t] (.int .i64 (aZ p.1 t)):=by
 have O:=dT p.1 t K Z;obtain⟨⟨k,s,o,l⟩,n⟩:=p;obtain⟨B,U,y,H⟩:=t;refine aT.of (ay.gk Tryz.func261 rfl ?_);simp only[qD,bE]at O ⊢;refine wB ?_;refine R.call rfl rfl (ah.pure rfl yxk (by simpa[aY,b9,bI]using O) ?_);refine wB ?_;exact⟨_,rfl,rfl⟩
theorem U'(l:List Pw)(t:Tm)(S:U9 l)(A:Sm l)(Z:aC t<1000000000):
  aT C 260 [.aa false (cQ l),enc t,.fn 261 []] (.b8 [.int .i64 (UA t l),.bool (fdP t l)]):=by
 obtain⟨z,eR⟩:=A;have h:∀p∈l,aT C 261 [Cj p,enc t] (.int .i64 (aZ p.1 t)):=λp K=>Qm p t (z p K) Z
 have a:=Ql t l;have P:=Ly t l S;have e:fdP t l=match l[UA t l]? with |some p=>decide (aZ p.1 t=0)|none=>false:=rfl
 obtain⟨V,n,W,O⟩:=t;rw[bE];simp only[bE]at h;generalize fdP (.mk V n W O) l=F at e ⊢;generalize UA (.mk V n W O) l=N at a P e ⊢;refine aT.of (ay.gk Tryz.func260 rfl ?_);have cL:=jR l;refine wB ?_;refine Ev.loop (I:=λd Y=>∃(i j:Nat) (b:Nat->PV),Y=⟨al [(0,.aa false (cQ l)),(2,.fn 261 []),(4,.ptr 0 0 0 0),(8,.int .i64 (cQ l).length),(9,.int .i64 i),(10,.int .i64 j)] b,[⟨.m,0,4,[.agg [.int .i64 V,.str n,.int .i64 W,.aa false (ae O)]]⟩]⟩/\d=j - i/\i<=N/\N<=j/\j<=l.length) l.length ?_ ?_;exact⟨0,(cQ l).length,_,St.ba ⟨rfl,rfl,rfl,rfl,rfl,rfl,trivial⟩,by omega,by omega,by omega,by omega⟩
 ·rintro d _ ⟨i,j,b,rfl,hk,i1,i2,i3⟩
  (repeat' (first |refine ai.nil ?_ |(apply R.move;exact rfl)|(apply R.cmp;exact rfl;exact rfl;exact rfl;all_goals intro G)|(apply R.arith;exact rfl;exact rfl;exact rfl;exact(oQ yxa yxa))|refine Ev.seq ?_ |refine Ev.region ?_ |refine Ev.lT ?_ |refine bh.nil ?_ |(apply D.move;exact rfl)|(apply D.assign;exact rfl)|(apply D.FN;exact rfl;exact rfl;exact rfl;exact rfl)|(apply D.vA;exact rfl;exact rfl;exact rfl)|(apply D.nD;exact rfl;exact rfl)|(apply D.cmp;exact rfl;exact rfl;exact rfl;all_goals intro G)|(apply Ev.ie;exact rfl)|refine Ev.ret ?_ |refine Ev.skip ?_ |refine Ev.exit ?_ |refine Ev.block ?_ |refine aE.normal ?_ |refine aE.exit ?_ |refine az.UC ?_ |refine aO.exit ?_ |(apply aL.ret;exact rfl)|fail))
  ·refine R.XN T6 rfl rfl rfl (XO yxa yxa) ?_;refine R.aeq rfl rfl rfl rfl ?_;refine R.XN T6 rfl rfl rfl (oQ yxa yxa) ?_;obtain⟨m,f⟩:∃m:Nat,((i:Int)+j) / 2=m:=⟨(i+j) / 2,by omega⟩;rw[f];refine wB ?_;obtain⟨g,v,u,y,q,X,Q,J,w,H⟩:=vq (l:=l) (i:=m) yxa;have U:=h _ X;have M:=P m _ H;simp only[qD]at U M;refine D.lj T6 rfl rfl rfl rfl rfl Q rfl rfl ?_;refine wB ?_;refine D.pR rfl rfl rfl rfl rfl rfl rfl (by simpa[aY,b9,bI]using U) ?_;refine wE (λG=>?_) λG=>?_;exact⟨j - (m+1),by omega,m+1,j,_,St.ba ⟨rfl,rfl,rfl,rfl,rfl,rfl,trivial⟩,rfl,by omega,by omega,by omega⟩;exact⟨m - i,by omega,i,m,_,St.ba ⟨rfl,rfl,rfl,rfl,rfl,rfl,trivial⟩,rfl,by omega,by omega,by omega⟩
  ·have B:i=N:=by omega
   subst B
   ·obtain⟨g,v,u,y,q,X,Q,J,w,H⟩:=vq (l:=l) (i:=i) yxa;have U:=h _ X;rw[H]at e;simp only[qD]at U;refine D.lj T6 rfl rfl rfl rfl rfl Q rfl rfl ?_;refine wB ?_;refine D.pR rfl rfl rfl rfl rfl rfl rfl (by simpa[aY,b9,bI]using U) ?_;refine wE (λG=>?_) λG=>?_
    ·refine⟨_,rfl,?_⟩;rw[e];simp only[bo,b9,aY];rw[decide_eq_true yxc]
    ·refine⟨_,rfl,?_⟩;rw[e];simp only[bo,b9,aY];rw[decide_eq_false yxc]
  ·have B:i=N:=by omega
   subst B;refine⟨_,rfl,?_⟩;rw[e,agr yxa]
   rfl
theorem qK(l:List Tm):((ae l).all λv=>decide ((cells v).length=4)&& (cells v).all bP)=true:=by
 rw[af9]
 intro v J
 rw[dw]at J;obtain⟨⟨k,s,o,H⟩,_,rfl⟩:=agv.1 J;rw[bE];rfl
theorem Aa(k s o l)(W:aC (.mk k s o l)<1000000000)(P:∀t∈l,aT C 263 [enc t] (enc t)):aT C 263 [enc (.mk k s o l)] (enc (.mk k s o l)):=by
 refine aT.of (ay.gk Tryz.func263 rfl ?_);rw[bE];have Z:=aj l;have K:=bF l;simp only[aC]at W;refine wB ?_;refine ai.heap (h':=[⟨.m,0,4,[.agg [.int .i64 k,.str s,.int .i64 o,.aa false (ae l)]]⟩,⟨.m,0,4,[.agg [.int .i64 0,.str ByteArray.empty,.int .i64 0,.aa true []]]⟩]) rfl ?_;rcases A:l with _ |⟨M,U⟩
 ·refine R.call rfl rfl (ah.de (rv:=.aa true []) (h':=[⟨.m,0,4,[.agg [.int .i64 k,.str s,.int .i64 o,.aa false (ae [])]]⟩,⟨.m,0,4,[.agg [.int .i64 0,.str ByteArray.empty,.int .i64 0,.aa true []]]⟩]) rfl rfl ?_);refine wB ?_;refine R.mw T6 (n:=0) (o:=⟨.m,0,4,[.agg [.int .i64 k,.str s,.int .i64 o,.aa false (ae [])]]⟩) (i:=0) (e:=.agg [.int .i64 k,.str s,.int .i64 o,.aa false (ae [])]) rfl rfl rfl rfl rfl rfl rfl rfl (agb 4) ?_;refine ai.heap (h':=[⟨.m,0,4,[.agg [.int .i64 k,.str s,.int .i64 o,.aa true []]]⟩,⟨.m,0,4,[.agg [.int .i64 0,.str ByteArray.empty,.int .i64 0,.aa true []]]⟩]) rfl ?_;refine wB ?_;refine Ev.loop (I:=λB Y=>∃b,Y=⟨al [(1,.ptr 0 0 0 0),(2,.ptr 1 0 0 0),(11,.int .i64 0),(12,.int .i64 0)] b,[⟨.m,0,4,[.agg [.int .i64 k,.str s,.int .i64 o,.aa true []]]⟩,⟨.m,0,4,[.agg [.int .i64 0,.str ByteArray.empty,.int .i64 0,.aa true []]]⟩]⟩) 0 ⟨_,St.ba ⟨rfl,rfl,rfl,rfl,trivial⟩⟩ ?_;rintro _ _ ⟨b,rfl⟩;refine wF λG=>?_;refine R.mw T6 (n:=0) (o:=⟨.m,0,4,[.agg [.int .i64 0,.str ByteArray.empty,.int .i64 0,.aa true []]]⟩) (i:=0) (e:=.agg [.int .i64 0,.str ByteArray.empty,.int .i64 0,.aa true []]) rfl rfl rfl rfl rfl rfl rfl rfl (agb 4) ?_;refine wB ?_;exact⟨_,rfl,rfl⟩
 ·rw[<-A];refine R.call rfl rfl (ah.de (rv:=.an 2 0 0 (ae l).length) (h':=[⟨.m,0,4,[.agg [.int .i64 k,.str s,.int .i64 o,.aa false (ae l)]]⟩,⟨.m,0,4,[.agg [.int .i64 0,.str ByteArray.empty,.int .i64 0,.aa true []]]⟩,⟨.m,0,4,ae l⟩]) rfl ?_ ?_)
  ·show bW 4 [.aa false (ae l)] _=_;have g:(ae l).isEmpty=false:=by rw[A];rfl
   simp only[bW,g,agn,if_false,newObj];rw[if_pos ⟨qK l,by omega⟩]
   rfl
  rw[Z];refine wB ?_;refine R.mw T6 (n:=0) (o:=⟨.m,0,4,[.agg [.int .i64 k,.str s,.int .i64 o,.aa false (ae l)]]⟩) (i:=0) (e:=.agg [.int .i64 k,.str s,.int .i64 o,.aa false (ae l)]) rfl rfl rfl rfl rfl rfl rfl rfl (agb 4) ?_;refine ai.heap (h':=[⟨.m,0,4,[.agg [.int .i64 k,.str s,.int .i64 o,.an 2 0 0 l.length]]⟩,⟨.m,0,4,[.agg [.int .i64 0,.str ByteArray.empty,.int .i64 0,.aa true []]]⟩,⟨.m,0,4,ae l⟩]) rfl ?_;refine wB ?_;refine R.QA T6 (o:=⟨.m,0,4,ae l⟩) rfl rfl rfl (by show 0+l.length<=(ae l).length;omega) ?_;refine wB ?_;refine Ev.loop (I:=λB Y=>∃(i:Nat) (J:ab) (b:Nat->PV),Y=⟨al [(1,.ptr 0 0 0 0),(2,.ptr 1 0 0 0),(10,.an 2 0 0 l.length),(11,.int .i64 l.length),(12,.int .i64 i)] b,⟨.m,0,4,[.agg [.int .i64 k,.str s,.int .i64 o,.an 2 0 0 l.length]]⟩::⟨.m,0,4,[.agg [.int .i64 0,.str ByteArray.empty,.int .i64 0,.aa true []]]⟩::⟨.m,0,4,ae l⟩::J⟩/\B+i=l.length/\HV J) l.length ?_ ?_;exact⟨0,[],_,St.ba ⟨rfl,rfl,rfl,rfl,rfl,trivial⟩,rfl,HV.nil⟩
  ·rintro B _ ⟨i,J,b,rfl,H,N⟩;refine wE (λG=>?_) λG=>?_
   ·obtain⟨f,v,u,y,X,Q,w,O,_⟩:=mb (l:=l) (i:=i) yxa;have a:=P _ X;rw[bE]at a;refine R.Et T6 (o:=⟨.m,0,4,ae l⟩) rfl rfl rfl rfl rfl yxa (by show 0+l.length<=(ae l).length;omega) ?_;have z:(ae l)[0+i]?=some (.agg [.int .i64 f,.str v,.int .i64 u,.aa false (ae y)]):=by rw[agz];exact Q
    refine R.vK T6 (cs:=[.int .i64 f,.str v,.int .i64 u,.aa false (ae y)]) rfl rfl rfl ?_ yxm ?_;simp[dP,getM,Q,cells];have d:=N.cz (HV.one (ep:=0) (n:=4) (es:=[.agg [.int .i64 f,.str v,.int .i64 u,.aa false (ae y)]]) rfl);have V:br ([⟨.m,0,4,[.agg [.int .i64 k,.str s,.int .i64 o,.an 2 0 0 l.length]]⟩,⟨.m,0,4,[.agg [.int .i64 0,.str ByteArray.empty,.int .i64 0,.aa true []]]⟩,⟨.m,0,4,ae l⟩]++(J++[⟨.m,0,4,[.agg [.int .i64 f,.str v,.int .i64 u,.aa false (ae y)]]⟩]))=true:=Jq (by simp[bB,bq,bj,bg _ _ (fy l)]) d;refine wB ?_;refine D.pR yxc rfl rfl rfl rfl rfl rfl (by simpa[aY,b9,bI]using a) ?_;refine D.Et T6 (o:=⟨.m,0,4,ae l⟩) yxc rfl rfl rfl rfl rfl yxa (by show 0+l.length<=(ae l).length;omega) ?_;refine D.mw T6 (o:=⟨.m,0,4,ae l⟩) (j:=0+i) rfl rfl rfl rfl rfl rfl z rfl rfl (agb 4) ?_
    have q:((⟨.m,0,4,[.agg [.int .i64 k,.str s,.int .i64 o,.an 2 0 0 l.length]]⟩::⟨.m,0,4,[.agg [.int .i64 0,.str ByteArray.empty,.int .i64 0,.aa true []]]⟩::⟨.m,0,4,ae l⟩::J)++[⟨.m,0,4,[.agg [.int .i64 f,.str v,.int .i64 u,.aa false (ae y)]]⟩]:ab).set 2 {(⟨.m,0,4,ae l⟩:ax)with es:=(⟨.m,0,4,ae l⟩:ax).es.set (0+i) (gw 0 4 (.agg [.int .i64 f,.str v,.int .i64 u,.aa false (ae y)]) (.agg [.int .i64 f,.str v,.int .i64 u,.aa false (ae y)]))}=⟨.m,0,4,[.agg [.int .i64 k,.str s,.int .i64 o,.an 2 0 0 l.length]]⟩::⟨.m,0,4,[.agg [.int .i64 0,.str ByteArray.empty,.int .i64 0,.aa true []]]⟩::⟨.m,0,4,ae l⟩::(J++[⟨.m,0,4,[.agg [.int .i64 f,.str v,.int .i64 u,.aa false (ae y)]]⟩]):=by
     have:(ae l).set (0+i) (.agg [.int .i64 f,.str v,.int .i64 u,.aa false (ae y)])=ae l:=by
      have F:=ag z;rw[agd F]at z;rw[<-af7 z];exact List.set_getElem_self F
     show⟨.m,0,4,[.agg [.int .i64 k,.str s,.int .i64 o,.an 2 0 0 l.length]]⟩::⟨.m,0,4,[.agg [.int .i64 0,.str ByteArray.empty,.int .i64 0,.aa true []]]⟩::({(⟨.m,0,4,ae l⟩:ax)with es:=(ae l).set (0+i) (.agg [.int .i64 f,.str v,.int .i64 u,.aa false (ae y)])}:ax)::(J++[_])=_;rw[this]
    refine bh.heap q ?_;refine wB ?_;exact⟨B - 1,by omega,i+1,_,_,St.ba ⟨rfl,rfl,rfl,rfl,rfl,trivial⟩,by omega,d⟩
   ·refine R.mw T6 (n:=0) (o:=⟨.m,0,4,[.agg [.int .i64 0,.str ByteArray.empty,.int .i64 0,.aa true []]]⟩) (i:=0) (e:=.agg [.int .i64 0,.str ByteArray.empty,.int .i64 0,.aa true []]) rfl rfl rfl rfl rfl rfl rfl rfl (agb 4) ?_;refine ai.heap (h':=⟨.m,0,4,[.agg [.int .i64 k,.str s,.int .i64 o,.an 2 0 0 l.length]]⟩::⟨.m,0,4,[.agg [.int .i64 k,.str s,.int .i64 o,.an 2 0 0 l.length]]⟩::⟨.m,0,4,ae l⟩::J) rfl ?_;refine wB ?_;refine⟨.agg [.int .i64 k,.str s,.int .i64 o,.aa false (ae l)],?_,by simp[b9,aY,bI]⟩;have h:(ae l).take l.length=ae l:=by rw[<-Z];exact ahe
    simp[rb,kZ,cells,bo];simp[oE,rf,getM,fy,aW,h,Z]
theorem p9(t:Tm)(W:aC t<1000000000):aT C 263 [enc t] (enc t):=by
 induction t using Tm.ind with
 |h k s o l P=>exact Aa k s o l W (λt Z=>P t Z (by have:=cc Z;simp only[aC]at W;omega))
structure Ca(H:ab)(n d:Int):Prop where
 f1:H[1]?=some ⟨.m,0,1,[.int .i64 n]⟩
 f2:H[2]?=some ⟨.m,0,1,[.int .i64 d]⟩
 hv:HV H
 len:3<=H.length
def CkP(H:ab)(t:Tm)(z n d:Int)(r:PV)(h':ab):Prop:=r=.int .i64 (nodes t)/\∃q V,Ca h' q V/\H.length<=h'.length/\(∀j,j≠1->j≠2->j<H.length->h'[j]?=H[j]?)/\(nodes t=0->q=n+size t/\V=max d (z - 1+depth t))
theorem Ca.cz{H:ab}{n d:Int}(c:Ca H n d){K:ab}(a:HV K):Ca (H++K) n d:=by
 have:=c.len;exact⟨by rw[af8 yxa];exact c.f1,by rw[af8 yxa];exact c.f2,c.hv.cz a,by simp;omega⟩
theorem Ca.aev{d:Int}(c:Ca H n d)(q:Int):Ca (H.set 1 ⟨.m,0,1,[.int .i64 q]⟩) q d:=by
 have:=c.len;exact⟨agc yxa,by rw[aga yxa];exact c.f2,c.hv.set 1 yxb rfl,by simp;omega⟩
theorem Ca.aew{d:Int}(c:Ca H n d)(V:Int):Ca (H.set 2 ⟨.m,0,1,[.int .i64 V]⟩) n V:=by
 have:=c.len;exact⟨by rw[aga yxa];exact c.f1,agc yxa,c.hv.set 2 yxb rfl,by simp;omega⟩
theorem Ca.take{H:ab}{n d:Int}(c:Ca H n d)(m:Nat)(a:3<=m):Ca (H.take m) n d:=by
 have:=c.len;exact⟨by rw[agD yxa];exact c.f1,by rw[agD yxa];exact c.f2,λo f=>c.hv o (ahi f),by simp;omega⟩
theorem QD(k s o l)(hb:aC (.mk k s o l)<1000000000)
  (ih:∀t∈l,∀(H:ab) (z n d:Int),Ca H n d->0<=n->n+size t<=1000000000->0<=d->d<=1000000000->0<=z->z+depth t<=1000000000->ay C 140 [enc t,.int .i64 z,.ptr 1 0 0 0,.ptr 2 0 0 0] H (CkP H t z n d))
  (H:ab) (z n d:Int) (hH:Ca H n d) (n0:0<=n) (n1:n+size (.mk k s o l)<=1000000000) (d0:0<=d) (d1:d<=1000000000) (l0:0<=z) (l1:z+depth (.mk k s o l)<=1000000000):
  ay C 140 [enc (.mk k s o l),.int .i64 z,.ptr 1 0 0 0,.ptr 2 0 0 0] H (CkP H (.mk k s o l) z n d):=by
 refine ay.gk Tryz.func140 rfl ?_;rw[bE];have hlen:=bF l;have cL:=aj l;have jz:=dR l;have hds:=mQ l;have ZI:s.size<1000000000:=by simp only[aC]at hb;omega
 have PW:bm l<1000000000:=by simp only[aC]at hb;omega
 simp only[size]at n1;simp only[depth]at l1;have hHl:=hH.len;refine wB ?_;obtain⟨F,A⟩:∃x,x=H++[⟨.m,0,4,[.agg [.int .i64 k,.str s,.int .i64 o,.aa false (ae l)]]⟩]:=⟨_,rfl⟩;have K:Ca F n d:=by rw[A];exact hH.cz (HV.one rfl)
 have b1:F[H.length]?=some ⟨.m,0,4,[.agg [.int .i64 k,.str s,.int .i64 o,.aa false (ae l)]]⟩:=by rw[A];simp
 have g1:F.length=H.length+1:=by rw[A];simp
 have p1:∀j,j<H.length->F[j]?=H[j]?:=λj g=>by rw[A,af8 g]
 refine ai.heap A.symm ?_;clear A;have Q:=K.f1;have S:=K.f2;refine wB ?_;refine R.mw T6 (n:=0) (o:=⟨.m,0,1,[.int .i64 n]⟩) (i:=0) (e:=.int .i64 n) rfl rfl rfl (bw Q rfl yxb) rfl rfl rfl rfl (agb 1) ?_;obtain⟨J,D⟩:∃x,x=F.set 1 ⟨.m,0,1,[.int .i64 (n+1)]⟩:=⟨_,rfl⟩;have N:Ca J (n+1) d:=by rw[D];exact K.aev _
 have b2:J[H.length]?=some ⟨.m,0,4,[.agg [.int .i64 k,.str s,.int .i64 o,.aa false (ae l)]]⟩:=by rw[D,aga yxa];exact b1
 have g2:J.length=H.length+1:=by rw[D];simp[g1]
 have p2:∀j,j≠1->j<H.length->J[j]?=H[j]?:=λj O g=>by rw[D,aga yxa];exact p1 j g
 refine ai.heap D.symm ?_;clear D K b1 g1 p1 Q S;have Q:=N.f1;have S:=N.f2;refine wB ?_;refine R.mw T6 (n:=0) (o:=⟨.m,0,1,[.int .i64 d]⟩) (i:=0) (e:=.int .i64 d) rfl rfl rfl (bw S rfl yxb) rfl rfl rfl rfl (agb 1) ?_;obtain⟨y,w⟩:∃x,x=J.set 2 ⟨.m,0,1,[.int .i64 (max d z)]⟩:=⟨_,rfl⟩;have U:Ca y (n+1) (max d z):=by rw[w];exact N.aew _
 have b3:y[H.length]?=some ⟨.m,0,4,[.agg [.int .i64 k,.str s,.int .i64 o,.aa false (ae l)]]⟩:=by rw[w,aga yxa];exact b2
 have g3:y.length=H.length+1:=by rw[w];simp[g2]
 have p3:∀j,j≠1->j≠2->j<H.length->y[j]?=H[j]?:=λj O X g=>by rw[w,aga yxa];exact p2 j O g
 refine ai.heap w.symm ?_;clear w N b2 g2 p2 Q S
 have f:∀e:Int,node (.mk k s o l)=e->e≠0->CkP H (.mk k s o l) z n d (.int .i64 e) y:=λe O X=>by
  have:nodes (.mk k s o l)=e:=by rw[nodes,if_pos (by rw[O];exact X),O]
  exact⟨by rw[this],_,_,U,by omega,p3,λh=>absurd (this▸h) X⟩
 (repeat' (first |refine ai.nil ?_ |(apply R.FN;exact rfl;exact rfl;exact rfl)|(apply R.vA;exact rfl;exact rfl;exact rfl)|(apply R.move;exact rfl)|(apply R.assign;exact rfl)|(apply R.oV;exact rfl;exact rfl)|(apply R.nD;exact rfl;exact rfl)|(apply R.fieldAddr T6;exact rfl;exact rfl;exact rfl;exact rfl)|(apply R.cmp;exact rfl;exact rfl;exact rfl;all_goals intro G;all_goals(try(exfalso;omega)))|(apply R.xp T6;exact rfl;exact rfl)|(apply R.uC T6;exact rfl;exact rfl;exact rfl;exact yxc;exact rfl)|refine Ev.seq ?_ |refine Ev.region ?_ |(apply Ev.ie;exact rfl)|refine Ev.ret ?_ |refine Ev.skip ?_ |refine Ev.block ?_ |refine aE.normal ?_ |refine aE.ret ?_ |refine az.normal ?_ |refine az.ret ?_ |(apply aL.ret;exact rfl)|fail))
 all_goals try(refine f 1 ?_ yxe;rw[node,if_pos yxa])
 all_goals(refine R.call rfl rfl (ah.pure rfl rfl (Jk s ZI) ?_);cases Z:jE s <;>(repeat' (first |refine ai.nil ?_ |(apply R.move;exact rfl)|(apply R.assign;exact rfl)|(apply R.fieldAddr T6;exact rfl;exact rfl;exact rfl;exact rfl)|(apply R.cmp;exact rfl;exact rfl;exact rfl;all_goals intro G;all_goals(try(exfalso;omega)))|(apply R.not;exact rfl;exact rfl)|(apply R.xp T6;exact rfl;exact rfl)|(apply R.uC T6;exact rfl;exact rfl;exact rfl;exact yxc;exact rfl)|refine Ev.seq ?_ |refine Ev.region ?_ |(apply Ev.ie;exact rfl)|refine Ev.ret ?_ |refine Ev.skip ?_ |refine Ev.block ?_ |refine aE.normal ?_ |refine aE.ret ?_ |(apply aL.ret;exact rfl)|fail)))
 all_goals try(refine f 2 ?_ yxe;rw[node,if_neg yxa,if_pos Z])
 all_goals try(refine f 3 ?_ yxe;rw[node,if_neg yxa,if_neg (by rw[Z];simp),if_pos yxa])
 all_goals(
  have NF:node (.mk k s o l)=0:=by rw[node,if_neg yxa,if_neg (by rw[Z];simp),if_neg yxa]
  have Y:nodes (.mk k s o l)=mr l:=by rw[nodes,if_neg (by rw[NF];simp)]
  clear f G
  refine Ev.loop (I:=λk' st=>∃(i:Nat) (q:ab) (B u:Int) (Y':Nat->PV),st=⟨al [(1,.int .i64 z),(2,.ptr 1 0 0 0),(3,.ptr 2 0 0 0),(4,.ptr H.length 0 0 0),(57,.aa false (ae l)),(58,.int .i64 (ae l).length),(59,.int .i64 i)] Y',q⟩/\k'+i=l.length/\
   Ca q B u/\q[H.length]?=some ⟨.m,0,4,[.agg [.int .i64 k,.str s,.int .i64 o,.aa false (ae l)]]⟩/\H.length<q.length/\(∀j,j≠1->j≠2->j<H.length->q[j]?=H[j]?)/\0<=B/\B+eL (l.drop i)=n+1+eL l/\z<=u/\u<=1000000000/\max u (z+lf (l.drop i))=max d (z+lf l)/\mr l=mr (l.drop i)) l.length ?_ ?_
  exact⟨0,y,_,_,_,St.ba ⟨rfl,rfl,rfl,rfl,rfl,rfl,rfl,trivial⟩,rfl,U,b3,by omega,p3,by omega,rfl,by omega,by omega,by simp only[ahs];omega,rfl⟩
  ·clear U b3 g3 p3;rintro k' _ ⟨i,q,B,u,Y',rfl,hk,c4,b4,g4,p4,m0,m1,m2,m3,m4,M⟩;refine wE (λG=>?_) λG=>?_
   ·obtain⟨k1,s1,o1,v,il,dm,hd,ve,_⟩:=mb G;refine R.lj T6 rfl rfl rfl rfl dm rfl rfl ?_;have F9:=dR (l.drop (i+1));have afF:=mQ (l.drop (i+1));have hdm:=qF _ il;have XY:=dY (.mk k1 s1 o1 v);have hp1:=qM (.mk k1 s1 o1 v);rw[hd,eL]at m1;rw[hd,lf]at m4;rw[hd,mr]at M;refine wB ?_;obtain⟨a,b⟩:∃x,x=q++[⟨.m,0,4,[.agg [.int .i64 k1,.str s1,.int .i64 o1,.aa false (ae v)]]⟩]:=⟨_,rfl⟩;have c5:Ca a B u:=by rw[b];exact c4.cz (HV.one rfl)
    have b5:a[H.length]?=some ⟨.m,0,4,[.agg [.int .i64 k,.str s,.int .i64 o,.aa false (ae l)]]⟩:=by rw[b,af8 yxa];exact b4
    have g5:a.length=q.length+1:=by rw[b];simp
    have p5:∀j,j≠1->j≠2->j<H.length->a[j]?=H[j]?:=λj O X g=>by rw[b,af8 yxa];exact p4 j O X g
    have QE:=ih _ il a (z+1) B u c5 m0 yxa yxa m3 yxa yxa;rw[bE]at QE;refine R.call rfl rfl (ah.zi rfl b.symm rfl rfl QE ?_);rintro r P ⟨rfl,n',d',V,g6,p6,e6⟩;refine⟨V.hv,λ_=>?_,λhf=>Bool.noConfusion hf⟩;have W:=V.take a.length yxa;have b7:(P.take a.length)[H.length]?=some ⟨.m,0,4,[.agg [.int .i64 k,.str s,.int .i64 o,.aa false (ae l)]]⟩:=by rw[agD yxa,p6 _ yxa yxa yxa];exact b5
    have g7:(P.take a.length).length=a.length:=by simp;omega
    have p7:∀j,j≠1->j≠2->j<H.length->(P.take a.length)[j]?=H[j]?:=λj O X g=>by rw[agD yxa,p6 j O X yxa];exact p5 j O X g
    generalize P.take a.length=H7 at W b7 g7 p7 ⊢;clear V p6;refine wE (λG=>?_) λG=>?_
    ·have bD:=G;rw[if_pos bD]at M;exact⟨by rw[Y,M];rfl,_,_,W,by omega,p7,λh=>absurd (by rw[<-M,<-Y];exact h) bD⟩
    ·rw[if_neg yxc]at M;obtain⟨e7,e8⟩:=e6 yxa;exact⟨k' - 1,by omega,i+1,H7,n',d',_,St.ba ⟨rfl,rfl,rfl,rfl,rfl,rfl,rfl,trivial⟩,by omega,W,b7,by omega,p7,by omega,by omega,by omega,by omega,by omega,M⟩
   ·rw[se G]at M m1 m4;simp only[eL,lf,mr]at M m1 m4;refine⟨by rw[Y,M];rfl,_,_,c4,by omega,p4,λ_=>⟨?_,?_⟩⟩;simp only[size];omega;simp only[depth];omega)
theorem NG(t:Tm)(W:aC t<1000000000):∀(H:ab) (z n d:Int),Ca H n d->0<=n->n+size t<=1000000000->0<=d->d<=1000000000->0<=z->z+depth t<=1000000000->ay C 140 [enc t,.int .i64 z,.ptr 1 0 0 0,.ptr 2 0 0 0] H (CkP H t z n d):=by
 induction t using Tm.ind with
 |h k s o l P=>exact QD k s o l W (λt Z=>P t Z (by have:=cc Z;simp only[aC]at W;omega))
theorem _root_.zb5{P:Prop}(h:P:=by
 have B:nodes (.mk k s o l)=0:=by omega
 obtain⟨j,v⟩:=w B;exact⟨_,rfl,by rw[y B,if_pos yxa];rfl⟩):P:=h
theorem dZ(t:Tm)(W:aC t<100000000):aT C 108 [enc t] (.int .i64 (valid t)):=by
 have H:=NG t yxa;have D:=dY t;have F:=qM t;obtain⟨k,s,o,l⟩:=t;refine aT.of (ay.gk Tryz.func108 rfl ?_);rw[bE]at H ⊢;refine wB ?_;refine R.mw T6 (n:=0) (o:=⟨.m,0,1,[.int .i64 0]⟩) (i:=0) (e:=.int .i64 0) rfl rfl rfl rfl rfl rfl rfl rfl (agb 1) ?_
 skip
 refine R.mw T6 (n:=0) (o:=⟨.m,0,1,[.int .i64 0]⟩) (i:=0) (e:=.int .i64 0) rfl rfl rfl rfl rfl rfl rfl rfl (agb 1) ?_;refine ai.heap (h':=[⟨.m,0,4,[.agg [.int .i64 k,.str s,.int .i64 o,.aa false (ae l)]]⟩,⟨.m,0,1,[.int .i64 0]⟩,⟨.m,0,1,[.int .i64 0]⟩]) rfl ?_;refine wB ?_
 have M:Ca [⟨.m,0,4,[.agg [.int .i64 k,.str s,.int .i64 o,.aa false (ae l)]]⟩,⟨.m,0,1,[.int .i64 0]⟩,⟨.m,0,1,[.int .i64 0]⟩] 0 0:=⟨rfl,rfl,λo f=>by
  simp at f;rcases f with rfl |rfl <;>exact⟨by simp,rfl⟩,by simp⟩
 refine R.call rfl rfl (ah.zi rfl rfl rfl rfl (H _ 1 0 0 M yxa yxa yxa yxa yxa yxa) ?_);rintro r d ⟨rfl,q,V,a,b,U,w⟩;refine⟨a.hv,λ_=>?_,λu=>Bool.noConfusion u⟩;have z:=a.take 3 (agb 3);refine ai.heap (h':=d.take 3) rfl ?_;generalize d.take 3=A at z ⊢;have g:=z.f1;have K:=z.f2;clear a U b H;have J:nodes (.mk k s o l)≠0->valid (.mk k s o l)=nodes (.mk k s o l):=λh=>by rw[valid,if_pos h]
 have y:nodes (.mk k s o l)=0->valid (.mk k s o l)=if 400<size (.mk k s o l)\/40<depth (.mk k s o l)then 3 else 0:=λh=>by rw[valid,if_neg yxa]
 (repeat' (first |refine ai.nil ?_ |(apply R.FN;exact rfl;exact rfl;exact rfl)|(apply R.vA;exact rfl;exact rfl;exact rfl)|(apply R.move;exact rfl)|(apply R.assign;exact rfl)|(apply R.oV;exact rfl;exact rfl)|(apply R.nD;exact rfl;exact rfl)|(apply R.cmp;exact rfl;exact rfl;exact rfl;all_goals intro G)|(apply R.uC T6;exact rfl;exact rfl;exact rfl;exact yxc;exact rfl)|refine Ev.seq ?_ |refine Ev.region ?_ |(apply Ev.ie;exact rfl)|refine Ev.ret ?_ |refine Ev.skip ?_ |refine aE.normal ?_ |refine aE.ret ?_ |(apply aL.ret;exact rfl)|fail))
 exact⟨_,rfl,by rw[J yxc];rfl⟩
 ·exact zb5
 ·exact zb5
 ·have B:nodes (.mk k s o l)=0:=by omega
  obtain⟨j,v⟩:=w B;exact⟨_,rfl,by rw[y B,if_neg yxa];rfl⟩
theorem LP.take{H:ab}{v:PV}{sz:Nat}{es:List PV}{r:PV}{h':ab}(a:LP H v sz es r h'){N:Nat}(i:H.length<=N)(z:cY N r=true):LP H v sz es r (h'.take N):=by
 refine⟨?_,a.hv.take N,by have:=a.len;simp;omega,λj M Q=>by rw[agD yxa];exact a.fr j M Q,a.ref⟩;rcases a.out with⟨rfl,e⟩|⟨V,g,rfl,e⟩;exact .inl ⟨rfl,e⟩
 ·have:V<N:=by simpa[cY,eu]using z
  exact .inr ⟨V,g,rfl,by rw[agD this];exact e⟩
theorem LP.start{v:PV}(o:Out sz H v es)(w:HV H)(e:HV X):LP H v sz es v (H++X):=
 ⟨o.cz X,w.cz e,by simp,λj M _=>af8 M,λj g n R=>.inl ⟨g,n,R⟩⟩
theorem LP.trans{K:ab}{v V rv:PV}{U:List PV}(a:LP H v sz es V h)(b:LP (h++X) V sz U rv K):LP H v sz U rv K:=by
 have O:=a.len;have e:=b.len;simp at e;refine⟨b.out,b.hv,by omega,λj M d=>?_,λj g n R=>?_⟩
 ·rw[b.fr j yxd (λg n R=>?_),af8 yxa,a.fr j M d];rcases a.ref j g n R with⟨P,q,Q⟩|Q;exact d P q Q;omega
 ·rcases b.ref j g n R with⟨P,q,Q⟩|Q
  ·exact a.ref j P q Q
  ·simp at Q;exact .inr yxa
theorem Out.kZ{sz:Nat}{h:ab}{v:PV}{es:List PV}(o:Out sz h v es)(J:aw es=true):∃b,kZ h v=some b/\b9 b=.aa false (aY es):=by
 rcases o with⟨rfl,rfl⟩|⟨V,g,rfl,N⟩;exact⟨_,rfl,rfl⟩;exact⟨.aa false es,by simp[Pm.kZ,rf,getM,N,J],by simp[b9]⟩
theorem R.Jj{C:cA}(T:li C.P){ty:TypeId}{t el:TypeId}{v:PV}
  (U:cW L x=some v) (g:T.kd t=some (.sl el)) (o:Out sz h v es) (k:ai C ops r ⟨al ((d,(.int .i64 es.length))::L) Y,h⟩ Q):
  ai C ops (⟨some d,.call ⟨.builtin .len,#[x],#[t]⟩,ty,j,e,none⟩::r) ⟨al L Y,h⟩ Q:=by
 rcases o with⟨rfl,rfl⟩|⟨V,a,rfl,N⟩;exact R.xp T (xs:=[]) (ts:=[]) U g k;exact R.QA T (xs:=[]) (ts:=[]) (o:=⟨.m,a,sz,es⟩) U g (bw N rfl yxb) (by show 0+es.length<=es.length;omega) k
end Go.Pm
