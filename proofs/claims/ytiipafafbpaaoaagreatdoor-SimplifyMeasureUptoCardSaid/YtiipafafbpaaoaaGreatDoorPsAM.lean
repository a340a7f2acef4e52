/-
  Pm, a part. Conditions: none.
-/
import Derived.Test.YtiipafafbpaaoaaGreatDoorPsAL
import Derived.Shelf.SlLaysF0
import Derived.Test.YtiipafafbpaaoaaGreatDoorProg
import Derived.KernelRfl
import Derived.Shelf.Strings.OnBuilder
set_option linter.unusedVariables false
set_option linter.unusedSimpArgs false
set_option linter.unnecessarySimpa false
set_option linter.unusedSectionVars false
namespace Go.Pm
variable{H J h:ab}{f:FuncId}{args:List PV}{c n:Nat}{l:List cg}{R:PV}{e:Int}{a:List (lW×Bool)}{A F:Nat->Prop}{w w':World}{Z:List (Nat×Nat)}{vs:List Value}
namespace aI
open Go.Proofs
attribute [local irreducible] aE az aO aL Ev ai ah ay bh bH
set_option maxRecDepth 4000
structure OkA(of:List (lW×Bool)):Prop where
 len:of.length<10000000
 bd:∀x∈of,(∀b∈x.1.bs,rD b)/\x.1.bs.length<100000000
theorem ah.ck{k:fC}{Q:PV->ab->Prop}(a:ay C f args H (λr h'=>r=.b8 []/\CK H c l R k h'))(b:c<H.length)(q:∀h',CK H c l R k h'->Q (.b8 []) h')(d:C.mode f=.opened:=by rfl):ah C 2 f args H Q:=
 ah.sm a (λr h' p=>⟨p.2.hr,p.2.len⟩) (λr h' p=>by rw[p.1];exact q h' p.2) (λr h' p z=>by rw[p.1];exact q _ (p.2.take b z)) d
theorem WW(G:H[c]?=some (pH l R e))(f:Out 3 H R (bY a)):c∉bJ R:=λB=>by
 rcases f with⟨rfl,_⟩|⟨V,g,rfl,X⟩;simp[bJ]at B
 ·simp[bJ]at B;subst B;rw[G]at X;have Q:=congrArg ax.es (af7 X)
  cases a with
  |nil=>simp[bY,pH]at Q
  |cons x a=>simp[bY,kW,pH]at Q
theorem CK.err{A:Int}(w:HR H)(G:H[c]?=some (pH l R e))(f:Out 3 H R (bY a)):CK H c l R ⟨a.map Prod.fst,A⟩ (H.set c (pH l R A)):=by
 have J:=f.bq;have g:=WW G f;refine⟨w.set _ (by simp[pH]) (by simp[pH,bB,Pm.bq];simpa using J),by simp,⟨R,a,agc (ag G),f.of_eq λi B=>aga (by rintro rfl;exact g B),rfl,λi B=>.inl B⟩,λj O X Q=>aga (agV X)⟩
theorem WX(r:Int)(d:List cg)(c:Nat)(l:List cg)(R:PV)(a:List (lW×Bool))(e:Int)(H:ab)(w:HR H)(G:H[c]?=some (pH l R e))(f:Out 3 H R (bY a))(D:OkA a)(b:d.length<1000000000)(h:∀x∈d,x.kn.length<10000000/\∀t∈x.kn++[x.tm],aC t<10000000):
  ay C 20 [.ptr c 0 0 0,.I r,.aa false (aR d)] H (λv h'=>v=.b8 []/\CK H c l R (tU r d ⟨a.map Prod.fst,e⟩) h'):=by
 have J:=gP d b h;have F:=ag G;have O:=λq:e=0=>MT r true [] d c l R a e H w G f D.len yxb yxb D.bd
 have z:(aU []:List PV)=[]:=rfl;rw[z]at O;have g:tU r d ⟨a.map Prod.fst,e⟩=if e≠0 then⟨a.map Prod.fst,e⟩else if gB d≠0 then⟨a.map Prod.fst,gB d⟩else if(a.map Prod.fst).any (ml r [])=true then⟨a.map Prod.fst,e⟩else⟨a.map Prod.fst++[⟨r,[],d⟩],0⟩:=rfl;unfold pH at G;refine ay.x T6 Tryz.func20 rfl ?_
 by_cases q:e=0
 ·have O:=O q
  by_cases S:gB d=0
  ·refine wA ?_;refine .p J ?_;refine wA ?_;refine ah.ck O F (λh' V=>?_);refine wA ?_;refine⟨rfl,?_⟩;rw[g,if_neg (by simp[q]),if_neg (by simp[S])];rw[q]at V ⊢;exact V
  ·refine wA ?_;refine .p J ?_;refine wA ?_;refine⟨rfl,?_⟩;rw[g,if_neg (by simp[q]),if_pos S];exact CK.err w G f
 ·refine wA ?_;refine⟨rfl,?_⟩;rw[g,if_pos q];exact⟨w,agb _,⟨R,a,G,f,rfl,λi B=>.inl B⟩,λ_ _ _ _=>rfl⟩
end aI
variable[iD:Inhabited Prop]
set_option maxRecDepth 4000
theorem VI{v:Value}{f:Bool}{es:List PV}(h:cd w A v (.aa f es)):cd w A v (.aa false es):=by
 cases h with
 |gJ a j _ u=>exact .gJ a j false (λh=>by cases h)
 |aa b U j q _ _ K O X Q G d N H n=>exact .aa b U j q false es K O X (λh=>by cases h) G d N H n
theorem Re{C:cA}(K:dn C)(Q:ic C)(B:∀(i:Func) (c:Code),C.P.funcs[f]?=some i->i.body=some c->codeOk i.ntmps c=true)
  {args:List PV} (J:aw args=true) {t y:PV} {G:ab} (e:dC C (n+1) f args []=some (t,G)) (h1:yb G t=some y)
  {h:ab} {w:World} {F:Nat->Prop} {Z:List (Nat×Nat)} {vs:List Value} (H:bp w F Z h) (a:L2 (aG w (Av F h Z) Z h) vs args):nC C.P 2 w F Z h f vs (b9 y) h:=by
 have A:∀b,Av F h Z b->b<w.heap.size:=λb W=>Av.lt H W
 have d:∀b,Av (Av F h Z) [] [] b↔Av F h Z b:=λb=>⟨λR=>R.elim (λx=>x) (λR=>absurd R (l6 b)),.inl⟩
 have D:L2 (aG w (Av (Av F h Z) [] []) [] []) vs args:=⟨a.1,λj M=>.val (((a.2 j M).CN (by
  rw[bz]at J;exact af9.1 J _ (by rw[agA,agd M];simp))).jk (λb W=>(d b).1 W))⟩
 refine(ur K Q (pQ K Q n) B args [] _ G e w (Av F h Z) [] vs (bp.empty w _ A H.fG) D).mono ?_;rintro X w' ⟨v,S,rfl,U,z,N,_⟩;have g:=rW N;refine⟨v,Z,rfl,.val ?_,H.Cm g,g.xa h Z,λR=>by omega⟩;refine(zg z (λb _ W a=>W (.inl a)) U h1 (λV o q Y O u=>?_)).b9;rcases u with u |u;exact z.out V o q Y O (.inl u);exact z.out V o q Y O (.inr u)
theorem aG.back{A':Nat->Prop}{z:List (Nat×Nat)}(d:Z.length=h.length)(w:∀b,A b->A' b){v:Value}{p:PV}(b:aG w' A' (Z++z) (h++J) v p):
  ∀{w0:World} {u:Nat->Prop} {D:Value},aG w0 u Z h D p->aG w' A Z h v p:=by
 induction b with
 |val S=>intro _ _ _ _;exact .val (S.jk w)
 |undef=>intro _ _ _ _;exact .undef
 |any v=>intro _ _ _ _;exact .any v
 |an v V g U K o n B O X Q G e=>
  intro _ _ _ a
  have t:=a.eC.1;rw[af8 t]at O;rw[af8 yxa]at X;exact .an v V g U K o n B O X Q G e
 |ptr v V g i U o n B O X Q G e=>
  intro _ _ _ a
  have t:=a.vu.1;rw[af8 t]at O;rw[af8 yxa]at X;exact .ptr v V g i U o n B O X Q G e
 |cq v V o n B O X Q e=>
  intro _ _ _ a
  have t:V<h.length:=by
   cases a with
   |val S=>cases S
   |cq _ _ H F _ y=>exact ag y
  rw[af8 t]at O;rw[af8 yxa]at X;exact .cq v V o n B O X Q e
 |agg W Y d _ P=>
  intro _ _ _ a
  obtain⟨q,_,_,R⟩:=a.lS;exact .agg W Y d λj M=>P j M (R j M)
 |b8 W Y d _ P=>
  intro _ _ _ a
  obtain⟨q,_,_,R⟩:=a.qG;exact .b8 W Y d λj M=>P j M (R j M)
 |fn f W Y d _ P=>
  intro _ _ _ a
  obtain⟨q,_,_,R⟩:=a.zH;exact .fn f W Y d λj M=>P j M (R j M)
 |pK f k W Y d _ P=>
  intro _ _ _ a
  obtain⟨q,_,_,R⟩:=a.Lx;exact .pK f k W Y d λj M=>P j M (R j M)
theorem Av.cz{e:List (Nat×Nat)}(A:Z.length=h.length){b:Nat}(a:Av F h Z b):Av F (h++J) (Z++e) b:=by
 rcases a with a |⟨V,o,n,D,N,P,M⟩;exact .inl a
 ·have:=ag D;exact .inr ⟨V,o,n,by rw[af8 this];exact D,by rw[af8 yxa];exact N,P,M⟩
theorem bp.forget{g:List (Nat×Nat)}(H:bp w F Z h)(G:bp w' F (Z++g) (h++J))(s:eN w h Z w' (h++J) (Z++g)):bp w' F Z h/\eN w h Z w' h Z:=by
 have K:=H.len;have f:∀{V:Nat} {o:ax},h[V]?=some o->(h++J)[V]?=some o:=λe=>by rw[af8 (ag e)];exact e
 have S:∀{V:Nat} {n:Nat×Nat},Z[V]?=some n->(Z++g)[V]?=some n:=λe=>by rw[af8 (ag e)];exact e
 have t:∀b,Av F h Z b->Av F (h++J) (Z++g) b:=λb=>Av.cz K
 refine⟨⟨K,G.fin,λV o n D N P=>?_,λV ee o o' n dB Y D N P e4 m1 m2=>G.iv V ee o o' n dB Y (f D) (f N) (S P) (S e4) m1 m2,λV o n D N P=>G.out V o n (f D) (S N) P,G.fG.jk t⟩,
  ⟨s.size,agb _,s.ba,λ_ _ m=>m,FJ.refl h Z,λV o e _=>⟨e,rfl⟩,s.os,s.tape,s.output,s.drawn⟩⟩
 have X:=H.obj V o n D N P;rcases G.obj V o n (f D) (S N) P with⟨T,cs,y,A,Q,R,W⟩|⟨O,es,u,y,A,Q⟩
 ·obtain⟨T0,vy,j1,j2,M,j4,j5⟩:=X.c R;refine .inl ⟨T,cs,y,A,Q,R,λi e q=>⟨(W i e q).1,λj p B=>?_⟩⟩;obtain⟨v,U,z⟩:=(W i e q).2 j p B;obtain⟨v0,_,d⟩:=(j5 i e q).2 j p B;exact⟨v,U,z.back K t d⟩
 ·obtain⟨_,es0,a,j1,j2,M⟩:=X.m O;refine .inr ⟨O,es,u,y,A,λi e q=>?_⟩;obtain⟨k,v,m,rfl,U,z,q3⟩:=Q i e q;obtain⟨k',v',m',d,q5,q6,q7⟩:=M i _ q;simp only[PV.agg.injEq,aiz,and_true]at d;obtain⟨rfl,rfl⟩:=d;exact⟨k,v,m,rfl,U,z.back K t q6,q3.back K t q7⟩
theorem Qk{q:List (Nat×Nat)}(A:Z.length=h.length)(H:q.length=(h++J).length)(s:eN w h Z w' (h++J) q):∃e,q=Z++e:=by
 refine⟨q.drop h.length,?_⟩
 have:q.take h.length=Z:=by
  apply agZ
  intro j
  by_cases M:j<h.length
  ·rw[agy,if_pos M];have D:=agd M;have N:=agd (show j<Z.length by omega)
   by_cases U:h[j].mu=.m
   ·obtain⟨y,z,R,g,d,G,F⟩:=s.refs j _ _ D N (by rw[U];simp);rw[af8 M,D]at R;obtain rfl:=af7 R;rw[g,(F rfl).2.2,N]
   exact(s.Ja j _ D U).2
  rw[agr yxd,agr yxa]
 rw[<-this,ahu]
theorem Nr{C:cA}(K:dn C)(Q:ic C)(Y:∀(i:Func) (c:Code),C.P.funcs[f]?=some i->i.body=some c->codeOk i.ntmps c=true)
  {args cs g:List PV} {h J:ab} (e:dC C (n+1) f args h=some (.agg cs,h++J)) (h1:oE (h++J) cs=some g) (zI:∀V∈Jb (.agg cs),h.length<=V)
  {w:World} {F:Nat->Prop} {Z:List (Nat×Nat)} {vs:List Value} (H:bp w F Z h) (a:L2 (aG w (Av F h Z) Z h) vs args):nC C.P 2 w F Z h f vs (b9 (.agg g)) h:=by
 refine(ur K Q (pQ K Q n) Y args h _ _ e w F Z vs H a).mono ?_;rintro en w' ⟨v,Z',rfl,q1,z,y,_⟩;obtain⟨γ,rfl⟩:=Qk H.len z.len y;obtain⟨U,W⟩:=H.forget z y;refine⟨v,Z,rfl,.val (cd.b9 ?_),U,W,λR=>by omega⟩;obtain⟨us,rfl,hl,R⟩:=q1.lS;obtain⟨l1,l2⟩:=FK h1;refine .agg us g yxa λj hj=>?_
 refine Ei z (λb _ X a=>X (Av.cz H.len a)) (R j yxa) (l2 j yxa) ?_;rintro V o q m1 O u t d;have bL:=zI V (FM (f:=tJ) (show j<cs.length by omega) m1);have uu:=z.out V o q O u t;rcases d with d |⟨S,o',B,D,N,G,M⟩;exact uu d
 ·have A:=ag D;exact z.iv S V o' o B q yxa (by rw[af8 A];exact D) O (by rw[af8 (by have:=H.len;omega)];exact N) u G (by rcases t with h |h <;>rw[h] <;>simp) M
end Go.Pm
namespace Go.Pm
variable{V n:Nat}{J h h':ab}{mu:Mu}{s xs:ByteArray}{R o:Int}{t u:Tm}{q r:PV}{cs:List PV}{x:ax}
namespace aI
open Go.Proofs
attribute [local irreducible] aE az aO aL Ev ai ah ay bh bH
set_option maxRecDepth 4000
theorem Bk(t:Tm):aT C 167 [enc t] (.bool (decide (t.k=1))):=by
 rw[au];refine aT.x T6 Tryz.func167 rfl ?_;exact zav
theorem HU(t:Tm):aT C 213 [enc t] (.agg [.str t.s,.I t.o]):=by
 rw[au];refine aT.x T6 Tryz.func213 rfl ?_;refine wA ?_;exact⟨_,rfl,rfl⟩
theorem DE(a b:Tm)(j:aC a<1000000000)(W:aC b<1000000000):aT C 165 [enc a,enc b] (.bool (decide (aZ a b=0))):=by
 have O:=(dT a b j W).nine;rw[au a,au b]at O ⊢;refine aT.x T6 Tryz.func165 rfl ?_;refine wA ?_;refine .p O ?_;exact zav
theorem Kz(a b:Tm)(j:a.l.length<1000000000)(W:b.l.length<1000000000):aT C 166 [enc a,enc b] (.bool (alike a b)):=by
 have D:=aj a.l;have N:=aj b.l;rw[au a,au b];refine aT.x T6 Tryz.func166 rfl ?_
 (repeat' (first |(refine Rn.go ?_;conv=>whnf)|refine .mk ?_ |refine .mk (λG=>?_) λG=>?_ |fail))
 all_goals exact⟨_,rfl,by first |(simp[bo,b9,alike,iP, *];done)|(simp[bo,b9,alike,iP, *];omega)⟩
theorem Tc(x:Tm)(k s o l):cG (pre (.mk k s o l)) x=(decide (aZ x (.mk k s o l)=0)||l.any λt=>cG (pre t) x):=by
 have K:∀l:List Tm,cG (cX l) x=l.any λt=>cG (pre t) x:=λl=>by
  induction l with
  |nil=>rfl
  |cons t l P=>
   simp only[cX,ahU,<-P];simp[cG]
 have S:decide (aZ (.mk k s o l) x=0)=decide (aZ x (.mk k s o l)=0):=by
  have:=di x (.mk k s o l);rw[decide_eq_decide];omega
 rw[<-K,pre];simp only[cG,ahU,S]
theorem Td(x t:Tm)(u:aT C 169 [enc x,enc t] (.bool (cG (pre t) x)))(V:Nat)(H:ab)(h0:H[V]?=some ⟨.m,0,4,[enc x]⟩):ay C 212 [enc t,.ptr V 0 0 0] H (λr h'=>r=.bool (cG (pre t) x)/\hC H h'):=by
 have F:=ag h0;rw[au x]at h0 u;rw[au t]at u ⊢;refine ay.x T6 Tryz.func212 rfl ?_;refine wA ?_;refine .p u ?_;refine wA ?_;exact⟨rfl,(hC.refl _).cz (HV.one yxb)⟩
theorem HW(x:Tm)(U:aC x<1000000000)(t:Tm):aC t<1000000000->aT C 169 [enc x,enc t] (.bool (cG (pre t) x)):=by
 induction t using Tm.ind with
 |h k s o l P=>
  intro W
  have z:=bF l
  have u:∀t∈l,aC t<1000000000:=λt Z=>by
   have:=cc Z;simp only[aC]at W;omega
  have M:=W;simp only[aC]at M;have O:=DE x (.mk k s o l) U W;have G:=qV l 212 [.ptr 0 0 0 0] (λt=>cG (pre t) x) [⟨.m,0,4,[enc x]⟩,⟨.m,0,4,[enc (.mk k s o l)]⟩] yxa (λt Z=>gi.opened λY R=>Td x t (P t Z (u t Z)) 0 Y (R.at rfl));rw[Tc];rw[au x,bE]at O G ⊢
  cases J:decide (aZ x (.mk k s o l)=0)
  ·rw[J]at O;refine aT.x T6 Tryz.func169 rfl ?_;refine wA ?_;refine .p O ?_;refine wA ?_;refine .ex G (λd R=>?_);refine wA ?_;exact⟨_,rfl,rfl⟩
  ·rw[J]at O;refine aT.x T6 Tryz.func169 rfl ?_;refine wA ?_;refine .p O ?_;refine wA ?_;exact⟨_,rfl,rfl⟩
end aI
open Go.Proofs
set_option maxRecDepth 4000
def Bl(n:Nat):List PV->ab->Option (PV×ab)
 |[.cq V,p],h=>match xi h V,Ew (b9 p)with
  |some o,some t=>match o.es with
   |[.agg [.agg [.str f,.int .i64 R],q]]=>match Ew (b9 q)with
    |some u=>if size t<=n/\valid t=0/\valid (.mk 1 f R [])=0/\aW p=true/\aW q=true then some (enc (cw [⟨.mk 1 f R [],u⟩] t),h)else none
    |none=>none
   |_=>none
  |_,_=>none
 |_,_=>none
theorem MO(f:h[V]?=some ⟨mu,0,0,[.agg [.agg [.str xs,.I R],enc u]]⟩)(d:mu≠.x)(hn:size t<=n)(Z:valid t=0)(U:valid (.mk 1 xs R [])=0):
  Bl n [.cq V,enc t] h=some (enc (cw [⟨.mk 1 xs R [],u⟩] t),h):=by
 simp only[Bl,qZ f d,mV,Bm];rw[if_pos ⟨hn,Z,U,lL t,lL u⟩]
theorem OW(h:b9 q=enc u):∃f es,q=.agg [.I u.k,.str u.s,.I u.o,.aa f es]/\aY es=ae u.l:=by
 obtain⟨k,s,o,l⟩:=u;rw[bE]at h
 cases q with
 |agg Y=>
  simp only[b9,PV.agg.injEq]at h
  match Y,h with
  |[a,b,c,d],h=>
   simp only[aY,aiz,and_true]at h;obtain⟨O,X,Q,G⟩:=h
   cases a <;>simp only[b9,reduceCtorEq,PV.int.injEq]at O
   cases b <;>simp only[b9,reduceCtorEq,PV.str.injEq]at X
   cases c <;>simp only[b9,reduceCtorEq,PV.int.injEq]at Q
   cases d <;>simp only[b9,reduceCtorEq,PV.aa.injEq]at G
   obtain⟨rfl,rfl⟩:=O;obtain⟨rfl,rfl⟩:=Q;subst X;exact⟨_,_,rfl,G.2⟩
  |[],h=>simp[aY]at h
  |[_],h=>simp[aY]at h
  |[_,_],h=>simp[aY]at h
  |[_,_,_],h=>simp[aY]at h
  |_::_::_::_::_::_,h=>simp[aY]at h
 |_=>simp[b9]at h
def Fj(h:ab)(t:Tm)(r:PV)(h':ab):Prop:=∃Y f J,r=.agg Y/\h'=h++J/\oE (h++J) Y=some f/\(∀i∈Jb (.agg Y),h.length<=i)/\b9 (.agg f)=enc t
noncomputable def CU(n:Nat):cA:=Nt aI.C [(215,Bl n)]
theorem adN(n:Nat)(x)(h:x∈[(215,Bl n)]):aI.zX x.1=.no:=by
 simp only[agi,ag3,or_false]at h;subst h
 rfl
theorem adO{f:FuncId}{args:List PV}(a:aT aI.C f args r):aT (CU n) f args r:=aT.up (lu (adN n)) a
noncomputable def TU(n:Nat):li (CU n).P:=aI.T6
theorem _root_.zbf{P:Prop}(h:P:=by
 have O:IntKind.min .i64=-9223372036854775808:=rfl;have X:IntKind.max .i64=9223372036854775807:=rfl;simp only[Lit.wf,O,X,age,decide_eq_true_eq];omega):P:=h
theorem KA{s:ByteArray}{o:Int}(hv:valid (.mk 1 s o [])=0):rL aI.C.P 228 (.agg [.str s,.int .i64 o])=true:=by
 have h1:=(mg (dS.1 hv).1).1;have hs:=C4 (ti h1).1
 have ho:0<=o/\o<=5:=by
  simp only[node]at h1
  split at h1
  cases h1
  ·rename_i hn
   simp only[not_or,Int.not_lt]at hn;omega
 have hu:aI.C.P.underlying 228=_:=Tryz.underlying228;have h3:aI.C.P.underlying 3=some (.int .i64):=by kernel_rfl
 have h9:aI.C.P.underlying 9=some .string:=by kernel_rfl
 have c3:aI.C.P.cellsOf 3=1:=by kernel_rfl
 have c9:aI.C.P.cellsOf 9=1:=by kernel_rfl
 have cu:aI.C.P.cellsOf 228=2:=by kernel_rfl
 have k1:aI.C.P.keyTypeAt 3 228=true:=by kernel_rfl
 have k2:aI.C.P.tiled 3 228=true:=by kernel_rfl
 have k3:aI.C.P.keyType 228=true:=by kernel_rfl
 have hw:(Lit.int .i64 o).wf=true:=by
  have h1:IntKind.min .i64=-9223372036854775808:=rfl;have h2:IntKind.max .i64=9223372036854775807:=rfl;simp only[Lit.wf,h1,h2,age,decide_eq_true_eq];omega
 have hm:s.size<=maxLen:=by unfold maxLen;omega
 obtain⟨d,hd⟩:∃d,aI.C.P.types.size+1=d+2:=⟨aI.C.P.types.size - 1,by
  have:0<aI.C.P.types.size:=of_decide_eq_true (by kernel_rfl);omega⟩
 have hf:(Value.agg #[.string s,.int .i64 o]).formed aI.C.P 228=true:=by simp[Value.formed,hu,cu]
 have hl:aI.C.P.keyLits (d+2) 228 [.string s,.int .i64 o]=some [.string s.data.toList,.int .i64 o]:=by
  unfold Program.keyLits;simp only[hu,cu];simp;unfold Program.keyLits;simp[h3,h9,c3,c9,hw,hm]
 have hk:keyOf aI.C.P 228 (.agg #[.string s,.int .i64 o])=some (.string (keyBytes [.string s.data.toList,.int .i64 o])):=by
  unfold keyOf;rw[hu];simp only[k3,hf,hd,ahd,if_true];rw[show(Value.agg #[Value.string s,Value.int .i64 o]).cells.toList=[.string s,.int .i64 o]from rfl,hl]
  rfl
 simp only[rL,oN,rJ,k1,k2,FG,hu,hk]
 rfl
theorem my.lk{C:cA}{t:TypeId}{m k:Operand}{G:Bool}{L:Al}{K:PV->Prop}{u v:PV}(d:cW L m=some u)(g:cW L k=some v)(A:lQ C.P h t u v G=some r)(w:Rn (K r)):my C (.lookup t m k G) L h K:=
 .mk (λX W Y=>by simp only[ar,aD,ak d,ak g,A,ago]) w
theorem HX(b:h[V]?=some ⟨mu,0,0,[.agg [.agg [.str xs,.I R],q]]⟩)(d:mu≠.x)(U:valid (.mk 1 xs R [])=0)(Z:valid (.mk 1 s o [])=0):
  lQ aI.C.P h 230 (.cq V) (.agg [.str s,.I o]) true=some (if s=xs/\o=R then .b8 [q,.bool true]else .b8 [.agg Nm,.bool false]):=by
 have y:aI.C.P.underlying 230=some (.map 228 38):=by kernel_rfl
 have M:jN aI.C.P 38=some (.agg Nm):=aI.T6.pJ _ _ rfl;have f:=KA Z;have A:=KA U;have B:aI.C.P.underlying 228=_:=Tryz.underlying228;have D:rz aI.C.P 228 (.agg [.str s,.I o])=false:=by unfold rz;rw[B]
 have S:nr [.str s,.I o] [.str xs,.I R]=decide (s=xs/\o=R):=by
  simp[nr,FH,kQ];rw[Bool.eq_iff_iff];simp[Go.MapKept.bytes_beq]
 have u:rN aI.C.P 228 (.agg [.str s,.I o]) [.agg [.agg [.str xs,.I R],q]]=some (re [.str s,.I o] [.agg [.agg [.str xs,.I R],q]] 0):=by
  unfold rN;simp only[D,f,ahh,ahG,Zk,A,ahd]
  rfl
 have e:=qZ b d
 have t:re [.str s,.I o] [.agg [.agg [.str xs,.I R],q]] 0=if s=xs/\o=R then some (0,q)else none:=by
  simp only[re,S,decide_eq_true_eq]
 rw[t]at u;simp only[lQ,y,M,Ci,f,Bool.or_true,if_true,e,u]
 by_cases a:s=xs/\o=R
 simp only[if_pos a,fQ,if_true];simp only[if_neg a,fQ,if_true]
theorem mE{o:ax}(e:h[V]?=some o):(h++J)[V]?=some o:=by rw[af8 (ag e)];exact e
theorem WK{p:PV}(e:aW p=true):rf h p=some p:=by
 cases p <;>first |(simp[aW]at e;done)|(simp only[rf,e,if_true])
theorem DF{h:ab}:∀{cs:List PV},aw cs=true->oE h cs=some cs
 |[],_=>rfl
 |c::cs,e=>by
  simp only[aw,age]at e;simp only[oE,WK e.1,DF e.2]
theorem Fj.NW(a:aw cs=true)(hn:b9 (.agg cs)=enc t):Fj h t (.agg cs) (h++J):=by
 refine⟨cs,cs,J,rfl,rfl,DF a,λi B=>?_,hn⟩;simp only[Jb,cells]at B;exfalso;obtain⟨c,G,B⟩:=ag6.1 B
 have O:aW c=true:=by
  rw[bz,af9]at a;exact a c G
 cases c <;>first |(simp[tJ]at B;done)|(simp[aW]at O;done)
theorem abj:(h++[x]++J)[h.length]?=some x:=by simp
theorem Te:(h++[x])[h.length]?=some x:=by simp
theorem KB(A:h.length<=h'.length)(K:∀j,j<h.length->h'[j]?=h[j]?):h'=h++h'.drop h.length:=by
 conv=>lhs;rw[<-ahu h.length h']
 congr 1
 apply agZ
 intro j
 by_cases M:j<h.length
 rw[agD M,K j M];rw[agr yxd,agr yxa]
theorem HY{j:Nat}(t:h.length<=V)(M:j<h.length):((h++J).set V x)[j]?=h[j]?:=by
 rw[aga yxa,af8 M]
theorem Fj.YK(J:aw cs=true)(hn:b9 (.agg cs)=enc t)(A:h.length<=h'.length)(K:∀j,j<h.length->h'[j]?=h[j]?):Fj h t (.agg cs) h':=by
 rw[KB A K];exact Fj.NW J hn
theorem HZ{x:Tm}(g:t.k=1):cw [⟨x,u⟩] t=if aZ x t=0 then u else t:=by
 obtain⟨k,s,o,l⟩:=t;simp only[Tm.k]at g;subst g;rw[cw,if_pos rfl,mz,mz]
theorem abk(f:h[V]?=some ⟨mu,0,0,[.agg [.agg [.str xs,.I R],q]]⟩)(d:mu≠.x)(y:b9 q=enc u)(H:aW q=true)(hn:size t<=n)(Z:valid t=0)(U:valid (.mk 1 xs R [])=0):
  Bl n [.cq V,enc t] h=some (enc (cw [⟨.mk 1 xs R [],u⟩] t),h):=by
 simp only[Bl,qZ f d,mV,Bm,y];rw[if_pos ⟨hn,Z,U,lL t,H⟩]
attribute [local irreducible] aE az aO aL Ev ai ah ay bh
theorem WL(n:Nat)(G:h[V]?=some ⟨mu,0,0,[.agg [.agg [.str xs,.I R],q]]⟩)(X:mu≠.x)(hq:b9 q=enc u)(H:aW q=true)(hx:valid (.mk 1 xs R [])=0)(k s o l)(Z:valid (.mk k s o l)=0)(hn:size (.mk k s o l)<=n+1):
  ay (CU n) 215 [.cq V,enc (.mk k s o l)] h (Fj h (cw [⟨.mk 1 xs R [],u⟩] (.mk k s o l))):=by
 have N:=adO (n:=n) (aI.Bk (.mk k s o l));have y:=adO (n:=n) (aI.HU (.mk k s o l));have cL:=aj l;obtain⟨qf,qs,rfl,hqs⟩:=OW hq;rw[bE]at N y ⊢;refine ay.x (TU n) Tryz.func215 rfl ?_
 by_cases S:k=1
 ·subst S;have yM:l=[]:=iL Z rfl;subst yM;have A:=Z;refine wA ?_;refine .p N ?_;refine wA ?_;refine .p y ?_;refine wA ?_
  by_cases F:s=xs/\o=R
  ·refine .lk rfl rfl ((HX (s:=s) (o:=o) (mE (mE G)) X hx A).trans (congrArg some (if_pos F))) ?_;refine wA ?_;refine .mk ?_ (jJ (T:=TU n) rfl (agc yxb) rfl rfl (by rfl) (by rfl));obtain⟨rfl,rfl⟩:=F;refine .go ?_;rw[HZ rfl,if_pos (cP _)];exact Fj.YK (by simpa[aW,aw]using H) hq yxb (λj M=>by rw[ags,ags];exact HY yxb M)
  ·refine .lk rfl rfl ((HX (s:=s) (o:=o) (mE (mE G)) X hx A).trans (congrArg some (if_neg F))) ?_;refine wA ?_;refine .mk (o:=⟨.m,0,4,[enc (.mk 1 s o [])]⟩) ?_ (by simp[getM,bE]);rw[bE];refine wA ?_;refine .mk ?_ (jJ (T:=TU n) rfl (agc yxb) rfl rfl (by rfl) (by rfl));refine .go ?_;rw[HZ rfl,if_neg (λh=>F (by have:=dD h;cases this;exact⟨rfl,rfl⟩))];exact Fj.YK yxb (mV (.mk 1 s o [])) yxb (λj M=>by rw[ags,ags];exact HY yxb M)
 ·have hd:decide ((Tm.mk k s o l).k=1)=false:=decide_eq_false S;rw[hd]at N;have h8:=Ai Z;have yd:((ae l).length:Int)<=(ae l).length/\((ae l).length:Int)<=1073741824:=⟨Int.le_refl _,by omega⟩;have Kn:cw [⟨.mk 1 xs R [],u⟩] (.mk k s o l)=.mk k s o (cR [⟨.mk 1 xs R [],u⟩] l):=by rw[cw,if_neg S]
  refine wA ?_;refine .p N ?_;refine wC (λhc=>?_) λhc=>?_
  ·refine .mk ?_ (jJ (T:=TU n) rfl (by exact Te) rfl rfl (by rfl) (by rfl));refine .go ?_;have yM:l=[]:=agm yxa;subst yM;rw[Kn,ags];exact Fj.NW yxb (mV (.mk k s o []))
  ·obtain⟨d,a⟩:∃d:ab,d=h++[⟨.m,0,4,[.agg (If k s o l)]⟩]++[⟨.m,0,4,[.agg Nm]⟩]++[⟨.m,0,3+1,List.replicate (ae l).length (.agg Nm)⟩]:=⟨_,rfl⟩;obtain⟨b,B⟩:∃m:Nat,m=h.length:=⟨_,rfl⟩;obtain⟨w,g⟩:∃m:Nat,m=(h++[(⟨.m,0,4,[.agg (If k s o l)]⟩:ax)]).length:=⟨_,rfl⟩;obtain⟨z,v⟩:∃m:Nat,m=(h++[(⟨.m,0,4,[.agg (If k s o l)]⟩:ax)]++[(⟨.m,0,4,[.agg Nm]⟩:ax)]).length:=⟨_,rfl⟩;rw[<-a,<-v,<-g,<-B];have a3:d[b]?=some ⟨.m,0,4,[.agg (If k s o l)]⟩:=by rw[a,B];simp
   have a4:d[w]?=some ⟨.m,0,4,[.agg Nm]⟩:=by rw[a,g];simp
   have a7:d[z]?=some ⟨.m,0,4,List.replicate (ae l).length (.agg Nm)⟩:=by rw[a,v];simp
   have a0:∀j,j<h.length->d[j]?=h[j]?:=λj M=>by rw[a,ags,ags,af8 M]
   have afQ:d.length=h.length+3:=by rw[a];simp
   simp only[agf,ag5]at g v;clear a;refine wA ?_;refine dU.zip (TU n) l (λp q L K=>L=[(0,.cq V),(3,.ptr b 0 0 0),(4,.ptr w 0 0 0),(7,.an z 0 0 (ae l).length),(32,.aa false (ae l)),(33,.I (ae l).length),(34,.I p.length)]/\h.length+3<=K.length/\(∀j,j<h.length->K[j]?=h[j]?)/\K[b]?=some ⟨.m,0,4,[.agg (If k s o l)]⟩/\K[w]?=some ⟨.m,0,4,[.agg Nm]⟩/\K[z]?=some ⟨.m,0,4,ae (cR [⟨.mk 1 xs R [],u⟩] p)++List.replicate q.length (.agg Nm)⟩) (.nx ⟨rfl,by omega,a0,a3,a4,by rw[a7,cL];rfl⟩) ?_ ?_
   ·rintro p x q _ K Y e ⟨rfl,b1,U,P,O,b7⟩;have dm:=bO e;have eR:=lenE e;have D:x∈l:=by rw[e];simp
    have hxv:=iV Z D;have oH:(ae (cR [⟨.mk 1 xs R [],u⟩] p)).length=p.length:=by rw[aj,iU]
    have Q:(ae (cR [⟨.mk 1 xs R [],u⟩] p)++List.replicate (x::q).length (.agg Nm))[p.length]?=some (.agg Nm):=by
     rw[agl yxa,oH,ahK]
     rfl
    have he8:(ae (cR [⟨.mk 1 xs R [],u⟩] p)++List.replicate (x::q).length (.agg Nm))[0+p.length]?=some (.agg Nm):=by rw[agz];exact Q
    have mS:(ae (cR [⟨.mk 1 xs R [],u⟩] p)++List.replicate (x::q).length (.agg Nm:PV)).set (0+p.length) (enc (cw [⟨.mk 1 xs R [],u⟩] x))=ae (cR [⟨.mk 1 xs R [],u⟩] (p++[x]))++List.replicate q.length (.agg Nm:PV):=by
     rw[agz,ahn _ _ yxa,oH,ahK,eJ,eJ,agN,ch,ags]
     rfl
    rw[au (cw _ x)]at mS
    have jz:size x<=n:=by
     have:=Jz D;rw[size]at hn;omega
    have P7:=abk (n:=n) (t:=x) (mE (J:=[⟨.m,0,4,[enc x]⟩]) ((U V (ag G)).trans G)) X hq H jz hxv hx;rw[au x,au (cw _ x)]at P7;refine wA ?_;refine .Vd P7 ?_;refine wA ?_;refine .mk ?_ ⟨by omega,by simp only[agf,oH,ahx,agj];omega,rfl⟩;refine wA ?_;rw[mS];refine .nx ⟨rfl,by simp;omega,λj M=>?_,?_,?_,agc yxd⟩;rw[aga yxa,af8 yxa,U j M];rw[aga yxa,af8 yxa,P];rw[aga yxa,af8 yxa,O]
   ·rintro _ K Y ⟨rfl,b1,U,P,O,b7⟩;refine wA ?_;have c3:(K.set b ⟨.m,0,4,[.agg [.I k,.str s,.I o,.an z 0 0 (ae l).length]]⟩)[b]?=some ⟨.m,0,4,[.agg [.I k,.str s,.I o,.an z 0 0 (ae l).length]]⟩:=agc (ag P);have c4:(K.set b ⟨.m,0,4,[.agg [.I k,.str s,.I o,.an z 0 0 (ae l).length]]⟩)[w]?=some ⟨.m,0,4,[.agg Nm]⟩:=(aga yxa).trans O;refine wA ?_;refine .mk ?_ (jJ (T:=TU n) rfl (agc (ag c4)) rfl rfl (by rfl) (by rfl));refine .go ?_
    have Ct:∀j,j<h.length->((K.set b ⟨.m,0,4,[.agg [.I k,.str s,.I o,.an z 0 0 (ae l).length]]⟩).set w ⟨.m,0,4,[.agg [.I k,.str s,.I o,.an z 0 0 (ae l).length]]⟩)[j]?=h[j]?:=λj M=>by
     rw[aga yxa,aga yxa,U j M]
    have f:((K.set b ⟨.m,0,4,[.agg [.I k,.str s,.I o,.an z 0 0 (ae l).length]]⟩).set w ⟨.m,0,4,[.agg [.I k,.str s,.I o,.an z 0 0 (ae l).length]]⟩)[z]?=some ⟨.m,0,4,ae (cR [⟨.mk 1 xs R [],u⟩] l)⟩:=by
     rw[aga yxa,aga yxa,b7];simp
    rw[Kn,KB (h:=h) yxd Ct];rw[KB (h:=h) yxd Ct]at f;generalize(List.drop h.length ((K.set b ⟨.m,0,4,[.agg [.I k,.str s,.I o,.an z 0 0 (ae l).length]]⟩).set w ⟨.m,0,4,[.agg [.I k,.str s,.I o,.an z 0 0 (ae l).length]]⟩))=J at f ⊢;refine⟨_,[.I k,.str s,.I o,.aa false (ae (cR [⟨.mk 1 xs R [],u⟩] l))],J,rfl,rfl,?_,λi hi=>?_,mV (.mk k s o (cR [⟨.mk 1 xs R [],u⟩] l))⟩
    ·have hg:getM (h++J) z 0=some ⟨.m,0,4,ae (cR [⟨.mk 1 xs R [],u⟩] l)⟩:=bw f rfl yxb;have W:(ae l).length=(ae (cR [⟨.mk 1 xs R [],u⟩] l)).length:=by rw[aj,aj,iU]
     have N':List.take l.length (ae (cR [⟨.mk 1 xs R [],u⟩] l))=ae (cR [⟨.mk 1 xs R [],u⟩] l):=agB (by rw[aj,iU];exact agb _);simp[oE,rf,aW,hg,W,fy,iU,N']
    ·simp[Jb,cells,tJ]at hi;omega
end Go.Pm
namespace Go.Pm
open Go.Proofs
variable[iD:Inhabited Prop]
set_option maxRecDepth 4000
theorem adP(n:Nat)(S:ez aI.C.P 215 (Bl n)):dn (CU n):=ze aI.jd (λx h=>by
 simp only[agi,ag3,or_false]at h;subst h;exact S) (λx h=>by
 simp only[agi,ag3,or_false]at h;subst h;exact⟨_,Tryz.func215,by kernel_rfl,by kernel_rfl⟩)
theorem Th(n:Nat):ic (CU n):=qI aI.ku
theorem Ti(n:Nat)(i:Func)(c:Code)(h1:(CU n).P.funcs[215]?=some i)(X:i.body=some c):codeOk i.ntmps c=true:=by
 have Q:(CU n).P.funcs[215]?=_:=Tryz.func215;rw[Q]at h1;obtain rfl:=af7 h1;obtain rfl:=af7 X
 rfl
theorem WM:∀n,ez aI.C.P 215 (Bl n):=by
 intro n
 induction n with
 |zero=>
  intro V h r Q e w F Z W H a
  unfold Bl at e
  split at e
  ·split at e
   ·rename_i o t O X
    split at e
    ·split at e
     ·split at e
      ·rename_i G
       have:=(dY t).1;omega
      ·cases e
     ·cases e
    cases e
   ·cases e
  cases e
 |succ n ih=>
  intro V h r Q e w F Z W H a
  unfold Bl at e
  split at e
  ·rename_i id p
   split at e
   ·rename_i o t O X
    split at e
    ·rename_i xs xo q R
     split at e
     ·rename_i u S
      split at e
      ·rename_i G
       obtain⟨c1,v,y,z,A⟩:=G;obtain⟨rfl,rfl⟩:=agk (af7 e);unfold xi at O
       split at O
       ·rename_i o' Y
        split at O
        ·rename_i h6
         obtain rfl:=af7 O;obtain⟨K,D,N⟩:=getM_some Y;obtain⟨mu,ep,bQ,es⟩:=o';simp only at *;subst R h6 D;have hp:b9 p=enc t:=(vH _ X).symm;have hq:b9 q=enc u:=(vH _ S).symm;obtain⟨k,s,o,l⟩:=t;obtain⟨r1,k1,⟨cs,jx,J,rfl,rfl,g,U,i⟩,n0,B⟩:=WL n K N hq A y k s o l v yxa
         have f:L2 (aG w (Av F h Z) Z h) W [.cq id,enc (.mk k s o l)]:=by
          refine⟨a.1,λj M=>?_⟩;have b:=a.2 j M
          match j,M with
          |0,_=>exact b
          |1,_=>
           have h7:aG w (Av F h Z) Z h (W.getD 1 undef) p:=b;have d:=cd.b9 (h7.CN z);rw[hp]at d;exact .val d
          |j+2,M=>simp at M;omega
         have:=Nr (adP n ih) (Th n) (Ti n) (B (n0+1) yxa) g U H f;rw[i]at this;exact this
        cases O
       cases O
      cases e
     cases e
    cases e
   cases e
  cases e
end Go.Pm
namespace Go.Pm
open Go.Proofs Go.Shelf
def AX:Go.Shelf.Ren:=⟨λ|6=>171 |15=>134 |14=>217 |28=>181 |29=>182 |20=>250 |21=>251 |22=>252 |23=>253 |24=>254 |25=>255 |26=>256 |27=>257 |46=>287 |47=>219 |48=>220 |49=>288 |50=>289 |57=>304 |n=>n,λ|22=>33 |24=>83 |25=>189 |3=>3 |39=>163 |0=>0 |53=>198 |55=>172 |4=>4 |46=>192 |45=>191 |50=>152 |5=>5 |9=>9 |66=>236 |70=>166 |76=>265 |77=>266 |n=>n,λ|n=>n⟩
theorem ady:Go.Proofs.SlLaysF0.n6 Tryz.prog AX:={
 mixed:=by kernel_rfl
 f6:=⟨Tryz.f171.name,by decide,Tryz.func171.trans (congrArg some (by kernel_rfl))⟩
 f14:=⟨Tryz.f217.name,by decide,Tryz.func217.trans (congrArg some (by kernel_rfl))⟩
 f15:=Tryz.func134.trans (congrArg some (by kernel_rfl))
 f20:=⟨Tryz.f250.name,by decide,Tryz.func250.trans (congrArg some (by kernel_rfl))⟩
 f21:=⟨Tryz.f251.name,by decide,Tryz.func251.trans (congrArg some (by kernel_rfl))⟩
 f22:=⟨Tryz.f252.name,by decide,Tryz.func252.trans (congrArg some (by kernel_rfl))⟩
 f23:=⟨Tryz.f253.name,by decide,Tryz.func253.trans (congrArg some (by kernel_rfl))⟩
 f24:=⟨Tryz.f254.name,by decide,Tryz.func254.trans (congrArg some (by kernel_rfl))⟩
 f25:=⟨Tryz.f255.name,by decide,Tryz.func255.trans (congrArg some (by kernel_rfl))⟩
 f26:=⟨Tryz.f256.name,by decide,Tryz.func256.trans (congrArg some (by kernel_rfl))⟩
 f27:=⟨Tryz.f257.name,by decide,Tryz.func257.trans (congrArg some (by kernel_rfl))⟩
 f28:=Tryz.func181.trans (congrArg some (by kernel_rfl))
 f29:=Tryz.func182.trans (congrArg some (by kernel_rfl))
 f46:=⟨Tryz.f287.name,by decide,Tryz.func287.trans (congrArg some (by kernel_rfl))⟩
 f47:=Tryz.func219.trans (congrArg some (by kernel_rfl))
 f48:=Tryz.func220.trans (congrArg some (by kernel_rfl))
 f49:=⟨Tryz.f288.name,by decide,Tryz.func288.trans (congrArg some (by kernel_rfl))⟩
 f50:=⟨Tryz.f289.name,by decide,Tryz.func289.trans (congrArg some (by kernel_rfl))⟩
 f57:=⟨Tryz.f304.name,by decide,Tryz.func304.trans (congrArg some (by kernel_rfl))⟩
 t0:=Tryz.underlying0
 a0:=Tryz.isAgg0
 z0:=Tryz.sizeOf0
 v0:=Tryz.zeroValue0
 t3:=Tryz.underlying3
 a3:=Tryz.isAgg3
 z3:=Tryz.sizeOf3
 v3:=Tryz.zeroValue3
 t4:=Tryz.underlying4
 a4:=Tryz.isAgg4
 z4:=Tryz.sizeOf4
 v4:=Tryz.zeroValue4
 t5:=Tryz.underlying5
 a5:=Tryz.isAgg5
 z5:=Tryz.sizeOf5
 v5:=Tryz.zeroValue5
 t9:=Tryz.underlying9
 a9:=Tryz.isAgg9
 z9:=Tryz.sizeOf9
 v9:=Tryz.zeroValue9
 t22:=Tryz.underlying33
 a22:=Tryz.isAgg33
 z22:=Tryz.sizeOf33
 v22:=Tryz.zeroValue33
 t25:=Tryz.underlying189
 a25:=Tryz.isAgg189
 z25:=Tryz.sizeOf189
 v25:=Tryz.zeroValue189
 t39:=Tryz.underlying163
 a39:=Tryz.isAgg163
 z39:=Tryz.sizeOf163
 v39:=Tryz.zeroValue163
 t45:=Tryz.underlying191
 a45:=Tryz.isAgg191
 z45:=Tryz.sizeOf191
 v45:=Tryz.zeroValue191
 t46:=Tryz.underlying192
 a46:=Tryz.isAgg192
 z46:=Tryz.sizeOf192
 v46:=Tryz.zeroValue192
 t50:=Tryz.underlying152
 a50:=Tryz.isAgg152
 z50:=Tryz.sizeOf152
 v50:=Tryz.zeroValue152
 t53:=Tryz.underlying198
 a53:=Tryz.isAgg198
 z53:=Tryz.sizeOf198
 v53:=Tryz.zeroValue198
 t55:=Tryz.underlying172
 a55:=Tryz.isAgg172
 z55:=Tryz.sizeOf172
 v55:=Tryz.zeroValue172
 t66:=Tryz.underlying236
 a66:=Tryz.isAgg236
 z66:=Tryz.sizeOf236
 v66:=Tryz.zeroValue236
 t70:=Tryz.underlying166
 a70:=Tryz.isAgg166
 z70:=Tryz.sizeOf166
 v70:=Tryz.zeroValue166
 t76:=Tryz.underlying265
 a76:=Tryz.isAgg265
 z76:=Tryz.sizeOf265
 v76:=Tryz.zeroValue265
 t77:=Tryz.underlying266
 a77:=Tryz.isAgg266
 z77:=Tryz.sizeOf266
 v77:=Tryz.zeroValue266}
theorem adz:∀w,(isAgg (AX.t 24)).run Tryz.prog w=.ok true w:=Tryz.isAgg83
theorem adA:∀w,(Go.sizeOf (AX.t 24)).run Tryz.prog w=.ok 8 w:=Tryz.sizeOf83
end Go.Pm
namespace Go.Pm
variable{a b l:List cV}{i:Nat}{t:cV}{g:FuncId}
variable[iD:Inhabited Prop]
open Go.Proofs Go.Sort
set_option maxRecDepth 20000
def Ty:PV->Option cV
 | .agg [.int .i64 k,.str s,.int .i64 o,.aa false l,.int .i64 B,.str U,.int .i64 y,.aa false H]=>match uh l with
  |some a=>match uh H with
   |some b=>some ⟨.mk k s o a,.mk B U y b⟩
   |none=>none
  |none=>none
 |_=>none
def yF:List PV->Option (List cV)
 |[]=>some []
 |x::l=>match Ty x with
  |some t=>match yF l with
   |some n=>some (t::n)
   |none=>none
  |none=>none
theorem Tz(b:cV):Ty (fW b)=some b:=by
 obtain⟨⟨k,s,o,l⟩,⟨B,U,y,H⟩⟩:=b;simp only[fW,Tm.k,Tm.s,Tm.o,Tm.l,Ty,q9]
theorem DJ:∀l:List cV,yF (aU l)=some l
 |[]=>rfl
 |b::l=>by
  have:=DJ l;simp only[aU,agp,yF,Tz]at this ⊢;rw[this]
theorem TA{p:PV}{b:cV}(h:Ty p=some b):fW b=p:=by
 unfold Ty at h
 split at h
 ·split at h
  ·rename_i a j
   split at h
   ·rename_i c G
    obtain rfl:=af7 h;simp only[fW,Tm.k,Tm.s,Tm.o,Tm.l,lN _ j,lN _ G]
   cases h
  ·cases h
 cases h
theorem BB:∀{es:List PV} {D:List cV},yF es=some D->aU D=es
 |[],D,h=>by simp only[yF,agx]at h;subst h;rfl
 |x::l,D,h=>by
  simp only[yF]at h
  split at h
  ·rename_i t Z
   split at h
   ·rename_i n V
    obtain rfl:=af7 h;have:=BB V;simp only[aU,agp]at this ⊢;rw[TA Z,this]
   cases h
  cases h
theorem DR(h:l[i]?=some t):(aU l)[i]?=some (fW t):=by rw[aU,agt,h];rfl
def YL:List cV->Bool
 |[]=>true
 |b::l=>(l.all λc=>decide (aZ b.v c.v≠0))&&YL l
theorem TB:∀{l:List cV},YL l=true->l.Pairwise λa b=>aZ a.v b.v≠0
 |[],_=>.nil
 |b::l,h=>by
  simp only[YL,age,af9,decide_eq_true_eq]at h;exact agE.2 ⟨h.1,TB h.2⟩
theorem Il(t:cV):∀{l:List cV},(l.Pairwise λx y=>aZ x.v y.v<=0)->(KY t l).Pairwise λx y=>aZ x.v y.v<=0
 |[],_=>by simp[KY]
 |x::r,h=>by
  unfold KY;have X:=agE.1 h
  split
  ·rename_i G
   refine agE.2 ⟨λy F=>?_,h⟩;rcases agi.1 F with rfl |F;exact G;exact lX G (X.1 y F)
  ·rename_i G
   have n:=di t.v x.v;refine agE.2 ⟨λy F=>?_,Il t X.2⟩;rcases agi.1 ((x4 t r).mem_iff.1 F)with rfl |F;omega;exact X.1 y F
theorem DS:∀ts:List cV,(mj ts).Pairwise λx y=>aZ x.v y.v<=0
 |[]=>.nil
 |t::r=>Il t (DS r)
theorem adZ(h:l.Pairwise λa b=>aZ a.v b.v≠0){x y:cV}(U:x∈l)(F:y∈l)(e:aZ x.v y.v=0):x=y:=by
 induction l with
 |nil=>cases U
 |cons b l P=>
  obtain⟨O,X⟩:=agE.1 h;rcases agi.1 U with H |H <;>rcases agi.1 F with q |q
  rw[H,q];subst H;exact absurd e (O y q);subst q;exact absurd (by have:=di x.v y.v;omega) (O x H);exact P X H q
theorem W5(K:a.Perm b)(h:b.Pairwise λx y=>aZ x.v y.v≠0):a.Pairwise λx y=>aZ x.v y.v≠0:=K.symm.pairwise h λ{x y} n R=>n (by have:=di x.v y.v;omega)
theorem Fo(K:a.Perm b)(j:a.Pairwise λx y=>aZ x.v y.v<=0)(W:b.Pairwise λx y=>aZ x.v y.v<=0)(hn:b.Pairwise λx y=>aZ x.v y.v≠0):a=b:=
 K.eq_of_pairwise (λx y U F O X=>adZ hn (K.mem_iff.1 U) F (by have:=di x.v y.v;omega)) j W
def byV:List FuncId:=[172]
def nk(args:List PV)(h:ab):Option (PV×ab):=
 match args with
 |[.aa true [],.fn _ []]=>some (.b8 [],h)
 |[.an V a 0 K,.fn g []]=>match getM h V a with
  |some o=>match yF o.es with
   |some n=>if byV.contains g=true/\o.mu=.m/\o.bQ=8/\K=o.es.length/\K<1000000000/\(n.all λt=>decide (aC t.v<1000000000))=true/\YL n=true then
     some (.b8 [],h.set V {o with es:=aU (mj n)})else none
   |none=>none
  |none=>none
 |_=>none
def BV(w:World)(A:Nat->Prop):Type:={x:cV×List Value // x.2.length=8/\(∀v∈x.2,v.oneCell'=true)/\(aC x.1.v<1000000000)/\cd w A (.agg x.2.toArray) (fW x.1)}
instance(w:World)(A:Nat->Prop):Inhabited (BV w A):=
 ⟨⟨(⟨.mk 0 ByteArray.empty 0 [],.mk 0 ByteArray.empty 0 []⟩,[.int .i64 0,.string ByteArray.empty,.int .i64 0,.slice none 0 0,.int .i64 0,.string ByteArray.empty,.int .i64 0,.slice none 0 0]),rfl,by simp[Value.oneCell'],by simp[aC,bm],.agg _ _ rfl (λj M=>by
  match j,M with
  |0,_=>exact .int _ _
  |1,_=>exact .str _
  |2,_=>exact .int _ _
  |3,_=>exact .gJ _ _ _ (λh=>by cases h)
  |4,_=>exact .int _ _
  |5,_=>exact .str _
  |6,_=>exact .int _ _
  |7,_=>exact .gJ _ _ _ (λh=>by cases h)
  |j+8,M=>simp at M;omega)⟩⟩
theorem ad0(w:World)(A:Nat->Prop):SWO (ltOf λx y:BV w A=>aZ x.1.1.v y.1.1.v) where
 irrefl x:=by simp[ltOf,cP]
 trans x y z h1 h2:=by
  simp only[ltOf,decide_eq_true_eq]at *;exact fH h1 h2
 ntrans x y z h1 h2:=by
  simp only[ltOf,decide_eq_false_iff_not,Int.not_lt]at *;have a:=di x.1.1.v y.1.1.v;have b:=di y.1.1.v z.1.1.v;have c:=di x.1.1.v z.1.1.v;have:=lX (a:=z.1.1.v) (b:=y.1.1.v) (c:=x.1.1.v) yxa yxa;omega
variable{w:World}{F:Nat->Prop}{Z:List (Nat×Nat)}{h:ab}
theorem ad1{cs:Array Value}(hb:aC t.v<1000000000)(z:∀(j:Nat) (p:PV),(cells (fW t))[j]?=some p->∃v:Value,cs[i * 8+j]?=some v/\aG w (Av F h Z) Z h v p):
  ∃x:BV w (Av F h Z),x.1.1=t/\∀j,j<8->cs[i * 8+j]?=x.1.2[j]?:=by
 have V:∀(p:PV) (v:Value),(∃k n,p=.int k n)\/(∃s,p=.str s)\/(∃l:List Tm,p=.aa false (ae l))->aG w (Av F h Z) Z h v p->cd w (Av F h Z) v p/\v.oneCell'=true:=by
  rintro p v (⟨k,n,rfl⟩|⟨s,rfl⟩|⟨l,rfl⟩) J;have:=J.CN rfl;cases this;exact⟨.int _ _,rfl⟩;have:=J.CN rfl;cases this;exact⟨.str _,rfl⟩
  ·have Q:=J.fI;refine⟨Q,?_⟩;obtain⟨ad,cap,rfl,_⟩:=Q.iC
   rfl
 obtain⟨⟨k,s,o,l⟩,⟨y,U,K,A⟩⟩:=t;obtain⟨H,N,R⟩:=z 0 (.I k) rfl;obtain⟨f,W,X⟩:=z 1 (.str s) rfl;obtain⟨a,Y,c2⟩:=z 2 (.I o) rfl;obtain⟨u,d1,d2⟩:=z 3 (.aa false (ae l)) rfl;obtain⟨G,e1,e2⟩:=z 4 (.I y) rfl;obtain⟨d,f1,f2⟩:=z 5 (.str U) rfl;obtain⟨S,g1,g2⟩:=z 6 (.I K) rfl;obtain⟨B,h1,h2⟩:=z 7 (.aa false (ae A)) rfl;have O:=V _ _ (.inl ⟨_,_,rfl⟩) R;have P:=V _ _ (.inr (.inl ⟨_,rfl⟩)) X;have q:=V _ _ (.inl ⟨_,_,rfl⟩) c2;have e:=V _ _ (.inr (.inr ⟨_,rfl⟩)) d2;have b:=V _ _ (.inl ⟨_,_,rfl⟩) e2;have g:=V _ _ (.inr (.inl ⟨_,rfl⟩)) f2;have D:=V _ _ (.inl ⟨_,_,rfl⟩) g2;have Q:=V _ _ (.inr (.inr ⟨_,rfl⟩)) h2;refine⟨⟨(⟨.mk k s o l,.mk y U K A⟩,[H,f,a,u,G,d,S,B]),rfl,?_,hb,.agg [H,f,a,u,G,d,S,B] _ rfl (λj M=>?_)⟩,rfl,λj M=>?_⟩
 ·intro v J
  simp only[agi,ahb,or_false]at J;rcases J with rfl |rfl |rfl |rfl |rfl |rfl |rfl |rfl;exact O.2;exact P.2;exact q.2;exact e.2;exact b.2;exact g.2;exact D.2;exact Q.2
 ·match j,M with
  |0,_=>exact O.1
  |1,_=>exact P.1
  |2,_=>exact q.1
  |3,_=>exact e.1
  |4,_=>exact b.1
  |5,_=>exact g.1
  |6,_=>exact D.1
  |7,_=>exact Q.1
  |j+8,M=>simp at M;omega
 ·match j,M with
  |0,_=>exact N
  |1,_=>exact W
  |2,_=>exact Y
  |3,_=>exact d1
  |4,_=>exact e1
  |5,_=>exact f1
  |6,_=>exact g1
  |7,_=>exact h1
  |j+8,M=>omega
theorem KZ(X:∀(args:Array Value) (w:World),(callFunc g args).run C.P w=.ok (.enter g args) w)(hmg:Go.Pm.C.mode g=.pure\/Go.Pm.C.mode g=.opened)(P0:∀a b:cV,aC a.v<1000000000->aC b.v<1000000000->aT Go.Pm.C g [fW a,fW b] (.I (aZ a.v b.v))){vs:List Value}{q ep:Nat}{o:ax}{ts:List cV}(H:bp w F Z h)(ha:L2 (aG w (Av F h Z) Z h) vs [.an q ep 0 o.es.length,.fn g []])(hg:getM h q ep=some o)(hm:o.mu=.m)(hz:o.bQ=8)
  (hn:o.es.length<1000000000) (mJ:aU ts=o.es) (qH:∀t∈ts,aC t.v<1000000000) (hnd:ts.Pairwise λa b=>aZ a.v b.v≠0):nC C.P 2 w F Z h 171 vs (.b8 []) (h.set q {o with es:=aU (mj ts)}):=by
 obtain⟨z,g2,g3⟩:=getM_some hg;obtain⟨f,D⟩:=fh H.len z;obtain⟨v0,v1,rfl,h0,h1⟩:=ha.two;obtain⟨_,_,m3⟩:=h0.eC;obtain⟨Y,c1,c2⟩:=m3 o f z D g3 g2 yxa;rw[ah3]at c1;obtain⟨us,d1,d2,_⟩:=h1.zH;obtain rfl:us=[]:=agm d2;subst c1 d1;obtain⟨T,cs,k1,k2,k3,k4,k5⟩:=(H.obj q o f z D g3).c yxa;have G:f.1<w.heap.size:=Mb.lt H ⟨q,o,f,z,D,hm,rfl⟩;have U8:Av F h Z f.1:=.inr ⟨q,o,f,z,D,hm,rfl⟩;have K:ts.length=o.es.length:=by rw[<-mJ,fR]
 have Vb:ts.length * 8<=cs.size:=by rw[hz]at k3;omega
 obtain⟨d,dl,dh⟩:=uW (v:=BV w (Av F h Z)) (R:=λi x=>ts[i]?=some x.1.1/\∀j,j<8->cs[i * 8+j]?=x.1.2[j]?) ts.length (λi B=>by
  have ht:ts[i]?=some ts[i]:=agd B;obtain⟨_,q2⟩:=k5 i (fW ts[i]) (by rw[<-mJ];exact DR ht);rw[hz]at q2;obtain⟨x,x1,x2⟩:=ad1 (qH _ (agO B)) q2;exact⟨x,by rw[ht,x1],x2⟩)
 have N:∀x:BV w (Av F h Z),x.1.2.length=8:=λx=>x.2.1
 have hH:HoldsK (λx:BV w (Av F h Z)=>x.1.2) 8 w f.1 0 d:=by
  intro j M
  rw[size_flatK]at M;have hj8:j / 8<d.size:=yxa
  obtain⟨_,r2⟩:=dh (j / 8) yxa;have:=r2 (j % 8) yxa;rw[show j / 8 * 8+j % 8=j by omega]at this;refine⟨?_,by simp[World.frozen?,k1]⟩;rw[get_flatK _ _ _ _ M];have hl:j % 8<(d[j / 8]!).1.2.length:=by rw[N];omega
  rw[agd hl]at this;simp only[World.cell?,k1,agz,this];rw[getElem!_pos (d[j / 8]!).1.2 (j % 8) hl]
  rfl
 have S:CmpLays C.P g #[] (λx:BV w (Av F h Z)=>x.1.2) 8 (λx y=>aZ x.1.1.v y.1.1.v) f.1 0 d.size w:=by
  intro m O dk hs x y
  obtain⟨n,hn⟩:=(P0 x.1.1 y.1.1 x.2.2.2.1 y.2.2.2.1).rk
  have up:∀(x:BV w (Av F h Z)),cd (sortWorldK (λx:BV w (Av F h Z)=>x.1.2) 8 w f.1 0 m dk O) (λ_=>False) (.agg x.1.2.toArray) (fW x.1.1):=λx=>
   x.2.2.2.2.mono (λb W Q=>gE _ _ _ _ _ _ _ _ b W (λe=>Q (e▸U8))) (λ_ _ _ J=>J)
  have oW:L2 (cd (sortWorldK (λx:BV w (Av F h Z)=>x.1.2) 8 w f.1 0 m dk O) (λ_=>False)) [.agg x.1.2.toArray,.agg y.1.2.toArray] [fW x.1.1,fW y.1.1]:=⟨rfl,λj M=>by
   match j,M with
   |0,_=>exact up x
   |1,_=>exact up y
   |j+2,M=>simp at M;omega⟩
  rw[aiJ];refine(xO (iD:=instInhabitedProp) (xL (iD:=instInhabitedProp)) pS hmg hn (λb W=>W.elim) oW (hG:=H.fG.mono (λb W Q=>gE _ _ _ _ _ _ _ _ b W (λe=>Q (e▸U8))) (λ_ _ _ J=>J))).mono ?_;rintro e w' ⟨v,rfl,hv,N3⟩
  cases hv
  exact⟨rfl,N3.grow⟩
 have Fm:=AnyQ.slices_SortFunc ady 8 adz adA (λx:BV w (Av F h Z)=>x.1.2) N (λx=>x.2.2.1) (λx y=>aZ x.1.1.v y.1.1.v) (ad0 w _) g #[] f.1 0 Y d w X S hH G yxa;rw[dl,K]at Fm;refine Fm.mono ?_;rintro e w' ⟨rfl,V,n,O,A,hs,rfl⟩;rw[<-K,<-dl]at A hs;have U:V.size=d.size:=A.1
 have hdt:d.toList.map (λx=>x.1.1)=ts:=by
  exact zbd
 have eT:V.toList.map (λx=>x.1.1)=mj ts:=by
  refine Fo ?_ ?_ (DS ts) (W5 (gU ts) hnd)
  ·have h3:=A.2.2;rw[show d.extract 0 d.size=d by simp,show V.extract 0 d.size=V by rw[<-U];simp]at h3;refine(h3.map _).trans ?_;rw[hdt];exact(gU ts).symm
  ·rw[aiv,List.pairwise_iff_getElem]
   intro i j B M QY
   simp only[ahl]at B M;have:=hs i j (ag7 _) QY yxa;rw[getElem!_pos V i yxa,getElem!_pos V j yxa]at this;simp only[ltOf,decide_eq_false_iff_not,Int.not_lt]at this;have ng:=di V[i].1.1.v V[j].1.1.v;simp only[Array.getElem_toList];omega
 have eR:(aU (mj ts)).length=o.es.length:=by rw[fR,<-eT];simp;omega
 obtain⟨H',S'⟩:=H.set (w':=sortWorldK (λx:BV w (Av F h Z)=>x.1.2) 8 w f.1 0 n V O) z D hm T (putCells _root_.id 0 (flatK (λx:BV w (Av F h Z)=>x.1.2) 8 V) cs) (aU (mj ts)) o.ep f (ry _ _ _ _ _ _ _ _) (ui _ _ _ _ _ _ _ _ k1)
  (λb W bD=>gE _ _ _ _ _ _ _ _ b W bD) (.inl ⟨rfl,λ_=>eR⟩) (agb _) rfl rfl rfl (by rw[eR];exact k2) (by simpa[putCells]using k3) (λi e he=>by
   have B:i<V.size:=by have:=ag he;omega
   have P3:(mj ts)[i]?=some V[i].1.1:=by rw[<-eT,agt,agG,ahc B];rfl
   rw[DR P3]at he;obtain rfl:=af7 he;have sr:=V[i].2.2.2.2;obtain⟨z1,z2⟩:=sr.cells;rw[hz]
   have eW:(cells (fW V[i].1.1)).length=8:=by
    rw[<-z1];show V[i].1.2.toArray.size=8;simpa using N V[i]
   refine⟨eW,λj p A=>?_⟩;obtain⟨u,u1,u2⟩:=z2 j p A;refine⟨u,?_,.val u2⟩;have M:=ag A;rw[wS (enc:=λx:BV w (Av F h Z)=>x.1.2) B yxa yxa N,getElem!_pos V i B];have u3:V[i].1.2.toArray[j]?=some u:=u1;simpa using u3) (λ_=>by show w.drawn<=w.drawn+n;omega)
 rw[wO D]at H' S';exact⟨_,Z,rfl,.val (.b8 [] [] rfl (λj M=>by simp at M)),H',S',λJ=>by omega⟩
section
attribute [local irreducible] aE az aO aL Ev ai ah ay bh
theorem W6(a b:cV)(j:aC a.v<1000000000)(W:aC b.v<1000000000):aT Go.Pm.C 172 [fW a,fW b] (.I (aZ a.v b.v)):=by
 have O:=dT a.v b.v j W;rw[au a.v,au b.v]at O;rw[iG a,iG b];refine aT.x T6 Tryz.func172 rfl ?_;refine wA ?_;refine .p O ?_;refine wA ?_;exact⟨_,rfl,rfl⟩
end
theorem abD(h:byV.contains g=true):(∀(args:Array Value) (w:World),(callFunc g args).run C.P w=.ok (.enter g args) w)/\(Go.Pm.C.mode g=.pure\/Go.Pm.C.mode g=.opened)/\∀a b:cV,aC a.v<1000000000->aC b.v<1000000000->aT Go.Pm.C g [fW a,fW b] (.I (aZ a.v b.v)):=by
 simp only[byV,List.contains_cons,List.contains_nil,Bool.or_false,agJ,beq_iff_eq]at h
 repeat' (first |(rcases h with rfl |h)|subst h |fail)
 all_goals first
  |exact⟨λargs w=>enters_of Tryz.func172 (by kernel_rfl) rfl args w,.inl rfl,W6⟩
theorem Pb:ez C.P 171 nk:=by
 intro V h r D e w F Z vs H b
 unfold nk at e
 split at e
 ·rename_i g
  obtain⟨rfl,rfl⟩:=agk (af7 e);obtain⟨Y,y,rfl,B,O⟩:=b.two;obtain⟨d,a,rfl,_,_⟩:=B.fI.iC;have f:=AnyF.slices_SortFunc_none ady d a y w;exact zbn
 ·rename_i Q z K g
  split at e
  ·rename_i o N
   split at e
   ·rename_i S J
    split at e
    ·rename_i G
     obtain⟨rfl,rfl⟩:=agk (af7 e);obtain⟨W,A,t,rfl,v,u,q⟩:=G;obtain⟨i,U,n⟩:=abD W;exact KZ i U n H b N A t v (BB J) (by simpa using u) (TB q)
    cases e
   cases e
  cases e
 cases e
end Go.Pm
namespace Go.Pm
variable{es es0:List PV}{vs:List Value}{r:List Oper}{Y:Nat->PV}{x y:Operand}{G V d ep off sz:Nat}{mu:Mu}{ops:Array Oper}{j:String}{e:Array Edge}{L:List (Nat×PV)}{Q:St->Prop}{z:PV}
variable[iD:Inhabited Prop]
open Go.Proofs
attribute [local irreducible] aE az aO aL Ev ai ah ay bh
variable{w:World}{F:Nat->Prop}{Z:List (Nat×Nat)}{h:ab}
namespace Zero
set_option maxRecDepth 100000
set_option maxHeartbeats 4000000
theorem ZP{fl:Bool}(H:bp w F Z h)(N:L2 (aG w (Av F h Z) Z h) vs [.aa fl es])(O:eE 8 es)(hn:es.length<1000000000){r:PV}{h':ab}
  (d:(es=[]/\r=.aa true []/\h'=h)\/(es≠[]/\r=.an h.length 0 0 es.length/\h'=h++[⟨.m,0,8,es⟩])):nC C0.P 2 w F Z h 216 vs r h':=by
 have G:=Tryz.func216;have J:=bG (T6.dA 122 _ rfl);exact zaa
end Zero
set_option maxRecDepth 100000
set_option maxHeartbeats 4000000
theorem Jn:ez C.P 216 (bW 8):=nI λH a b c=>λd=>Zero.ZP H a b c d
theorem yf{a:Act}(H:bp w F Z h)(R:iA w (Av F h Z) Z h a Y){t el:TypeId}(hle:off+es.length<=es0.length)(y:C0.P.underlying t=some (.slice el))(U:ev Y x=.an V ep off es.length)(q:h[V]?=some ⟨mu,ep,sz,es0⟩):
  ∀(o:Oper) {u:TypeId},o.op=.binOp .eql t x (.const (.slice none 0 0)) u->yO C0.P 2 w F Z h (execOp a.eval o) (.bool false) h:=by
 have J:=R.ev H.fG x;rw[U]at J
 obtain⟨b,j,D⟩:∃b j,a.eval x=.slice (some b) es.length j:=by
  generalize a.eval x=v at J
  cases J with
  |an v V ep off n o G O X Q M W N=>
   rw[q]at X;obtain rfl:=af7 X;obtain⟨j,e,_⟩:=N rfl (by simpa using hle);exact⟨_,j,e⟩
  |val S=>cases S
 intro o u f
 refine⟨.bool false,w,Z,.inl ?_,.val (.bool _),H,eN.refl w h Z,λ_=>dH.refl w⟩;obtain⟨d,z,ty,A,B,g⟩:=o;simp only at f;subst f;have X:a.eval (.const (.slice none 0 0))=.slice none 0 0:=rfl;have K:(eqGuard .eql t x (.const (.slice none 0 0)) (.slice (some b) es.length j) (.slice none 0 0)).run C0.P w=.ok () w:=by simp[eqGuard]
 have i:(binOp .eql t (.slice (some b) es.length j) (.slice none 0 0)).run C0.P w=.ok (.bool false) w:=by
  simp only[binOp];simp[run_equal_slice_nil w t el (some b) es.length j y]
 simp only[execOp,D,X,Sem.run_bind,K,i,Result.andThen_ok,Sem.run_pure]
theorem R.QL{C:cA}(T:li C.P){ty:TypeId}{st xt el n:TypeId}{ys:List PV}(hle:off+ys.length<=es0.length)(t:(es0.drop off).take ys.length=ys)(U:cW L x=some (.aa true []))(F:cW L y=some (.an V ep off ys.length))(q:h[V]?=some ⟨mu,ep,sz+1,es0⟩)(v:mu≠.x)(g:T.kd st=some (.sl el))(D:T.kd xt=some (.sl n))(S:T.ts el=some (sz+1))(W:T.tb el=some G)(M:T.tz el=some z)
  (O:G<=1000) (A:(cells z).length=sz+1) (f:(cells z).all bP=true) (i:eE (sz+1) ys) (a:ys≠[]) (hn:ys.length<1000000000) (w:ai C ops r ⟨al ((d,.an h.length 0 0 ys.length)::L) Y,h++[⟨.m,0,sz+1,ys⟩]⟩ Q):
  ai C ops (⟨some d,.call ⟨.builtin .append,#[x,y],#[st,xt]⟩,ty,j,e,none⟩::r) ⟨al L Y,h⟩ Q:=by
 refine ai.fO (λX=>?_) w;have Z:cr h (.an V ep off ys.length)=some ys:=by simp[cr,getM,q,v,hle,t]
 have u:ys.isEmpty=false:=by cases ys with |nil=>exact absurd rfl a |cons=>rfl
 have b:bR C.P 2 h st xt (.aa true []) (.an V ep off ys.length)=some (.an h.length 0 0 ys.length,h++[⟨.m,0,sz+1,ys⟩]):=by
  unfold bR;rw[bG (T.dA _ _ g)];simp only[T.eT _ _ S,T.vg _ _ W,T.pJ _ _ M,cH,bG (T.dA _ _ D),Z];unfold eE at i;rw[if_pos ⟨by omega,by omega,⟨A,f⟩,i⟩];simp[u,kq hn O,newObj]
 simp only[ar,bA,agp,agF,ak U,ak F,b]
namespace Zero
theorem Vu(hle:off+es.length<=es0.length)(S:(es0.drop off).take es.length=es)(H:bp w F Z h)(y:L2 (aG w (Av F h Z) Z h) vs [.an V ep off es.length])(q:h[V]?=some ⟨mu,ep,8,es0⟩)(O:mu≠.x)(J:eE 8 es)(hn:es.length<1000000000)(Q:es≠[]):
  nC C0.P 2 w F Z h 216 vs (.an h.length 0 0 es.length) (h++[⟨.m,0,8,es⟩]):=by
 have n:=Tryz.func216;have v:=bG (T6.dA 122 _ rfl);refine mR (P:=C0.P) n rfl H y (λa j=>?_);refine wp_seq ?_;refine dV K0 cZ S0 (M:=λA U=>A=.normal/\∃b,U=⟨al [(0,.an V ep off es.length)] b,h⟩) rfl ?_ j ?_
 ·rw[iE];refine wB ?_;exact⟨rfl,_,St.ba ⟨rfl,trivial⟩⟩
 rintro A U a1 w1 Z1 ⟨rfl,Y1,rfl⟩ B d;refine wp_seq ?_;refine wp_seq ?_;apply dj K0 S0 (pre:=[_]) (post:=[]) (R:=B) (M:=λU=>∃b,U=⟨al [(0,.an V ep off es.length),(3,.an V ep off es.length)] b,h⟩) (M2:=λU=>∃b,U=⟨al [(0,.an V ep off es.length),(4,.bool false)] b,h⟩)
 rfl
 rfl
 ·refine wB ?_;exact⟨_,St.ba ⟨rfl,rfl,trivial⟩⟩
 ·rintro s1 a2 w2 Z2 ⟨D,rfl⟩ Y W;have N:=yf (hle:=hle) (x:=.tmp 3) Y.hr Y.er v (fi (L:=[(0,.an V ep off es.length),(3,.an V ep off es.length)]) (t:=3) rfl D) q;refine⟨.bool false,h,N _ rfl,ai.nil ⟨al ((4,.bool false)::[(0,.an V ep off es.length),(3,.an V ep off es.length)]) D,?_⟩⟩;show(⟨bZ (al [(0,.an V ep off es.length),(3,.an V ep off es.length)] D) (some 4) (.bool false),h⟩:St)=_;rw[cy];exact St.ba ⟨rfl,rfl,trivial⟩
 rintro s3 a3 w3 Z3 ⟨Y3,rfl⟩ X e;refine dV K0 cZ S0 (M:=λA U=>A=.normal/\∃b,U=⟨al [(0,.an V ep off es.length)] b,h⟩) rfl ?_ X ?_
 ·refine wB ?_;exact⟨rfl,_,St.ba ⟨rfl,trivial⟩⟩
 rintro A U a4 w4 Z4 ⟨rfl,Y4,rfl⟩ i f;refine dV K0 cZ S0 (M:=λA U=>A=.ret/\∃b,U=⟨al [(2,.an h.length 0 0 es.length)] b,h++[⟨.m,0,8,es⟩]⟩) rfl ?_ i ?_
 ·refine wB ?_;apply R.QL T6 hle S;exact rfl;exact rfl;exact q;exact O;exact rfl;exact rfl;exact rfl;exact rfl;exact rfl;exact yxe;exact rfl;exact rfl;exact J;exact Q;exact hn;refine wB ?_;exact⟨rfl,_,St.ba ⟨rfl,trivial⟩⟩
 rintro A s5 a5 w5 z ⟨rfl,Y5,rfl⟩ K g;refine⟨.inr rfl,_,z,K,((d.trans e).trans f).trans g,[.an h.length 0 0 es.length],?_,λu G=>⟨z,G,K.hr,((d.trans e).trans f).trans g⟩⟩;exact gq (L:=[(2,.an h.length 0 0 es.length)]) rfl
 rfl
end Zero
def nJ(B:Nat)(args:List PV)(h:ab):Option (PV×ab):=
 match args with
 |[.an V g U K]=>match h[V]? with
  |some o=>if o.mu≠.x/\o.ep=g/\o.bQ=B/\U+K<=o.es.length/\0<K/\((o.es.drop U).take K).all (λv=>decide ((cells v).length=B)&& (cells v).all bP)=true/\K<1000000000 then some (.an h.length 0 0 K,newObj h B ((o.es.drop U).take K))else none
  |none=>none
 |args=>bW B args h
theorem Jo:ez C.P 216 (nJ 8):=by
 intro V h r d e w F Z W H j
 unfold nJ at e
 split at e
 ·rename_i i g U K
  split at e
  ·rename_i o f
   split at e
   ·rename_i b
    obtain⟨rfl,rfl⟩:=agk (af7 e);obtain⟨O,rfl,Q,G,N,a,n⟩:=b;obtain⟨q,g,B,S⟩:=o;simp only at *;subst Q;have A:((S.drop U).take K).length=K:=by simp;omega
    have:=Zero.Vu (es:=(S.drop U).take K) (es0:=S) (off:=U) (by rw[A];exact G) (by rw[A]) H (by rw[A];exact j) f O a (by rw[A];exact n) (λR=>by rw[R]at A;simp at A;omega);rw[A]at this;exact this
   cases e
  cases e
 exact Jn _ _ _ _ e _ _ _ _ H j
theorem R.QM{C:cA}(T:li C.P){ty:TypeId}{st xt el b:TypeId}(hle:off<=es0.length)(U:cW L x=some (.aa true []))(F:cW L y=some (.an V ep off 0))(q:h[V]?=some ⟨mu,ep,sz+1,es0⟩)(v:mu≠.x)(g:T.kd st=some (.sl el))(D:T.kd xt=some (.sl b))(S:T.ts el=some (sz+1))(W:T.tb el=some G)(M:T.tz el=some z)
  (O:G<=1000) (A:(cells z).length=sz+1) (f:(cells z).all bP=true) (w:ai C ops r ⟨al ((d,.aa true [])::L) Y,h⟩ Q):
  ai C ops (⟨some d,.call ⟨.builtin .append,#[x,y],#[st,xt]⟩,ty,j,e,none⟩::r) ⟨al L Y,h⟩ Q:=by
 refine ai.fO (λX=>?_) w;have Z:cr h (.an V ep off 0)=some []:=by simp[cr,getM,q,v,hle]
 have a:bR C.P 2 h st xt (.aa true []) (.an V ep off 0)=some (.aa true [],h):=by
  exact zbg
 simp only[ar,bA,agp,agF,ak U,ak F,a]
namespace Zero
theorem Vv(hle:off<=es0.length)(H:bp w F Z h)(v:L2 (aG w (Av F h Z) Z h) vs [.an V ep off 0])(q:h[V]?=some ⟨mu,ep,8,es0⟩)(J:mu≠.x):
  nC C0.P 2 w F Z h 216 vs (.aa true []) h:=by
 have n:=Tryz.func216;have Q:=bG (T6.dA 122 _ rfl);refine mR (P:=C0.P) n rfl H v (λa j=>?_);refine wp_seq ?_;refine dV K0 cZ S0 (M:=λA U=>A=.normal/\∃b,U=⟨al [(0,.an V ep off 0)] b,h⟩) rfl ?_ j ?_
 ·rw[iE];refine wB ?_;exact⟨rfl,_,St.ba ⟨rfl,trivial⟩⟩
 rintro A U a1 w1 Z1 ⟨rfl,N,rfl⟩ B d;refine wp_seq ?_;refine wp_seq ?_;apply dj K0 S0 (pre:=[_]) (post:=[]) (R:=B) (M:=λU=>∃b,U=⟨al [(0,.an V ep off 0),(3,.an V ep off 0)] b,h⟩) (M2:=λU=>∃b,U=⟨al [(0,.an V ep off 0),(4,.bool false)] b,h⟩)
 rfl
 rfl
 ·refine wB ?_;exact⟨_,St.ba ⟨rfl,rfl,trivial⟩⟩
 ·rintro s1 a2 w2 Z2 ⟨D,rfl⟩ Y W;have G:=yf (es:=[]) (hle:=by simpa using hle) (x:=.tmp 3) Y.hr Y.er Q (fi (L:=[(0,.an V ep off 0),(3,.an V ep off 0)]) (t:=3) rfl D) q;refine⟨.bool false,h,G _ rfl,ai.nil ⟨al ((4,.bool false)::[(0,.an V ep off 0),(3,.an V ep off 0)]) D,?_⟩⟩;show(⟨bZ (al [(0,.an V ep off 0),(3,.an V ep off 0)] D) (some 4) (.bool false),h⟩:St)=_;rw[cy];exact St.ba ⟨rfl,rfl,trivial⟩
 rintro s3 a3 w3 Z3 ⟨O,rfl⟩ X e;refine dV K0 cZ S0 (M:=λA U=>A=.normal/\∃b,U=⟨al [(0,.an V ep off 0)] b,h⟩) rfl ?_ X ?_
 ·refine wB ?_;exact⟨rfl,_,St.ba ⟨rfl,trivial⟩⟩
 rintro A U a4 w4 Z4 ⟨rfl,S,rfl⟩ i f;refine dV K0 cZ S0 (M:=λA U=>A=.ret/\∃b,U=⟨al [(2,.aa true [])] b,h⟩) rfl ?_ i ?_
 ·refine wB ?_;apply R.QM T6 hle;exact rfl;exact rfl;exact q;exact J;exact rfl;exact rfl;exact rfl;exact rfl;exact rfl;exact yxe;exact rfl;exact rfl;refine wB ?_;exact⟨rfl,_,St.ba ⟨rfl,trivial⟩⟩
 rintro A s5 a5 w5 z ⟨rfl,Y5,rfl⟩ K g;refine⟨.inr rfl,_,z,K,((d.trans e).trans f).trans g,[.aa true []],?_,λu y=>⟨z,y,K.hr,((d.trans e).trans f).trans g⟩⟩;exact gq (L:=[(2,.aa true [])]) rfl
 rfl
end Zero
def jG(B:Nat)(args:List PV)(h:ab):Option (PV×ab):=
 match args with
 |[.an V g U 0]=>match h[V]? with
  |some o=>if o.mu≠.x/\o.ep=g/\o.bQ=B/\U<=o.es.length then some (.aa true [],h)else none
  |none=>none
 |args=>nJ B args h
theorem Jp:ez C.P 216 (jG 8):=by
 intro V h r d e w F Z W H j
 unfold jG at e
 split at e
 ·rename_i b g U
  split at e
  ·rename_i o f
   split at e
   ·rename_i a
    obtain⟨rfl,rfl⟩:=agk (af7 e);obtain⟨O,rfl,Q,G⟩:=a;obtain⟨i,g,B,S⟩:=o;simp only at *;subst Q;exact Zero.Vv G H j f O
   cases e
  cases e
 exact Jo _ _ _ _ e _ _ _ _ H j
end Go.Pm
namespace Go.Pm
variable{W:Value}{w w':World}{ops:Array Oper}{rest:List Oper}{o:Oper}{a:Act}{Q:Exit->Act->World->Prop}{B b:Nat}{t:ByteArray}
open Go.Proofs Go.Shelf Go.RowKit
def rS:Go.Shelf.Ren:=⟨λ|156=>74 |165=>112 |166=>113 |167=>141 |169=>111 |240=>142 |241=>143 |276=>185 |277=>186 |n=>n,λ|0=>0 |3=>3 |4=>4 |5=>5 |9=>9 |20=>20 |31=>65 |37=>45 |70=>132 |72=>134 |75=>139 |76=>140 |80=>136 |127=>168 |164=>199 |n=>n,λ|n=>n⟩
theorem vB:Lays.n156 Tryz.prog rS:={
 mixed:=by kernel_rfl
 f156:=Tryz.func74.trans (congrArg some (by kernel_rfl))
 f165:=Tryz.func112.trans (congrArg some (by kernel_rfl))
 f166:=Tryz.func113.trans (congrArg some (by kernel_rfl))
 f169:=Tryz.func111.trans (congrArg some (by kernel_rfl))
 f240:=Tryz.func142.trans (congrArg some (by kernel_rfl))
 f241:=Tryz.func143.trans (congrArg some (by kernel_rfl))
 f276:=Tryz.func185.trans (congrArg some (by kernel_rfl))
 f277:=Tryz.func186.trans (congrArg some (by kernel_rfl))
 t0:=Tryz.underlying0
 a0:=Tryz.isAgg0
 z0:=Tryz.sizeOf0
 v0:=Tryz.zeroValue0
 t3:=Tryz.underlying3
 a3:=Tryz.isAgg3
 z3:=Tryz.sizeOf3
 v3:=Tryz.zeroValue3
 t4:=Tryz.underlying4
 a4:=Tryz.isAgg4
 z4:=Tryz.sizeOf4
 v4:=Tryz.zeroValue4
 t9:=Tryz.underlying9
 a9:=Tryz.isAgg9
 z9:=Tryz.sizeOf9
 v9:=Tryz.zeroValue9
 t20:=Tryz.underlying20
 a20:=Tryz.isAgg20
 z20:=Tryz.sizeOf20
 v20:=Tryz.zeroValue20
 t31:=Tryz.underlying65
 a31:=Tryz.isAgg65
 z31:=Tryz.sizeOf65
 v31:=Tryz.zeroValue65
 t37:=Tryz.underlying45
 a37:=Tryz.isAgg45
 z37:=Tryz.sizeOf45
 v37:=Tryz.zeroValue45
 t70:=Tryz.underlying132
 a70:=Tryz.isAgg132
 z70:=Tryz.sizeOf132
 v70:=Tryz.zeroValue132
 t72:=Tryz.underlying134
 a72:=Tryz.isAgg134
 z72:=Tryz.sizeOf134
 v72:=Tryz.zeroValue134
 t75:=Tryz.underlying139
 a75:=Tryz.isAgg139
 z75:=Tryz.sizeOf139
 v75:=Tryz.zeroValue139
 t76:=Tryz.underlying140
 a76:=Tryz.isAgg140
 z76:=Tryz.sizeOf140
 v76:=Tryz.zeroValue140
 t127:=Tryz.underlying168
 a127:=Tryz.isAgg168
 z127:=Tryz.sizeOf168
 v127:=Tryz.zeroValue168
 t164:=Tryz.underlying199
 a164:=Tryz.isAgg199
 z164:=Tryz.sizeOf199
 v164:=Tryz.zeroValue199}
theorem Va:Lays.n167 Tryz.prog rS:={
 mixed:=by kernel_rfl
 f167:=Tryz.func141.trans (congrArg some (by kernel_rfl))
 f240:=Tryz.func142.trans (congrArg some (by kernel_rfl))
 f276:=Tryz.func185.trans (congrArg some (by kernel_rfl))
 t0:=Tryz.underlying0
 a0:=Tryz.isAgg0
 z0:=Tryz.sizeOf0
 v0:=Tryz.zeroValue0
 t4:=Tryz.underlying4
 a4:=Tryz.isAgg4
 z4:=Tryz.sizeOf4
 v4:=Tryz.zeroValue4
 t5:=Tryz.underlying5
 a5:=Tryz.isAgg5
 z5:=Tryz.sizeOf5
 v5:=Tryz.zeroValue5
 t9:=Tryz.underlying9
 a9:=Tryz.isAgg9
 z9:=Tryz.sizeOf9
 v9:=Tryz.zeroValue9
 t20:=Tryz.underlying20
 a20:=Tryz.isAgg20
 z20:=Tryz.sizeOf20
 v20:=Tryz.zeroValue20
 t37:=Tryz.underlying45
 a37:=Tryz.isAgg45
 z37:=Tryz.sizeOf45
 v37:=Tryz.zeroValue45
 t70:=Tryz.underlying132
 a70:=Tryz.isAgg132
 z70:=Tryz.sizeOf132
 v70:=Tryz.zeroValue132
 t72:=Tryz.underlying134
 a72:=Tryz.isAgg134
 z72:=Tryz.sizeOf134
 v72:=Tryz.zeroValue134
 t75:=Tryz.underlying139
 a75:=Tryz.isAgg139
 z75:=Tryz.sizeOf139
 v75:=Tryz.zeroValue139
 t164:=Tryz.underlying199
 a164:=Tryz.isAgg199
 z164:=Tryz.sizeOf199
 v164:=Tryz.zeroValue199}
theorem CI:Builder.Extra Tryz.prog rS:={
 sizeBuilder:=by kernel_rfl
 liesBuilder:=by kernel_rfl
 t5:=Tryz.underlying5
 a5:=Tryz.isAgg5
 z5:=Tryz.sizeOf5
 v5:=Tryz.zeroValue5
 infoByte:=by kernel_rfl
 cellsByte:=by kernel_rfl
 sizeByte:=by kernel_rfl
 neB5:=by decide}
structure BF(b:Nat)(w w':World):Prop where
 os:w'.os=w.os
 tape:w'.tape=w.tape
 output:w'.output=w.output
 size:w.heap.size<=w'.heap.size
 ba:∀k,k<w.heap.size->k≠b->(∀v,w.cell? ⟨b,1,none⟩=some v->v.ownBlock≠some k)->w'.heap[k]?=w.heap[k]?
 own:∀v' g,w'.cell? ⟨b,1,none⟩=some v'->v'.ownBlock=some g->w.heap.size<=g\/∃v,w.cell? ⟨b,1,none⟩=some v/\v.ownBlock=some g
section
variable{P:Program}(w:World)
theorem FO(base:Nat)(t u ty e:TypeId)(i:TypeInfo)(Z:P.underlying t=some (.slice e))(y:P.underlying u=some .string)(B:P.info? e=some i)(M:i.zero=some (.int .u8 0))
  (A:i.size=1) (O:i.bytes=1) (v:Value) (n:Nat) (xs:List Value) (G:w.ownsRow base e 1 v n xs) (s:ByteArray)
  (F:n+s.size<=maxLen) (Y:n+s.size<=140737488355328) {W:Value} {w':World} (z:(Builtin.append_ #[t,u] ty #[v,.string s]).run P w=.ok W w'):
  ∀V,W.ownBlock=some V->v.ownBlock=some V\/w.heap.size<=V:=by
 have f:xs.length=n:=by simpa using G.1
 rcases G.2 with⟨rfl,rfl⟩|⟨g,a,d,rfl,S,N,Q,U,D,b⟩
 ·obtain⟨K,R,X,q,_⟩:=Lib.run_append_own_string (P:=P) w w.heap.size t u ty e i Z y B M A O (.slice none 0 0) 0 [] (World.ownsRow_nil w _ e 1) s yxa yxa (agb _);rw[z]at X
  cases X
  exact λV J=>.inr (q.lt V J).1
 ·by_cases h:n+s.size<=a
  ·have:=Lib.run_append_room_string (P:=P) w t u ty e i Z y B A g n a d N s h yxa;rw[z]at this
   cases this
   exact λV J=>.inl J
  ·have H:∀j u,xs[j]?=some u->w.cell? ((⟨g,0,none⟩:Addr).add j)=some u:=G.cells (g:=g) rfl;have:=Lib.run_append_grow_string (P:=P) w t u ty e i (.int .u8 0) Z y B M ⟨g,0,none⟩ n a xs (by rw[A];simpa using f) H s yxa yxa (by rw[O];exact growslice_fits yxa yxa);rw[z]at this
   cases this
   intro V J
   simp[Value.ownBlock]at J;exact .inr yxa
theorem Jd(H:o.guard=none)(q x:Operand)(t u:TypeId)
  (g:o.op=.call {callee:=.builtin .append,args:=#[q,x],argTypes:=#[t,u]})
  (base:Nat) (e:TypeId) (i:TypeInfo) (Z:P.underlying t=some (.slice e)) (y:P.underlying u=some .string) (B:P.info? e=some i) (M:i.zero=some (.int .u8 0))
  (A:i.size=1) (O:i.bytes=1)
  (v:Value) (n:Nat) (xs:List Value) (S:a.eval q=v) (G:w.ownsRow base e 1 v n xs) (s:ByteArray) (U:a.eval x=.string s)
  (D:n+s.size<=maxLen) (Y:n+s.size<=140737488355328) (J:base<=w.heap.size)
  (h:∀W w',w'.ownsRow base e 1 W (n+s.size) (xs++Lib.strCells s)->w.grownBy w' v.ownBlock->(∀V,W.ownBlock=some V->v.ownBlock=some V\/w.heap.size<=V)->wpList P ops Q rest (a.put o.dst W) w'):wpList P ops Q (o::rest) a w:=by
 refine wpList_plain H λK f=>?_;obtain⟨W,w',z,X,b,j⟩:=Lib.run_append_own_string (P:=P) w base t u o.type e i Z y B M A O v n xs G s D Y J;have d:=FO (P:=P) w base t u o.type e i Z y B M A O v n xs G s D Y z;unfold Oper.wp execOp;simp only[g,resolve,invoke,builtin,Sem.run_bind,Sem.run_pure,Result.andThen_ok,aiw,agp,agF,S,U,z];exact f _ _ (h W w' X b d)
theorem FQ(base:Nat)(t ty e:TypeId)(i:TypeInfo)(z:Value)(Z:P.underlying t=some (.slice e))(B:P.info? e=some i)(M:i.zero=some z)
  (A:i.size=1) (O:i.bytes=1) (d:z.cells.size=1) (v:Value) (n:Nat) (xs:List Value) (G:w.ownsRow base e 1 v n xs) (a:Addr) (x:Value) (Y:w.cell? a=some x) (h1:x.oneCell'=true)
  (Zv:n+1<=maxLen) (xl:n+1<=140737488355328) {W:Value} {w':World} (q:(Builtin.append_ #[t,t] ty #[v,.slice (some a) 1 1]).run P w=.ok W w'):
  ∀V,W.ownBlock=some V->v.ownBlock=some V\/w.heap.size<=V:=by
 have K:xs.length=n:=by simpa using G.1
 have f:∀(j:Nat) (u:Value),[x][j]?=some u->w.cell? (a.add j)=some u:=λj u y=>by
  match j,y with
  |0,y=>simp at y;subst y;simpa[Addr.add]using Y
  |j+1,y=>simp at y
 have h:∀u∈[x],u.oneCell'=true:=λu y=>by simp at y;subst y;exact h1
 rcases G.2 with⟨rfl,rfl⟩|⟨g,b,D,rfl,S,N,U,rl,Vb,Q⟩
 ·obtain⟨v2,w2,X,F,_⟩:=run_append_own (P:=P) w w.heap.size t ty e i z 1 1 Z B M A O d yxe (.slice none 0 0) 0 [] (World.ownsRow_nil w _ e 1) a 1 1 [x] rfl f h yxa yxa (agb _);rw[q]at X
  cases X
  exact λV J=>.inr (F.lt V J).1
 ·by_cases mH:n+1<=b
  ·have:=run_append_room (P:=P) w t ty e i Z B g n b D N a 1 1 [x] (by rw[A];rfl) f h mH (by rw[A];simp;omega);rw[q]at this
   cases this
   exact λV J=>.inl J
  ·obtain⟨v2,w2,X,F,gb,_⟩:=run_append_own (P:=P) w base t ty e i z 1 1 Z B M A O d yxe (.slice (some ⟨g,0,none⟩) n b) n xs G a 1 1 [x] rfl f h yxa yxa (agI S (Nat.le_of_lt (agw.1 N).1));rw[q]at X
   cases X
   intro V J
   rcases agM V w.heap.size with cK |R
   ·exfalso;have H:∀j u,xs[j]?=some u->w.cell? ((⟨g,0,none⟩:Addr).add j)=some u:=G.cells (g:=g) rfl;have:=run_append_grow (P:=P) w t ty e i z Z B M ⟨g,0,none⟩ n b xs (by rw[A];simpa using K) H a 1 1 [x] (by rw[A];rfl) f yxa yxa (by rw[O];exact growslice_fits yxa yxa);rw[q]at this
    cases this
    simp[Value.ownBlock]at J;omega
   exact .inr R
theorem Je(f:o.guard=none)(q x:Operand)(t:TypeId)
  (Y:o.op=.call {callee:=.builtin .append,args:=#[q,x],argTypes:=#[t,t]})
  (base:Nat) (e:TypeId) (i:TypeInfo) (z:Value) (Z:P.underlying t=some (.slice e)) (B:P.info? e=some i) (M:i.zero=some z)
  (A:i.size=1) (O:i.bytes=1) (H:z.cells.size=1)
  (v:Value) (n:Nat) (xs:List Value) (hs:a.eval q=v) (G:w.ownsRow base e 1 v n xs)
  (d:Addr) (y:Value) (hx:a.eval x=.slice (some d) 1 1) (F:w.cell? d=some y) (h1:y.oneCell'=true)
  (D:n+1<=maxLen) (xl:n+1<=140737488355328) (N:base<=w.heap.size)
  (h:∀W w',w'.ownsRow base e 1 W (n+1) (xs++[y])->w.grownBy w' v.ownBlock->(∀V,W.ownBlock=some V->v.ownBlock=some V\/w.heap.size<=V)->wpList P ops Q rest (a.put o.dst W) w'):wpList P ops Q (o::rest) a w:=by
 refine wpList_plain f λK U=>?_
 have J:∀(j:Nat) (u:Value),[y][j]?=some u->w.cell? (d.add j)=some u:=λj u b=>by
  match j,b with
  |0,b=>simp at b;subst b;simpa[Addr.add]using F
  |j+1,b=>simp at b
 obtain⟨W,w',g,X,R,h4⟩:=run_append_own (P:=P) w base t o.type e i z 1 1 Z B M A O H yxe v n xs G d 1 1 [y] rfl J (λu b=>by simp at b;subst b;exact h1) D yxa N;have S:=FQ (P:=P) w base t o.type e i z Z B M A O H v n xs G d y F h1 D xl g;unfold Oper.wp execOp;simp only[Y,resolve,invoke,builtin,Sem.run_bind,Sem.run_pure,Result.andThen_ok,aiw,agp,agF,hs,hx,g];exact U _ _ (h W w' X R S)
end
section
variable{P:Program}{Y:Ren}
theorem Qo(L:Lays.n240 P Y)(X:Builder.X72 P Y)(B b:Nat)(D:List Value)(w:World)(h:Lib.IsBuilder (Y.t 72) (Y.t 5) B b D w):
  Calls P (Y.f 240) #[.pointer (some ⟨b,0,none⟩)] w λe w'=>e=.returned (.tuple #[])/\Lib.BuilderAt (Y.t 72) (Y.t 5) B b (.pointer (some ⟨b,0,none⟩)) D w'/\(w'=w\/w'=w.setCell ⟨b,0,none⟩ (.pointer (some ⟨b,0,none⟩))):=by
 rcases h with h |h
 ·refine(Any.Builder_copyCheck_fresh L X b w h.cell0 h.shape h.frozen0).mono ?_;rintro e w' ⟨rfl,rfl⟩;exact⟨rfl,h.used _,.inr rfl⟩
 ·refine(Any.Builder_copyCheck_used L X b w h.cell0).mono ?_;rintro e w' ⟨rfl,rfl⟩;exact⟨rfl,h,.inl rfl⟩
theorem XQ{i n:World}{p v z:Value}{T:TypeId}(h1:i=w\/i=w.setCell ⟨b,0,none⟩ (.pointer (some ⟨b,0,none⟩)))(W:i.heap[b]?=some (.cells #[p,v] T (0,0)))(Q:v.ownBlock≠some b)
  {a:World} (j:a=i\/∃o,a=i.alloc o) (N:a.grownBy n v.ownBlock) (J:∀V,z.ownBlock=some V->v.ownBlock=some V\/a.heap.size<=V):BF b w (n.setCell ⟨b,1,none⟩ z):=by
 have M:i.heap.size=w.heap.size:=by rcases h1 with rfl |rfl <;>simp[World.setCell]
 have f:i.os=w.os/\i.tape=w.tape/\i.output=w.output:=by rcases h1 with rfl |rfl <;>exact⟨rfl,rfl,rfl⟩
 have K:∀k,k≠b->i.heap[k]?=w.heap[k]?:=λk d=>by
  rcases h1 with rfl |rfl
  rfl
  exact Below.heap_setCell _ _ _ _ d
 have O:i.heap.size<=a.heap.size:=by rcases j with rfl |⟨o,rfl⟩ <;>simp
 have q:a.os=i.os/\a.tape=i.tape/\a.output=i.output:=by rcases j with rfl |⟨o,rfl⟩ <;>exact⟨rfl,rfl,rfl⟩
 have y:∀k,k<i.heap.size->a.heap[k]?=i.heap[k]?:=λk d=>by
  rcases j with rfl |⟨o,rfl⟩
  rfl
  exact Lib.alloc_old i o k d
 have F:b<i.heap.size:=(agw.1 W).1
 have A:w.cell? ⟨b,1,none⟩=some v:=by
  have:i.cell? ⟨b,1,none⟩=some v:=by rw[Lib.cell_of_heap W];rfl
  rcases h1 with rfl |rfl;exact this
  ·rwa[World.cell?_setCell_other _ _ _ _ yxb]at this
 have Z:n.heap[b]?=some (.cells #[p,v] T (0,0)):=by
  rw[N.block b yxa (λe=>Q e.symm),y b F];exact W
 have B:n.cell? ⟨b,1,none⟩=some v:=by rw[Lib.cell_of_heap Z];rfl
 refine⟨N.os.trans (q.1.trans f.1),N.tape.trans (q.2.1.trans f.2.1),N.output.trans (q.2.2.trans f.2.2),?_,λk d t H=>?_,λu g D G=>?_⟩;have:=N.size;simp[World.setCell];omega;rw[Below.heap_setCell _ _ _ _ t,N.block k yxa (λe=>H v A e.symm),y k yxa,K k t]
 ·rw[World.cell?_setCell_same _ _ _ B]at D;obtain rfl:=af7 D;rcases J g G with h |h;exact .inr ⟨v,A,h⟩;exact .inl yxa
set_option maxHeartbeats 2000000 in
set_option maxRecDepth 100000 in
theorem Zw(L:Lays.n166 P Y)(X:Builder.Extra P Y)(B b:Nat)(D:List Value)(s:ByteArray)(w:World)(h:Lib.IsBuilder (Y.t 72) (Y.t 5) B b D w)(hlen:D.length+s.size<=140737488355328)(hBw:B<=w.heap.size):
  Calls P (Y.f 166) #[.pointer (some ⟨b,0,none⟩),.string s] w λe w'=>e=.returned (.tuple #[.I s.size,.nilIface])/\Lib.BuilderAt (Y.t 72) (Y.t 5) B b (.pointer (some ⟨b,0,none⟩)) (D++Lib.strCells s) w'/\BF b w w':=by
 obtain⟨i0,hi,Zx,Jf,FA⟩:=info_parts X.infoByte;have M:=L.mixed;have y:=L.t72;have K:=L.a72;have z72:=L.z72;have U:=L.v72;have u72:=run_underlying L.t72;have u:=L.t70;have J:=L.a70;have z70:=L.z70;have S:=L.v70;have u70:=run_underlying L.t70;have d:=L.t37;have H:=L.a37;have W:=L.z37;have R:=L.v37;have u37:=run_underlying L.t37;have t3:=L.t3;have a3:=L.a3;have z3:=L.z3;have v3:=L.v3;have u3:=run_underlying L.t3;have Q:=L.t9;have a9:=L.a9;have z9:=L.z9;have v9:=L.v9;have u9:=run_underlying L.t9;have t4:=L.t4;have a4:=L.a4;have z4:=L.z4;have v4:=L.v4;have u4:=run_underlying L.t4;have a:=L.t164;have i:=L.a164;have F:=L.z164;have z:=L.v164;have u164:=run_underlying L.t164;have t5:=X.t5;have a5:=X.a5;have z5:=X.z5;have v5:=X.v5;have u5:=run_underlying X.t5;have e240:∀V w,(callFunc (Y.f 240) V).run P w=.ok (.enter (Y.f 240) V) w:=enters_of L.f240 (by kernel_rfl) rfl
 go_enter L.f166,Body.n166_ntmps Y
 go_wp2_with (go_at_fn (Y.f 240);refine(Qo {L with} X.toX72 B b D _ h).mono ?_)
 rintro e A ⟨rfl,h1,n⟩;obtain⟨hB,v,q,nE,bD⟩:=h1;have Qp:=Any.hidJ n;clear n;have s1:=Any.hidJ (show A.heap.size=w.heap.size by rcases Qp.out with rfl |rfl <;>simp[World.setCell]);have c0:A.cell? ⟨b,0,none⟩=some (.pointer (some ⟨b,0,none⟩)):=by rw[Lib.cell_of_heap q];rfl
 have c1:A.cell? ⟨b,1,none⟩=some v:=by rw[Lib.cell_of_heap q];rfl
 go_wp2_with (at_builtin;refine Jd _ rfl _ _ (Y.t 37) (Y.t 9) rfl B (Y.t 5) i0 L.t37 L.t9 hi Zx Jf FA _ _ _ rfl nE s rfl ?c3 ?c4 ?c5 ?_)
 case c3=>unfold maxLen;omega
 case c4=>omega
 case c5=>have:=s1.out;omega
 intro v' G FR FT CL
 have cK:b<A.heap.size:=by
  rcases agM b A.heap.size with N|N;exact N;simp[ahE N]at q
 have Z:G.heap[b]?=some (.cells #[.pointer (some ⟨b,0,none⟩),v] (Y.t 72) (0,0)):=by
  rw[FT.block b cK (λe=>bD e.symm)];exact q
 have d0:G.cell? ⟨b,0,none⟩=some (.pointer (some ⟨b,0,none⟩)):=by rw[Lib.cell_of_heap Z];rfl
 have d1:G.cell? ⟨b,1,none⟩=some v:=by rw[Lib.cell_of_heap Z];rfl
 have f1:G.frozen? ⟨b,1,none⟩=false:=Lib.frozen_of_heap Z 1
 obtain⟨ao,n',j,rfl⟩:∃ao n' j,v'=.slice ao n' j:=by
  rcases FR.2 with⟨O,_⟩|⟨g,j,cur,O,_⟩;exact⟨_,_,_,O⟩;exact⟨_,_,_,O⟩
 have vf:=Any.hidJ CL;clear CL
 go_wp2
 go_ret2
 refine⟨rfl,?_,?_⟩;exact Lib.BuilderAt.put (T:=(Y.t 72)) (e:=(Y.t 5)) hB Z (bs':=D++Lib.strCells s) (by simpa[Lib.strCells_length]using FR) X.neB5;exact XQ Qp.out q bD (.inl rfl) FT vf.out
set_option maxHeartbeats 2000000 in
set_option maxRecDepth 100000 in
theorem Zy(L:Lays.n167 P Y)(X:Builder.Extra P Y)(B b:Nat)(D:List Value)(c:Int)(w:World)(h:Lib.IsBuilder (Y.t 72) (Y.t 5) B b D w)(hlen:D.length+1<=140737488355328)(hBw:B<=w.heap.size):
  Calls P (Y.f 167) #[.pointer (some ⟨b,0,none⟩),.int .u8 c] w λe w'=>e=.returned .nilIface/\Lib.BuilderAt (Y.t 72) (Y.t 5) B b (.pointer (some ⟨b,0,none⟩)) (D++[.int .u8 c]) w'/\BF b w w':=by
 obtain⟨i0,hi,Zx,Jf,FA⟩:=info_parts X.infoByte;have M:=L.mixed;have z:=L.t72;have K:=L.a72;have W:=L.z72;have R:=L.v72;have u72:=run_underlying L.t72;have y:=L.t70;have J:=L.a70;have U:=L.z70;have Q:=L.v70;have u70:=run_underlying L.t70;have t5:=L.t5;have a5:=L.a5;have z5:=L.z5;have v5:=L.v5;have u5:=run_underlying L.t5;have d:=L.t37;have H:=L.a37;have S:=L.z37;have O:=L.v37;have u37:=run_underlying L.t37;have t9:=L.t9;have a9:=L.a9;have z9:=L.z9;have v9:=L.v9;have u9:=run_underlying L.t9;have t4:=L.t4;have a4:=L.a4;have z4:=L.z4;have v4:=L.v4;have u4:=run_underlying L.t4;have a:=L.t164;have n:=L.a164;have F:=L.z164;have A:=L.v164;have u164:=run_underlying L.t164;have e240:∀V w,(callFunc (Y.f 240) V).run P w=.ok (.enter (Y.f 240) V) w:=enters_of L.f240 (by kernel_rfl) rfl
 go_enter L.f167,Body.n167_ntmps Y
 go_wp2_with (go_at_fn (Y.f 240);refine(Qo {L with} X.toX72 B b D _ h).mono ?_)
 rintro e i ⟨rfl,h1,q⟩;obtain⟨hB,v,u,nE,bD⟩:=h1;have Qp:=Any.hidJ q;clear q;have s1:=Any.hidJ (show i.heap.size=w.heap.size by rcases Qp.out with rfl |rfl <;>simp[World.setCell]);have c0:i.cell? ⟨b,0,none⟩=some (.pointer (some ⟨b,0,none⟩)):=by rw[Lib.cell_of_heap u];rfl
 have c1:i.cell? ⟨b,1,none⟩=some v:=by rw[Lib.cell_of_heap u];rfl
 go_wp2_with (at_builtin;refine Je _ rfl _ _ (Y.t 37) rfl B (Y.t 5) i0 (.int .u8 0) L.t37 hi Zx Jf FA rfl _ _ _ rfl (nE.alloc _) ⟨i.heap.size,0,none⟩ (.int .u8 c) rfl ?c1 rfl ?c3 ?c4 ?c5 ?_)
 case c1=>rw[Lib.cell_of_heap (heap_alloc_new i _)];rfl
 case c3=>unfold maxLen;omega
 case c4=>omega
 case c5=>have:=s1.out;simp;omega
 intro v' G FR FT CL
 have cK:b<i.heap.size:=by
  rcases agM b i.heap.size with N|N;exact N;simp[ahE N]at u
 have Z:G.heap[b]?=some (.cells #[.pointer (some ⟨b,0,none⟩),v] (Y.t 72) (0,0)):=by
  rw[FT.block b yxd (λe=>bD e.symm),Lib.alloc_old i _ b cK];exact u
 have d0:G.cell? ⟨b,0,none⟩=some (.pointer (some ⟨b,0,none⟩)):=by rw[Lib.cell_of_heap Z];rfl
 have d1:G.cell? ⟨b,1,none⟩=some v:=by rw[Lib.cell_of_heap Z];rfl
 have f1:G.frozen? ⟨b,1,none⟩=false:=Lib.frozen_of_heap Z 1
 obtain⟨g,j,rfl⟩:∃g j,v'=.slice (some ⟨g,0,none⟩) (D.length+1) j:=by
  rcases FR.2 with⟨_,h0⟩|⟨g,j,cur,hv,_⟩;omega;exact⟨g,j,hv⟩
 have vf:=Any.hidJ CL;clear CL
 go_wp2
 go_ret
 refine⟨rfl,?_,?_⟩;exact Lib.BuilderAt.put (T:=(Y.t 72)) (e:=(Y.t 5)) hB Z (bs':=D++[.int .u8 c]) (by simpa using FR) X.neB5;exact XQ Qp.out u bD (.inr ⟨_,rfl⟩) FT (by simpa using vf.out)
end
def IT(B b:Nat)(t:ByteArray)(w:World):Prop:=Lib.IsBuilder 134 5 B b (Lib.strCells t) w
theorem IT.same(h:IT B b t w)(e:w'.heap[b]?=w.heap[b]?)(a:∀v g,w.cell? ⟨b,1,none⟩=some v->v.ownBlock=some g->w'.heap[g]?=w.heap[g]?):IT B b t w':=by
 have V:∀p,Lib.BuilderAt 134 5 B b p (Lib.strCells t) w->Lib.BuilderAt 134 5 B b p (Lib.strCells t) w':=by
  rintro p ⟨H,v,W,G,Q⟩;have A:w.cell? ⟨b,1,none⟩=some v:=by rw[Lib.cell_of_heap W];rfl
  refine⟨H,v,e.trans W,⟨G.1,?_⟩,Q⟩;rcases G.2 with z |⟨g,j,d,J,S,N,f⟩;exact .inl z;exact .inr ⟨g,j,d,J,S,(a v g A (by rw[J];rfl)).trans N,f⟩
 exact h.imp (V _) (V _)
theorem IT.cs(h:IT B b t w):∃cs:Array Value,w.heap[b]?=some (.cells cs 134 (0,0))/\cs.size=2:=by
 rcases h with⟨_,v,W,_⟩|⟨_,v,W,_⟩;exact⟨_,W,rfl⟩;exact⟨_,W,rfl⟩
theorem IT.lo(h:IT B b t w):B<=b/\∀v g,w.cell? ⟨b,1,none⟩=some v->v.ownBlock=some g->B<=g/\g<w.heap.size:=by
 have V:∀p,Lib.BuilderAt 134 5 B b p (Lib.strCells t) w->B<=b/\∀v g,w.cell? ⟨b,1,none⟩=some v->v.ownBlock=some g->B<=g/\g<w.heap.size:=by
  rintro p ⟨H,v,W,G,Q⟩;have A:w.cell? ⟨b,1,none⟩=some v:=by rw[Lib.cell_of_heap W];rfl
  refine⟨H,λa g D N=>?_⟩;rw[A]at D;obtain rfl:=af7 D;exact G.lt g N
 exact h.elim (V _) (V _)
theorem rm(s t:ByteArray):Lib.strCells (s++t)=Lib.strCells s++Lib.strCells t:=by simp[Lib.strCells]
theorem Qq{u:ByteArray}(h:IT B b t w)(A:t.size+u.size<=140737488355328)(H:B<=w.heap.size):
  Calls Tryz.prog 113 #[.pointer (some ⟨b,0,none⟩),.string u] w λe w'=>e=.returned (.tuple #[.I u.size,.nilIface])/\IT B b (t++u) w'/\BF b w w':=by
 refine(Zw (show Lays.n166 Tryz.prog rS from{vB with}) CI B b (Lib.strCells t) u w h (by rw[Lib.strCells_length];exact A) H).mono ?_;rintro e w' ⟨O,X,Q⟩;exact⟨O,.inr (by rw[rm];exact X),Q⟩
theorem Qr{c:UInt8}(h:IT B b t w)(A:t.size+1<=140737488355328)(H:B<=w.heap.size):
  Calls Tryz.prog 141 #[.pointer (some ⟨b,0,none⟩),.int .u8 c.toNat] w λe w'=>e=.returned .nilIface/\IT B b (t++⟨#[c]⟩) w'/\BF b w w':=by
 refine(Zy Va CI B b (Lib.strCells t) c.toNat w h (by rw[Lib.strCells_length];exact A) H).mono ?_;rintro e w' ⟨O,X,Q⟩;exact⟨O,.inr (by rw[rm];exact X),Q⟩
theorem Qs(h:IT B b t w)(H:B<=w.heap.size):
  Calls Tryz.prog 111 #[.pointer (some ⟨b,0,none⟩)] w λe w'=>e=.returned (.string t)/\Below B w w':=by
 refine(Any.Builder_String_any (show Lays.n169 Tryz.prog rS from{vB with}) CI B b t.data.toList w h H).mono ?_;rintro e w' ⟨O,X⟩;exact⟨by rw[O],X⟩
theorem Qt(b o c:Nat)(xs:List ByteArray)(P:ByteArray)(w:World)(Q:∀(j:Nat) x,xs[j]?=some x->w.cell? ⟨b,o+j,none⟩=some (.string x))
  (a:b<w.heap.size) (i:xs.length<=140737488355328) (d:xs.length<=c) (K:(Lib.join (xs.map (·.data.toList)) P.data.toList).length<=140737488355328):
  Calls Tryz.prog 74 #[.slice (some ⟨b,o,none⟩) xs.length c,.string P] w λe w'=>e=.returned (.string ⟨(Lib.join (xs.map (·.data.toList)) P.data.toList).toArray⟩)/\Below w.heap.size w w':=
 Any.strings_Join vB CI b o c xs P w Q a i d K
end Go.Pm
namespace Go.Pm
variable{B V b i:Nat}{w w':World}{F W:Nat->Prop}{h h':ab}{Z q:List (Nat×Nat)}{t t':ByteArray}{s:St}{a:Act}{c:Code}{d:Option Nat}{M:Ex->St->ByteArray->Prop}{ops:Array Oper}{M1:St->Prop}{j:String}{e g:Array Edge}{x0 x1:Operand}{L:List (Nat×PV)}{Y:Nat->PV}{R:List (Nat×PV)->ab->ByteArray->Prop}
open Go.Proofs
variable[iD:Inhabited Prop]
def gG:ax:=⟨.l,0,2,[.agg [.any,.any]]⟩
structure GI(i:Nat)(w:World)(F:Nat->Prop)(Z:List (Nat×Nat))(B b:Nat)(t:ByteArray):Prop where
 bl:IT B b t w
 hB:B<=w.heap.size
 fb:F b
 fg:∀v g,w.cell? ⟨b,1,none⟩=some v->v.ownBlock=some g->F g
 bt:Z[i]?=some (b,1)
structure GS(B:Nat)(w:World)(F:Nat->Prop)(h:ab)(Z:List (Nat×Nat))(w':World)(F':Nat->Prop)(h':ab)(Z':List (Nat×Nat)):Prop where
 size:w.heap.size<=w'.heap.size
 up:∀x,F x->F' x
 new:∀x,F' x->F x\/w.heap.size<=x
 ba:∀x,x<w.heap.size->(x<B\/¬F x)->¬Mb h Z x->w'.heap[x]?=w.heap[x]?
 shr:∀x,x<w.heap.size->Mb h' Z' x->Mb h Z x
 os:w'.os=w.os
 tape:w'.tape=w.tape
 output:w'.output=w.output
theorem GS.refl(B:Nat)(w:World)(F:Nat->Prop)(h:ab)(Z:List (Nat×Nat)):GS B w F h Z w F h Z:=⟨agb _,λ_ h=>h,λ_ h=>.inl h,λ_ _ _ _=>rfl,λ_ _ h=>h,rfl,rfl,rfl⟩
theorem GS.trans{B:Nat}{w i n:World}{F f G:Nat->Prop}{h h1 X:ab}{Z J g:List (Nat×Nat)}(a:GS B w F h Z i f h1 J)(b:GS B i f h1 J n G X g):GS B w F h Z n G X g where
 size:=agI a.size b.size
 up x hx:=b.up x (a.up x hx)
 new x hx:=by
  rcases b.new x hx with h |h;exact a.new x h;exact .inr (agI a.size h)
 ba x hx hF hM:=by
  have j:=λm=>hM (a.shr x hx m)
  have:x<B\/¬f x:=hF.imp id (λz h=>by rcases a.new x h with h |h;exact z h;omega);rw[b.ba x (agK hx a.size) this j,a.ba x hx hF hM]
 shr x hx m:=a.shr x hx (b.shr x (agK hx a.size) m)
 os:=b.os.trans a.os
 tape:=b.tape.trans a.tape
 output:=b.output.trans a.output
theorem GS.of(s:eN w h Z w' h' q):GS B w F h Z w' F h' q:=⟨s.size,λ_ h=>h,λ_ h=>.inl h,λx U _ u=>s.ba x U u,s.shr,s.os,s.tape,s.output⟩
theorem GI.xa(I:GI i w F Z B b t)(H:bp w F Z h)(s:eN w h Z w' h' q)(S:h[i]?=some gG):GI i w' F q B b t:=by
 have u:∀x,F x->w'.heap[x]?=w.heap[x]?:=λx U=>s.ba x (H.fin x U) (λ⟨V,o,n,D,N,P,M⟩=>H.out V o n D N (.inl P) (M▸U))
 have G:w'.cell? ⟨b,1,none⟩=w.cell? ⟨b,1,none⟩:=na (u b I.fb);refine⟨I.bl.same (u b I.fb) (λv g D N=>u g (I.fg v g D N)),agI I.hB s.size,I.fb,λv g D N=>I.fg v g (G▸D) N,?_⟩;rw[(s.Ja i gG S (by simp[gG])).2];exact I.bt
def je(i:Nat)(h:ab):Prop:=h[i]?=some gG/\∀j o,h[j]?=some o->j≠i->o.mu=.m\/o.mu=.f
theorem SR.gs{N:Nat}(R:SR N w F Z s a)(G:GS B w F s.h Z w' W s.h Z)(H:∀x,x<w.heap.size->¬F x->w'.heap[x]?=w.heap[x]?)
  (Q:∀x,W x->x<w'.heap.size) (I:GI i w' W Z B b t) (o:je i s.h):SR N w' W Z s a:=by
 have A:∀x,x<w.heap.size->¬Av F s.h Z x->¬Av W s.h Z x:=λx U z O=>by
  rcases O with h |h
  ·rcases G.new x h with h |h
   ·exact z (.inl h)
   ·omega
  exact z (.inr h)
 have M:∀x,x<w.heap.size->¬Av F s.h Z x->w'.heap[x]?=w.heap[x]?:=λx U z=>H x U (λh=>z (.inl h))
 have J:∀(v:Value) (p:PV),aG w (Av F s.h Z) Z s.h v p->aG w' (Av W s.h Z) Z s.h v p:=λv p r=>r.UJ (FJ.refl s.h Z) M A
 refine⟨⟨R.hr.len,Q,λV y n D d P=>?_,R.hr.iv,λV y n D d P h=>?_,R.hr.fG.mono M A⟩,λx=>J _ _ (R.er x),R.df,R.sz⟩
 ·have r:=R.hr.obj V y n D d P
  by_cases u:V=i
  ·subst u;rw[o.1]at D;rw[I.bt]at d;obtain rfl:=af7 D;obtain rfl:=af7 d;obtain⟨Y,X,k2⟩:=I.bl.cs;refine .inl ⟨_,Y,X,agb _,by show 1 * 2<=_;omega,by simp[gG],λi e f=>?_⟩
   match i,f with
   |0,f=>
    simp[gG]at f;subst f;refine⟨rfl,λj p K=>?_⟩;have S:=ag K;have rA:j<2:=S;refine⟨Y[j]' yxa,?_,?_⟩;simp[gG]
    ·have:p=.any:=by
      match j,rA,K with
      |0,_,K=>simp[cells]at K;exact K.symm
      |1,_,K=>simp[cells]at K;exact K.symm
     rw[this];exact .any _
   |i+1,f=>simp[gG]at f
  ·have g:=R.hr.out V y n D d (o.2 V y D u);exact kJ.to (H _ r.lt g) r (λv e p _ _ q=>J v p q)
 ·rcases G.new _ h with h |h
  ·exact R.hr.out V y n D d P h
  ·have:=(R.hr.obj V y n D d (by rcases P with h |h <;>rw[h] <;>simp)).lt;omega
section
variable(C:cA)(N B b i:Nat)
def fM(c:Code)(s:St)(t:ByteArray)(M:Ex->St->ByteArray->Prop):Prop:=
 ∀(Q:Exit->Act->World->Prop) (w:World) (F:Nat->Prop) (Z:List (Nat×Nat)) (a:Act),SR N w F Z s a->GI i w F Z B b t->
  (∀A U j X W q u,M A U j->SR N X W q U u->GI i X W q B b j->GS B w F s.h Z X W U.h q->Q (Gn A) u X)->c.wp C.P Q a w
def qL(o:Oper)(s:St)(t:ByteArray)(p:PV)(t':ByteArray):Prop:=
 ∀(Q:Exit->Act->World->Prop) (w:World) (F:Nat->Prop) (Z:List (Nat×Nat)) (a:Act) (next:Act->World->Prop),SR N w F Z s a->GI i w F Z B b t->
  (∀v X W,SR N X W Z s a->GI i X W Z B b t'->GS B w F s.h Z X W s.h Z->aG X (Av W s.h Z) Z s.h v p->next (a.put o.dst v) X)->o.wp C.P a w next Q
end
variable{C:cA}{N B b i:Nat}
def F8(C:cA)(N B b i:Nat)(c:Code)(M:Ex->St->ByteArray->Prop):Ex->St->ByteArray->Prop
 | .normal,s,t=>fM C N B b i c s t M
 |A,s,t=>M A s t
theorem fM.seq{c d:Code}{s:St}{t:ByteArray}{M:Ex->St->ByteArray->Prop}(h:fM C N B b i c s t (F8 C N B b i d M)):fM C N B b i (.seq c d) s t M:=by
 intro Q w F Z a R I v
 refine wp_seq ?_;refine h _ w F Z a R I (λA U j X W q u m y f J=>?_)
 cases A with
 |normal=>exact m Q X W q u y f (λe n D H G g S O Y K z=>v e n D H G g S O Y K (J.trans z))
 |exit V=>exact v _ U j X W q u m y f J
 |ret=>exact v _ U j X W q u m y f J
theorem fM.LQ{x:Operand}{d:Code}(U:ev s.Y x=.bool true)(h:fM C N B b i c s t M):fM C N B b i (.cond x c d) s t M:=by
 intro Q w F Z a R I v
 have:=R.er.ev R.hr.fG x;rw[U]at this;exact wp_cond_true this.gz (h Q w F Z a R I v)
theorem fM.LS{x:Operand}{d:Code}(U:ev s.Y x=.bool false)(h:fM C N B b i d s t M):fM C N B b i (.cond x c d) s t M:=by
 intro Q w F Z a R I v
 have:=R.er.ev R.hr.fG x;rw[U]at this;exact wp_cond_false this.gz (h Q w F Z a R I v)
def sc(V:Nat)(M:Ex->St->ByteArray->Prop):Ex->St->ByteArray->Prop
 | .exit S,s,t=>if S=V then M .normal s t else M (.exit S) s t
 |A,s,t=>M A s t
theorem fM.block{V:Nat}{c:Code}{s:St}{t:ByteArray}{M:Ex->St->ByteArray->Prop}(h:fM C N B b i c s t (sc V M)):fM C N B b i (.block V c) s t M:=by
 intro Q w F Z a R I v
 refine wp_block ?_;refine h _ w F Z a R I (λA U j X W q u m y f J=>?_)
 cases A with
 |normal=>exact v _ U j X W q u m y f J
 |exit S=>
  simp only[sc]at m;simp only[Gn,Exit.inBlock]
  split at m
  ·rename_i d;rw[if_pos d];exact v _ U j X W q u m y f J
  ·rename_i d;rw[if_neg d];exact v _ U j X W q u m y f J
 |ret=>exact v _ U j X W q u m y f J
theorem fM.scope{c:Code}{s:St}{t:ByteArray}{M:Ex->St->ByteArray->Prop}(h:fM C N B b i c s t M):fM C N B b i (.scope c) s t M:=by
 intro Q w F Z a R I v
 refine wp_scope_straight (h _ w F Z a R I (λA U j X W q u m y f J=>?_))
 cases A <;>exact v _ U j X W q u m y f J
theorem fM.exit{V:Nat}{s:St}{t:ByteArray}{M:Ex->St->ByteArray->Prop}(h:M (.exit V) s t):fM C N B b i (.exit V) s t M:=λQ w F Z a R I v=>wp_exit (v (.exit V) s t w F Z a h R I (GS.refl _ _ _ _ _))
theorem fM.ret{s:St}{t:ByteArray}{M:Ex->St->ByteArray->Prop}(h:M .ret s t):fM C N B b i .ret s t M:=λQ w F Z a R I v=>wp_ret (v .ret s t w F Z a h R I (GS.refl _ _ _ _ _))
theorem fM.skip{s:St}{t:ByteArray}{M:Ex->St->ByteArray->Prop}(h:M .normal s t):fM C N B b i .skip s t M:=λQ w F Z a R I v=>wp_skip (v .normal s t w F Z a h R I (GS.refl _ _ _ _ _))
theorem fM.label{l:Nat}{s:St}{t:ByteArray}{M:Ex->St->ByteArray->Prop}(h:M .normal s t):fM C N B b i (.label l) s t M:=λQ w F Z a R I v=>wp_label (v .normal s t w F Z a h R I (GS.refl _ _ _ _ _))
theorem fM.loop{c:Code}{s:St}{t:ByteArray}{M:Ex->St->ByteArray->Prop}(J:Nat->St->ByteArray->Prop)(k:Nat)(h0:J k s t)
  (D:∀k s t,J k s t->fM C N B b i c s t (λA U t'=>(A=.normal/\∃j,k=j+1/\J j U t')\/(A≠.normal/\M A U t'))):fM C N B b i (.loop c) s t M:=by
 intro Q w F Z a R I v
 have H:∀(k:Nat) (s:St) (t:ByteArray) (w:World) (F:Nat->Prop) (Z:List (Nat×Nat)) (a:Act),J k s t->SR N w F Z s a->GI i w F Z B b t->
   (∀A U t' X W q u,M A U t'->SR N X W q U u->GI i X W q B b t'->GS B w F s.h Z X W U.h q->Q (Gn A) u X)->Code.rounds C.P c Q (k+1) a w:=by
  intro k
  induction k with
  |zero=>
   intro s t w F Z a g R I v
   rw[rounds_succ];refine D 0 s t g _ w F Z a R I (λA U t' X W q u m y f d=>?_);rcases m with⟨_,j,h,_⟩|⟨e,m⟩;omega
   ·have:=v A U t' X W q u m y f d
    cases A with
    |normal=>exact absurd rfl e
    |exit id=>exact this
    |ret=>exact this
  |succ k ih=>
   intro s t w F Z a g R I v
   rw[rounds_succ];refine D (k+1) s t g _ w F Z a R I (λA U t' X W q u m y f d=>?_);rcases m with⟨rfl,j,h,V⟩|⟨e,m⟩
   ·obtain rfl:k=j:=by omega
    exact ih U t' X W q u V y f (λn s2 t2 w2 G O S m2 Y K z=>v n s2 t2 w2 G O S m2 Y K (d.trans z))
   ·have:=v A U t' X W q u m y f d
    cases A with
    |normal=>exact absurd rfl e
    |exit id=>exact this
    |ret=>exact this
 exact wp_loop_rounds (k+1) (H k s t w F Z a h0 R I v)
section
variable(K:dn C)(hm:C.P.follows .mixedOrders=true)(cN:∀n,dJ C (dC C n))
theorem fM.ev(K:dn C)(d:C.P.follows .mixedOrders=true)(z:∀n,dJ C (dC C n))(S:s.h[i]?=some gG)(G:codeOk N c=true)(e:Ev C c s (λA U=>M A U t)):fM C N B b i c s t M:=by
 intro Q w F Z a R I v
 exact dV K d z G e R (λA U u X q m y O=>v A U t X F q u m y (I.xa R.hr O S) (GS.of O))
theorem fM.spec(K:dn C)(z:∀n,dJ C (dC C n)){id:Nat}(pre:List Oper)(o:Oper)(post:List Oper)(g0:s.h[i]?=some gG)(J:ops.toList.all (fN N)=true)(f:ops.toList=pre++o::post)(hg:o.guard=none)
  (e1:ai C ops pre s M1)
  (hs:∀s1,M1 s1->s1.h[i]?=some gG/\∃p W,qL C N B b i o s1 t p W/\ai C ops post ⟨bZ s1.Y o.dst p,s1.h⟩ (λs'=>M .normal s' W)):fM C N B b i (.region id ops false) s t M:=by
 intro Q w F Z a R I hQ
 refine wp_region ?_;obtain⟨s1,m1,A,V⟩:=e1
 have jb:ops.size=pre.length+(post.length+1):=by
  have:=congrArg List.length f;simpa using this
 have qQ:List.range ops.size=List.map (·+0) (List.range pre.length)++(pre.length::(List.map (·+(pre.length+1)) (List.range post.length)++[])):=by
  exact zbp
 rw[qQ];have U:fN N o=true:=af9.1 J o (by rw[f];simp)
 have hk:ops[pre.length]?=some o:=by
  rw[<-agG,f,agl (agb _)];simp
 refine mh K (z A) J _ (o::post) pre 0 (by simpa using f) R (V A (agb _)) (λg w1 y j q=>?_);obtain⟨g1,p,W,so,e2⟩:=hs s1 m1;obtain⟨s3,m3,S,D⟩:=e2;have P:=I.xa R.hr q g0;simp only[wpOps,hk];have hw:Region.wanted o (yielded ops g.tmps)=true:=by simp[Region.wanted,hg]
 rw[if_pos hw]
 left
 refine so _ w1 F y g _ j P (λv w2 G d O H hv=>?_);have tP:=fp U j.sz;have e:SR N w2 G y ⟨bZ s1.Y o.dst p,s1.h⟩ (g.put o.dst v):=⟨d.hr,d.er.put tP hv,by rw[cE];exact d.df,by rw[eD];exact d.sz⟩;refine mh K (z S) J [] [] post (pre.length+1) ?_ e (D S (agb _)) (λa3 w3 Z3 X u=>?_)
 ·exact zcl
 ·simp only[wpOps];exact hQ .normal s3 W w3 G Z3 a3 m3 X (O.xa d.hr u g1) (((GS.of q).trans H).trans (GS.of u))
theorem JF(l:List Oper)(o:Oper):before ⟨l++[o]⟩=before ⟨l⟩++[(I6 o).foldl (λs e=>s |||2^e.on |||(before ⟨l⟩).getD e.on 0) 0]:=by simp[before,List.foldl_append]
theorem Ap(l:List Oper):(before ⟨l⟩).length=l.length:=by
 have H:∀(l:List Oper) (u:List Nat),(l.foldl (λu o=>u++[(I6 o).foldl (λs e=>s |||2^e.on |||u.getD e.on 0) 0]) u).length=u.length+l.length:=by
  intro l
  induction l with
  |nil=>intro u;simp
  |cons o l P=>intro u;simp only[aht];rw[P];simp;omega
 have:=H l [];simpa[before]using this
theorem fM.acS(K:dn C)(hm:C.P.follows .mixedOrders=true)(cN:∀n,dJ C (dC C n)){id:Nat}(pre:List Oper)(o:Oper)(g0:s.h[i]?=some gG)
  (hd:(pre++[o]).all (fN N)=true) (hk:iz ⟨pre⟩=true) (UG:iz ⟨pre++[o]⟩=true) (hng:(pre++[o]).all (λo=>o.guard.isNone)=true) (Rf:(List.range pre.length).all (λj=>((before ⟨pre++[o]⟩).getD pre.length 0).testBit j)=true) (Vb:(pO ⟨pre⟩||kb ⟨pre⟩)=false)
  (e1:Ev C (.region id ⟨pre⟩ true) s (λex s'=>ex=.normal/\M1 s'))
  (hs:∀s1,M1 s1->∃p W,qL C N B b i o s1 t p W/\M .normal ⟨bZ s1.Y o.dst p,s1.h⟩ W):fM C N B b i (.region id ⟨pre++[o]⟩ true) s t M:=by
 intro Q w F Z a R I hQ
 obtain⟨ex,s1,⟨rfl,m1⟩,V,XV⟩:=e1;have e:=XV V V (agb _) (agb _);obtain⟨aeG,aeH⟩:=ahZ.1 Vb;simp only[bT,if_true,aeG,aeH,agn,if_false]at e
 cases hy:dQ C (dC C V) ⟨pre⟩ (before ⟨pre⟩) 0 pre ⟨s,s.h.length,[]⟩with
 |none=>rw[hy]at e;simp at e
 |some y=>
 rw[hy]at e;simp only[ago,agx,ah7,true_and]at e;obtain⟨tr,W,t2,t3⟩:=nO pre 0 _ _ hy;have L:Lex C (dC C V) ⟨pre⟩ tr:=⟨hk,λk o ho=>by simpa using t2 k o (by simpa using ho),by rw[W];exact agb _,by rw[W];exact⟨rfl,rfl⟩⟩;have XU:(tr pre.length).s=s1:=by rw[<-e];congr 1;simpa using t3
 have jz:(⟨pre++[o]⟩:Array Oper).size=pre.length+1:=by simp
 have O:∀i j,i<pre.length->(xm ⟨pre++[o]⟩ i j↔xm ⟨pre⟩ i j):=λi j U=>by
  unfold xm;rw[JF,agA,af8 (by rw[Ap];exact U),<-agA]
 have dm:∀i,i<pre.length->(⟨pre++[o]⟩:Array Oper)[i]?=(⟨pre⟩:Array Oper)[i]?:=λi U=>by simp[af8 U]
 have xe:(⟨pre++[o]⟩:Array Oper)[pre.length]?=some o:=by simp
 have S:∀i q,(⟨pre++[o]⟩:Array Oper)[i]?=some q->∀y,Region.wanted q y=true:=λi q ho y=>by
  have:=af9.1 hng q (by simpa using ahw ho)
  cases hg:q.guard with
  |none=>simp[Region.wanted,hg]
  |some g=>rw[hg]at this;cases this
 have VH:∀j,j<pre.length->xm ⟨pre++[o]⟩ pre.length j:=λj f=>af9.1 Rf j (ais.2 f)
 have QP:fN N o=true:=af9.1 hd o yxb;refine wp_region_any hm (td (C:=C) UG (λE H X=>(E pre.length=false/\Ao ⟨pre⟩ tr N F w s.h Z E H X)\/((∀j,j<pre.length+1->E j=true)/\Q .normal H X)) ?_ ?_ (⟨pre++[o]⟩:Array Oper).size (Array.replicate (⟨pre++[o]⟩:Array Oper).size false) a _ yxb (λi o ho hl=>by rw[getD_none]at hl;cases hl) ?_ ?_)
 ·intro E E' H X i q hI d next J
  have U:i<pre.length+1:=by rw[<-jz];exact(agw.1 d.at_).1
  rcases hI with⟨z,D⟩|⟨z,_⟩
  ·by_cases PS:i<pre.length
   ·have A:Eo ⟨pre⟩ E E' i q:=⟨by rw[<-dm i PS];exact d.at_,d.out,λj f=>d.Ep j ((O i j PS).2 f),λi2 j hi3 f=>by
     rcases agM i2 pre.length with h |h;exact d.cl i2 j hi3 ((O i2 j h).2 f)
     ·unfold xm at f;rw[agA,agr (by rw[Ap];exact h)]at f;simp only[Option.getD_none,Nat.zero_testBit,agn]at f,d.oD⟩
    have hEl:E' pre.length=false:=by
     cases h:E' pre.length with
     |false=>rfl
     |true=>
          rcases(d.oD _).1 h with h |h;rw[z]at h;cases h;omega
    have st:=Ao.step (Q:=Q) K (cN V) L D A (af9.1 hd q (by simpa using ahw d.at_)) (next:=next) (λa2 w2 D2=>J a2 w2 (.inl ⟨hEl,D2⟩));unfold wpOp at st ⊢;rw[<-dm i PS,d.at_]at st;rw[d.at_];simp only[S i q d.at_,if_true]at st ⊢;exact st
   ·obtain rfl:i=pre.length:=by omega
    obtain⟨Z1,R1,S1⟩:=D.done L (λj f=>d.Ep j (VH j f));have FX:o=q:=af7 (xe.symm.trans d.at_);subst FX;rw[show(⟨pre⟩:Array Oper).size=pre.length from rfl,XU]at R1 S1;have I1:=I.xa R.hr S1 g0;obtain⟨p,u,so,hM⟩:=hs s1 m1;unfold wpOp;rw[xe];simp only[S _ o xe,if_true]
    left
    refine so _ X F Z1 H _ R1 I1 (λv w2 F2 A I2 G2 hv=>J _ _ (.inr ⟨λj f=>(d.oD j).2 ?_,?_⟩))
    ·by_cases rA:j<pre.length
     ·exact .inl (d.Ep j (VH j rA))
     ·exact .inr yxa
    ·have tP:=fp QP R1.sz;exact hQ .normal _ u w2 F2 Z1 (H.put o.dst v) hM ⟨A.hr,A.er.put tP hv,by rw[cE];exact A.df,by rw[eD];exact A.sz⟩ I2 ((GS.of S1).trans G2)
  ·have:=z i U;rw[d.out]at this;cases this
 ·intro E H X hI eY
  rcases hI with⟨z,_⟩|⟨_,h⟩
  ·have:=eY pre.length yxb;rw[z]at this;cases this
  exact h
 refine agI (aid) yxb
 ·refine .inl ⟨getD_none _ _,?_⟩;have z:∀j,(Array.replicate (⟨pre++[o]⟩:Array Oper).size false).getD j false=false:=λj=>getD_none _ j
  have J:Kh tr (λj=>(Array.replicate (⟨pre++[o]⟩:Array Oper).size false).getD j false) 0=s.h:=by
   unfold Kh;rw[W];exact qd yxb (λj f=>by cases f)
  have G:dH w {w with drawn:=w.drawn+1}:=dH.drew w;refine⟨0,s.Y,Z,⟨ag7 _,λj _ h=>(by rw[z]at h;cases h),λj _ _ h=>by omega,by rw[W];exact agb _,by rw[J];exact R.hr.Cm G,by rw[J];exact R.er.mono (G.xa s.h Z),?_,by rw[J];exact G.xa s.h Z,R.df,R.sz⟩⟩
  intro t k' im hw
  rw[L.ko (t:=t) (i:=0) k' (ag7 _) im (λj o h1 h2 h3 h4=>by
   have:=(hw j o h3 h4).2 h2;rw[z]at this;cases this),W]
end
theorem je.gh(o:je i h):h[i]?=some gG:=o.1
theorem je.one:je 0 [gG]:=⟨rfl,λj o e M=>by
 match j,e with
 |0,_=>exact absurd rfl M
 |j+1,e=>simp at e⟩
theorem Rg(R:SR N w F Z s a)(I:GI i w F Z B b t)(o:je i s.h)(f:GI 0 w' W [(b,1)] B b t')(G:GS B w F [gG] [(b,1)] w' W [gG] [(b,1)])(u:∀x,W x->x<w'.heap.size):
  SR N w' W Z s a/\GI i w' W Z B b t'/\GS B w F s.h Z w' W s.h Z:=by
 have j:∀x,¬Mb [gG] [(b,1)] x:=by
  rintro x ⟨V,o,n,D,_,P,_⟩
  match V,D with
  |0,D=>simp[gG]at D;subst D;cases P
  |V+1,D=>simp at D
 have K:GI i w' W Z B b t':=⟨f.bl,f.hB,f.fb,f.fg,I.bt⟩;have z:GS B w F s.h Z w' W s.h Z:=⟨G.size,G.up,G.new,λx U H _=>G.ba x U H (j x),λ_ _ h=>h,G.os,G.tape,G.output⟩;exact⟨R.gs z (λx U H=>G.ba x U (.inr H) (j x)) u K o,K,z⟩
theorem Ye(I:GI i w F Z B b t)(f:∀x,F x->x<w.heap.size)(h':IT B b t' w')(a:BF b w w'):
  ∃W,GI 0 w' W [(b,1)] B b t'/\GS B w F [gG] [(b,1)] w' W [gG] [(b,1)]/\∀x,W x->x<w'.heap.size:=by
 obtain⟨z,j⟩:=I.bl.lo;obtain⟨_,d⟩:=h'.lo;refine⟨λx=>F x\/∃v,w'.cell? ⟨b,1,none⟩=some v/\v.ownBlock=some x,⟨h',agI I.hB a.size,.inl I.fb,λv g D N=>.inr ⟨v,D,N⟩,rfl⟩,⟨a.size,λx h=>.inl h,λx h=>?_,λx U H _=>?_,λ_ _ h=>h,a.os,a.tape,a.output⟩,λx h=>?_⟩
 ·rcases h with h |⟨v,D,N⟩
  ·exact .inl h
  ·rcases a.own v x D N with h |⟨u,R,e⟩
   ·exact .inr h
   ·exact .inl (I.fg u x R e)
 ·refine a.ba x U (λh=>?_) (λv D N=>?_)
  ·subst h;rcases H with h |h;omega;exact h I.fb
  ·rcases H with h |h
   ·have:=(j v x D N).1;omega
   ·exact h (I.fg v x D N)
 ·rcases h with h |⟨v,D,N⟩
  ·exact agK (f x h) a.size
  ·exact(d v x D N).2
theorem EH(R:SR N w F Z s a)(I:GI i w F Z B b t)(o:je i s.h){x:Operand}(U:ev s.Y x=.ptr i 0 0 0):a.eval x=.pointer (some ⟨b,0,none⟩):=by
 have h:=R.er.ev R.hr.fG x;rw[U]at h;have:=(h.vu).2.2 gG (b,1) o.1 I.bt (by simp[gG]) rfl;simpa using this
theorem xC{f:FuncId}{args:Array Operand}{y:Array TypeId}{ty:TypeId}(H:∀args w,(callFunc f args).run C.P w=.ok (.enter f args) w){p:PV}
  (u:∀w F Z a,SR N w F Z s a->GI i w F Z B b t->Calls C.P f (args.map a.eval) w λe w'=>∃v W,e=.returned v/\SR N w' W Z s a/\GI i w' W Z B b t'/\GS B w F s.h Z w' W s.h Z/\aG w' (Av W s.h Z) Z s.h v p):
  qL C N B b i ⟨d,.call ⟨.value (.func f),args,y⟩,ty,j,g,none⟩ s t p t':=by
 intro Q w F Z a next R I q
 unfold Oper.wp
 have z:(execOp a.eval ⟨d,.call ⟨.value (.func f),args,y⟩,ty,j,g,none⟩).run C.P w=.ok (.enter f (args.map a.eval)) w:=by
  simp only[execOp,resolve,Act.eval,Deferred.ofValue,Sem.run_bind,Sem.run_pure,Result.andThen_ok,invoke];simp[H]
 rw[z];refine(u w F Z a R I).mono ?_;rintro e w' ⟨v,W,rfl,O,X,n,G⟩;exact q v w' W O X n G
theorem _root_.zca{P:Prop}(h:P:=by
 obtain⟨W,f,J,M⟩:=Ye I R.hr.fin X Q;obtain⟨U,z,n⟩:=Rg R I o f J M;exact⟨_,W,rfl,U,z,n,.any _⟩):P:=h
theorem Yf(H:C.P=Tryz.prog){y:Array TypeId}{ty:TypeId}{u:ByteArray}(h0:ev s.Y x0=.ptr i 0 0 0)(h1:ev s.Y x1=.str u)(o:je i s.h)(A:t.size+u.size<=140737488355328):
  qL C N B b i ⟨d,.call ⟨.value (.func 113),#[x0,x1],y⟩,ty,j,g,none⟩ s t .any (t++u):=by
 refine xC (λV w=>by rw[H];exact enters_of Tryz.func113 (by kernel_rfl) rfl V w) (λw F Z a R I=>?_);have G:=EH R I o h0;have D:=R.er.ev R.hr.fG x1;rw[h1]at D;have D:=D.jB;have: #[x0,x1].map a.eval= #[.pointer (some ⟨b,0,none⟩),.string u]:=by simp[G,D]
 rw[this,H];refine(Qq I.bl A I.hB).mono ?_;rintro e q ⟨rfl,X,Q⟩;exact zca
theorem acW(H:C.P=Tryz.prog){y:Array TypeId}{ty:TypeId}{c:UInt8}(h0:ev s.Y x0=.ptr i 0 0 0)(h1:ev s.Y x1=.int .u8 c.toNat)(o:je i s.h)(A:t.size+1<=140737488355328):
  qL C N B b i ⟨d,.call ⟨.value (.func 141),#[x0,x1],y⟩,ty,j,g,none⟩ s t .any (t++⟨#[c]⟩):=by
 refine xC (λV w=>by rw[H];exact enters_of Tryz.func141 (by kernel_rfl) rfl V w) (λw F Z a R I=>?_);have G:=EH R I o h0;have D:=R.er.ev R.hr.fG x1;rw[h1]at D;have D:=D.dO;have: #[x0,x1].map a.eval= #[.pointer (some ⟨b,0,none⟩),.int .u8 c.toNat]:=by simp[G,D]
 rw[this,H];refine(Qr I.bl A I.hB).mono ?_;rintro e q ⟨rfl,X,Q⟩;exact zca
section
variable(T:li C.P)
theorem Ev.x{Q:Ex->St->Prop}(k:Rn (j9 T 10000 (.c c) (.top Q) L Y h)):Ev C c ⟨al L Y,h⟩ Q:=dW T k.out
theorem fM.x(K:dn C)(d:C.P.follows .mixedOrders=true)(z:∀n,dJ C (dC C n)){c:Code}{L:List (Nat×PV)}{Y:Nat->PV}{h:ab}{t:ByteArray}{M:Ex->St->ByteArray->Prop}(S:h[i]?=some gG)(k:Rn (j9 T 10000 (.c c) (.top (λA U=>M A U t)) L Y h))(G:codeOk N c=true:=by rfl):fM C N B b i c ⟨al L Y,h⟩ t M:=
 fM.ev K d z S G (Ev.x T k)
inductive WsX(i:Nat)(L:List (Nat×PV))(h:ab)(x0 x1:Operand)(t:ByteArray)(R:ByteArray->Prop):Prop
 |ws {u:ByteArray} (k:Rn (R (t++u))) (o:je i h:=by first |assumption |exact je.one) (e0:cW L x0=some (.ptr i 0 0 0):=by rfl) (e1:cW L x1=some (.str u):=by rfl) (hl:t.size+u.size<=140737488355328:=by first |assumption |(simp only[ByteArray.size_append]at *;omega))
inductive WbX(i:Nat)(L:List (Nat×PV))(h:ab)(x0 x1:Operand)(t:ByteArray)(R:ByteArray->Prop):Prop
 |wb (c:UInt8) (k:Rn (R (t++⟨#[c]⟩))) (o:je i h:=by first |assumption |exact je.one) (e0:cW L x0=some (.ptr i 0 0 0):=by rfl) (e1:cW L x1=some (.int .u8 c.toNat):=by rfl) (hl:t.size+1<=140737488355328:=by first |assumption |(simp only[ByteArray.size_append]at *;omega))
theorem fM.ws(K:dn C)(z:∀n,dJ C (dC C n))(H:C.P=Tryz.prog)(pre:List Oper){y:Array TypeId}{d:Nat}{ty:TypeId}
  (k:Rn (yR T ops.toList pre L h λu h'=>WsX i u h' x0 x1 t λt'=>R ((d,.any)::u) h' t'))
  (f:ops.toList=pre++[⟨some d,.call ⟨.value (.func 113),#[x0,x1],y⟩,ty,j,e,none⟩]:=by rfl) (J:ops.toList.all (fN N)=true:=by rfl) (S:h[i]?=some gG:=by first |rfl |assumption |exact je.gh yxc):
  fM C N B b i (.region V ops false) ⟨al L Y,h⟩ t (λA s t=>∃u h',A=.normal/\s=⟨al u Y,h'⟩/\R u h' t):=by
 refine fM.spec K z pre _ [] S J f rfl (M1:=λv=>∃u h',v=⟨al u Y,h'⟩/\WsX i u h' x0 x1 t λt'=>R ((d,.any)::u) h' t') (jr T k.out λu h' q=>⟨u,h',rfl,q⟩) ?_;rintro v ⟨u,h',rfl,x⟩
 cases x with |ws k o G D a=>
 exact⟨o.1,.any,_,Yf H (ak G Y) (ak D Y) o a,ai.nil ⟨_,h',rfl,by show(⟨bZ (al u Y) (some d) .any,h'⟩:St)=_;rw[cy],k.out⟩⟩
theorem fM.wb(K:dn C)(z:∀n,dJ C (dC C n))(H:C.P=Tryz.prog)(pre:List Oper){y:Array TypeId}{d:Nat}{ty:TypeId}
  (k:Rn (yR T ops.toList pre L h λu h'=>WbX i u h' x0 x1 t λt'=>R ((d,.any)::u) h' t'))
  (f:ops.toList=pre++[⟨some d,.call ⟨.value (.func 141),#[x0,x1],y⟩,ty,j,e,none⟩]:=by rfl) (J:ops.toList.all (fN N)=true:=by rfl) (S:h[i]?=some gG:=by first |rfl |assumption |exact je.gh yxc):
  fM C N B b i (.region V ops false) ⟨al L Y,h⟩ t (λA s t=>∃u h',A=.normal/\s=⟨al u Y,h'⟩/\R u h' t):=by
 refine fM.spec K z pre _ [] S J f rfl (M1:=λv=>∃u h',v=⟨al u Y,h'⟩/\WbX i u h' x0 x1 t λt'=>R ((d,.any)::u) h' t') (jr T k.out λu h' q=>⟨u,h',rfl,q⟩) ?_;rintro v ⟨u,h',rfl,x⟩
 cases x with |wb c k o G D a=>
 exact⟨o.1,.any,_,acW H (ak G Y) (ak D Y) o a,ai.nil ⟨_,h',rfl,by show(⟨bZ (al u Y) (some d) .any,h'⟩:St)=_;rw[cy],k.out⟩⟩
theorem fM.wsD(K:dn C)(M:C.P.follows .mixedOrders=true)(z:∀n,dJ C (dC C n))(H:C.P=Tryz.prog)(pre:List Oper){y:Array TypeId}{d:Nat}{ty:TypeId}{a:String}
  (k:Rn (j9 T 10000 (.c (.region V ⟨pre⟩ true)) (.top λA s1=>A=.normal/\∃u h',s1=⟨al u Y,h'⟩/\WsX i u h' x0 x1 t λt'=>R ((d,.any)::u) h' t') L Y h))
  (O:ops=⟨pre++[⟨some d,.call ⟨.value (.func 113),#[x0,x1],y⟩,ty,a,g,none⟩]⟩:=by rfl)
  (J:ops.toList.all (fN N)=true:=by rfl) (v:iz ⟨pre⟩=true:=by rfl) (e:iz ops=true:=by rfl) (w:ops.toList.all (λo=>o.guard.isNone)=true:=by rfl)
  (q:(List.range pre.length).all (λj=>((before ops).getD pre.length 0).testBit j)=true:=by rfl) (f:(pO ⟨pre⟩||kb ⟨pre⟩)=false:=by rfl) (S:h[i]?=some gG:=by first |rfl |assumption |exact je.gh yxc):
  fM C N B b i (.region V ops true) ⟨al L Y,h⟩ t (λA s t=>∃u h',A=.normal/\s=⟨al u Y,h'⟩/\R u h' t):=by
 subst O;refine fM.acS K M z pre _ S J v e w q f (Ev.x T k) ?_;rintro s1 ⟨u,h',rfl,x⟩
 cases x with |ws k o G D F=>
 exact⟨.any,_,Yf H (ak G Y) (ak D Y) o F,_,h',rfl,by show(⟨bZ (al u Y) (some d) .any,h'⟩:St)=_;rw[cy],k.out⟩
end
end Go.Pm
