/-
  Pm, a part. Conditions: none.
-/
import Derived.Test.YtiipafafbpaaoaaGreatDoorPsAB
set_option linter.unusedVariables false
set_option linter.unusedSimpArgs false
set_option linter.unnecessarySimpa false
set_option linter.unusedSectionVars false
namespace Go.Pm
variable{i lv n:Nat}{h':ab}{A A':Nat->Prop}{p r:PV}{f:FuncId}{args:List PV}{vs:List Value}{run:hZ}
variable[iD:Inhabited Prop]
variable{P:Program}{w:World}{F:Nat->Prop}{Z:List (Nat×Nat)}{h:ab}
def Alike(h h':ab):Prop:=h.length=h'.length/\∀(V:Nat) (o y:ax),h[V]?=some o->h'[V]?=some y->o.ep=y.ep/\o.bQ=y.bQ/\o.es=y.es/\(o.mu=.x↔y.mu=.x)
theorem pV{v:Type}{l:List v}(h:i<l.length):∃x,l[i]?=some x:=⟨l[i],agd h⟩
theorem Alike.UJ(a:Alike h h')(Z:List (Nat×Nat)):FJ h Z h' Z:=by
 intro V o n D N P
 have t:=ag D;obtain⟨y,f⟩:=pV (l:=h') (i:=V) (by rw[<-a.1];exact t);obtain⟨J,j,v,e⟩:=a.2 V o y D f;exact⟨y,n,f,N,λR=>P (e.2 R),⟨by omega,λM=>by omega⟩,λ_=>⟨j.symm,λ_=>by rw[v],rfl⟩⟩
theorem aG.alike(a:Alike h h')(t:∀b,A' b->A b){v:Value}(r:aG w A Z h v p):aG w A' Z h' v p:=
 r.UJ (a.UJ Z) (λ_ _ _=>rfl) (λb _ z j=>z (t b j))
theorem kJ.alike{h':ab}(a:Alike h h'){A A':Nat->Prop}(t:∀b,A' b->A b){o y:ax}{bc:Nat×Nat}(D:o.bQ=y.bQ)(N:o.es=y.es)(r:kJ w A Z h o bc):kJ w A' Z h' y bc:=by
 rcases r with⟨T,Y,O,X,Q,G,d⟩|⟨B,S,u,O,X,Q⟩
 ·refine .inl ⟨T,Y,O,by rw[<-N];exact X,by rw[<-D];exact Q,by rw[<-D];exact G,λi e q=>?_⟩;rw[<-N]at q;obtain⟨f,g⟩:=d i e q;refine⟨by rw[<-D];exact f,λj p K=>?_⟩;obtain⟨v,n,z⟩:=g j p K;exact⟨v,by rw[<-D];exact n,z.alike a t⟩
 ·refine .inr ⟨by rw[<-D];exact B,S,u,O,by rw[<-N];exact X,λi e q=>?_⟩;rw[<-N]at q;obtain⟨k,v,m,U,F,H,V⟩:=Q i e q;exact⟨k,v,m,U,F,H.alike a t,V.alike a t⟩
theorem bU(o:ax):(cm o).ep=o.ep/\(cm o).bQ=o.bQ/\(cm o).es=o.es/\((cm o).mu=.x↔o.mu=.x)/\(cm o).mu≠.m/\((cm o).mu=.f↔o.mu=.f):=by
 cases o with
 |mk i g B S=>cases i <;>simp[cm]
theorem nZ(h:ab):Alike h (h.map cm):=by
 refine⟨by simp,λV o y D N=>?_⟩;rw[agt,D]at N;obtain rfl:=af7 N;obtain⟨J,j,v,e,_⟩:=bU o;exact⟨J.symm,j.symm,v.symm,e.symm⟩
theorem pd(h:ab)(Z:List (Nat×Nat))(b:Nat):¬Mb (h.map cm) Z b:=by
 rintro⟨V,o,n,D,N,P,M⟩;rw[agt]at D
 cases R:h[V]? with
 |none=>rw[R]at D;cases D
 |some q=>
  rw[R]at D;obtain rfl:=af7 D;exact(bU q).2.2.2.2.1 P
theorem Fc{V:Nat}{o:ax}(e:(h.map cm)[V]?=some o):∃q,h[V]?=some q/\o=cm q:=by
 rw[agt]at e
 cases R:h[V]? with
 |none=>rw[R]at e;cases e
 |some q=>rw[R]at e;exact⟨q,rfl,(af7 e).symm⟩
theorem bp.lock(H:bp w F Z h):bp w (Av F h Z) Z (h.map cm):=by
 have hA:∀b,Av (Av F h Z) (h.map cm) Z b->Av F h Z b:=λb hb=>hb.elim id (λhm=>absurd hm (pd h Z b))
 refine⟨by simp[H.len],λb hb=>Av.lt H hb,?_,?_,?_,H.fG.jk hA⟩
 ·intro id o bc e1 e2 e3
  obtain⟨o2,f1,rfl⟩:=Fc e1;obtain⟨p1,p2,p3,p4,_⟩:=bU o2;exact(H.obj id o2 bc f1 e2 (λhh=>e3 (p4.2 hh))).alike (nZ h) hA p2.symm p3.symm
 ·intro id ee o o' bc dB bD e1 e2 e3 e4 m1 m2
  obtain⟨o2,f1,rfl⟩:=Fc e1;exact absurd m1 (bU o2).2.2.2.2.1
 ·intro id o bc e1 e2 e3
  obtain⟨o2,f1,rfl⟩:=Fc e1;obtain⟨p1,p2,p3,p4,p5,p6⟩:=bU o2;rcases e3 with e3 |e3;exact absurd e3 p5;exact zM H f1 e2 (p6.1 e3)
theorem bp.unlock(H:bp w F Z h){w':World}{h1:ab}{J:List (Nat×Nat)}(z:bp w' (Av F h Z) J h1)(g:eN w (h.map cm) Z w' h1 J)(B8:(h1.drop h.length).all (λo=>decide (o.mu≠.l))=true):
  (∀(v:Value) (p:PV),aG w' (Av (Av F h Z) h1 J) J h1 v p->aG w' (Av F (h++h1.drop h.length) J) J (h++h1.drop h.length) v p)/\bp w' F J (h++h1.drop h.length)/\eN w h Z w' (h++h1.drop h.length) J/\dH w w':=by
 have hn:h.length<=h1.length:=by have:=g.len;simpa using this
 have X:J.length=h1.length:=z.len
 have q:∀(V:Nat) (o:ax),h[V]?=some o->h1[V]?=some (cm o)/\J[V]?=Z[V]?:=λV o U=>by
  have D:(h.map cm)[V]?=some (cm o):=by rw[agt,U];rfl
  exact g.Ja V (cm o) D (bU o).2.2.2.2.1
 have B:∀(V:Nat),V<h.length->(h++h1.drop h.length)[V]?=h[V]?:=λV t=>af8 t
 have A:∀(V:Nat),h.length<=V->(h++h1.drop h.length)[V]?=h1[V]?:=λV t=>by
  rw[agl t,agP];congr 1;omega
 have u:Alike h1 (h++h1.drop h.length):=by
  refine⟨by simp;omega,λV o y D N=>?_⟩
  by_cases t:V<h.length
  ·rw[B V t]at N;rw[(q V y N).1]at D;obtain rfl:=af7 D;obtain⟨p1,p2,p3,p4,_⟩:=bU y;exact⟨p1,p2,p3,p4⟩
  ·rw[A V yxa]at N;rw[D]at N;obtain rfl:=af7 N;exact⟨rfl,rfl,rfl,Iff.rfl⟩
 have j:∀b,Av F (h++h1.drop h.length) J b->Av (Av F h Z) h1 J b:=by
  rintro b (W |⟨V,o,n,D,N,P,M⟩);exact .inl (.inl W)
  ·by_cases t:V<h.length
   ·rw[B V t]at D;rw[(q V o D).2]at N;exact .inl (.inr ⟨V,o,n,D,N,P,M⟩)
   ·rw[A V yxa]at D;exact .inr ⟨V,o,n,D,N,P,M⟩
 have a:∀(V:Nat) (o:ax),h.length<=V->h1[V]?=some o->o.mu≠.l:=λV o t U=>by
  have:o∈h1.drop h.length:=by
   apply agq (i:=V - h.length);rw[agP];rw[show h.length+(V - h.length)=V by omega];exact U
  have:=af9.1 B8 o this;simpa using this
 refine⟨λv p q1=>q1.alike u j,⟨by rw[X,<-u.1],λb W=>agK (H.fin b W) g.size,?_,?_,?_,z.fG.jk j⟩,?_,⟨g.size,λb W=>g.ba b W (pd h Z b),g.os,g.tape,g.output,g.drawn⟩⟩
 ·intro V o n D N P
  by_cases t:V<h.length
  ·rw[B V t]at D;obtain⟨p1,p2,p3,p4,_⟩:=bU o;exact(z.obj V (cm o) n (q V o D).1 N (λR=>P (p4.1 R))).alike u j p2 p3
  ·rw[A V yxa]at D;exact(z.obj V o n D N P).alike u j rfl rfl
 ·intro V S o y n e Q D N P M Y O
  by_cases t:V<h.length <;>by_cases d:S<h.length
  ·rw[B V t]at D;rw[B S d]at N;rw[(q V o D).2]at P;rw[(q S y N).2]at M;exact H.iv V S o y n e Q D N P M Y O
  ·rw[B V t]at D;rw[A S yxa]at N;have nl:=a S y yxa N
   cases G:y.mu with
   |m=>
    have:=z.iv S V y (cm o) e n (agV Q) N (q V o D).1 M P G (λR=>by rw[(bU o).2.2.2.1]at R;rw[Y]at R;cases R);exact agV this
   |l=>exact absurd G nl
   |f=>
    have U7:=z.out S y e N M (.inr G);rw[(q V o D).2]at P
    intro K
    exact U7 (.inr ⟨V,o,n,D,P,Y,K⟩)
   |x=>exact absurd G O
  ·rw[A V yxa]at D;rw[B S d]at N;exact z.iv V S o (cm y) n e Q D (q S y N).1 P M Y (λR=>O ((bU y).2.2.2.1.1 R))
  ·rw[A V yxa]at D;rw[A S yxa]at N;exact z.iv V S o y n e Q D N P M Y O
 ·intro V o n D N P
  by_cases t:V<h.length
  ·rw[B V t]at D;rw[(q V o D).2]at N;exact H.out V o n D N P
  ·rw[A V yxa]at D;exact λhf=>z.out V o n D N P (.inl hf)
 ·refine⟨g.size,by simp,λb W _=>g.ba b W (pd h Z b),?_,?_,?_,g.os,g.tape,g.output,g.drawn⟩
  ·rintro b W ⟨V,o,n,D,N,P,M⟩
   by_cases t:V<h.length
   ·rw[B V t]at D;rw[(q V o D).2]at N;exact⟨V,o,n,D,N,P,M⟩
   ·rw[A V yxa]at D;exact absurd (g.shr b W ⟨V,o,n,D,N,P,M⟩) (pd h Z b)
  ·intro V o n D N P
   have t:=ag D;exact⟨o,n,by rw[B V t];exact D,by rw[(q V o D).2];exact N,P,⟨agb _,λh=>h⟩,λ_=>⟨rfl,λ_=>rfl,rfl⟩⟩
  ·intro V o D _
   exact⟨by rw[B V (ag D)];exact D,(q V o D).2⟩
theorem wy{g:List PV->ab->Option (PV×ab)}(S:ez P f g)(e:eP g lv args h=some (r,h'))(H:bp w F Z h)
  (a:L2 (aG w (Av F h Z) Z h) vs args):nC P lv w F Z h f vs r h':=by
 unfold eP at e
 split at e
 ·rename_i K
  refine(S args h r h' e w F Z vs H a).mono ?_;rintro N X ⟨v,J,u,U,z,d,V⟩;exact⟨v,J,u,U,z,d,λD=>by omega⟩
 ·split at e
  ·split at e
   ·rename_i R O q
    split at e
    ·rename_i i
     obtain⟨rfl,rfl⟩:=agk (af7 e);have n:∀b,Av (Av F h Z) (h.map cm) Z b->Av F h Z b:=λb W=>W.elim id (λt=>absurd t (pd h Z b))
     refine(S args (h.map cm) R O q w (Av F h Z) Z vs H.lock ⟨a.1,λj M=>(a.2 j M).alike (nZ h) n⟩).mono ?_;rintro N X ⟨v,J,rfl,U,z,d,V⟩;obtain⟨y,B,Q,A⟩:=H.unlock z d i;exact⟨v,J,rfl,y v _ U,B,Q,λ_=>A⟩
    cases e
   ·cases e
  ·cases e
theorem jC{v:Type}{l:List v}{x:v}(e:(l.take n)[i]?=some x):i<n/\l[i]?=some x:=by
 rw[agy]at e
 split at e
 exact⟨by assumption,e⟩
 cases e
theorem aG.Bb(e:∀b,A' b->A b)(hn:n<=h.length){v:Value}(r:aG w A Z h v p)(W:eu n p=true):aG w A' (Z.take n) (h.take n) v p:=by
 cases p with
 |an V g U K=>
  have t:V<n:=by simpa[eu]using W
  cases r with
  |val S=>cases S
  |an _ _ _ _ _ o a B O X Q G d=>
   exact .an v V g U K o a B (by rw[agy,if_pos t];exact O) (by rw[agy,if_pos t];exact X) Q G d
 |ptr V g i U=>
  have t:V<n:=by simpa[eu]using W
  cases r with
  |val S=>cases S
  |ptr _ _ _ _ _ o a B O X Q G d=>
   exact .ptr v V g i U o a B (by rw[agy,if_pos t];exact O) (by rw[agy,if_pos t];exact X) Q G d
 |_=>exact .val ((r.CN (by simpa[eu]using W)).jk e)
theorem aG.SV(t:∀b,A' b->A b)(hn:n<=h.length){v:Value}(r:aG w A Z h v p)(W:cY n p=true):aG w A' (Z.take n) (h.take n) v p:=by
 unfold cY at W
 split at W
 ·obtain⟨d,rfl,a,R⟩:=r.lS;exact .agg d _ a (λj M=>(R j M).Bb t hn (gy W M))
 exact r.Bb t hn W
theorem aG.abe(t:∀b,A' b->A b)(hn:n<=h.length){v:Value}(r:aG w A Z h v p)(W:eI n p=true):aG w A' (Z.take n) (h.take n) v p:=by
 unfold eI at W
 split at W
 ·obtain⟨d,rfl,a,R⟩:=r.qG;exact .b8 d _ a (λj M=>(R j M).SV t hn (gy W M))
 exact r.SV t hn W
theorem sN{e q:PV}(W:cY n e=true)(y:q∈Pm.cells e):eu n q=true:=by
 cases e <;>first
  |(simp only[Pm.cells,agu]at y;subst y;exact W)
  |(simp only[cY]at W;exact af9.1 W q y)
theorem Ff(S:ez P f (run f))(e:jj run lv f args h=some (r,h'))(H:bp w F Z h)
  (ha:L2 (aG w (Av F h Z) Z h) vs args):nC P lv w F Z h f vs r h':=by
 unfold jj at e
 split at e
 ·rename_i r0 O he
  have C:=wy S he H ha
  split at e
  ·rename_i Q
   obtain⟨rfl,rfl⟩:=agk (af7 e);simp only[age]at Q;refine C.mono ?_;rintro en w' ⟨v,J,rfl,q1,z,g,q4⟩;have B:=g.len
   have A:∀b,Av F (O.take h.length) (J.take h.length) b->Av F O J b:=by
    rintro b (W |⟨V,o,n,D,N,a,M⟩);exact .inl W;exact .inr ⟨V,o,n,(jC D).2,(jC N).2,a,M⟩
   refine⟨v,J.take h.length,rfl,q1.abe A B Q.1,⟨by simp[z.len],z.fin,?_,?_,?_,z.fG.jk A⟩,?_,q4⟩
   ·intro V o n D N a
    have il:o∈O.take h.length:=agq D;have eY:=af9.1 (af9.1 Q.2 o il);rcases z.obj V o n (jC D).2 (jC N).2 a with⟨T,cs,U,X,Y,k4,k5⟩|⟨k0,es,d,U,X,Y⟩
    ·refine .inl ⟨T,cs,U,X,Y,k4,λi t q=>⟨(k5 i t q).1,λj p hp=>?_⟩⟩;obtain⟨u,m1,m2⟩:=(k5 i t q).2 j p hp;exact⟨u,m1,m2.Bb A B (sN (eY t (agq q)) (agq hp))⟩
    ·refine .inr ⟨k0,es,d,U,X,λi t q=>?_⟩;obtain⟨k,v,m,g1,g2,g3,g4⟩:=Y i t q;have W:=eY t (agq q);subst g1;exact⟨k,v,m,rfl,g2,g3.Bb A B (sN W (by simp[Pm.cells])),g4.Bb A B (sN W (by simp[Pm.cells]))⟩
   ·intro V ee o o' n G bD D N a M m1 m2
    exact z.iv V ee o o' n G bD (jC D).2 (jC N).2 (jC a).2 (jC M).2 m1 m2
   ·intro V o n D N a
    exact z.out V o n (jC D).2 (jC N).2 a
   ·refine⟨g.size,by simp;omega,g.ba,?_,?_,?_,g.os,g.tape,g.output,g.drawn⟩
    ·rintro b W ⟨V,o,n,D,N,a,M⟩;exact g.shr b W ⟨V,o,n,(jC D).2,(jC N).2,a,M⟩
    ·intro V o n D N a
     obtain⟨o',G,R,K,f3,f4,f5⟩:=g.refs V o n D N a;have y:=ag D;exact⟨o',G,by rw[agy,if_pos y];exact R,by rw[agy,if_pos y];exact K,f3,f4,f5⟩
    ·intro V o D N
     obtain⟨R,K⟩:=g.Ja V o D N;have y:=ag D;exact⟨by rw[agy,if_pos y];exact R,by rw[agy,if_pos y];exact K⟩
  ·obtain⟨rfl,rfl⟩:=agk (af7 e);exact C
 cases e
def adI(P:Program)(f:FuncId)(g:List PV->Option PV):Prop:=
 ∀V r,g V=some r->∀(w:World) (A:Nat->Prop) (W:List Value),(∀b,A b->b<w.heap.size)->L2 (cd w A) W V->
  Calls P f W.toArray w λe X=>∃v,e=.returned v/\cd X A v r/\dH w X
structure dn(C:cA):Prop where
 enters : ∀ f, (∀ h : C.mode f = .no, False) → (∀ g, C.mode f ≠ .ext g) → ∃ fn, C.P.funcs[f]? = some fn ∧ fn.body.isSome = true ∧ (fn.name == "runtime.NumGoroutine") = false
 ri:∀f g,C.mode f=.ri g->adI C.P f g
 de:∀f g,C.mode f=.de g->ez C.P f g
 ext:∀f g,C.mode f=.ext g->∀args r,g args=some r->∀(w:World) (A:Nat->Prop) (vs:List Value),L2 (cd w A) vs args->∃v,(callFunc f vs.toArray).run C.P w=.ok (.value v) w/\cd w A v r
theorem CZ{C:cA}(K:dn C)(S:C.mode f=.pure\/C.mode f=.opened->ez C.P f (run f))(e:dG C run lv f args h=some (r,h'))(H:bp w F Z h)
  (a:L2 (aG w (Av F h Z) Z h) vs args) (Q:∀g,C.mode f≠.ext g):nC C.P lv w F Z h f vs r h'/\C.mode f≠.no:=by
 unfold dG at e
 split at e
 cases e
 ·rename_i d
  exact⟨En (S (.inl d)) e H a,by rw[d];simp⟩
 ·rename_i d
  exact⟨Ff (S (.inr d)) e H a,by rw[d];simp⟩
 ·rename_i g d
  refine⟨?_,by rw[d];simp⟩
  split at e
  ·rename_i J
   obtain⟨D,rfl⟩:=eF e;rw[bz]at J;refine(K.ri f g d (aY args) r D w (Av F h' Z) vs (λb W=>Av.lt H W) ⟨by simp[cB,a.1],λj M=>?_⟩).mono ?_
   ·rw[gW];have n:j<args.length:=by simpa[cB]using M
    exact((a.2 j n).CN (gy J n)).b9
   ·rintro N X ⟨v,rfl,U,z⟩;exact⟨v,Z,rfl,.val U,H.Cm z,z.xa h' Z,λ_=>z⟩
  cases e
 ·rename_i g d
  exact⟨wy (K.de f g d) e H a,by rw[d];simp⟩
 ·rename_i g d
  exact absurd d (Q g)
end Go.Pm
namespace Go.Pm
variable{run:hZ}{a:Act}{Y:Nat->PV}{o:Oper}{p:PV}{M h':ab}{next:Act->World->Prop}{Q:Exit->Act->World->Prop}{A A':Nat->Prop}{ops:Array Oper}{N V:Nat}{U s:St}{w':World}
variable[iD:Inhabited Prop]
variable{w:World}{F:Nat->Prop}{Z:List (Nat×Nat)}{h:ab}
theorem vM{C:cA}(K:dn C){f:FuncId}(d:C.mode f≠.no)(Q:∀g,C.mode f≠.ext g)(args:Array Value)(w:World):(callFunc f args).run C.P w=.ok (.enter f args) w:=by
 obtain⟨i,O,X,a⟩:=K.enters f d Q;have W:i.body.isNone=false:=by cases R:i.body <;>simp_all
 simp only[callFunc,Sem.run_bind,run_program,Result.andThen_ok,O,a,W,agn,if_false,Sem.run_pure]
def dJ(C:cA)(run:hZ):Prop:=∀f,(C.mode f=.pure\/C.mode f=.opened)->ez C.P f (run f)
theorem L2.append{R:Value->PV->Prop}{vs us:List Value}{cs z:List PV}(a:L2 R vs cs)(b:L2 R us z):L2 R (vs++us) (cs++z):=by
 obtain⟨f,S⟩:=a;obtain⟨F,U⟩:=b;refine⟨by simp[f,F],λj M=>?_⟩
 by_cases d:j<cs.length
 ·have:=S j d;simp only[List.getD]at this ⊢;rwa[af8 yxa,af8 d]
 ·have:=U (j - cs.length) (by simp at M;omega);simp only[List.getD]at this ⊢;rwa[agl yxa,agl yxa,f]
theorem L2.take{R:Value->PV->Prop}{vs:List Value}{cs:List PV}(a:L2 R vs cs)(k:Nat):L2 R (vs.take k) (cs.take k):=by
 refine⟨by simp[a.1],λj M=>?_⟩;simp only[ag4]at M;have:=a.2 j yxa;simp only[List.getD]at this ⊢;rwa[agy,agy,if_pos yxa,if_pos yxa]
theorem L2.drop{R:Value->PV->Prop}{vs:List Value}{cs:List PV}(a:L2 R vs cs)(k:Nat):L2 R (vs.drop k) (cs.drop k):=by
 refine⟨by simp[a.1],λj M=>?_⟩;simp only[ail]at M;have:=a.2 (k+j) yxa;simp only[List.getD]at this ⊢;rwa[agP,agP]
theorem _root_.za2{P:Prop}(h:P:=by
 refine n ⟨v,w,Z,.inl ?_,.val x2,H,eN.refl w h' Z,λ_=>dH.refl w⟩;rw[M];simp only[i,IS,J,Deferred.ofValue,Sem.run_bind,Sem.run_pure,Result.andThen_ok,invoke];rw[<-x1]
 congr 2
 apply ahH;simp):P:=h
theorem _root_.zbr{P:Prop}(h:P:=by
 rw[M];simp only[i,IS,J,Deferred.ofValue,Sem.run_bind,Sem.run_pure,Result.andThen_ok,invoke];rw[vM K hm G]
 congr 2
 apply ahH;simp):P:=h
theorem _root_.zb7{P:Prop}(h:P:=by
 unfold Oper.wp;rw[N];refine cs.mono ?_;rintro en w' ⟨v,t,rfl,q1,q2,q3,q4⟩;exact hK v w' t q1 q2 q3 q4):P:=h
theorem gX{C:cA}(K:dn C){run:hZ}(S:dJ C run)(H:bp w F Z h){a:Act}{Y:Nat->PV}(R:iA w (Av F h Z) Z h a Y){lv:Nat}{o:Oper}{p:PV}{h':ab}(e:ar C run lv o.op Y h=some (p,h'))
  {next:Act->World->Prop} {Q:Exit->Act->World->Prop} (hK:∀v w' Z',aG w' (Av F h' Z') Z' h' v p->bp w' F Z' h'->eN w h Z w' h' Z'->(lv<=1->dH w w')->next (a.put o.dst v) w'):o.wp C.P a w next Q:=by
 have simple:yO C.P lv w F Z h (execOp a.eval o) p h'->o.wp C.P a w next Q:=by
  rintro⟨v,w',Z',h1,h2,h3,h4,h5⟩;unfold Oper.wp;rcases h1 with h1 |⟨h1,rfl⟩;rw[h1];exact hK v w' Z' h2 h3 h4 h5;rw[h1];exact hK undef w' Z' h2 h3 h4 h5
 unfold ar at e
 split at e
 ·rename_i c mP
  have hex:execOp a.eval o=(do let d<-resolve a.eval c o.type;invoke d.target d.args):=by
   cases o;simp only at mP;subst mP;rfl
  split at e
  ·rename_i f IS
   unfold gp at e
   split at e
   ·rename_i g dp hf
    have hv:=R.ev H.fG f;rw[hf]at hv;obtain⟨cv,c1,c2,c3⟩:=hv.zH;have oW:=(R.PR H.fG c.args.toList).append (show L2 (aG w (Av F h Z) Z h) cv dp from⟨c2,c3⟩)
    by_cases hx:∃q,C.mode g=.ext q
    ·obtain⟨q,hq⟩:=hx;unfold dG at e;rw[hq]at e;simp only at e
     split at e
     ·rename_i yg
      obtain⟨e1,rfl⟩:=eF e;rw[bz]at yg
      obtain⟨v,x1,x2⟩:=K.ext g q hq _ p e1 w (Av F h' Z) (c.args.toList.map a.eval++cv) ⟨by simp only[cB,agY];exact oW.1,λj hj=>by
       rw[gW];have EC:j<(c.args.toList.map (Pm.ev Y)++dp).length:=by simpa[cB]using hj
       exact((oW.2 j EC).CN (gy yg EC)).b9⟩
      refine simple ⟨v,w,Z,.inl ?_,.val x2,H,eN.refl w h' Z,λ_=>dH.refl w⟩;rw[hex];simp only[resolve,IS,c1,Deferred.ofValue,Sem.run_bind,Sem.run_pure,Result.andThen_ok,invoke];rw[<-x1]
      congr 2
      apply ahH;simp
     cases e
    have bD:∀q,C.mode g≠.ext q:=λq hq=>hx ⟨q,hq⟩
    obtain⟨cs,hm⟩:=CZ K (S g) e H oW bD
    have cN:(execOp a.eval o).run C.P w=.ok (.enter g ((c.args.toList.map a.eval)++cv).toArray) w:=by
     rw[hex];simp only[resolve,IS,c1,Deferred.ofValue,Sem.run_bind,Sem.run_pure,Result.andThen_ok,invoke];rw[vM K hm bD]
     congr 2
     apply ahH;simp
    unfold Oper.wp;rw[cN];refine cs.mono ?_;rintro en w' ⟨v,Z',rfl,q1,q2,q3,q4⟩;exact hK v w' Z' q1 q2 q3 q4
   ·rename_i g kk dp hf
    have hv:=R.ev H.fG f;rw[hf]at hv;obtain⟨cv,c1,c2,c3⟩:=hv.Lx;have Cp:L2 (aG w (Av F h Z) Z h) cv dp:=⟨c2,c3⟩;have oW:=((Cp.take kk).append (R.PR H.fG c.args.toList)).append (Cp.drop kk)
    by_cases hx:∃q,C.mode g=.ext q
    ·obtain⟨q,hq⟩:=hx;unfold dG at e;rw[hq]at e;simp only at e
     split at e
     ·rename_i yg
      obtain⟨e1,rfl⟩:=eF e;rw[bz]at yg
      obtain⟨v,x1,x2⟩:=K.ext g q hq _ p e1 w (Av F h' Z) (cv.take kk++c.args.toList.map a.eval++cv.drop kk) ⟨by simp only[cB,agY];exact oW.1,λj hj=>by
       rw[gW];have EC:j<(dp.take kk++c.args.toList.map (Pm.ev Y)++dp.drop kk).length:=by simpa[cB]using hj
       exact((oW.2 j EC).CN (gy yg EC)).b9⟩
      refine simple ⟨v,w,Z,.inl ?_,.val x2,H,eN.refl w h' Z,λ_=>dH.refl w⟩;rw[hex];simp only[resolve,IS,c1,Deferred.ofValue,Sem.run_bind,Sem.run_pure,Result.andThen_ok,invoke];rw[<-x1]
      congr 2
      apply ahH;simp
     cases e
    have bD:∀q,C.mode g≠.ext q:=λq hq=>hx ⟨q,hq⟩
    obtain⟨cs,hm⟩:=CZ K (S g) e H oW bD
    have cN:(execOp a.eval o).run C.P w=.ok (.enter g (cv.take kk++c.args.toList.map a.eval++cv.drop kk).toArray) w:=by
     rw[hex];simp only[resolve,IS,c1,Deferred.ofValue,Sem.run_bind,Sem.run_pure,Result.andThen_ok,invoke];rw[vM K hm bD]
     congr 2
     apply ahH;simp
    unfold Oper.wp;rw[cN];refine cs.mono ?_;rintro en w' ⟨v,Z',rfl,q1,q2,q3,q4⟩;exact hK v w' Z' q1 q2 q3 q4
   cases e
  ·rename_i b hcb
   refine simple ?_
   have hb:∀cb cb',builtin b c.argTypes o.type cb (c.args.map a.eval)=builtin b c.argTypes o.type cb' (c.args.map a.eval):=by
    intro cb cb'
    cases b <;>first |rfl |simp[bA]at e
   have cN:(execOp a.eval o).run C.P w=(builtin b c.argTypes o.type #[] (c.args.map a.eval)).run C.P w:=by
    rw[hex];simp only[resolve,hcb,Sem.run_bind,Sem.run_pure,Result.andThen_ok,invoke];rw[hb _ #[]]
   obtain⟨v,w',Z',h1,h2⟩:=Gg (ty:=o.type) (cb:=#[]) H R e;refine⟨v,w',Z',?_,h2⟩;rw[cN];exact h1
  cases e
 ·rename_i hnc
  exact simple (Js H R hnc e)
structure SR(N:Nat)(w:World)(F:Nat->Prop)(Z:List (Nat×Nat))(s:St)(a:Act):Prop where
 hr:bp w F Z s.h
 er:iA w (Av F s.h Z) Z s.h a s.Y
 df:a.defers=[]
 sz:N<=a.tmps.size
theorem QO(a:Act)(d:Option Nat)(v:Value)(t:Nat)(N:Nat)(J:∀k,d=some k->k<a.tmps.size):(a.put d v).tmps.getD t undef=if d=some t then v else a.tmps.getD t undef:=by
 cases d with
 |none=>simp[Act.put]
 |some k=>
  have:=J k rfl
  by_cases g:k=t
  subst g;simp[Act.put,this]
  ·have:¬(some k=some t):=λh=>g (af7 h)
   simp[Act.put,this,g]
theorem oS(Y:Nat->PV)(d:Option Nat)(p:PV)(t:Nat):bZ Y d p t=if d=some t then p else Y t:=by
 cases d with
 |none=>simp[bZ]
 |some k=>
  by_cases g:t=k
  subst g;simp[bZ,oD]
  ·have:¬(some k=some t):=λh=>g (af7 h).symm
   simp[bZ,oD,g,this]
theorem eD(a:Act)(d:Option Nat)(v:Value):(a.put d v).tmps.size=a.tmps.size:=by cases d <;>simp[Act.put]
theorem cE(a:Act)(d:Option Nat)(v:Value):(a.put d v).defers=a.defers:=by cases d <;>simp[Act.put]
theorem iA.put{A:Nat->Prop}{a:Act}{Y:Nat->PV}(r:iA w A Z h a Y){d:Option Nat}(J:∀k,d=some k->k<a.tmps.size){v:Value}{p:PV}(b:aG w A Z h v p):iA w A Z h (a.put d v) (bZ Y d p):=by
 intro t
 rw[QO a d v t 0 J,oS]
 split
 exact b;exact r t
theorem iA.mono{w':World}{h':ab}{q:List (Nat×Nat)}(s:eN w h Z w' h' q){a:Act}{Y:Nat->PV}(r:iA w (Av F h Z) Z h a Y):iA w' (Av F h' q) q h' a Y:=λt=>(r t).mono s
theorem dg(r:iA w A Z h a Y){b:Bool}(e:bC ops o Y=some b):Region.wanted o (yielded ops a.tmps)=b:=by
 unfold bC at e;unfold Region.wanted
 split at e
 ·rename_i N
  rw[N];exact af7 e
 ·rename_i j t N
  rw[N];simp only
  split at e
  ·rename_i f
   obtain rfl:=af7 e;have:((ops[j]?).bind (·.dst))=none:=by simpa using f
   simp[yielded,this]
  ·rename_i d f
   have V:((ops[j]?).bind (·.dst))=some d:=by simpa using f
   have z:=r d
   split at e
   ·rename_i q W
    obtain rfl:=af7 e;rw[W]at z;have J:=z.gz
    have:a.tmps[d]?=some (.bool q):=by
     rcases agM d a.tmps.size with F |R;simp[F]at J;simp[F,J];simp[ahE R,undef]at J
    simp[yielded,V,this]
   ·rename_i W
    obtain rfl:=af7 e;rw[W]at z;have J:=z.NK;rcases agM d a.tmps.size with F |R;simp[F]at J;simp[yielded,V,F,J];simp[yielded,V,ahE R]
   cases e
def fN(N:Nat)(o:Oper):Bool:=match o.dst with |some d=>decide (d<N)|none=>true
theorem fp(J:fN N o=true)(S:N<=a.tmps.size):∀k,o.dst=some k->k<a.tmps.size:=by
 intro k g
 have:k<N:=by simpa[fN,g]using J
 exact agK this S
theorem C1{C:cA}(K:dn C)(S:dJ C run)(R:SR N w F Z s a)(J:fN N o=true)(e:gL C run ops o s=some U)
  {next:Act->World->Prop} {Q:Exit->Act->World->Prop} (n:∀b w' q,SR N w' F q U b->eN w s.h Z w' U.h q->next b w'):
  if Region.wanted o (yielded ops a.tmps)then o.wp C.P a w next Q else next (a.put o.dst undef) w:=by
 unfold gL at e;have t:=fp J R.sz
 split at e
 ·rename_i H
  rw[dg R.er H,if_pos rfl]
  split at e
  ·rename_i v i d
   obtain rfl:=af7 e;refine gX K S R.hr R.er d (λu w' q f z g _=>n _ w' q ⟨z,(R.er.mono g).put t f,by rw[cE];exact R.df,by rw[eD];exact R.sz⟩ g)
  cases e
 ·rename_i H
  rw[dg R.er H,if_neg yxb];obtain rfl:=af7 e;exact n _ w Z ⟨R.hr,R.er.put t .undef,by rw[cE];exact R.df,by rw[eD];exact R.sz⟩ (eN.refl w s.h Z)
 cases e
theorem _root_.zcd{P:Prop}(h:P:=by
 split
 ·rename_i H;rw[if_pos H]at this;exact .inl this
 ·rename_i H;rw[if_neg H]at this;exact this):P:=h
theorem Jt{C:cA}(K:dn C)(S:dJ C run)(J:ops.toList.all (fN N)=true):
  ∀(l:List Oper) (k:Nat) {w:World} {Z:List (Nat×Nat)} {s U:St} {a:Act},ops.toList.drop k=l->SR N w F Z s a->eB C run ops l s=some U->
   (∀u w' q,SR N w' F q U u->eN w s.h Z w' U.h q->Q .normal u w')->wpOps C.P ops Q (List.map (·+k) (List.range l.length)) a w:=by
 intro l
 induction l with
 |nil=>
  intro k w Z s U a A R e v
  simp[eB]at e;subst e;simpa[wpOps]using v a w Z R (eN.refl w s.h Z)
 |cons o r j=>
  intro k w Z s U a A R e v
  simp only[eB]at e
  have i:ops[k]?=some o:=by
   rw[<-agG];have:(ops.toList.drop k)[0]?=some o:=by rw[A];rfl
   rwa[agP]at this
  have z:ops.toList.drop (k+1)=r:=by
   have:=congrArg (List.drop 1) A;rwa[List.drop_drop]at this
  have n:List.map (·+k) (List.range (o::r).length)=k::List.map (·+(k+1)) (List.range r.length):=by
   rw[agj,ahQ];simp only[agp,agz,aie]
   congr 1
   apply ahk
   intro x _
   simp;omega
  rw[n];simp only[wpOps,i]
  split at e
  ·rename_i B f
   have b:fN N o=true:=af9.1 J o (by
    have:o∈ops.toList.drop k:=by rw[A];simp
    exact ahr this)
   have:=C1 K S R b f (Q:=Q) (next:=wpOps C.P ops Q (List.map (·+(k+1)) (List.range r.length))) (λu w' q y O=>j (k+1) z y e (λd t g Y W=>v d t g Y (O.trans W)))
   exact zcd
  cases e
theorem NL{C:cA}(K:dn C)(S:dJ C run)(J:ops.toList.all (fN N)=true)(R:SR N w F Z s a)
  (e:eB C run ops ops.toList s=some U) (v:∀u w' q,SR N w' F q U u->eN w s.h Z w' U.h q->Q .normal u w'):(Code.region V ops false).wp C.P Q a w:=by
 refine wp_region ?_;have:=Jt K S J ops.toList 0 yxb R e v;simpa using this
theorem sJ:bj h V=true↔∃o,h[V]?=some o/\o.mu≠.x:=by
 unfold bj
 cases h[V]? with
 |none=>simp
 |some o=>simp
theorem qn(f:Nat->Bool)(cs:List PV):bB f cs=cs.all (bq f):=by
 induction cs with
 |nil=>rfl
 |cons c r P=>simp[bB,P]
theorem aG.restrict{t:List (Nat×Nat)}(u:∀(V:Nat) (o:ax),M[V]?=some o->o.mu≠.x->h[V]?=some o/\t[V]?=Z[V]?)(z:∀b,A' b->A b)
  {v:Value} {p:PV} (r:aG w A Z h v p) (J:bq (bj M) p=true):aG w A' t M v p:=by
 induction r with
 |val S=>exact .val (S.jk z)
 |undef=>exact .undef
 |any v=>exact .any v
 |an v V q U K o n B O X Q G e=>
  obtain⟨y,D,N⟩:=sJ.1 (by simpa[bq]using J);obtain⟨R,g⟩:=u V y D N;rw[O]at R;obtain rfl:=af7 R;exact .an v V q U K o n B D (by rw[g];exact X) Q G e
 |ptr v V q i U o n B O X Q G e=>
  obtain⟨y,D,N⟩:=sJ.1 (by simpa[bq]using J);obtain⟨R,g⟩:=u V y D N;rw[O]at R;obtain rfl:=af7 R;exact .ptr v V q i U o n B D (by rw[g];exact X) Q G e
 |cq v V o n B O X Q e=>
  obtain⟨y,D,N⟩:=sJ.1 (by simpa[bq]using J);obtain⟨R,g⟩:=u V y D N;rw[O]at R;obtain rfl:=af7 R;exact .cq v V o n B D (by rw[g];exact X) Q e
 |agg W Y d _ P=>exact .agg W Y d (λj a=>P j a yxt)
 |b8 W Y d _ P=>exact .b8 W Y d (λj a=>P j a yxt)
 |fn f W Y d _ P=>exact .fn f W Y d (λj a=>P j a yxt)
 |pK f k W Y d _ P=>exact .pK f k W Y d (λj a=>P j a yxt)
theorem Ko{f:Nat->Bool}{e q:PV}(J:bq f e=true)(y:q∈Pm.cells e):bq f q=true:=by
 cases e <;>first
  |(simp only[Pm.cells,agu]at y;subst y;exact J)
  |(simp only[bq,qn]at J;exact af9.1 J q y)
theorem kJ.to{a:List (Nat×Nat)}{o:ax}{bc:Nat×Nat}(W:w'.heap[bc.1]?=w.heap[bc.1]?)
  (r:kJ w A Z h o bc) (J:∀(v:Value) (e p:PV),e∈o.es->p∈Pm.cells e->aG w A Z h v p->aG w' A' a h' v p):kJ w' A' a h' o bc:=by
 rcases r with⟨T,Y,O,X,Q,G,d⟩|⟨B,S,u,O,X,Q⟩
 ·refine .inl ⟨T,Y,W.trans O,X,Q,G,λi e q=>⟨(d i e q).1,λj p K=>?_⟩⟩;obtain⟨v,f,b⟩:=(d i e q).2 j p K;exact⟨v,f,J v e p (agq q) (agq K) b⟩
 ·refine .inr ⟨B,S,u,W.trans O,X,λi e q=>?_⟩;obtain⟨k,v,m,U,z,g,V⟩:=Q i e q;subst U;exact⟨k,v,m,rfl,z,J _ _ _ (agq q) (by simp[Pm.cells]) g,J _ _ _ (agq q) (by simp[Pm.cells]) V⟩
theorem bp.pad(H:bp w F Z h)(ext:ab)(e:List (Nat×Nat))(A:e.length=ext.length)(U:∀o∈ext,o.mu=.x):
  bp w F (Z++e) (h++ext)/\eN w h Z w (h++ext) (Z++e):=by
 have K:=H.len
 have B:∀(V:Nat) (o:ax) (n:Nat×Nat),(h++ext)[V]?=some o->(Z++e)[V]?=some n->o.mu≠.x->h[V]?=some o/\Z[V]?=some n:=by
  intro V o n D N P
  by_cases t:V<h.length
  ·rw[af8 t]at D;rw[af8 yxa]at N;exact⟨D,N⟩
  ·rw[agl yxa]at D;exact absurd (U o (agq D)) P
 have f:∀(V:Nat),V<h.length->(h++ext)[V]?=h[V]?/\(Z++e)[V]?=Z[V]?:=λV t=>
  ⟨af8 t,af8 yxa⟩
 have j:∀b,Mb (h++ext) (Z++e) b->Mb h Z b:=by
  rintro b ⟨V,o,n,D,N,P,M⟩;obtain⟨R,g⟩:=B V o n D N (by rw[P];simp);exact⟨V,o,n,R,g,P,M⟩
 have S:eN w h Z w (h++ext) (Z++e):=by
  refine⟨agb _,by simp,λ_ _ _=>rfl,λb _ m=>j b m,?_,?_,rfl,rfl,rfl,λ_=>agb _⟩
  ·intro V o n D N P
   obtain⟨R,g⟩:=f V (ag D);exact⟨o,n,by rw[R];exact D,by rw[g];exact N,P,⟨agb _,λh=>h⟩,λ_=>⟨rfl,λ_=>rfl,rfl⟩⟩
  ·intro V o D _
   obtain⟨R,g⟩:=f V (ag D);exact⟨by rw[R];exact D,g⟩
 refine⟨⟨by simp[K,A],H.fin,?_,?_,?_,H.fG.xa S⟩,S⟩
 ·intro V o n D N P
  obtain⟨R,g⟩:=B V o n D N P;exact kJ.mono S rfl (H.obj V o n R g P)
 ·intro V a o y n z Q D N P M Y O
  obtain⟨R,g⟩:=B V o n D P (by rw[Y];simp);obtain⟨d,i⟩:=B a y z N M O;exact H.iv V a o y n z Q R d g i Y O
 ·intro V o n D N P
  obtain⟨R,g⟩:=B V o n D N (by rcases P with P |P <;>rw[P] <;>simp);exact H.out V o n R g P
def Fp(F:Nat->Prop)(Z:List (Nat×Nat))(h M:ab)(b:Nat):Prop:=F b\/∃(V:Nat) (o:ax) (n:Nat×Nat),h[V]?=some o/\Z[V]?=some n/\o.mu=.m/\n.1=b/\M[V]?≠some o
theorem Fp.av{b:Nat}(u:Fp F Z h M b):Av F h Z b:=by
 rcases u with u |⟨V,o,n,D,N,P,a,_⟩;exact .inl u;exact .inr ⟨V,o,n,D,N,P,a⟩
theorem bp.part(H:bp w F Z h){M:ab}(hl:M.length<=h.length)(hM:∀(V:Nat) (o:ax),M[V]?=some o->o.mu≠.x->h[V]?=some o)(hc:br M=true):
  bp w (Fp F Z h M) (Z.take M.length) M/\(∀(v:Value) (p:PV),aG w (Av F h Z) Z h v p->bq (bj M) p=true->aG w (Av (Fp F Z h M) M (Z.take M.length)) (Z.take M.length) M v p):=by
 have q:=H.len;have W:∀V,V<M.length->(Z.take M.length)[V]?=Z[V]?:=λV A=>by rw[agy,if_pos A]
 have d:∀(V:Nat) (o:ax),M[V]?=some o->o.mu≠.x->h[V]?=some o/\(Z.take M.length)[V]?=Z[V]?:=λV o D N=>⟨hM V o D N,W V (ag D)⟩
 have t:∀b,Av (Fp F Z h M) M (Z.take M.length) b->Av F h Z b:=by
  rintro b (u |⟨V,o,n,D,N,P,i⟩);exact u.av
  ·obtain⟨R,g⟩:=d V o D (by rw[P];simp);exact .inr ⟨V,o,n,R,by rw[<-g];exact N,P,i⟩
 have J:∀(v:Value) (p:PV),aG w (Av F h Z) Z h v p->bq (bj M) p=true->aG w (Av (Fp F Z h M) M (Z.take M.length)) (Z.take M.length) M v p:=λv p r J=>r.restrict d t J
 refine⟨⟨by simp;omega,λb W=>Av.lt H (Fp.av W),?_,?_,?_,H.fG.jk t⟩,J⟩
 ·intro V o n D N P
  obtain⟨R,g⟩:=d V o D P;rw[g]at N;refine(H.obj V o n R N P).to rfl (λv e p he hp r=>J v p r ?_);have:=af9.1 hc o (agq D);simp only[agJ,decide_eq_true_eq,qn]at this;exact Ko (af9.1 (this.resolve_left P) e he) hp
 ·intro V S o y n B Q D N P i Y O
  obtain⟨R,g⟩:=d V o D (by rw[Y];simp);obtain⟨K,j⟩:=d S y N O;exact H.iv V S o y n B Q R K (by rw[<-g];exact P) (by rw[<-j];exact i) Y O
 ·intro V o n D N P
  have f:o.mu≠.x:=by rcases P with P |P <;>rw[P] <;>simp
  obtain⟨R,g⟩:=d V o D f;rw[g]at N;rintro(u |⟨a,o2,z,K,j,G,U,X⟩);exact H.out V o n R N P u
  ·have Q:a≠V:=by
    rintro rfl;rw[R]at K;obtain rfl:=af7 K;exact X D
   exact H.iv a V o2 o z n Q K R j N G f U
theorem bp.merge(H:bp w F Z h){ext:ab}{J:List (Nat×Nat)}(hl:M.length+ext.length<=h.length)(hM:∀(V:Nat) (o:ax),M[V]?=some o->o.mu≠.x->h[V]?=some o)
  (R:bp w' (Fp F Z h M) J (M++ext)) (S1:eN w M (Z.take M.length) w' (M++ext) J) (G:dH w w') (B8:∀o∈ext,o.mu≠.l)
  (adD:h'.length=h.length) (Q:∀V:Nat,M.length<=V->V<M.length+ext.length->h'[V]?=ext[V - M.length]?) (U:∀V:Nat,(V<M.length\/M.length+ext.length<=V)->h'[V]?=h[V]?)
  (afa:∀(V:Nat) (o:ax),M.length<=V->V<M.length+ext.length->h[V]?=some o->o.mu=.x):
  ∃q,bp w' F q h'/\FJ h Z h' q/\(∀b,b<w.heap.size->¬Av F h Z b->¬Av F h' q b)/\(∀b,b<w.heap.size->Mb h' q b->Mb h Z b)/\(∀V:Nat,V<M.length->q[V]?=Z[V]?)/\
   (∀(v:Value) (p:PV),aG w' (Av (Fp F Z h M) (M++ext) J) J (M++ext) v p->aG w' (Av F h' q) q h' v p):=by
 have hlen:=H.len;have Fy:=R.len;simp only[agf]at Fy;have hml:(J.drop M.length).length=ext.length:=by simp;omega
 have hZ:∀k,(Z.take M.length++J.drop M.length++Z.drop (M.length+(J.drop M.length).length))[k]?=if k<M.length then Z[k]? else if k<M.length+ext.length then J[k]? else Z[k]?:=by
  intro k
  rw[iJ _ _ _ _ yxa,hml]
  split
  rfl
  ·split
   ·rw[agP];congr 1;omega
   ·rfl
 refine⟨Z.take M.length++J.drop M.length++Z.drop (M.length+(J.drop M.length).length),?_⟩;generalize hZ':Z.take M.length++J.drop M.length++Z.drop (M.length+(J.drop M.length).length)=q at hZ ⊢
 have Cc:q.length=h'.length:=by
  rw[<-hZ',adD];simp;omega
 have j:∀V,M.length<=V->V<M.length+ext.length->q[V]?=J[V]?:=λV h1 h2=>by rw[hZ,if_neg yxa,if_pos h2]
 have d:∀V,(V<M.length\/M.length+ext.length<=V)->q[V]?=Z[V]?:=λV h1=>by
  rw[hZ]
  by_cases h2:V<M.length
  rw[if_pos h2];rw[if_neg h2,if_neg yxa]
 have i:∀V,M.length<=V->V<M.length+ext.length->(M++ext)[V]?=ext[V - M.length]?:=λV h1 _=>agl h1
 have u:∀V,V<M.length->(M++ext)[V]?=M[V]?:=λV h1=>af8 h1
 have z:∀(V:Nat) (o:ax) (n:Nat×Nat),M[V]?=some o->o.mu≠.x->Z[V]?=some n->J[V]?=some n:=by
  intro V o n D N P
  have A:=ag D;obtain⟨K,dB,f1,f2,f3,f4,f5⟩:=S1.refs V o n D (by rw[agy,if_pos A];exact P) N;rw[u V A,D]at f1;obtain rfl:=af7 f1;rw[(f5 rfl).2.2]at f2;exact f2
 have uO:∀V:Nat,(M.length<=V/\V<M.length+ext.length)\/(V<M.length\/M.length+ext.length<=V):=λV=>by omega
 have O:∀(V:Nat) (o:ax) (n:Nat×Nat),M.length<=V->V<M.length+ext.length->h'[V]?=some o->q[V]?=some n->o.mu=.m->w.heap.size<=n.1:=by
  intro V o n g S D N P
  rw[Q V g S,<-i V g S]at D;rw[j V g S]at N;rcases agM n.1 w.heap.size with cK |Ej
  ·obtain⟨id2,o2,JM,f1,f2,f3,f4⟩:=S1.shr n.1 cK ⟨V,o,n,D,N,P,rfl⟩;have tM:=ag f1;rw[agy,if_pos tM]at f2;exact absurd f4.symm (R.iv V id2 o o2 n JM yxa D (by rw[u id2 tM];exact f1) N (z id2 o2 JM f1 (by rw[f3];simp) f2) P (by rw[f3];simp))
  exact Ej
 have adE:FJ h Z h' q:=by
  intro V o n D N P
  rcases uO V with⟨g,S⟩|a;exact absurd (afa V o g S D) P;exact⟨o,n,by rw[U V a];exact D,by rw[d V a];exact N,P,⟨agb _,λh=>h⟩,λ_=>⟨rfl,λ_=>rfl,rfl⟩⟩
 have shr:∀b,b<w.heap.size->Mb h' q b->Mb h Z b:=by
  rintro b W ⟨V,o,n,D,N,P,rfl⟩;rcases uO V with⟨g,S⟩|a;have:=O V o n g S D N P;omega;exact⟨V,o,n,by rw[<-U V a];exact D,by rw[<-d V a];exact N,P,rfl⟩
 have hA0:∀b,b<w.heap.size->¬Av F h Z b->¬Av F h' q b:=by
  rintro b W hn (hf |B);exact hn (.inl hf);exact hn (.inr (shr b W B))
 have afb:FJ (M++ext) J h' q:=by
  intro V o n D N P
  have A:=ag D;simp at A
  by_cases tM:V<M.length
  ·rw[u V tM]at D;have y:=hM V o D P;obtain⟨bc0,e5⟩:=fh H.len y;have:=z V o bc0 D P e5;rw[this]at N;obtain rfl:=af7 N;exact⟨o,bc0,by rw[U V (.inl tM)];exact y,by rw[d V (.inl tM)];exact e5,P,⟨agb _,λh=>h⟩,λ_=>⟨rfl,λ_=>rfl,rfl⟩⟩
  exact⟨o,n,by rw[Q V yxa A,<-i V yxa A];exact D,by rw[j V yxa A];exact N,P,⟨agb _,λh=>h⟩,λ_=>⟨rfl,λ_=>rfl,rfl⟩⟩
 have Er:∀b,Av F h' q b->Av (Fp F Z h M) (M++ext) J b:=by
  rintro b (hf |⟨V,o,n,D,N,P,y⟩);exact .inl (.inl hf)
  ·rcases uO V with⟨g,S⟩|a
   ·rw[Q V g S,<-i V g S]at D;rw[j V g S]at N;exact .inr ⟨V,o,n,D,N,P,y⟩
   ·rw[U V a]at D;rw[d V a]at N
    by_cases B:M[V]?=some o
    ·have A:=ag B;exact .inr ⟨V,o,n,by rw[u V A];exact B,z V o n B (by rw[P];simp) N,P,y⟩
    exact .inl (.inr ⟨V,o,n,D,N,P,y,B⟩)
 have v0:∀(v:Value) (p:PV),aG w (Av F h Z) Z h v p->aG w' (Av F h' q) q h' v p:=λv p r=>r.UJ adE (λb W _=>G.ba b W) hA0
 have v1:∀(v:Value) (p:PV),aG w' (Av (Fp F Z h M) (M++ext) J) J (M++ext) v p->aG w' (Av F h' q) q h' v p:=λv p r=>r.UJ afb (λ_ _ _=>rfl) (λb _ hn ha=>hn (Er b ha))
 refine⟨⟨Cc,λb W=>agK (H.fin b W) G.size,?_,?_,?_,H.fG.mono (λb W _=>G.ba b W) hA0⟩,adE,hA0,shr,λV A=>d V (.inl A),v1⟩
 ·intro V o n D N P
  rcases uO V with⟨g,S⟩|a
  ·rw[Q V g S,<-i V g S]at D;rw[j V g S]at N;exact(R.obj V o n D N P).to rfl (λv e p _ _ r=>v1 v p r)
  ·rw[U V a]at D;rw[d V a]at N;have r:=H.obj V o n D N P;exact r.to (G.ba _ r.lt) (λv e p _ _ r=>v0 v p r)
 ·intro V t o K n dB bD D N P y m1 m2
  rcases uO V with⟨g,S⟩|a <;>rcases uO t with⟨X,Y⟩|b
  ·rw[Q V g S,<-i V g S]at D;rw[j V g S]at P;rw[Q t X Y,<-i t X Y]at N;rw[j t X Y]at y;exact R.iv V t o K n dB bD D N P y m1 m2
  ·have h1:=O V o n g S D P m1;rw[U t b]at N;rw[d t b]at y;have:=(H.obj t K dB N y m2).lt;omega
  ·rw[U V a]at D;rw[d V a]at P;rw[Q t X Y,<-i t X Y]at N;rw[j t X Y]at y
   by_cases B:M[V]?=some o
   ·have A:=ag B;exact R.iv V t o K n dB bD (by rw[u V A];exact B) N (z V o n B (by rw[m1];simp) P) y m1 m2
   ·have nl:K.mu≠.l:=by
     rw[i t X Y]at N;exact B8 K (agq N)
    have Nu:K.mu=.m\/K.mu=.f:=by
     cases hh:K.mu with
     |m=>exact .inl rfl
     |l=>exact absurd hh nl
     |f=>exact .inr rfl
     |x=>exact absurd hh m2
    intro heq
    exact R.out t K dB N y Nu (.inr ⟨V,o,n,D,P,m1,heq,B⟩)
  ·rw[U V a]at D;rw[d V a]at P;rw[U t b]at N;rw[d t b]at y;exact H.iv V t o K n dB bD D N P y m1 m2
 ·intro V o n D N P
  rcases uO V with⟨g,S⟩|a
  ·rw[Q V g S,<-i V g S]at D;rw[j V g S]at N;exact λhf=>R.out V o n D N P (.inl hf)
  ·rw[U V a]at D;rw[d V a]at N;exact H.out V o n D N P
end Go.Pm
namespace Go.Pm
variable{Y Y':Nat->PV}{run:hZ}{Z i j k lv:Nat}{H:Op}{h h':ab}{r:PV}{args:List PV}{P:List Nat}{ops:Array Oper}{o:Oper}{e:Nat->Bool}
theorem qC{xs:List Operand}(h:∀x∈xs,ev Y x=ev Y' x):xs.map (ev Y)=xs.map (ev Y'):=ahk h
theorem rR{xs:List (Nat×Operand)}(h:∀x∈xs.map (·.2),ev Y x=ev Y' x):(xs.map λ(i,x)=>(i,ev Y x))=xs.map λ(i,x)=>(i,ev Y' x):=
 ahk λp K=>by
  obtain⟨i,x⟩:=p;simp only[h x (agv.2 ⟨(i,x),K,rfl⟩)]
theorem lZ{C:cA}{K:ab}(h:∀x∈H.operands.toList,ev Y x=ev Y' x):ar C run lv H Y K=ar C run lv H Y' K:=by
 cases H
 case call c=>
  have j:c.args.toList.map (ev Y)=c.args.toList.map (ev Y'):=qC λx U=>h x (by simp[Op.operands,Call.operands];exact .inr (by simpa using U))
  simp only[ar,j]
  cases a:c.callee with
  |value f=>simp only[h f (by simp[Op.operands,Call.operands,a])]
  |invoke r m=>rfl
  |builtin b=>rfl
 case build t F=>simp only[ar,aD,rR (Y:=Y) (Y':=Y') (xs:=F.toList) λx U=>h x (by simpa[Op.operands]using U)]
 case buildSlice t n F=>simp only[ar,aD,rR (Y:=Y) (Y':=Y') (xs:=F.toList) λx U=>h x (by simpa[Op.operands]using U)]
 case makeFunc i first M=>
  have j:M.toList.map (ev Y)=M.toList.map (ev Y'):=qC λx U=>h x (by simp[Op.operands];exact .inr (by simpa using U))
  have W:(first.toList++M.toList).map (ev Y)=(first.toList++M.toList).map (ev Y'):=qC λx U=>h x (by simp only[Op.operands,Array.toList_append];exact U)
  simp only[ar,aD]
  cases i <;>simp only[j,W]
 case makeMap t r=>
  simp only[Op.operands]at h;have X:r.map (ev Y)=r.map (ev Y'):=by cases r with |none=>rfl |some y=>simp[h y yxb]
  simp only[ar,aD,X]
 case slice t x z B u=>
  simp only[Op.operands]at h;have O:=h x yxb;have X:z.map (ev Y)=z.map (ev Y'):=by cases z with |none=>rfl |some y=>simp[h y yxb]
  have Q:B.map (ev Y)=B.map (ev Y'):=by cases B with |none=>rfl |some y=>simp[h y yxb]
  have G:u.map (ev Y)=u.map (ev Y'):=by cases u with |none=>rfl |some y=>simp[h y yxb]
  simp only[ar,aD,O,X,Q,G]
 all_goals(simp only[Op.operands]at h;simp only[ar,aD];try simp_all)
theorem da{v:Type}{x:Option v}{p:v}(e:x.map (·,h)=some (p,h')):x=some p/\h'=h:=by
 cases x with
 |none=>cases e
 |some y=>simp at e;exact⟨by rw[e.1],e.2.symm⟩
theorem oP{C:cA}{a:Nat}{h1 d X:ab}(hn:cI H=false)(e:ar C run lv H Y h1=some (r,d)):ar C run a H Y X=some (r,X):=by
 cases H <;>simp[cI]at hn <;>simp only[ar,aD]at e ⊢
 case move x=>simp at e;simp[e.1]
 case assign x=>simp at e;simp[e.1]
 case pick c x y=>split at e <;>simp_all
 case build t F=>obtain⟨D,_⟩:=da e;rw[D];rfl
 case nilCheck x=>split at e <;>simp_all
 case binOp=>obtain⟨D,_⟩:=da e;rw[D];rfl
 case unOp=>obtain⟨D,_⟩:=da e;rw[D];rfl
 case convert=>obtain⟨D,_⟩:=da e;rw[D];rfl
 case makeFunc b first M=>
  cases b <;>simp only at e ⊢ <;>try(cases e;done)
  split at e
  ·rename_i u;simp at e;simp[u,e.1]
  ·rename_i u;obtain⟨rfl,rfl⟩:=agk (af7 e);rw[if_neg u]
 case fieldAddr=>obtain⟨D,_⟩:=da e;rw[D];rfl
 case field=>obtain⟨D,_⟩:=da e;rw[D];rfl
 case index=>obtain⟨D,_⟩:=da e;rw[D];rfl
 case extract x i=>
  split at e
  split at e <;>simp_all
  cases e
def Ext(h h':ab):Prop:=∃ext,h'=h++ext
theorem Ext.refl(h:ab):Ext h h:=⟨[],by simp⟩
theorem vp{g:List PV->ab->Option (PV×ab)}(A:lv<=1)(e:eP g lv args h=some (r,h')):Ext h h':=by
 unfold eP at e;rw[if_neg yxa]at e
 split at e
 ·split at e
  ·split at e
   ·obtain⟨rfl,rfl⟩:=agk (af7 e);exact⟨_,rfl⟩
   ·cases e
  ·cases e
 cases e
theorem _root_.zce{P:Prop}(h:P:=by
 split at e
 ·split at e
  ·obtain⟨rfl,rfl⟩:=agk (af7 e);exact Ext.refl _
  ·cases e
 ·cases e):P:=h
theorem CE{C:cA}(A:lv<=1){f:FuncId}(e:dG C run lv f args h=some (r,h')):Ext h h':=by
 unfold dG at e
 split at e
 cases e
 ·unfold dL at e
  split at e
  ·exact zce
  ·split at e
   ·split at e
    ·split at e
     ·split at e
      ·obtain⟨rfl,rfl⟩:=agk (af7 e);exact Ext.refl _
      ·rw[if_neg yxa]at e;cases e
     ·cases e
    ·cases e
   ·split at e
    ·split at e
     ·exact zce
     ·cases e
    ·cases e
 ·unfold jj at e
  split at e
  ·rename_i R O q
   obtain⟨ext,rfl⟩:=vp A q
   split at e
   obtain⟨rfl,rfl⟩:=agk (af7 e);simp;exact Ext.refl _;obtain⟨rfl,rfl⟩:=agk (af7 e);exact⟨_,rfl⟩
  cases e
 ·split at e
  ·obtain⟨_,rfl⟩:=da e;exact Ext.refl _
  ·cases e
 exact vp A e
 ·split at e
  ·obtain⟨_,rfl⟩:=da e;exact Ext.refl _
  ·cases e
theorem FI{P:Program}(A:lv<=1){b:Builtin}{ts:List TypeId}(e:bA P lv h b ts args=some (r,h')):Ext h h':=by
 unfold bA at e
 split at e
 obtain⟨_,rfl⟩:=da e;exact Ext.refl _
 ·unfold bR at e
  repeat' split at e
  all_goals first
   |(cases e;done)
   |(obtain⟨rfl,rfl⟩:=agk (af7 e);first |exact Ext.refl _ |exact⟨_,rfl⟩)
   |(exfalso;omega)
   |(rename_i R;exfalso;obtain⟨f,S,O⟩:=R;omega)
 ·unfold CD at e
  repeat' split at e
  all_goals first
   |(cases e;done)
   |(rename_i R;exfalso;omega)
 ·unfold qA at e
  repeat' split at e
  all_goals first
   |(cases e;done)
   |(obtain⟨rfl,rfl⟩:=agk (af7 e);exact Ext.refl _)
   |(rename_i R;exfalso;omega)
 obtain⟨_,rfl⟩:=da e;exact Ext.refl _;obtain⟨_,rfl⟩:=da e;exact Ext.refl _;obtain⟨_,rfl⟩:=da e;exact Ext.refl _
 cases e
theorem _root_.zbq{P:Prop}(h:P:=by
 repeat' split at e
 all_goals first
  |(cases e;done)
  |(obtain⟨rfl,rfl⟩:=agk (af7 e);first |exact Ext.refl _ |exact⟨_,rfl⟩)):P:=h
theorem _root_.zb8{P:Prop}(h:P:=by
 repeat' split at e
 all_goals first
  |(cases e;done)
  |(obtain⟨rfl,rfl⟩:=agk (af7 e);exact⟨_,rfl⟩)):P:=h
theorem I9{P:Program}(A:lv<=1)(e:aD P lv H Y h=some (r,h')):Ext h h':=by
 cases H <;>simp only[aD]at e
 case alloc t=>
  split at e
  ·split at e
   ·obtain⟨rfl,rfl⟩:=agk (af7 e);exact⟨_,rfl⟩
   ·cases e
  cases e
 case box t x=>
  split at e
  obtain⟨rfl,rfl⟩:=agk (af7 e);exact⟨_,rfl⟩
  cases e
 case buildSlice t n F=>
  unfold ek at e
  exact zbq
 case store t x y=>rw[if_neg yxa]at e;cases e
 case mapUpdate t m k x=>rw[if_neg yxa]at e;cases e
 case insert t m k x=>rw[if_neg yxa]at e;cases e
 case makeMap t r=>
  unfold lY at e
  exact zb8
 case makeSlice t l c=>
  unfold kY at e
  exact zb8
 case makeFunc i first M=>
  cases i <;>simp only at e <;>try(cases e;done)
  split at e
  obtain⟨rfl,rfl⟩:=agk (af7 e);exact Ext.refl _;obtain⟨rfl,rfl⟩:=agk (af7 e);exact Ext.refl _
 all_goals first
  |(cases e;done)
  |(obtain⟨rfl,rfl⟩:=agk (af7 e);exact Ext.refl _)
  |(obtain⟨_,rfl⟩:=da e;exact Ext.refl _)
  |repeat' split at e
   all_goals first
    |(cases e;done)
    |(obtain⟨rfl,rfl⟩:=agk (af7 e);exact Ext.refl _)
theorem Np{C:cA}(A:lv<=1)(e:ar C run lv H Y h=some (r,h')):Ext h h':=by
 unfold ar at e
 split at e
 ·split at e
  ·unfold gp at e
   split at e
   exact CE A e;exact CE A e
   cases e
  ·exact FI A e
  ·cases e
 exact I9 A e
def xm(ops:Array Oper)(i j:Nat):Prop:=((before ops).getD i 0).testBit j=true
theorem C6(f:Edge->Nat)(j:Nat):∀(l:List Edge) (Y:Nat),(l.foldl (λs e=>s |||2^e.on |||f e) Y).testBit j=true->Y.testBit j=true\/∃e∈l,j=e.on\/(f e).testBit j=true
 |[],Y,h=>.inl h
 |e::l,Y,h=>by
  rcases C6 f j l _ h with h |⟨A,O,X⟩
  ·simp only[Nat.testBit_or,agJ,Nat.testBit_two_pow,decide_eq_true_eq]at h;rcases h with(h |h)|h;exact .inl h;exact .inr ⟨e,by simp,.inl h.symm⟩;exact .inr ⟨e,by simp,.inr h⟩
  exact .inr ⟨A,by simp[O],X⟩
theorem C7(b:List Oper):∀(l pre:List Oper) (u:List Nat),b=pre++l->u.length=pre.length->
  (∀i j,(u.getD i 0).testBit j=true->∃o,b[i]?=some o/\∃e∈I6 o,j=e.on\/(u.getD e.on 0).testBit j=true)->
  ∀i j,((l.foldl (λu o=>u++[(I6 o).foldl (λs e=>s |||2^e.on |||u.getD e.on 0) 0]) u).getD i 0).testBit j=true->
   ∃o,b[i]?=some o/\∃e∈I6 o,j=e.on\/((l.foldl (λu o=>u++[(I6 o).foldl (λs e=>s |||2^e.on |||u.getD e.on 0) 0]) u).getD e.on 0).testBit j=true
 |[],pre,u,O,X,Q=>Q
 |o::l,pre,u,O,X,Q=>by
  have n:∀k x (v:Nat),(u.getD k 0).testBit x=true->((u++[v]).getD k 0).testBit x=true:=λk x v h=>by
   rcases agM k u.length with g |g;simpa[List.getD,af8 g]using h;simp[List.getD,agr g]at h
  refine C7 b l (pre++[o]) _ (by simp[O]) (by simp[X]) ?_
  intro i j f
  by_cases B:i<u.length
  ·have z:(u.getD i 0).testBit j=true:=by simpa[List.getD,af8 B]using f
   obtain⟨y,D,e,N,P⟩:=Q i j z;exact⟨y,D,e,N,P.imp id (n _ _ _)⟩
  ·by_cases a:i=u.length
   ·subst a;have z:(((I6 o).foldl (λs e=>s |||2^e.on |||u.getD e.on 0) 0)).testBit j=true:=by simpa[List.getD]using f
    rcases C6 (λe=>u.getD e.on 0) j _ _ z with h |⟨e,G,d⟩;simp at h;exact⟨o,by rw[O,X,agl (agb _)];simp,e,G,d.imp id (n _ _ _)⟩
   ·rw[agA,agr yxd]at f;simp at f
theorem An(h:xm ops i j):∃o,ops[i]?=some o/\∃e∈I6 o,j=e.on\/xm ops e.on j:=by
 obtain⟨o,O,e,X,Q⟩:=C7 ops.toList ops.toList [] [] rfl rfl (λi j h=>by simp at h) i j h;exact⟨o,by simpa using O,e,X,Q⟩
def NR(ops:Array Oper)(o y:Oper):Bool:=
 match y.dst with
 |some d=>(o.looksAt ops).contains d ||o.dst==some d
 |none=>false
def iz(ops:Array Oper):Bool:=
 ops.toList.zipIdx.all λ(o,i)=>(I6 o).all (λe=>decide (e.on<i))&&
  ops.toList.zipIdx.all λ(y,j)=>decide (i<=j)|| !(NR ops o y||NR ops y o)||((before ops).getD i 0).testBit j
theorem fU(h:iz ops=true):
  (∀(i:Nat) (o:Oper),ops[i]?=some o->∀e∈I6 o,e.on<i)/\
  (∀(i j:Nat) (o y:Oper),ops[i]?=some o->ops[j]?=some y->j<i->(NR ops o y=true\/NR ops y o=true)->xm ops i j):=by
 have M:∀(i:Nat) (o:Oper),ops[i]?=some o->(o,i)∈ops.toList.zipIdx:=λi o e=>by
  rw[ahv];exact⟨i,by simp[e]⟩
 unfold iz at h;rw[af9]at h
 constructor
 ·intro i o e a q
  have:=h _ (M i o e);simp only[age]at this;have:=af9.1 this.1 a q;simpa using this
 ·intro i j o y e A b R
  have:=h _ (M i o e);simp only[age]at this;have:=af9.1 this.2 _ (M j y A);simp only[agJ,decide_eq_true_eq,ahg,ahZ]at this;rcases this with(O |O)|O;omega;rw[O.1,O.2]at R;simp at R;exact O
theorem uH(h:level ops (before ops) i=2)(e:ops[j]?=some o)(R:cI o.op=true):j=i\/xm ops i j\/xm ops j i:=by
 unfold level at h
 split at h
 ·rename_i b
  have:=af9.1 b (o,j) (by rw[ahv];exact⟨j,by simp[e]⟩);simp only[R,ah6,ahN,um,agJ,beq_iff_eq]at this;rcases this with(O |O)|O;exact .inl O.symm;exact .inr (.inl O);exact .inr (.inr O)
 cases h
theorem uz(J:iz ops=true):∀(i j:Nat),xm ops i j->j<i:=by
 intro i
 induction i using Nat.strongRecOn with
 |ind i P=>
  intro j h
  obtain⟨o,O,e,X,Q⟩:=An h;have:=(fU J).1 i o O e X;rcases Q with rfl |Q;exact this;have:=P e.on this j Q;omega
theorem JA(J:iz ops=true){E:Nat->Bool}(R:∀(i:Nat) (o:Oper),ops[i]?=some o->E i=true->∀e∈I6 o,E e.on=true):∀(i j:Nat),E i=true->xm ops i j->E j=true:=by
 intro i
 induction i using Nat.strongRecOn with
 |ind i P=>
  intro j B h
  obtain⟨o,O,e,X,Q⟩:=An h;have A:=(fU J).1 i o O e X;have q:=R i o O B e X;rcases Q with rfl |Q;exact q;exact P e.on A j q Q
theorem xz(h1:Z<=h.length)(X:P.length=h.length - Z):(cO e Z P h).length=h.length:=by
 unfold cO;simp;omega
theorem xA{v:List Nat}{ext:ab}(h1:Z<=h.length)(X:P.length=h.length - Z):
  cO e Z (P++v) (h++ext)=cO e Z P h++List.zipWith (λo j=>if e j then o else fE o) ext v:=by
 unfold cO;rw[agX h1,ahj h1,List.zipWith_append yxd,ags]
theorem xB{e A:Nat->Bool}:∀(h:ab) (P:List Nat),(∀j∈P,e j=A j)->List.zipWith (λo j=>if e j then o else fE o) h P=List.zipWith (λo j=>if A j then o else fE o) h P
 |[],P,_=>by simp
 |_::_,[],_=>by simp
 |o::h,j::P,R=>by
  simp only[List.zipWith_cons_cons,R j yxb];rw[xB h P (λk g=>R k (by simp[g]))]
theorem ym{A:Nat->Bool}(R:∀j∈P,e j=A j):cO e Z P h=cO A Z P h:=by
 unfold cO;rw[xB _ _ R]
theorem EG{e:Nat->Bool}:∀(h:ab) (P:List Nat),P.length=h.length->(∀j∈P,e j=true)->List.zipWith (λo j=>if e j then o else fE o) h P=h
 |[],P,_,_=>by simp
 |o::h,[],A,_=>by simp at A
 |o::h,j::P,A,R=>by
  simp only[List.zipWith_cons_cons,R j yxb,if_true];rw[EG h P (by simpa using A) (λk g=>R k (by simp[g]))]
theorem qd(X:P.length=h.length - Z)(R:∀j∈P,e j=true):cO e Z P h=h:=by
 unfold cO;rw[EG _ _ (by simp[X]) R,ahu]
theorem NS(h1:Z<=h.length)(X:P.length=h.length - Z)(V:Nat):
  (cO e Z P h)[V]?=if V<Z then h[V]? else(h[V]?).map λo=>if e (P.getD (V - Z) 0)then o else fE o:=by
 unfold cO
 by_cases t:V<Z
 rw[if_pos t,af8 yxd,agy,if_pos t]
 ·rw[if_neg t,agl yxd];have A:(List.take Z h).length=Z:=by simp;omega
  rw[A,ahR,agP,show Z+(V - Z)=V by omega]
  cases f:h[V]? with
  |none=>simp
  |some o=>
   have:=ag f;have H:P[V - Z]?=some (P[V - Z]' yxa):=agd yxa;simp[H]
section
variable{C:cA}{run:hZ}{ops:Array Oper}
theorem nO:∀(l:List Oper) (k:Nat) (x y:zd),dQ C run ops (before ops) k l x=some y->
  ∃z:Nat->zd,z k=x/\(∀(i:Nat) (o:Oper),l[i]?=some o->cM C run ops (before ops) (k+i) o (z (k+i))=some (z (k+i+1)))/\z (k+l.length)=y
 |[],k,x,y,e=>by
  simp[dQ]at e;exact⟨λ_=>x,rfl,λi o h=>by simp at h,by simpa using e⟩
 |o::l,k,x,y,e=>by
  simp only[dQ]at e
  split at e
  ·rename_i d U
   obtain⟨z,W,Y,S⟩:=nO l (k+1) d y e;refine⟨λj=>if j<=k then x else z j,by simp,?_,?_⟩
   ·intro i a f
    cases i with
    |zero=>
     simp at f;subst f;simp[W,U]
     intro R;omega
    |succ i=>
     have:=Y i a (by simpa using f);have D:¬(k+(i+1)<=k):=by omega
     have N:¬(k+(i+1)+1<=k):=by omega
     simp only[D,N,if_false];rw[show k+(i+1)=k+1+i by omega];exact this
   ·have D:¬(k+(o::l).length<=k):=by simp
    simp only[D,if_false];rw[<-S];congr 1;simp;omega
  cases e
inductive C8(C:cA)(run:hZ)(ops:Array Oper)(i:Nat)(o:Oper)(x y:zd):Prop
 |off:bC ops o x.s.Y=some false->y=⟨⟨bZ x.s.Y o.dst .undef,x.s.h⟩,x.L0,x.own⟩->C8 C run ops i o x y
 |plain (r:PV) (h1:ab):bC ops o x.s.Y=some true->cI o.op=false->ar C run 1 o.op x.s.Y x.s.h=some (r,h1)->y=⟨⟨bZ x.s.Y o.dst r,x.s.h⟩,x.L0,x.own⟩->C8 C run ops i o x y
 |two (r:PV) (h':ab):bC ops o x.s.Y=some true->cI o.op=true->level ops (before ops) i=2->ar C run 2 o.op x.s.Y x.s.h=some (r,h')->y=⟨⟨bZ x.s.Y o.dst r,h'⟩,h'.length,[]⟩->C8 C run ops i o x y
 |one (r:PV) (ext:ab):bC ops o x.s.Y=some true->cI o.op=true->level ops (before ops) i≠2->br (cO ((before ops).getD i 0).testBit x.L0 x.own x.s.h)=true->
   (∀z∈o.op.operands.toList,bq (bj (cO ((before ops).getD i 0).testBit x.L0 x.own x.s.h)) (ev x.s.Y z)=true)->
   ar C run 1 o.op x.s.Y (cO ((before ops).getD i 0).testBit x.L0 x.own x.s.h)=some (r,cO ((before ops).getD i 0).testBit x.L0 x.own x.s.h++ext)->
   (∀o∈ext,o.mu≠.l)->y=⟨⟨bZ x.s.Y o.dst r,x.s.h++ext⟩,x.L0,x.own++List.replicate ext.length i⟩->C8 C run ops i o x y
theorem Yc{x y:zd}(h1:x.L0<=x.s.h.length)(X:x.own.length=x.s.h.length - x.L0)(e:cM C run ops (before ops) i o x=some y):C8 C run ops i o x y:=by
 unfold cM at e
 split at e
 ·rename_i H
  split at e
  ·rename_i R
   split at e
   ·rename_i r U J;exact .plain r U H R J (af7 e).symm
   cases e
  ·rename_i R
   have b:cI o.op=true:=by simpa using R
   split at e
   ·rename_i A
    split at e
    ·rename_i r d J;exact .two r d H b A J (af7 e).symm
    cases e
   ·rename_i A
    simp only at e
    split at e
    ·rename_i G
     split at e
     ·rename_i r d J
      obtain⟨ext,rfl⟩:=Np (agb 1) J
      have f:(cO ((before ops).getD i 0).testBit x.L0 x.own x.s.h++ext).drop x.s.h.length=ext:=by
       rw[<-xz (e:=((before ops).getD i 0).testBit) h1 X,List.drop_left]
      rw[f]at e
      split at e
      ·rename_i a
       exact .one r ext H b A G.1 (λz M=>af9.1 G.2 z M) J (λo g=>by simpa using af9.1 a o g) (af7 e).symm
      cases e
     cases e
    cases e
 ·rename_i H;exact .off H (af7 e).symm
 cases e
end
variable[iD:Inhabited Prop]
structure Lex(C:cA)(run:hZ)(ops:Array Oper)(tr:Nat->zd):Prop where
 ok:iz ops=true
 st:∀(i:Nat) (o:Oper),ops[i]?=some o->cM C run ops (before ops) i o (tr i)=some (tr (i+1))
 h0:(tr 0).L0<=(tr 0).s.h.length
 o0:(tr 0).own=[]/\(tr 0).L0=(tr 0).s.h.length
def IV(ops:Array Oper)(z:Nat->zd)(j:Nat):Prop:=∃o,ops[j]?=some o/\cI o.op=true/\bC ops o (z j).s.Y=some true
variable{C:cA}{run:hZ}{ops:Array Oper}{tr:Nat->zd}
theorem pW(h:k<ops.size):∃o,ops[k]?=some o:=⟨ops[k],ahc h⟩
theorem Lex.wf(L:Lex C run ops tr):∀k,k<=ops.size->(tr k).L0<=(tr k).s.h.length/\(tr k).own.length=(tr k).s.h.length - (tr k).L0/\∀j∈(tr k).own,j<k/\IV ops tr j:=by
 intro k
 induction k with
 |zero=>
  intro _
  obtain⟨O,X⟩:=L.o0;rw[O,X];exact⟨agb _,by simp,λj M=>by cases M⟩
 |succ k P=>
  intro g
  obtain⟨O,X,Q⟩:=P yxa;obtain⟨o,f⟩:=pW (ops:=ops) (k:=k) yxa;have n:∀j∈(tr k).own,j<k+1/\IV ops tr j:=λj M=>⟨by have:=(Q j M).1;omega,(Q j M).2⟩
  cases Yc O X (L.st k o f)with
  |off _ F=>rw[F];exact⟨O,X,n⟩
  |plain r U _ _ _ F=>rw[F];exact⟨O,X,n⟩
  |two r d _ _ _ _ F=>rw[F];exact⟨agb _,by simp,λj M=>by cases M⟩
  |one r ext H R _ _ _ _ _ F=>
   rw[F];refine⟨by simp;omega,by simp;omega,λj M=>?_⟩;rcases agh.1 M with M |M;exact n j M
   ·obtain⟨_,rfl⟩:=ahq.1 M;exact⟨by omega,o,f,R,H⟩
theorem Lex.view(L:Lex C run ops tr)(f:ops[k]?=some o):C8 C run ops k o (tr k) (tr (k+1)):=by
 have g:k<ops.size:=(agw.1 f).1;obtain⟨O,X,_⟩:=L.wf k yxa;exact Yc O X (L.st k o f)
theorem Lex.rho(L:Lex C run ops tr)(f:ops[k]?=some o):∃r,(tr (k+1)).s.Y=bZ (tr k).s.Y o.dst r:=by
 cases L.view f with
 |off _ F=>exact⟨_,by rw[F]⟩
 |plain r U _ _ _ F=>exact⟨_,by rw[F]⟩
 |two r d _ _ _ _ F=>exact⟨_,by rw[F]⟩
 |one r ext H R _ _ _ _ _ F=>exact⟨_,by rw[F]⟩
theorem _root_.zaq{P:Prop}(h:P:=by
 induction k with
 |zero=>intro O _ _;obtain rfl:i=0:=yxa;rfl
 |succ k P=>
  intro O X Q
  by_cases B:i=k+1
  subst B;rfl
  ·obtain⟨o,f⟩:=pW (ops:=ops) (k:=k) yxa;obtain⟨r,z⟩:=L.rho f;rw[z,oS,if_neg (Q k o yxa yxa f)];exact P yxa yxa (λj y a b c=>Q j y a yxa c)):P:=h
theorem Lex.ko(L:Lex C run ops tr){t:Nat}:∀k,i<=k->k<=ops.size->(∀j o,i<=j->j<k->ops[j]?=some o->o.dst≠some t)->(tr k).s.Y t=(tr i).s.Y t:=by
 intro k
 exact zaq
theorem Lex.phase(L:Lex C run ops tr):∀k,i<=k->k<=ops.size->(∀j,i<=j->j<k->¬(IV ops tr j/\level ops (before ops) j=2))->
  ∃ext v,(tr k).s.h=(tr i).s.h++ext/\(tr k).L0=(tr i).L0/\(tr k).own=(tr i).own++v/\v.length=ext.length/\∀j∈v,i<=j:=by
 intro k
 induction k with
 |zero=>intro O _ _;obtain rfl:i=0:=yxa;exact⟨[],[],by simp,rfl,by simp,rfl,λj M=>by cases M⟩
 |succ k g=>
  intro O X Q
  by_cases B:i=k+1
  subst B;exact⟨[],[],by simp,rfl,by simp,rfl,λj M=>by cases M⟩
  ·obtain⟨ext,v,D,N,P,d,e⟩:=g yxa yxa (λj a b=>Q j a yxa);obtain⟨o,f⟩:=pW (ops:=ops) (k:=k) yxa
   cases L.view f with
   |off _ F=>rw[F];exact⟨ext,v,D,N,P,d,e⟩
   |plain r U _ _ _ F=>rw[F];exact⟨ext,v,D,N,P,d,e⟩
   |two r n H R A _ F=>exact absurd ⟨⟨o,f,R,H⟩,A⟩ (Q k yxa yxa)
   |one r q H R _ _ _ _ _ F=>
    rw[F];refine⟨ext++q,v++List.replicate q.length k,by simp[D],N,by simp[P],by simp[d],λj M=>?_⟩;rcases agh.1 M with M |M;exact e j M;obtain⟨_,rfl⟩:=ahq.1 M;omega
def Kh(z:Nat->zd)(E:Nat->Bool)(k:Nat):ab:=cO E (z k).L0 (z k).own (z k).s.h
structure Cq(ops:Array Oper)(tr:Nat->zd)(N:Nat)(F:Nat->Prop)(w0:World)(h0:ab)(Z0:List (Nat×Nat))(E:Nat->Bool)(a:Act)(w:World)(k:Nat)(Y:Nat->PV)(Z:List (Nat×Nat)):Prop where
 kn:k<=ops.size
 lo:∀j,IV ops tr j->E j=true->j<k
 hi:∀j,IV ops tr j->level ops (before ops) j=2->j<k->E j=true
 base:h0.length<=(tr k).L0
 hr:bp w F Z (Kh tr E k)
 er:iA w (Av F (Kh tr E k) Z) Z (Kh tr E k) a Y
 rh:∀t k',k'<=ops.size->(∀j o,ops[j]?=some o->o.dst=some t->(E j=true↔j<k'))->Y t=(tr k').s.Y t
 sp:eN w0 h0 Z0 w (Kh tr E k) Z
 df:a.defers=[]
 sz:N<=a.tmps.size
variable{N:Nat}{F:Nat->Prop}{w0:World}{h0:ab}{Z0:List (Nat×Nat)}{E:Nat->Bool}{a:Act}{w:World}
theorem Cq.aeF(L:Lex C run ops tr){Z:List (Nat×Nat)}(D:Cq ops tr N F w0 h0 Z0 E a w k Y Z)(g:k<ops.size)(hn:¬(IV ops tr k/\level ops (before ops) k=2)):
  ∃q,Cq ops tr N F w0 h0 Z0 E a w (k+1) Y q:=by
 obtain⟨o,f⟩:=pW (ops:=ops) g
 have Q:IV ops tr k->E k=false:=λz=>by
  cases S:E k with
  |false=>rfl
  |true=>have:=D.lo k z S;omega
 have A:∀j,IV ops tr j->E j=true->j<k+1:=λj O X=>by have:=D.lo j O X;omega
 have e:∀j,IV ops tr j->level ops (before ops) j=2->j<k+1->E j=true:=λj O X h3=>by
  by_cases U:j=k
  subst U;exact absurd ⟨O,X⟩ hn;exact D.hi j O X yxa
 have u:(tr (k+1)).s.h=(tr k).s.h->(tr (k+1)).L0=(tr k).L0->(tr (k+1)).own=(tr k).own->∃q,Cq ops tr N F w0 h0 Z0 E a w (k+1) Y q:=λM d P=>by
  have n:Kh tr E (k+1)=Kh tr E k:=by unfold Kh;rw[M,d,P]
  exact⟨Z,⟨g,A,e,by rw[d];exact D.base,by rw[n];exact D.hr,by rw[n];exact D.er,D.rh,by rw[n];exact D.sp,D.df,D.sz⟩⟩
 cases L.view f with
 |off _ b=>exact u (by rw[b]) (by rw[b]) (by rw[b])
 |plain r hx _ _ _ b=>exact u (by rw[b]) (by rw[b]) (by rw[b])
 |two r h' H R V _ b=>exact absurd ⟨⟨o,f,R,H⟩,V⟩ hn
 |one r ext H R _ _ _ _ _ b=>
  obtain⟨W,w2,_⟩:=L.wf k yxa;have G:=Q ⟨o,f,R,H⟩
  have n:Kh tr E (k+1)=Kh tr E k++List.zipWith (λo j=>if E j then o else fE o) ext (List.replicate ext.length k):=by
   unfold Kh;rw[b];exact xA W w2
  have J:∀o∈List.zipWith (λo j=>if E j then o else fE o) ext (List.replicate ext.length k),o.mu=.x:=by
   intro o f
   obtain⟨i,B⟩:=ahB f;rw[ahR]at B
   cases O:ext[i]? with
   |none=>rw[O]at B;simp at B
   |some y=>
    have K:=ag O;rw[O,show(List.replicate ext.length k)[i]?=some k by simp[K]]at B;simp[G]at B;subst B
    rfl
  obtain⟨v,t⟩:=D.hr.pad (List.zipWith (λo j=>if E j then o else fE o) ext (List.replicate ext.length k)) (List.replicate ext.length (0,0)) yxb J;rw[<-n]at v t;refine⟨_,⟨g,A,e,by rw[b];exact D.base,v,D.er.mono t,D.rh,D.sp.trans t,D.df,D.sz⟩⟩
theorem Cq.Vk(L:Lex C run ops tr){Y:Nat->PV}:∀(d:Nat) {k:Nat} {Z:List (Nat×Nat)},Cq ops tr N F w0 h0 Z0 E a w k Y Z->k+d<=ops.size->(∀j,k<=j->j<k+d->¬(IV ops tr j/\level ops (before ops) j=2))->
  ∃q,Cq ops tr N F w0 h0 Z0 E a w (k+d) Y q
 |0,k,Z,D,_,_=>⟨Z,D⟩
 |d+1,k,Z,D,O,X=>by
  obtain⟨J,u⟩:=D.aeF L yxa (X k (agb _) yxa);obtain⟨g,e⟩:=Cq.Vk L d u yxa (λj a b=>X j yxa yxa);exact⟨g,by rw[show k+(d+1)=k+1+d by omega];exact e⟩
end Go.Pm
namespace Go.Pm
variable{o:Oper}{i k t:Nat}{Y:Nat->PV}{Z:List (Nat×Nat)}{r:PV}{Q:Exit->Act->World->Prop}
variable[iD:Inhabited Prop]
variable{C:cA}{run:hZ}{ops:Array Oper}{tr:Nat->zd}
variable{N:Nat}{F:Nat->Prop}{w0:World}{h0:ab}{Z0:List (Nat×Nat)}{E E':Nat->Bool}{a:Act}{w:World}
def Ao(ops:Array Oper)(z:Nat->zd)(N:Nat)(F:Nat->Prop)(w0:World)(h0:ab)(Z0:List (Nat×Nat))(E:Nat->Bool)(a:Act)(w:World):Prop:=∃k Y Z,Cq ops z N F w0 h0 Z0 E a w k Y Z
theorem pX{y:Oper}(h1:y.dst=some t)(X:t∈o.looksAt ops\/o.dst=some t):NR ops o y=true:=by
 unfold NR;rw[h1];rcases X with X |X;simp[X];simp[X]
structure Eo(ops:Array Oper)(E E':Nat->Bool)(i:Nat)(o:Oper):Prop where
 at_:ops[i]?=some o
 out:E i=false
 Ep:∀j,xm ops i j->E j=true
 cl:∀i j,E i=true->xm ops i j->E j=true
 oD:∀j,E' j=true↔E j=true\/j=i
theorem Eo.later{j:Nat}(R:Eo ops E E' i o)(h:xm ops j i):E j=false:=by
 cases q:E j with
 |false=>rfl
 |true=>have:=R.cl j i q h;rw[R.out]at this;cases this
theorem Cq.look(L:Lex C run ops tr)(D:Cq ops tr N F w0 h0 Z0 E a w k Y Z)(R:Eo ops E E' i o)(d:t∈o.looksAt ops):Y t=(tr i).s.Y t:=by
 have B:i<ops.size:=(agw.1 R.at_).1;refine D.rh t i yxa (λj y M J=>?_);rcases aib j i with h |h |h;exact⟨λ_=>h,λ_=>R.Ep j ((fU L.ok).2 i j o y R.at_ M h (.inl (pX J (.inl d))))⟩;subst h;rw[R.out];simp
 ·have:=R.later ((fU L.ok).2 j i y o M R.at_ h (.inr (pX J (.inl d))));rw[this]
  constructor
  intro b;cases b
  intro b;omega
theorem Cq.PR(L:Lex C run ops tr)(D:Cq ops tr N F w0 h0 Z0 E a w k Y Z)(R:Eo ops E E' i o):∀x∈o.op.operands.toList,ev Y x=ev (tr i).s.Y x:=by
 intro x U
 cases x with
 |tmp t=>exact D.look L R (ahX _ (List.mem_filterMap.2 ⟨.tmp t,U,rfl⟩))
 |_=>rfl
theorem Cq.CS(L:Lex C run ops tr)(D:Cq ops tr N F w0 h0 Z0 E a w k Y Z)(R:Eo ops E E' i o):bC ops o Y=bC ops o (tr i).s.Y:=by
 unfold bC
 cases b:o.guard with
 |none=>rfl
 |some e=>
  obtain⟨j,t⟩:=e;simp only
  cases J:(ops.toList[j]?).bind (·.dst)with
  |none=>rfl
  |some d=>
   have V:(ops[j]?).bind (·.dst)=some d:=by simpa using J
   have:Y d=(tr i).s.Y d:=D.look L R (aiy _ (by simp[b,V]));simp only[this]
theorem Cq.rh'(L:Lex C run ops tr)(D:Cq ops tr N F w0 h0 Z0 E a w k Y Z)(R:Eo ops E E' i o)(z:(tr (i+1)).s.Y=bZ (tr i).s.Y o.dst r):
  ∀t B,B<=ops.size->(∀j o,ops[j]?=some o->o.dst=some t->(E' j=true↔j<B))->bZ Y o.dst r t=(tr B).s.Y t:=by
 intro t B g H
 rw[oS]
 split
 ·rename_i b
  have e:i<B:=(H i o R.at_ b).1 ((R.oD i).2 (.inr rfl));rw[L.ko (t:=t) (i:=i+1) B e g (λj y O X Q G=>?_),z,oS,if_pos b];have q:=(H j y Q G).2 X;rcases(R.oD j).1 q with q |q
  ·rw[R.later ((fU L.ok).2 j i y o Q R.at_ yxa (.inl (pX b (.inr G))))]at q
   cases q
  omega
 ·rename_i b
  refine D.rh t B g (λj y O X=>?_)
  have d:j≠i:=by
   rintro rfl;rw[R.at_]at O;obtain rfl:=af7 O;exact b X
  rw[<-H j y O X,R.oD];simp[d]
theorem Cq.still(L:Lex C run ops tr)(D:Cq ops tr N F w0 h0 Z0 E a w k Y Z)(R:Eo ops E E' i o)(J:fN N o=true)(hn:¬IV ops tr i)
  {r:PV} (z:(tr (i+1)).s.Y=bZ (tr i).s.Y o.dst r) {v:Value} (d:aG w (Av F (Kh tr E k) Z) Z (Kh tr E k) v r):Ao ops tr N F w0 h0 Z0 E' (a.put o.dst v) w:=by
 have n:Kh tr E' k=Kh tr E k:=by
  unfold Kh;refine ym (λj M=>?_)
  have b:j≠i:=by
   rintro rfl;exact hn ((L.wf k D.kn).2.2 j M).2
  have:=R.oD j;simp only[b,or_false]at this
  cases O:E j <;>cases X:E' j <;>simp_all
 refine⟨k,bZ Y o.dst r,Z,D.kn,?_,?_,D.base,by rw[n];exact D.hr,by rw[n];exact D.er.put (fp J D.sz) d,D.rh' L R z,by rw[n];exact D.sp,by rw[cE];exact D.df,by rw[eD];exact D.sz⟩
 ·intro j O X
  rcases(R.oD j).1 X with X |rfl;exact D.lo j O X;exact absurd O hn
 ·intro j O X Q
  exact(R.oD j).2 (.inl (D.hi j O X Q))
theorem aG.Q7{A:Nat->Prop}{M:ab}{v:Value}{p:PV}(f:Nat->Bool)(h:bq f p=true->aG w A Z M v p):aG w A Z M v (if bq f p then p else .any):=by
 split
 ·rename_i J;exact h J
 exact .any v
theorem Ao.step(K:dn C)(S:dJ C run)(L:Lex C run ops tr)(D:Ao ops tr N F w0 h0 Z0 E a w)(R:Eo ops E E' i o)(hd:fN N o=true)
  {Q:Exit->Act->World->Prop} {next:Act->World->Prop} (hK:∀a' w',Ao ops tr N F w0 h0 Z0 E' a' w'->next a' w'):wpOp C.P ops Q i next a w:=by
 obtain⟨k,Y,Z,D⟩:=D;have hi:i<ops.size:=(agw.1 R.at_).1;have mK:=D.CS L R;have vF:=D.PR L R;have jm:∀lv h,ar C run lv o.op Y h=ar C run lv o.op (tr i).s.Y h:=λlv h=>lZ vF
 unfold wpOp;rw[R.at_];simp only;obtain⟨J,z,wf3⟩:=L.wf i yxa
 cases L.view R.at_ with
 |off H A=>
  rw[dg D.er yxn,if_neg yxb];refine hK _ _ (D.still L R hd ?_ (by rw[A]) .undef);rintro⟨o',O,X,f⟩;rw[R.at_]at O;obtain rfl:=af7 O;rw[H]at f;cases f
 |plain r hx H hh hv A=>
  rw[dg D.er yxn,if_pos rfl];refine .inl ?_
  have hn:¬IV ops tr i:=by
   rintro⟨o',O,X,f⟩;rw[R.at_]at O;obtain rfl:=af7 O;rw[hh]at X;cases X
  have e:ar C run 1 o.op Y (Kh tr E k)=some (r,Kh tr E k):=by
   rw[jm];exact oP hh hv
  refine gX K S D.hr D.er e (λv w' Z' q1 q2 q3 q4=>?_);have G:=q4 (agb 1);have D':Cq ops tr N F w0 h0 Z0 E a w' k Y Z':=⟨D.kn,D.lo,D.hi,D.base,q2,D.er.mono q3,D.rh,D.sp.trans q3,D.df,D.sz⟩;exact hK _ _ (D'.still L R hd hn (by rw[A]) q1)
 |two r h' H hh hl hv A=>
  rw[dg D.er yxn,if_pos rfl];refine .inl ?_;have Ji:IV ops tr i:=⟨o,R.at_,hh,H⟩
  have Vl:k<=i:=by
   rcases agM i k with h |h;have:=D.hi i Ji hl h;rw[R.out]at this;cases this;exact h
  have g:∀j,IV ops tr j->j<i->E j=true:=λj n cK=>by
   obtain⟨oj,g1,g2,_⟩:=n;rcases uH hl g1 g2 with h |h |h;omega;exact R.Ep j h;have:=uz L.ok j i h;omega
  obtain⟨Z1,D1⟩:=D.Vk L (i - k) yxa (λj O X f=>by
   have:=D.lo j f.1 (g j f.1 yxa);omega)
  rw[show k+(i - k)=i by omega]at D1;have hKi:Kh tr E i=(tr i).s.h:=qd z (λj n=>g j (wf3 j n).2 (wf3 j n).1);have hr1:=D1.hr;have er1:=D1.er;have sp1:=D1.sp;rw[hKi]at hr1 er1 sp1;refine gX K S hr1 er1 (by rw[jm];exact hv) (λv w' Z' q1 q2 q3 q4=>hK _ _ ?_)
  have ZD:Kh tr E' (i+1)=h':=by
   unfold Kh;rw[A];exact qd yxb (λj n=>by cases n)
  refine⟨i+1,bZ Y o.dst r,Z',by omega,?_,?_,?_,by rw[ZD];exact q2,by rw[ZD];exact(er1.mono q3).put (fp hd D.sz) q1,D.rh' L R (by rw[A]),by rw[ZD];exact sp1.trans q3,by rw[cE];exact D.df,by rw[eD];exact D.sz⟩
  ·intro j O X
   rcases(R.oD j).1 X with X |rfl;have:=D1.lo j O X;omega;omega
  ·intro j O X f
   by_cases n:j=i
   exact(R.oD j).2 (.inr n);exact(R.oD j).2 (.inl (g j O yxa))
  ·rw[A];have:=(sp1.trans q3).len;exact this
 |one r ext H hh hl eW NJ hv B8 A=>
  rw[dg D.er yxn,if_pos rfl];refine .inl ?_;have Ji:IV ops tr i:=⟨o,R.at_,hh,H⟩
  obtain⟨k,Z,D,F3⟩:∃k Z,Cq ops tr N F w0 h0 Z0 E a w k Y Z/\i<k:=by
   rcases agM i k with h |h;exact⟨k,Z,D,h⟩
   ·obtain⟨Z1,D1⟩:=D.Vk L (i+1 - k) yxa (λj O X f=>by
     obtain⟨⟨oj,g1,g2,g3⟩,g4⟩:=f
     by_cases n:j=i
     subst n;exact hl g4
     ·rcases uH g4 R.at_ hh with B |B |B
      ·omega
      ·have:=uz L.ok j i B;omega
      ·have:=D.lo j ⟨oj,g1,g2,g3⟩ (R.Ep j B);omega)
    exact⟨i+1,Z1,by rw[show i+1=k+(i+1 - k) by omega];exact D1,by omega⟩
  have NF:∀j,i+1<=j->j<k->¬(IV ops tr j/\level ops (before ops) j=2):=λj O X f=>by
   have he:=D.hi j f.1 f.2 X;rcases uH f.2 R.at_ hh with B |B |B;omega;rw[R.later B]at he;cases he;have:=uz L.ok i j B;omega
  obtain⟨QZ,vT,p1,p2,p3,p4,p5⟩:=L.phase k F3 D.kn NF;rw[A]at p1 p2 p3;simp only at p1 p2 p3
  have wfx:(tr i).L0<=((tr i).s.h++ext).length/\((tr i).own++List.replicate ext.length i).length=((tr i).s.h++ext).length - (tr i).L0:=by
   refine⟨by simp;omega,by simp;omega⟩
  have hKE:∀e:Nat->Bool,Kh tr e k=cO e (tr i).L0 (tr i).own (tr i).s.h++List.zipWith (λo j=>if e j then o else fE o) ext (List.replicate ext.length i)++List.zipWith (λo j=>if e j then o else fE o) QZ vT:=λe=>by
   unfold Kh;rw[p1,p2,p3,xA wfx.1 wfx.2,xA J z]
  have ZZ:∀j∈(tr i).own,E j=E' j:=λj n=>by
   have B0:j≠i:=by have:=(wf3 j n).1;omega
   have:=R.oD j;simp only[B0,or_false]at this
   cases O:E j <;>cases X:E' j <;>simp_all
  have jB:∀j∈vT,E j=E' j:=λj n=>by
   have B0:j≠i:=by have:=p5 j n;omega
   have:=R.oD j;simp only[B0,or_false]at this
   cases O:E j <;>cases X:E' j <;>simp_all
  have hA:=hKE E;have hB:=hKE E';rw[<-ym ZZ,<-xB QZ vT jB,EG (e:=E') ext (List.replicate ext.length i) yxb (λj n=>by obtain⟨_,rfl⟩:=ahq.1 n;exact(R.oD j).2 (.inr rfl))]at hB;have U:(cO E (tr i).L0 (tr i).own (tr i).s.h).length=(tr i).s.h.length:=xz J z;have u:(cO ((before ops).getD i 0).testBit (tr i).L0 (tr i).own (tr i).s.h).length=(tr i).s.h.length:=xz J z;have ko:(List.zipWith (λo j=>if E j then o else fE o) ext (List.replicate ext.length i)).length=ext.length:=by simp
  have JB:∀V,V<(tr i).s.h.length->(Kh tr E k)[V]?=(cO E (tr i).L0 (tr i).own (tr i).s.h)[V]?:=λV bL=>by
   rw[hA,ags,af8 yxa]
  have hM:∀(V:Nat) (o:ax),(cO ((before ops).getD i 0).testBit (tr i).L0 (tr i).own (tr i).s.h)[V]?=some o->o.mu≠.x->(Kh tr E k)[V]?=some o:=by
   intro V o q e2
   have bL:V<(tr i).s.h.length:=by have:=ag q;omega
   rw[JB V bL];rw[NS J z]at q ⊢
   split at q
   ·rename_i yM;rw[if_pos yM];exact q
   ·rename_i yM
    rw[if_neg yM]
    cases ho:(tr i).s.h[V]? with
    |none=>rw[ho]at q;cases q
    |some o1=>
     rw[ho]at q;simp only[ago,agx]at q ⊢
     split at q
     ·rename_i W
      rw[if_pos (R.Ep _ W)];exact q
     subst q;exact absurd rfl e2
  obtain⟨HM,VM⟩:=D.hr.part (M:=cO ((before ops).getD i 0).testBit (tr i).L0 (tr i).own (tr i).s.h) (by rw[u,hA];simp[U]) hM eW
  have erM:iA w (Av (Fp F Z (Kh tr E k) (cO ((before ops).getD i 0).testBit (tr i).L0 (tr i).own (tr i).s.h)) (cO ((before ops).getD i 0).testBit (tr i).L0 (tr i).own (tr i).s.h) (Z.take (cO ((before ops).getD i 0).testBit (tr i).L0 (tr i).own (tr i).s.h).length))
    (Z.take (cO ((before ops).getD i 0).testBit (tr i).L0 (tr i).own (tr i).s.h).length) (cO ((before ops).getD i 0).testBit (tr i).L0 (tr i).own (tr i).s.h) a
    (λt=>if bq (bj (cO ((before ops).getD i 0).testBit (tr i).L0 (tr i).own (tr i).s.h)) (Y t)then Y t else .any):=λt=>aG.Q7 _ (λhv=>VM _ _ (D.er t) hv)
  have eM:ar C run 1 o.op (λt=>if bq (bj (cO ((before ops).getD i 0).testBit (tr i).L0 (tr i).own (tr i).s.h)) (Y t)then Y t else .any) (cO ((before ops).getD i 0).testBit (tr i).L0 (tr i).own (tr i).s.h)=
    some (r,cO ((before ops).getD i 0).testBit (tr i).L0 (tr i).own (tr i).s.h++ext):=by
   rw[<-hv];refine lZ (λx hx=>?_);have O:=NJ x hx;have X:=vF x hx
   cases x with
   |tmp t=>
    simp only[ev]at O X ⊢;rw[X,if_pos O]
   |_=>rfl
  refine gX K S HM erM eM (λv w' Z1 q1 q2 q3 q4=>hK _ _ ?_);have G:=q4 (agb 1)
  have cK:∀V,(tr i).s.h.length<=V->V<(tr i).s.h.length+ext.length->(Kh tr E k)[V]?=(List.zipWith (λo j=>if E j then o else fE o) ext (List.replicate ext.length i))[V - (tr i).s.h.length]?/\(Kh tr E' k)[V]?=ext[V - (tr i).s.h.length]?:=λV O X=>by
   constructor
   rw[hA,af8 (by rw[agf,U,ko];omega),agl yxa,U];rw[hB,af8 (by rw[agf,U];omega),agl yxa,U]
  obtain⟨Z',m1,m2,m3,m4,m5,m6⟩:=D.hr.merge (h':=Kh tr E' k) (by rw[u,hA];simp[U]) hM q2 q3 G B8 (by rw[hA,hB];simp)
   (λV O X=>by rw[u]at O X ⊢;exact(cK V O X).2)
   (λV O=>by
    rw[u]at O;rcases O with O |O;rw[JB V O,hB,ags,af8 yxa]
    ·rw[hA,hB,agl (by rw[agf,U];omega),agl (by rw[agf,U,ko];omega)];simp)
   (λV o O X f=>by
    rw[u]at O X;rw[(cK V O X).1,ahR]at f
    cases h4:ext[V - (tr i).s.h.length]? with
    |none=>rw[h4]at f;simp at f
    |some y=>
     have:=ag h4;rw[h4,show(List.replicate ext.length i)[V - (tr i).s.h.length]?=some i by simp[this]]at f;simp[R.out]at f;subst f
     rfl)
  have LN:h0.length<=(tr i).s.h.length:=by
   have:=D.base;rw[p2]at this;omega
  refine⟨k,bZ Y o.dst r,Z',D.kn,?_,?_,D.base,m1,?_,D.rh' L R (by rw[A]),?_,by rw[cE];exact D.df,by rw[eD];exact D.sz⟩
  ·intro j O X
   rcases(R.oD j).1 X with X |rfl;exact D.lo j O X;exact F3
  ·intro j O X f
   exact(R.oD j).2 (.inl (D.hi j O X f))
  exact iA.put (λt=>(D.er t).UJ m2 (λb W _=>G.ba b W) m3) (fp hd D.sz) (m6 _ _ q1)
  ·refine⟨agI D.sp.size G.size,?_,?_,?_,D.sp.refs.trans m2,?_,G.os.trans D.sp.os,G.tape.trans D.sp.tape,G.output.trans D.sp.output,λd=>agI (D.sp.drawn d) (G.drawn d)⟩
   ·have O:=D.sp.len;rw[hA]at O;rw[hB];simp at O ⊢;omega
   ·intro b W hm
    rw[G.ba b (agK W D.sp.size)];exact D.sp.ba b W hm
   ·intro b W hm
    exact D.sp.shr b W (m4 b (agK W D.sp.size) hm)
   ·intro V o q e2
    obtain⟨f1,f2⟩:=D.sp.Ja V o q e2;have bL:V<(tr i).s.h.length:=by have:=ag q;omega
    refine⟨?_,by rw[m5 V (by rw[u];exact bL)];exact f2⟩;rw[<-f1,JB V bL,hB,ags,af8 yxa]
theorem C9{p q:Nat->Bool}:∀(l:List Nat),(∀j∈l,q j=true->p j=true)->(∃i∈l,p i=true/\q i=false)->l.countP q<l.countP p
 |[],_,⟨i,h,_⟩=>by cases h
 |j::l,O,⟨i,X,Q,G⟩=>by
  have a:l.countP q<=l.countP p:=List.countP_mono_left (λj M=>O j (by simp[M]));rcases agi.1 X with rfl |X;rw[ah2,ah2,Q,G];simp;omega
  ·have:=C9 l (λj M=>O j (by simp[M])) ⟨i,X,Q,G⟩;rw[ah2,ah2];have M:=O j yxb
   cases y:q j with
   |false=>simp;omega
   |true=>rw[M y];simp;omega
theorem _root_.zb9{P:Prop}(h:P:=by
 funext t
 refine u.rh t ops.size (agb _) (λj o M _=>?_);have:j<ops.size:=(agw.1 M).1;simp[R j this,this]):P:=h
theorem Ao.done(L:Lex C run ops tr)(D:Ao ops tr N F w0 h0 Z0 E a w)(R:∀j,j<ops.size->E j=true):∃Z,SR N w F Z (tr ops.size).s a/\eN w0 h0 Z0 w (tr ops.size).s.h Z:=by
 obtain⟨k,Y,Z,D⟩:=D
 obtain⟨J,u⟩:=D.Vk L (ops.size - k) (by have:=D.kn;omega) (λj O X Q=>by
  have:=D.lo j Q.1 (R j (by have:=D.kn;omega));omega)
 rw[show k+(ops.size - k)=ops.size by have:=D.kn;omega]at u;obtain⟨i,b,y⟩:=L.wf ops.size (agb _);have n:Kh tr E ops.size=(tr ops.size).s.h:=qd b (λj M=>R j (y j M).1)
 have q:Y=(tr ops.size).s.Y:=by
  exact zb9
 have O:=u.hr;have X:=u.er;have Q:=u.sp;rw[n]at O X Q;rw[q]at X;exact⟨J,⟨O,X,u.df,u.sz⟩,Q⟩
theorem td(ok:iz ops=true)(n:(Nat->Bool)->Act->World->Prop)
  (t:∀(E F:Nat->Bool) (a:Act) (w:World) (i:Nat) (o:Oper),n E a w->Eo ops E F i o->∀next:Act->World->Prop,(∀u w',n F u w'->next u w')->wpOp C.P ops Q i next a w)
  (v:∀(E:Nat->Bool) (a:Act) (w:World),n E a w->(∀j,j<ops.size->E j=true)->Q .normal a w):
  ∀(H:Nat) (g:Array Bool) (a:Act) (w:World),g.size=ops.size->(∀(i:Nat) (o:Oper),ops[i]?=some o->g.getD i false=true->∀e∈I6 o,g.getD e.on false=true)->
   (List.range ops.size).countP (λj=>!g.getD j false)<=H->n (λj=>g.getD j false) a w->wpAny C.P .any ops Q H g a w:=by
 have b:∀(g:Array Bool),g.size=ops.size->Region.ready .any ops g=[]->∀j,j<ops.size->g.getD j false=true:=by
  intro g S z j
  induction j using Nat.strongRecOn with
  |ind j B=>
   intro M
   obtain⟨o,ho⟩:=pW (ops:=ops) M
   cases A:g.getD j false with
   |true=>rfl
   |false=>
    have U:j∈Region.ready .any ops g:=mem_ready.2 ⟨by simp[S,M]at A ⊢;exact A,o,ho,λe d hb=>by
     have cK:=(fU ok).1 j o ho e (aha.2 ⟨by simpa using d,hb⟩);exact B e.on cK yxa⟩
    rw[z]at U;cases U
 have J:∀(g:Array Bool) (a:Act) (w:World),(∀j,j<ops.size->g.getD j false=true)->n (λj=>g.getD j false) a w->Q .normal a w:=λg a w f D=>v _ a w D f
 intro H
 induction H with
 |zero=>
  intro g a w S G W D
  have f:∀j,j<ops.size->g.getD j false=true:=λj M=>by
   have h0:=List.countP_eq_zero.1 (Nat.le_zero.1 W) j (ais.2 M);simpa using h0
  refine⟨?_,J g a w f D⟩;apply List.eq_nil_iff_forall_not_mem.2
  intro j M
  obtain⟨O,o,X,_⟩:=mem_ready.1 M;have Z:j<ops.size:=(agw.1 X).1;have:=f j Z;simp[S,Z]at O this;rw[O]at this;cases this
 |succ H B=>
  intro g a w S G W D
  refine⟨λz=>J g a w (b g S z) D,λi hi=>?_⟩;obtain⟨O,o,X,h3⟩:=mem_ready.1 hi;have Y:i<ops.size:=(agw.1 X).1;have uu:g.getD i false=false:=by simp[S,Y]at O ⊢;exact O
  have V:=JA ok (E:=λj=>g.getD j false) G
  have R:∀e∈I6 o,g.getD e.on false=true:=λe d=>by
   have:=aha.1 d;exact h3 e (by simpa using this.1) this.2
  have VH:∀j,xm ops i j->g.getD j false=true:=λj M=>by
   obtain⟨o',K,e,N,y⟩:=An M;rw[X]at K;obtain rfl:=af7 K;rcases y with rfl |y;exact R e N;exact V e.on j (R e N) y
  have h:∀j,(g.setIfInBounds i true).getD j false=true↔g.getD j false=true\/j=i:=λj=>by
   by_cases M:i=j
   subst M;simp[S,Y];rw[getD_set_ne false M];simp[agV M]
  refine t _ (λj=>(g.setIfInBounds i true).getD j false) a w i o D ⟨X,uu,VH,V,h⟩ _ (λu w' D'=>?_);refine B (g.setIfInBounds i true) u w' (by simp[S]) (λj o' M A e d=>?_) ?_ D'
  ·refine(h e.on).2 (.inl ?_);rcases(h j).1 A with A |rfl;exact G j o' M A e d
   ·rw[X]at M;obtain rfl:=af7 M;exact R e d
  ·have:=C9 (p:=λj=>!g.getD j false) (q:=λj=>!(g.setIfInBounds i true).getD j false) (List.range ops.size) (λj _ hq=>by
    cases A:g.getD j false with
    |false=>rfl
    |true=>have:=(h j).2 (.inl A);simp[this]at hq) ⟨i,ais.2 Y,by simp[uu],by simp[(h i).2 (.inr rfl)]⟩
   omega
theorem NT(K:dn C)(S:dJ C run)(L:Lex C run ops tr)(J:ops.toList.all (fN N)=true)
  (v:∀a w Z,SR N w F Z (tr ops.size).s a->eN w0 h0 Z0 w (tr ops.size).s.h Z->Q .normal a w):
  ∀(H:Nat) (g:Array Bool) (a:Act) (w:World),g.size=ops.size->(∀(i:Nat) (o:Oper),ops[i]?=some o->g.getD i false=true->∀e∈I6 o,g.getD e.on false=true)->
   (List.range ops.size).countP (λj=>!g.getD j false)<=H->Ao ops tr N F w0 h0 Z0 (λj=>g.getD j false) a w->wpAny C.P .any ops Q H g a w:=
 td L.ok (λE a w=>Ao ops tr N F w0 h0 Z0 E a w)
  (λE t a w i o D R next n=>Ao.step K S L D R (af9.1 J o (aij.2 (ahw R.at_))) n)
  (λE a w D b=>by obtain⟨Z,O,X⟩:=D.done L b;exact v a w Z O X)
theorem getD_none(n j:Nat):(Array.replicate n false).getD j false=false:=by
 simp only[ag1,ahI]
 split <;>rfl
theorem JC(K:dn C)(S:dJ C run)(U:C.P.follows .mixedOrders=true){id:Nat}(J:ops.toList.all (fN N)=true)(H:iz ops=true){s:St}{y:zd}(R:SR N w F Z s a)
  (e:dQ C run ops (before ops) 0 ops.toList ⟨s,s.h.length,[]⟩=some y) (D:∀u w' q,SR N w' F q y.s u->eN w s.h Z w' y.s.h q->Q .normal u w'):(Code.region id ops true).wp C.P Q a w:=by
 obtain⟨z,W,t2,t3⟩:=nO ops.toList 0 _ _ e;have L:Lex C run ops z:=⟨H,λi o f=>by simpa using t2 i o (by simpa using f),by rw[W];exact agb _,by rw[W];exact⟨rfl,rfl⟩⟩;have g:z ops.size=y:=by simpa using t3
 refine wp_region_any U (NT (w0:=w) (h0:=s.h) (Z0:=Z) K S L J (F:=F) (λu w' q b O=>by rw[g]at b O;exact D u w' q b O) ops.size _ a _ yxb (λi o f A=>by rw[getD_none]at A;cases A) ?_ ?_);refine agI (aid) yxb
 ·have d:∀j,(Array.replicate ops.size false).getD j false=false:=λj=>getD_none _ j
  have n:Kh z (λj=>(Array.replicate ops.size false).getD j false) 0=s.h:=by
   unfold Kh;rw[W];exact qd yxb (λj M=>by cases M)
  have G:dH w {w with drawn:=w.drawn+1}:=dH.drew w;refine⟨0,s.Y,Z,⟨ag7 _,λj _ h=>(by rw[d]at h;cases h),λj _ _ h=>by omega,by rw[W];exact agb _,by rw[n];exact R.hr.Cm G,by rw[n];exact R.er.mono (G.xa s.h Z),?_,by rw[n];exact G.xa s.h Z,R.df,R.sz⟩⟩
  intro t k' im V
  rw[L.ko (t:=t) (i:=0) k' (ag7 _) im (λj o h1 X v B=>by
   have:=(V j o v B).2 X;rw[d]at this;cases this),W]
end Go.Pm
