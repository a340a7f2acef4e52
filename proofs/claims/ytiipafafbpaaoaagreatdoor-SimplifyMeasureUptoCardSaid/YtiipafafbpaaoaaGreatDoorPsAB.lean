/-
  Pm, a part. Conditions: none.
-/
import Derived.Test.YtiipafafbpaaoaaGreatDoorPsAA
import Derived.DeepKeys3
import Derived.Laws.BytesArg
import Derived.MapKept
set_option linter.unusedVariables false
set_option linter.unusedSimpArgs false
set_option linter.unnecessarySimpa false
set_option linter.unusedSectionVars false
namespace Go.Pm
variable{A:Nat->Prop}{V n sCap sLen sz:Nat}{K cs:List Value}{es ys:List PV}{vz x y:Value}{J z:PV}{args:Array Value}{base:Option Addr}{q:Bool}{bc:Nat×Nat}
variable[iD:Inhabited Prop]
variable{P:Program}{w:World}{F:Nat->Prop}{Z:List (Nat×Nat)}{h:ab}
def Flat(w:World)(A:Nat->Prop)(Z:List (Nat×Nat))(h:ab)(sz:Nat)(cs:List Value)(es:List PV):Prop:=
 cs.length=es.length * sz/\∀(i:Nat) (e:PV),es[i]?=some e->(Pm.cells e).length=sz/\∀(j:Nat) (q:PV),(Pm.cells e)[j]?=some q->∃u:Value,cs[i * sz+j]?=some u/\aG w A Z h u q
theorem Flat.nil(w:World)(A:Nat->Prop)(Z:List (Nat×Nat))(h:ab)(sz:Nat):Flat w A Z h sz [] []:=⟨by simp,λi e q=>by simp at q⟩
theorem Flat.append{t:List Value}{U:List PV}(a:Flat w A Z h sz cs es)(b:Flat w A Z h sz t U):Flat w A Z h sz (cs++t) (es++U):=by
 refine⟨by simp[a.1,b.1,ag0],λi e d=>?_⟩
 by_cases B:i<es.length
 ·rw[af8 B]at d;obtain⟨O,X⟩:=a.2 i e d;refine⟨O,λj q y=>?_⟩;obtain⟨u,f,g⟩:=X j q y;exact⟨u,by rw[af8 (ag f)];exact f,g⟩
 ·rw[agl yxa]at d;obtain⟨O,X⟩:=b.2 _ e d;refine⟨O,λj q y=>?_⟩;obtain⟨u,f,g⟩:=X j q y;refine⟨u,?_,g⟩;have n:i * sz=(i - es.length) * sz+es.length * sz:=by rw[<-ag0];congr 1;omega
  rw[agl (by rw[a.1,n];omega),a.1,n];rw[show(i - es.length) * sz+es.length * sz+j - es.length * sz=(i - es.length) * sz+j by omega];exact f
theorem Flat.take{A:Nat->Prop}{sz:Nat}{cs:List Value}{es:List PV}(a:Flat w A Z h sz cs es)(n:Nat)(hn:n<=es.length):Flat w A Z h sz (cs.take (n * sz)) (es.take n):=by
 have d:n * sz<=es.length * sz:=agR _ hn;refine⟨by simp only[ag4,a.1];rw[ah9 hn,ah9 d],λi e b=>?_⟩;rw[agy]at b
 split at b
 ·rename_i B
  obtain⟨O,X⟩:=a.2 i e b;refine⟨O,λj q y=>?_⟩;obtain⟨u,f,g⟩:=X j q y;refine⟨u,?_,g⟩;have M:=ag y;have:=mD (s:=sz) B;rw[agy,if_pos yxa];exact f
 cases b
theorem Flat.WC(a:Flat w A Z h sz cs es)(S:0<sz)(f:es.all (λv=>decide ((Pm.cells v).length=sz)&& (Pm.cells v).all bP)=true):∀u∈cs,u.oneCell'=true:=by
 intro u y
 obtain⟨k,g⟩:=ahB y;have j:=ag g;rw[a.1]at j;have B:k / sz<es.length:=(Nat.div_lt_iff_lt_mul S).2 j;have d:=agd B;obtain⟨O,X⟩:=a.2 _ _ d;have M:k % sz<(Pm.cells es[k / sz]).length:=by rw[O];exact aiB _ S
 obtain⟨U,Y,e⟩:=X _ _ (agd M);rw[aiD,Nat.div_add_mod,g]at Y;obtain rfl:=af7 Y;have b:=af9.1 f _ (agO B);simp only[age]at b;exact abf e (af9.1 b.2 _ (agO M))
theorem nY(H:bp w F Z h){v:Value}{p:PV}(hv:aG w (Av F h Z) Z h v p)(e:cr h p=some ys)(hz:∀y∈ys,(Pm.cells y).length=sz):
  ∃a cap,v=.slice a ys.length cap/\ys.length<=cap/\∃cs:List Value,Flat w (Av F h Z) Z h sz cs ys/\
   (∀w',w'.heap=w.heap->∀n,n<=ys.length->(Builtin.firstCells sz n v).run P w'=.ok (cs.take (n * sz)).toArray w'):=by
 have t:∀(b U cap:Nat) (R:Nat->Nat->Value->Prop),(∀i j,i<ys.length->j<sz->∃u,w.cell? ⟨b,U+(i * sz+j),none⟩=some u/\R i j u)->
   ∃cs:List Value,cs.length=ys.length * sz/\(∀i j,i<ys.length->j<sz->∃u,cs[i * sz+j]?=some u/\R i j u)/\
    ∀w',w'.heap=w.heap->∀n,n<=ys.length->(Builtin.firstCells sz n (.slice (some ⟨b,U,none⟩) ys.length cap)).run P w'=.ok (cs.take (n * sz)).toArray w':=by
  intro b U cap R hc
  obtain⟨cs,A,G⟩:=sw (R:=λk u=>w.cell? ⟨b,U+k,none⟩=some u/\R (k / sz) (k % sz) u) (ys.length * sz) (λk hk=>by
   have N:0<sz:=by
    rcases Nat.eq_zero_or_pos sz with h0 |h0;subst h0;simp at hk;exact h0
   obtain⟨u,Y,O⟩:=hc (k / sz) (k % sz) ((Nat.div_lt_iff_lt_mul N).2 hk) (aiB _ N);refine⟨u,?_,O⟩;rw[<-Y,aiD,Nat.div_add_mod])
  have V:∀i j,i<ys.length->j<sz->i * sz+j<ys.length * sz:=λi j B M=>by have:=mD (s:=sz) B;omega
  refine⟨cs,A,λi j B M=>?_,λw' Q n z=>?_⟩
  ·have hk:=V i j B M;have:=(G (i * sz+j) hk).2;have N:0<sz:=yxa
   rw[show(i * sz+j) / sz=i by rw[aiD,Nat.mul_add_div N,Nat.div_eq_of_lt M,ahJ],show(i * sz+j) % sz=j by rw[aiD,Nat.mul_add_mod,Nat.mod_eq_of_lt M]]at this;refine⟨cs[i * sz+j]' yxa,agd _,?_⟩;simpa[List.getD,show i * sz+j<cs.length by omega]using this
  ·have X:n * sz<=ys.length * sz:=agR _ z
   have:=run_firstCells_some (P:=P) w' sz n ⟨b,U,none⟩ ys.length cap (cs.take (n * sz)) (by simp only[ag4,A];omega) (λj v M=>by
    have hjl:=ag M;simp only[ag4,A]at hjl;rw[agy,if_pos yxa]at M;have:=(G j yxa).1;rw[fu,na (w:=w) (w':=w') (by rw[Q]),this];simp[List.getD,M])
   exact this
 unfold cr at e
 split at e
 ·rename_i full S
  obtain rfl:=af7 e;have N:=hv.fI
  cases N with
  |gJ a cap _ hf=>
   refine⟨a,cap,rfl,ag7 _,[],Flat.nil _ _ _ _ _,λw' Q n z=>?_⟩
   ·obtain rfl:n=0:=by simpa using z
    cases a <;>simp[Builtin.firstCells,loadCells,loadCellsFrom]
  |aa b U cap LK _ _ qw k1 k2 k3 k4 k5 k6 k7 k8=>
   have jz:LK=sz:=by
    have hp:0<S.length:=ahD.2 k1;rw[<-k6 0 hp];apply hz;rw[agA,agd hp];exact agO hp
   subst jz;obtain⟨cs,A,G,l3⟩:=t b U cap (λi j u=>cd w (Av F h Z) u ((Pm.cells (S.getD i .any)).getD j .any)) (λi j B M=>⟨qw i j,k7 i j B M,k8 i j B M⟩);refine⟨_,cap,rfl,k2,cs,⟨A,λi e J=>?_⟩,l3⟩
   ·have B:=ag J;have D:S.getD i .any=e:=by simp[List.getD,J]
    have e2:=k6 i B;rw[D]at e2;refine⟨e2,λj q hq=>?_⟩;have M:=ag hq;obtain⟨u,Y,O⟩:=G i j B yxa;refine⟨u,Y,?_⟩;rw[D]at O;have e3:(Pm.cells e).getD j .any=q:=by simp[List.getD,hq]
    rw[e3]at O;exact .val O
 ·rename_i id ep U d
  split at e
  ·rename_i o ho
   split at e
   ·rename_i X
    obtain rfl:=af7 e;obtain⟨D,e2,e3⟩:=getM_some ho;obtain⟨W,hb⟩:=fh H.len D;obtain⟨h1,h2,h3⟩:=hv.eC;obtain⟨cap,rfl,c2⟩:=h3 o W D hb e3 e2 X;obtain⟨T,vy,k1,k2,k3,k4,k5⟩:=(H.obj id o W D hb e3).c (h2 o D).2;have K:((o.es.drop U).take d).length=d:=by simp;omega
    have f:∀i,i<d->∃e,((o.es.drop U).take d)[i]?=some e/\o.es[U+i]?=some e:=λi B=>by
     refine⟨o.es[U+i]' yxa,?_,agd yxa⟩;rw[agy,if_pos B,agP];exact agd yxa
    by_cases yM:d=0
    ·subst yM;refine⟨some ⟨W.1,U * o.bQ,none⟩,cap,by simp,by simp,[],by simpa using Flat.nil _ _ _ _ _,λw' Q n z=>?_⟩
     ·obtain rfl:n=0:=by simpa using z
      simp[Builtin.firstCells,loadCells,loadCellsFrom]
    ·have jz:o.bQ=sz:=by
      obtain⟨g,Y,O⟩:=f 0 yxa;rw[<-(k5 _ g O).1];exact hz g (agq Y)
     subst jz
     obtain⟨cs,A,G,l3⟩:=t W.1 (U * o.bQ) cap (λi j u=>∀g q,o.es[U+i]?=some g->(Pm.cells g)[j]?=some q->aG w (Av F h Z) Z h u q) (λi j B M=>by
      rw[K]at B;obtain⟨g,Y,O⟩:=f i B;obtain⟨n1,n2⟩:=k5 _ g O;obtain⟨u,p1,p2⟩:=n2 j (Pm.cells g)[j] (agd yxa);refine⟨u,?_,λuA q r1 r2=>?_⟩
      ·rw[cell_of_row w W.1 _ vy T (0,0) k1,<-ahM,<-ag0];exact p1
      ·rw[O]at r1;obtain rfl:=af7 r1;rw[agd yxa]at r2;obtain rfl:=af7 r2;exact p2)
     rw[K]at G l3 ⊢;refine⟨_,cap,rfl,by omega,cs,⟨by rw[A,K],λi g J=>?_⟩,λw' Q n z=>l3 w' Q n z⟩
     ·have B:=ag J;rw[K]at B;obtain⟨uA,Y,O⟩:=f i B;rw[Y]at J;obtain rfl:=af7 J;obtain⟨n1,n2⟩:=k5 _ uA O;refine⟨n1,λj q hq=>?_⟩;have M:=ag hq;obtain⟨u,r1,r2⟩:=G i j B yxa;exact⟨u,r1,r2 uA q O hq⟩
   cases e
  cases e
 cases e
theorem tw(M:aG w A Z h vz z)(h1:(Pm.cells z).length=sz)(X:(Pm.cells z).all bP=true)(S:0<sz)(n:Nat):
  vz.cells.size=sz/\Flat w A Z h sz (List.map (λi=>vz.cells[i % vz.cells.size]!) (List.range (n * sz))) (List.replicate n z):=by
 obtain⟨Q,b⟩:=M.cells X;refine⟨by omega,by simp,λi e a=>?_⟩;have B:=ag a;simp at B;rw[List.getElem?_replicate,if_pos B]at a;obtain rfl:=af7 a;refine⟨h1,λj q y=>?_⟩;have d:=ag y;obtain⟨u,Y,O,f⟩:=b j q y;refine⟨u,?_,O⟩;have g:i * sz+j<n * sz:=by have:=mD (s:=sz) B;omega
 rw[agt,aiF g];simp only[ago];rw[Q,h1,aiD,Nat.mul_add_mod,Nat.mod_eq_of_lt yxa];rw[getElem!_def,Y]
theorem iY(n:Nat)(f:Nat->Value):((Array.range n).map f)=(List.map f (List.range n)).toArray:=by
 apply ahH;simp
theorem uQ{t:TypeId}(e:pu P t=some n):∃i,P.info? t=some i/\i.bytes=n:=by
 unfold pu at e
 cases B:P.info? t with
 |none=>rw[B]at e;simp at e
 |some i=>rw[B]at e;simp at e;exact⟨i,rfl,e⟩
def uR:TypeDesc->Bool | .int _=>true |_=>false
theorem vZ(H:bp w F Z h){e st xt:TypeId}{bytes:Nat}{vz:Value}(hs:dF P e=some sz)(hb:pu P e=some bytes)(hz:jN P e=some z)(Q:0<sz)(ir:bytes<=65536)
  (U:aG w (Av F h Z) Z h x J) (g:cH P h z xt J=some ys) (b:ys.all (λv=>decide ((Pm.cells v).length=sz)&& (Pm.cells v).all bP)=true):
  ∃q:Bool,∃d,P.underlying xt=some d/\q=uR d/\
   ∃K:List Value,Flat w (Av F h Z) Z h sz K ys/\(∀u∈K,u.oneCell'=true)/\
    (q=false->(Builtin.lenOf x).run P w=.ok ys.length w/\∀w',w'.heap=w.heap->(Builtin.firstCells sz ys.length x).run P w'=.ok K.toArray w')/\
    (q=true->∃k,x=.int k ys.length/\ys.length<=1073741824/\∀w',(if ys.length * sz=0 then pure #[]else do pure (Builtin.zeroCells (<-zeroValue e).cells ys.length):Sem (Array Value)).run P w'=.ok K.toArray w'):=by
 unfold cH at g
 split at g
 ·rename_i ik k n f
  split at g
  ·rename_i hn
   obtain rfl:=af7 g;obtain rfl:=U.dO;obtain⟨vz,r1,r2⟩:=xQ hz w (Av F h Z) Z h
   by_cases B:n.toNat=0
   ·refine⟨true,_,f,rfl,[],by rw[B];simpa using Flat.nil w (Av F h Z) Z h sz,by simp,by simp,λ_=>⟨k,by simp;omega,by simp;omega,λw'=>?_⟩⟩;simp[B]
   ·have X:=af9.1 b z yxd;simp only[age,decide_eq_true_eq]at X;obtain⟨s1,D⟩:=tw r2 X.1 X.2 Q n.toNat;refine⟨true,_,f,rfl,_,D,D.WC Q b,by simp,λ_=>⟨k,by simp;omega,by simp;omega,λw'=>?_⟩⟩
    have N:¬(List.replicate n.toNat z).length * sz=0:=by
     rw[ahx];exact Nat.mul_ne_zero B yxa
    have j:(zeroValue e).run P w'=.ok vz w':=by
     have:=r1;unfold zeroValue typeInfo at this ⊢;simp only[Sem.run_bind,run_program,Result.andThen_ok]at this ⊢
     cases t:P.info? e with
     |none=>rw[t]at this;simp at this
     |some i=>
      rw[t]at this;simp at this ⊢
      cases A:i.zero with
      |none=>rw[A]at this;simp at this
      |some v=>rw[A]at this;simp at this ⊢;exact this
    rw[if_neg N];simp only[Sem.run_bind,j,Result.andThen_ok,Sem.run_pure,Builtin.zeroCells,iY,ahx,s1]
  cases g
 ·rename_i el f
  have M:∀y∈ys,(Pm.cells y).length=sz:=λy W=>by
   have:=af9.1 b y W;simp only[age,decide_eq_true_eq]at this;exact this.1
  obtain⟨a,O,rfl,V,Y,R,S⟩:=nY (P:=P) H U g M;refine⟨false,_,f,rfl,Y,R,R.WC Q b,λ_=>⟨by simp[Builtin.lenOf],λw' G=>?_⟩,by simp⟩;have:=S w' G ys.length (agb _);rwa[agB (by rw[R.1];omega)]at this
 cases g
theorem Flat.obj{rest:List Value}(a:Flat w A Z h sz cs es)(i:Nat)(e:PV)(q:es[i]?=some e):
  (Pm.cells e).length=sz/\∀(j:Nat) (p:PV),(Pm.cells e)[j]?=some p->∃v:Value,(cs++rest).toArray[i * sz+j]?=some v/\aG w A Z h v p:=by
 obtain⟨O,X⟩:=a.2 i e q;refine⟨O,λj p K=>?_⟩;obtain⟨u,f,b⟩:=X j p K;exact⟨u,by rw[ahS,af8 (ag f)];exact f,b⟩
theorem wrap_small(h:n<=1073741824):IntKind.i64.wrap (n:Int)=n:=by
 simp[IntKind.wrap,IntKind.bits,IntKind.signed];omega
theorem max_i64:IntKind.i64.max=9223372036854775807:=by decide
theorem Be{b:Nat}(h:roomy n b=true):n * b<=17592186044416/\n<=17592186044416:=by
 simpa[roomy]using h
theorem _root_.zcn{P:Prop}(h:P:=by
 have X:((n * bytes:Nat):Int)<=70368744177664:=by omega
 rw[Int.natCast_mul]at X;omega):P:=h
theorem pj{ts:Array TypeId}{ty st xt e:TypeId}{d:TypeDesc}
  (h1:ts[0]?=some st) (X:ts[1]?=some xt) (Q:args[0]?=some (.slice base sLen sCap)) (G:args[1]?=some x) (y:P.underlying st=some (.slice e)) (S:dF P e=some sz)
  (J:P.underlying xt=some d) (D:q=uR d) {bytes:Nat} (W:pu P e=some bytes) (O:bytes<=65536)
  (u:q=false->(Builtin.lenOf x).run P w=.ok n w/\∀w',w'.heap=w.heap->(Builtin.firstCells sz n x).run P w'=.ok K.toArray w')
  (Z:q=true->∃k,x=.int k n/\n<=1073741824/\∀w',(if n * sz=0 then pure #[]else do pure (Builtin.zeroCells (<-zeroValue e).cells n):Sem (Array Value)).run P w'=.ok K.toArray w')
  (h:sLen+n<=sCap):
  (Builtin.append_ ts ty args).run P w=(match base with |some a=>(storeCells (a.add (sLen * sz)) K).run P w |none=>.ok () w).andThen λ_ w'=>.ok (.slice base (sLen+n) sCap) w':=by
 obtain⟨i,B,b⟩:=uQ W;have H:∀w,(typeInfo e).run P w=.ok i w:=λw=>by simp[typeInfo,B]
 unfold Builtin.append_;simp only[h1,Q,G,Sem.run_bind,bV y,Result.andThen_ok,db S,X,bV J,Sem.run_pure]
 cases q with
 |false=>
  obtain⟨R,g⟩:=u rfl
  cases d with
  |int k=>simp[uR]at D
  |_=>
   simp only[agn,if_false,R,Result.andThen_ok,h,if_true,Sem.run_bind,aic,g w rfl]
   cases base <;>simp
 |true=>
  obtain⟨k,rfl,z,Y⟩:=Z rfl
  have f:¬((n:Int) * (bytes:Int)>2^48):=by
   have:n * bytes<=1073741824 * 65536:=aih z O;exact zcn
  have F:¬((n:Int)<0):=yxa
  cases d with
  |int k=>
   simp only[if_true,asInt,asIntOf,Sem.run_bind,Sem.run_pure,Result.andThen_ok,wrap_small z,Sem.run_ite,F,if_false,H,b,f,ahV,h,ah6,agn];have:=Y w;simp only[Sem.run_ite,Sem.run_bind,Sem.run_pure]at this;rw[this]
   cases base <;>simp
  |_=>simp[uR]at D
theorem Bf(w:World)(need old:Nat)(e:TypeId)(hn:need<=17592186044416):∃c,need<=c/\(choose (.appendCap need old e)).run P w=.ok c w.drew:=by
 refine⟨_,?_,by simp only[run_choose,Question.forced,agn,if_false];rfl⟩;simp[Question.cut]
theorem sC{ts:Array TypeId}{ty st xt e:TypeId}{d:TypeDesc}{olds:List Value}
  (h1:ts[0]?=some st) (X:ts[1]?=some xt) (Q:args[0]?=some (.slice base sLen sCap)) (G:args[1]?=some x) (Y:P.underlying st=some (.slice e)) (S:dF P e=some sz)
  (y:P.underlying xt=some d) (D:q=uR d) {bytes:Nat} (W:pu P e=some bytes) (ir:bytes<=65536) (M:∀w,(zeroValue e).run P w=.ok vz w)
  (B:q=false->(Builtin.lenOf x).run P w=.ok n w/\∀w',w'.heap=w.heap->(Builtin.firstCells sz n x).run P w'=.ok K.toArray w')
  (Z:q=true->∃k,x=.int k n/\n<=1073741824/\∀w',(if n * sz=0 then pure #[]else do pure (Builtin.zeroCells (<-zeroValue e).cells n):Sem (Array Value)).run P w'=.ok K.toArray w')
  (v:∀w',w'.heap=w.heap->(Builtin.firstCells sz sLen (.slice base sLen sCap)).run P w'=.ok olds.toArray w')
  (h:¬sLen+n<=sCap) (N:(sLen+n) * bytes<=17592186044416) (g:sLen+n<=17592186044416):
  ∃c,sLen+n<=c/\(Builtin.append_ ts ty args).run P w=.ok (.slice (some ⟨w.heap.size,0,none⟩) (sLen+n) c)
   (w.drew.alloc (.cells (olds.toArray++K.toArray++Builtin.zeroCells vz.cells (c - (sLen+n))) e)):=by
 obtain⟨i,O,b⟩:=uQ W;have H:∀w,(typeInfo e).run P w=.ok i w:=λw=>by simp[typeInfo,O]
 obtain⟨c,A,t⟩:=Bf (P:=P) w (sLen+n) sCap e g;refine⟨c,A,?_⟩;have j:¬(((sLen+n:Nat):Int)>IntKind.i64.max):=by rw[max_i64];omega
 have V:¬(Builtin.nextslicecap (sLen+n) sCap * i.bytes>2^48):=by
  have:=growslice_fits (need:=sLen+n) (old:=sCap) (bytes:=i.bytes) yxa (by rw[b];omega);omega
 unfold Builtin.append_;simp only[h1,Q,G,Sem.run_bind,bV Y,Result.andThen_ok,db S,X,bV y,Sem.run_pure];have J:((choose (.appendCap (sLen+n) sCap e)).run P w).andThen (λa w'=>.ok a w')=.ok c w.drew:=by rw[t];rfl
 cases q with
 |false=>
  obtain⟨R,u⟩:=B rfl
  cases d with
  |int k=>simp[uR]at D
  |_=>
   simp only[agn,if_false,R,Result.andThen_ok,h,Sem.run_bind,aic,H,Sem.run_ite,j,false_and,V,t,run_askRoom,v w.drew rfl,u w.drew rfl,if_true,M,Sem.run_pure,newRow,run_newObj]
   rfl
 |true=>
  obtain⟨k,rfl,z,t2⟩:=Z rfl
  have f:¬((n:Int) * (bytes:Int)>2^48):=by
   have:n * bytes<=1073741824 * 65536:=aih z ir;exact zcn
  have F:¬((n:Int)<0):=yxa
  cases d with
  |int k=>
   have U:=t2 w.drew;simp only[Sem.run_ite,Sem.run_bind,Sem.run_pure,M,Result.andThen_ok]at U;rw[<-b]at f;simp only[if_true,asInt,asIntOf,Sem.run_bind,Sem.run_pure,Result.andThen_ok,wrap_small z,Sem.run_ite,F,if_false,H,f,ahV,h,ah6,agn,j,false_and,V,t,run_askRoom,v w.drew rfl,M,U,newRow,run_newObj]
   rfl
  |_=>simp[uR]at D
theorem lI{t:TypeId}(e:jN P t=some z):∃v,(∀w,(zeroValue t).run P w=.ok v w)/\∀(w:World) (A:Nat->Prop) (Z:List (Nat×Nat)) (h:ab),aG w A Z h v z:=by
 unfold jN at e
 cases B:P.info? t with
 |none=>rw[B]at e;simp at e
 |some i=>
  rw[B]at e;simp only[aix]at e
  cases M:i.zero with
  |none=>rw[M]at e;simp at e
  |some v=>
   rw[M]at e;simp at e;subst e;exact⟨v,λw=>by simp[zeroValue,typeInfo,B,M],λw A Z h=>Kv w A Z h v⟩
theorem wO(W:Z[V]?=some bc):Z.set V bc=Z:=by
 apply agZ
 intro k
 by_cases g:k=V
 subst g;rw[agc (ag W)];exact W.symm;rw[aga (agV g)]
theorem uT(H:bp w F Z h){o:ax}(A:h[V]?=some o)(X:Z[V]?=some bc)(t:o.mu=.m)(off:Nat)
  (B:Flat w (Av F h Z) Z h o.bQ K ys) (h1:∀u∈K,u.oneCell'=true) (hle:off+ys.length<=o.es.length) (hz:0<o.bQ:=by first |assumption |omega):
  ∃w',(storeCells ⟨bc.1,off * o.bQ,none⟩ K).run P w=.ok () w'/\
   bp w' F Z (h.set V {o with es:=o.es.take off++ys++o.es.drop (off+ys.length)})/\eN w h Z w' (h.set V {o with es:=o.es.take off++ys++o.es.drop (off+ys.length)}) Z:=by
 obtain⟨T,Y,D,k2,Q,k4,k5⟩:=(H.obj V o bc A X (by rw[t];simp)).c hz;have z:K.length=ys.length * o.bQ:=B.1
 have O:off * o.bQ+ys.length * o.bQ<=Y.size:=by
  rw[<-ag0];exact agI (agR _ yxa) Q
 have G:=run_storeCells_at P bc.1 (off * o.bQ) T K 0 Y w D yxa h1;simp only[ahJ]at G
 have U:(Y.toList.take (off * o.bQ)++K++Y.toList.drop (off * o.bQ+K.length)).length=Y.size:=by
  simp only[agf,ag4,ail,ahl];omega
 have n:(o.es.take off++ys++o.es.drop (off+ys.length)).length=o.es.length:=by simp;omega
 refine⟨_,G,?_⟩
 have:=bp.set H A X t (w':=w.setRow bc.1 (Y.toList.take (off * o.bQ)++K++Y.toList.drop (off * o.bQ+K.length)).toArray) T
  (Y.toList.take (off * o.bQ)++K++Y.toList.drop (off * o.bQ+K.length)).toArray (o.es.take off++ys++o.es.drop (off+ys.length)) o.ep bc yxb
  (setRow_heap w bc.1 Y _ T (0,0) D) (λb hb M=>setRow_other w bc.1 b _ M) (.inl ⟨rfl,λ_=>n⟩) (agb _) rfl rfl rfl (by rw[n];exact k2) (by rw[aiu,U];exact Q) (λi e a=>?_)
 ·rw[wO X]at this;exact this
 ·rw[iJ _ _ _ _ hle]at a
  have hi:i<o.es.length:=by
   rcases agM i o.es.length with R |R;exact R;rw[if_neg yxa,if_neg yxa,agr R]at a;cases a
  by_cases W:off<=i/\i<off+ys.length
  ·rw[if_neg yxa,if_pos W.2]at a;obtain⟨S,v⟩:=B.2 _ e a;refine⟨S,λj q y=>?_⟩;obtain⟨u,J,g⟩:=v j q y;have hj:=ag y;refine⟨u,?_,g⟩;have N:i * o.bQ=off * o.bQ+(i - off) * o.bQ:=by rw[<-ag0];congr 1;omega
   have e2:=mD (s:=o.bQ) (show i - off<ys.length by omega);rw[ahS,iJ _ _ _ _ (by rw[z];simpa using O),if_neg yxa,if_pos (by rw[z];omega),N];rw[show off * o.bQ+(i - off) * o.bQ+j - off * o.bQ=(i - off) * o.bQ+j by omega];exact J
  ·have f:o.es[i]?=some e:=by
    by_cases d:i<off
    ·rwa[if_pos d]at a
    ·rwa[if_neg d,if_neg yxa]at a
   obtain⟨S,v⟩:=k5 i e f;refine⟨S,λj q y=>?_⟩;obtain⟨u,J,g⟩:=v j q y;have hj:=ag y;refine⟨u,?_,g⟩;rw[ahS,iJ _ _ _ _ (by rw[z];simpa using O)]
   by_cases d:i<off
   ·have:=mD (s:=o.bQ) d;rw[if_pos yxa];simpa using J
   ·have:(off+ys.length) * o.bQ<=i * o.bQ:=agR _ yxa;rw[ag0]at this;rw[if_neg yxa,if_neg (by rw[z];omega)];simpa using J
theorem Kw(H:bp w F Z h){ts:Array TypeId}{ty st xt:TypeId}{lv:Nat}{sv:Value}{s px r:PV}{h':ab}
  (h1:ts[0]?=some st) (h2:ts[1]?=some xt) (h3:args[0]?=some sv) (h4:args[1]?=some x) (hs:aG w (Av F h Z) Z h sv s) (hx:aG w (Av F h Z) Z h x px)
  (e:bR P lv h st xt s px=some (r,h')):EP P lv w F Z h (Builtin.append_ ts ty args) r h':=by
 unfold bR at e
 split at e
 ·rename_i el hu
  split at e
  ·rename_i sz bytes z q1 q2 q3
   split at e
   ·rename_i Q hy
    split at e
    ·rename_i hc
     obtain⟨qS,ir,hzc,eY⟩:=hc;obtain⟨V,z1,z2⟩:=lI (P:=P) q3;obtain⟨zb,d,a1,a2,f,R,a4,a5,a6⟩:=vZ (st:=st) (vz:=V) H q1 q2 q3 qS ir hx hy eY;have zsz:V.cells.size=sz:=by rw[((z2 w (Av F h Z) Z h).cells hzc.2).1];exact hzc.1
     have arr:∀(Y:List Value) (n:Nat),Y.toArray++f.toArray++Builtin.zeroCells V.cells n=(Y++f++(Builtin.zeroCells V.cells n).toList).toArray:=λY n=>by apply ahH;simp
     have G:∀(Y:List Value) (k m c:Nat),Y.length=k * sz->k+m<=c->f.length=m * sz->c * sz<=(Y.toArray++f.toArray++Builtin.zeroCells V.cells (c - (k+m))).size:=λY k m c D e2 e3=>by
      simp only[Array.size_append,aiu,size_zeroCells,zsz,D,e3,<-ag0];rw[show k+m+(c - (k+m))=c by omega];exact agb _
     split at e
     ·-- a snapshot
      rename_i full g
      obtain⟨a,t,rfl,hle,yC⟩:=hs.fI.iC
      split at e
      ·rename_i Wy
       obtain rfl:Q=[]:=by simpa using Wy
       obtain⟨rfl,rfl⟩:=agk (af7 e);have hn:f=[]:=agm (by simpa using R.1);subst hn;have:=pj (P:=P) (w:=w) (ty:=ty) h1 h2 h3 h4 hu q1 a1 a2 q2 ir (n:=0) a5 a6 yxa;refine EP.still H (v:=.slice a g.length t) ?_ hs;rw[this]
       cases a <;>simp[storeCells]
      ·rename_i bD
       split at e
       ·rename_i Ae
        obtain⟨rfl,IW,Kx,mJ⟩:=Ae;obtain⟨rfl,rfl⟩:=agk (af7 e);obtain⟨b1,b2⟩:=Be Kx
        have hy0:0<Q.length:=by
         cases Q with
         |nil=>simp at bD
         |cons=>simp
        have Ck:=yC rfl
        have hez:∀y∈g,(Pm.cells y).length=sz:=λy hy=>by
         have:=af9.1 mJ y hy;simp only[age,decide_eq_true_eq]at this;exact this.1
        obtain⟨a',Ge,ev,_,Y,U,f2⟩:=nY (P:=P) H hs (show cr h (.aa true g)=some g from rfl) hez
        obtain⟨c,c1,c2⟩:=sC (P:=P) (w:=w) (ty:=ty) (sLen:=g.length) h1 h2 h3 h4 hu q1 a1 a2 q2 ir z1 a5 a6 (λX Jg=>by
         have:=f2 X Jg g.length (agb _);rwa[agB (by rw[U.1];omega)]at this) yxa b1 b2
        have Ct:=U.append R
        obtain⟨HH,S⟩:=bp.new H (w':=w.drew.alloc (.cells (Y.toArray++f.toArray++Builtin.zeroCells V.cells (c - (g.length+Q.length))) el)) el
         (Y.toArray++f.toArray++Builtin.zeroCells V.cells (c - (g.length+Q.length))) {mu:=.m,ep:=0,bQ:=sz,es:=g++Q} c rfl rfl rfl rfl rfl (by simpa using c1)
         (G Y _ _ c U.1 c1 R.1) qS (λi e O=>by
          rw[arr];exact Ct.obj (rest:=(Builtin.zeroCells V.cells (c - (g.length+Q.length))).toList) i e O)
        exact⟨_,_,_,c2,H.zm,HH,S,λ_=>(dH.drew w).trans (dH.alloc _ _)⟩
       cases e
     ·-- a reference
      rename_i id N off K
      split at e
      ·rename_i o ho
       obtain⟨D,e2,e3⟩:=getM_some ho;obtain⟨B,W⟩:=fh H.len D;obtain⟨m1,m2,m3⟩:=hs.eC
       split at e
       ·rename_i Ae
        obtain⟨hle,jz⟩:=Ae;obtain⟨t,rfl,c2⟩:=m3 o B D W e3 e2 hle;obtain⟨T,M,k1,k2,k3,k4,k5⟩:=(H.obj id o B D W e3).c (m2 o D).2
        split at e
        ·rename_i Wy
         obtain rfl:Q=[]:=by simpa using Wy
         obtain⟨rfl,rfl⟩:=agk (af7 e);have hn:f=[]:=agm (by simpa using R.1);subst hn;have:=pj (P:=P) (w:=w) (ty:=ty) h1 h2 h3 h4 hu q1 a1 a2 q2 ir (n:=0) a5 a6 yxa;refine EP.still H (v:=.slice (some ⟨B.1,off * o.bQ,none⟩) K t) ?_ hs;rw[this];simp[storeCells]
        ·rename_i bD
         split at e
         ·rename_i hc3
          obtain⟨rfl,IW,vJ,_,oR⟩:=hc3;obtain⟨rfl,rfl⟩:=agk (af7 e);subst jz;have J:=pj (P:=P) (w:=w) (ty:=ty) h1 h2 h3 h4 hu q1 a1 a2 q2 ir a5 a6 (show K+Q.length<=t by omega);obtain⟨X,s1,s2,s3⟩:=uT (P:=P) H D W vJ K R a4 oR;simp only[ah3,fu,agz]at J;rw[s1]at J;simp only[Result.andThen_ok]at J;refine⟨_,X,Z,J,?_,s2,s3,λhh=>by omega⟩;refine .an _ id N 0 (K+Q.length) {o with es:=o.es.take K++Q++o.es.drop (K+Q.length)} B ⟨_,_,_,rfl⟩ (agc (ag D)) W (by show o.mu≠.x;rw[vJ];simp) ⟨by show N<=o.ep;omega,k4⟩ (λ_ _=>⟨t,by simp,c2⟩)
         split at e
         ·rename_i hc3
          obtain⟨rfl,IW,vJ,Kx⟩:=hc3;obtain⟨rfl,rfl⟩:=agk (af7 e);obtain⟨b1,b2⟩:=Be Kx
          have hy0:0<Q.length:=by
           cases Q with
           |nil=>simp at bD
           |cons=>simp
          subst jz;have mJ:cr h (.an id N 0 K)=some ((o.es.drop 0).take K):=by simp only[cr,ho,if_pos hle]
          have Jy:((o.es.drop 0).take K).length=K:=by simp;omega
          obtain⟨a',Ge,ev,_,Y,U,f2⟩:=nY (P:=P) (sz:=o.bQ) H hs mJ (λy hy=>by
           obtain⟨k,hk⟩:=ahB hy;rw[agy]at hk
           split at hk
           simp at hk;exact(k5 k y hk).1
           cases hk)
          simp only[ahs]at U Jy f2;have XS:K<=o.es.length:=by omega
          by_cases mH:K+Q.length<=t
          ·-- there is room
           have J:=pj (P:=P) (w:=w) (ty:=ty) h1 h2 h3 h4 hu q1 a1 a2 q2 ir a5 a6 mH;have hk3:(K+Q.length) * o.bQ<=M.size:=agI (agR _ yxa) k3;rw[ag0]at hk3;have qx:=run_storeCells_at P B.1 (0 * o.bQ+K * o.bQ) T f 0 M w k1 (by rw[R.1];omega) a4;simp only[ah3,agz,ahJ]at qx J;rw[fu,agz,qx]at J;simp only[Result.andThen_ok]at J
           have abg:Flat w (Av F h Z) Z h o.bQ (M.toList.take (K * o.bQ)) (o.es.take K):=by
            refine⟨by simp only[ag4,ahl];rw[ah9 XS,ah9 yxa],λi e O=>?_⟩;rw[agy]at O
            split at O
            ·rename_i hi
             obtain⟨n1,n2⟩:=k5 i e O;refine⟨n1,λj q hq=>?_⟩;obtain⟨u,p1,p2⟩:=n2 j q hq;have hj:=ag hq;have:=mD (s:=o.bQ) hi;exact⟨u,by rw[agy,if_pos yxa];simpa using p1,p2⟩
            cases O
           have Ct:=abg.append R
           have tP:(M.toList.take (K * o.bQ)++f++M.toList.drop (K * o.bQ+f.length)).length=M.size:=by
            simp only[agf,ag4,ail,ahl,R.1];omega
           obtain⟨HH,S⟩:=bp.set H D W vJ (w':=w.setRow B.1 (M.toList.take (K * o.bQ)++f++M.toList.drop (K * o.bQ+f.length)).toArray) T
            (M.toList.take (K * o.bQ)++f++M.toList.drop (K * o.bQ+f.length)).toArray (o.es.take K++Q) (N+1) B yxb
            (setRow_heap w B.1 M _ T (0,0) k1) (λb W bD=>setRow_other w B.1 b _ bD) (.inl ⟨rfl,λO=>by omega⟩) yxa rfl rfl rfl yxd
            (by rw[aiu,tP];exact k3) (λi e O=>Ct.obj i e O)
           exact⟨_,_,_,J,by have:=H.Md (w':=w.setRow B.1 (M.toList.take (K * o.bQ)++f++M.toList.drop (K * o.bQ+f.length)).toArray) (A:=Av F (h.set id {o with es:=o.es.take K++Q,ep:=N+1}) (Z.set id B)) D vJ (b:=B.1) (cap:=t) (len:=K+Q.length) (ep:=N+1) (es:=o.es.take K++Q);simpa[show t=B.2 by omega]using this,HH,S,λhh=>by omega⟩
          ·-- it moves
           obtain⟨c,c1,J⟩:=sC (P:=P) (w:=w) (ty:=ty) (olds:=Y) h1 h2 h3 h4 hu q1 a1 a2 q2 ir z1 a5 a6 (λX Jg=>by
            have e3:(.slice (some ⟨B.1,0 * o.bQ,none⟩) K t:Value)=.slice (some ⟨B.1,0 * o.bQ,none⟩) K t:=rfl;have:=f2 X Jg K yxa;rwa[agB (by rw[U.1,Jy];exact agb _)]at this) mH b1 b2
           have Ct:=U.append R
           obtain⟨HH,S⟩:=bp.set H D W vJ (w':=w.drew.alloc (.cells (Y.toArray++f.toArray++Builtin.zeroCells V.cells (c - (K+Q.length))) el)) el
            (Y.toArray++f.toArray++Builtin.zeroCells V.cells (c - (K+Q.length))) (o.es.take K++Q) (N+1) (w.heap.size,c) yxb
            (heap_alloc_new w.drew _) (λb W bD=>heap_alloc_old w.drew _ b W) (.inr ⟨agb _,by omega⟩) yxa rfl rfl rfl yxd
            (G Y _ _ c (by rw[U.1,Jy]) c1 R.1) (λi e O=>by
             rw[arr];exact Ct.obj (rest:=(Builtin.zeroCells V.cells (c - (K+Q.length))).toList) i e O)
           exact⟨_,_,_,J,H.Md D vJ,HH,S,λhh=>by omega⟩
         cases e
       cases e
      cases e
     cases e
    cases e
   cases e
  cases e
 cases e
open Go.MapKept (bytes_beq)
theorem Sw{v:Value}{c:PV}(e:rJ c=some x)(J:aG w A Z h v c):v=x:=by
 cases c <;>simp only[rJ,agx,reduceCtorEq]at e
 rw[J.dO];exact e;rw[J.gz];exact e;rw[J.jB];exact e
theorem Du{A:Nat->Prop}:∀{cs:List PV} {xs vs:List Value},oN cs=some xs->vs.length=cs.length->(∀j,j<cs.length->aG w A Z h (vs.getD j Go.undef) (cs.getD j .any))->vs=xs
 |[],xs,vs,e,a,_=>by
  simp only[oN,agx]at e;subst e;exact agm a
 |c::cs,xs,[],e,a,_=>by simp at a
 |c::cs,xs,v::vs,e,a,R=>by
  simp only[oN]at e
  split at e
  ·rename_i x d O X
   obtain rfl:=af7 e;have B:=R 0 yxb;simp only[ah4]at B
   have b:vs=d:=Du X (by simpa using a) λj M=>by
    have:=R (j+1) (by simpa using M);simpa using this
   rw[Sw O B,b]
  cases e
theorem wj{t:TypeId}{k:PV}{v:Value}(e:rL P t k=true)(J:aG w A Z h v k):∃(cs:List PV) (vs:List Value) (l:Lit),k=.agg cs/\oN cs=some vs/\v=.agg vs.toArray/\FG P t=true/\P.keyTypeAt 3 t=true/\P.tiled 3 t=true/\keyOf P t v=some l:=by
 unfold rL at e
 split at e
 ·rename_i cs
  split at e
  ·rename_i vs O
   simp only[age]at e;obtain⟨⟨⟨D,N⟩,a⟩,M⟩:=e;obtain⟨n,rfl,d,R⟩:=J.lS;obtain rfl:=Du O d R;obtain⟨l,b⟩:=ah1.1 M;exact⟨cs,n,l,rfl,O,rfl,D,N,a,b⟩
  cases e
 cases e
theorem OC{a b:PV}(j:rJ a=some x)(W:rJ b=some y):(FH a b=true↔x=y):=by
 unfold FH
 cases a with
 |int k n=>
  simp only[rJ,agx]at j;subst j
  cases b with
  |int B q=>
   simp only[rJ,agx]at W;subst W;simp only[kQ]
   by_cases g:k=B
   subst g;simp;simp[g]
  |_=>simp only[rJ,agx,reduceCtorEq]at W <;>(subst W;simp[kQ])
 |bool n=>
  simp only[rJ,agx]at j;subst j
  cases b with
  |bool q=>
   simp only[rJ,agx]at W;subst W;simp[kQ]
  |_=>simp only[rJ,agx,reduceCtorEq]at W <;>(subst W;simp[kQ])
 |str n=>
  simp only[rJ,agx]at j;subst j
  cases b with
  |str q=>
   simp only[rJ,agx]at W;subst W;simp only[kQ];rw[bytes_beq];simp
  |_=>simp only[rJ,agx,reduceCtorEq]at W <;>(subst W;simp[kQ])
 |_=>simp only[rJ,reduceCtorEq]at j
theorem Dv:∀{f D:List PV} {xs ys:List Value},oN f=some xs->oN D=some ys->(nr f D=true↔xs=ys)
 |[],[],xs,ys,j,W=>by
  simp only[oN,agx]at j W;subst j;subst W;simp[nr]
 |[],b::D,xs,ys,j,W=>by
  simp only[oN]at j W
  split at W
  ·obtain rfl:=af7 j;obtain rfl:=af7 W;simp[nr]
  cases W
 |a::f,[],xs,ys,j,W=>by
  simp only[oN]at j W
  split at j
  ·obtain rfl:=af7 j;obtain rfl:=af7 W;simp[nr]
  cases j
 |a::f,b::D,xs,ys,j,W=>by
  simp only[oN]at j W
  split at j
  ·rename_i x d O X
   split at W
   ·rename_i y Y Q G
    obtain rfl:=af7 j;obtain rfl:=af7 W;rw[nr,age,OC O Q,Dv X G];simp
   cases W
  cases j
theorem wk{t:TypeId}(h:FG P t=true):(match P.underlying t with |some (.array _ _)|some (.struct _)=>true |_=>false)=true:=h
theorem MB{t:TypeId}{f D:List PV}(b:aG w A Z h x (.agg f))(F:aG w A Z h y (.agg D))(g:rL P t (.agg f)=true)(v:rL P t (.agg D)=true)(w':World):
  (Op.equal t x y).run P w'=.ok (nr f D) w'/\(nr f D=true↔x=y):=by
 obtain⟨_,W,j,O,X,rfl,G,d,N,H⟩:=wj g b
 cases O
 obtain⟨_,U,u,K,a,rfl,i,B,Q,q⟩:=wj v F
 cases K
 obtain⟨r,z,M⟩:=run_equal_deep w' (m:=3) yxa d (wk G) H q;have S:=Dv X a
 have n:j=u↔(Value.agg W.toArray=Value.agg U.toArray):=by
  constructor
  ·intro e
   subst e;exact keyOf_inj_deep N (wk G) H q
  ·intro e
   rw[e,q]at H;exact(af7 H).symm
 have J:(Value.agg W.toArray=Value.agg U.toArray)↔W=U:=by simp
 refine⟨?_,by rw[S,J]⟩;rw[z]
 congr 1
 rw[Bool.eq_iff_iff,M,n,J,S]
theorem MC{t:TypeId}{d:PV}{r:Bool}(U:aG w A Z h x J)(F:aG w A Z h y d)(e:XM P t J d=some r):
  (Op.equal t x y).run P w=.ok r w/\P.eqGuardType P.depth t=false:=by
 unfold XM at e
 split at e
 ·rename_i f D
  split at e
  ·rename_i G
   simp only[age,ahg]at G;obtain rfl:=af7 e;exact⟨(MB U F G.1.1 G.1.2 w).1,G.2⟩
  cases e
 cases e
end Go.Pm
namespace Go.Pm
variable{args:Array Value}{lv n t:Nat}{K q x y:Value}{J c d k m p r:PV}{h':ab}{A:Nat->Prop}{l:List Int}{full:Bool}{es:List PV}{B z:Option Value}{f:Option PV}{vs:List (Nat×Value)}
variable[iD:Inhabited Prop]
variable{P:Program}{w:World}{F:Nat->Prop}{Z:List (Nat×Nat)}{h:ab}
theorem SY(H:bp w F Z h){ts:Array TypeId}{ty A:TypeId}
  (h1:ts[0]?=some A) (h3:args[0]?=some q) (h4:args[1]?=some x) (hd:aG w (Av F h Z) Z h q d) (hx:aG w (Av F h Z) Z h x J)
  (e:CD P lv h A d J=some (r,h')):EP P lv w F Z h (Builtin.copy_ ts ty args) r h':=by
 unfold CD at e
 split at e
 ·rename_i el id ep U K Q g i
  split at e
  ·rename_i sz o hs ho
   split at e
   ·rename_i hc
    obtain⟨IW,vJ,rfl,f,R,b⟩:=hc;obtain⟨rfl,rfl⟩:=agk (af7 e);obtain⟨D,O,t⟩:=getM_some ho;obtain⟨j,W⟩:=fh H.len D;obtain⟨m1,m2,m3⟩:=hd.eC;obtain⟨M,rfl,c2⟩:=m3 o j D W t O f
    obtain⟨a,Ge,rfl,B,cs,X,Y⟩:=nY (P:=P) (sz:=o.bQ) H hx i (λy i=>by
     have:=af9.1 R y i;simpa only[decide_eq_true_eq]using this)
    obtain⟨T,vy,k1,k2,k3,k4,k5⟩:=(H.obj id o j D W t).c (m2 o D).2;have z:min Q.length K<=Q.length:=Nat.min_le_left _ _;have v:=X.take (min Q.length K) z;have n:(Q.take (min Q.length K)).length=min Q.length K:=by simp only[ag4];omega
    obtain⟨w',r1,V,S⟩:=uT (P:=P) H D W vJ U v (λu g=>v.WC k4 b u g) (by rw[n];omega);rw[n]at V S;refine⟨.int .i64 (min Q.length K:Nat),w',Z,?_,.val (.int _ _),V,S,λhh=>by omega⟩;have G:=Y w rfl (min Q.length K) z;simp only[Builtin.copy_,h1,h3,h4,Sem.run_bind,bV g,Result.andThen_ok,Builtin.lenOf,Sem.run_pure,db hs,goInt];have N:Nat.min Q.length K=min Q.length K:=rfl;rw[N,G];simp only[Result.andThen_ok];rw[r1];simp
   cases e
  cases e
 cases e
theorem OP(H:bp w F Z h){ts:Array TypeId}{ty t:TypeId}
  (h1:ts[0]?=some t) (Q:args[0]?=some q) (J:aG w (Av F h Z) Z h q d)
  (e:qA P lv h t d=some (r,h')):EP P lv w F Z h (Builtin.clear_ ts ty args) r h':=by
 unfold qA at e
 split at e
 ·rename_i Y id ep U K y
  split at e
  ·rename_i sz z o hs hz ho
   split at e
   ·rename_i hc
    obtain⟨IW,vJ,rfl,b,g,N⟩:=hc;obtain⟨rfl,rfl⟩:=agk (af7 e);obtain⟨D,R,u⟩:=getM_some ho;obtain⟨i,W⟩:=fh H.len D;obtain⟨m1,m2,m3⟩:=J.eC;obtain⟨j,rfl,c2⟩:=m3 o i D W u R b;obtain⟨T,vy,k1,k2,k3,G,k5⟩:=(H.obj id o i D W u).c (m2 o D).2;obtain⟨vz,z1,z2⟩:=lI (P:=P) hz;obtain⟨M,O⟩:=tw (z2 w (Av F h Z) Z h) g N G K
    have X:(List.replicate K z).all (λv=>decide ((Pm.cells v).length=o.bQ)&& (Pm.cells v).all bP)=true:=by
     rw[af9]
     intro x B
     rw[ahq]at B;simp[B.2,g,N]
    obtain⟨w',f,V,S⟩:=uT (P:=P) H D W vJ U O (O.WC G X) (by simpa using b);simp only[ahx]at V S
    by_cases hl:K=0
    ·subst hl;refine⟨.tuple #[],w,Z,?_,.val (.b8 [] [] rfl yxb),?_⟩;simp only[Builtin.clear_,h1,Q,Sem.run_bind,bV y,Result.andThen_ok,Sem.run_pure]
     ·simp[storeCells]at f;subst f;exact⟨V,S,λ_=>dH.refl _⟩
    ·refine⟨.tuple #[],w',Z,?_,.val (.b8 [] [] rfl yxb),V,S,λhh=>by omega⟩;obtain⟨n,rfl⟩:∃n,K=n+1:=⟨K - 1,by omega⟩;simp only[Builtin.clear_,h1,Q,Sem.run_bind,bV y,Result.andThen_ok,z1,Builtin.zeroCells,iY,M];rw[M]at f;rw[f];simp
   cases e
  cases e
 ·rename_i Y A y
  obtain⟨rfl,rfl⟩:=agk (af7 e);obtain⟨a,j,rfl,_⟩:=J.fI.iC;refine EP.still H (v:=.tuple #[]) ?_ (.val (.b8 [] [] rfl yxb))
  cases a <;>simp[Builtin.clear_,h1,Q,bV y]
 cases e
theorem SZ(H:bp w F Z h){t:TypeId}{A:Value}{l:PV}(hl:aG w (Av F h Z) Z h A l)(M:aG w (Av F h Z) Z h y c)
  (e:kY P lv h t l c=some (r,h')):EP P lv w F Z h (Instr.makeSlice t A y) r h':=by
 unfold kY at e
 split at e
 ·rename_i f k1 n k2 c hu
  obtain rfl:=hl.dO;obtain rfl:=M.dO
  split at e
  ·rename_i q Y z hs W hz
   split at e
   ·rename_i B
    obtain⟨IW,hn,hnc,rl,Q,ir,U,N⟩:=B;obtain⟨rfl,rfl⟩:=agk (af7 e);obtain⟨V,z1,z2⟩:=lI (P:=P) hz;obtain⟨s1,s2⟩:=tw (z2 w (Av F h Z) Z h) U N Q n.toNat;obtain⟨i,R,G⟩:=uQ W;have v:∀w,(typeInfo f).run P w=.ok i w:=λw=>by simp[typeInfo,R]
    obtain⟨u,rfl⟩:=ah5 (show 0<=c by omega);obtain⟨a,rfl⟩:=ah5 hn;have b:u<=1073741824:=by omega
    have yd:a<=1073741824:=by omega
    have pC:¬((i.bytes:Int) * (u:Int)>2^48):=by
     have:Y * u<=65536 * 1073741824:=aih ir b;have X:((Y * u:Nat):Int)<=70368744177664:=by omega
     rw[Int.natCast_mul]at X;rw[G];omega
    have yC:List.map (λi=>V.cells[i % V.cells.size]!) (List.range (u * q))=List.map (λi=>V.cells[i % V.cells.size]!) (List.range (a * q))++List.drop (a * q) (List.map (λi=>V.cells[i % V.cells.size]!) (List.range (u * q))):=by
     have j:a * q<=u * q:=agR _ yxa
     have:List.map (λi=>V.cells[i % V.cells.size]!) (List.range (a * q))=List.take (a * q) (List.map (λi=>V.cells[i % V.cells.size]!) (List.range (u * q))):=by
      rw[<-List.map_take,List.take_range,ah9 j]
     rw[this,ahu]
    obtain⟨D,S⟩:=bp.new H (w':=w.alloc (.cells (List.map (λi=>V.cells[i % V.cells.size]!) (List.range (u * q))).toArray f)) f
     (List.map (λi=>V.cells[i % V.cells.size]!) (List.range (u * q))).toArray {mu:=.m,ep:=0,bQ:=q,es:=List.replicate a z} u rfl rfl rfl rfl rfl yxd yxb Q (λi e O=>by
      rw[yC];exact s2.obj i e (by simpa using O))
    refine⟨.slice (some ⟨w.heap.size,0,none⟩) a u,_,_,?_,H.zm,D,S,λ_=>dH.alloc w _⟩
    ·have K:¬((u:Int)<0):=yxa
     have d:¬((a:Int)<0):=yxa
     have g:¬((a:Int)>(u:Int)):=yxa
     simp only[Instr.makeSlice,Sem.run_bind,bV hu,Result.andThen_ok,asInt,asIntOf,Sem.run_pure,v,wrap_small b,wrap_small yd,Sem.run_ite,K,d,g,pC,decide_false,Bool.or_self,agn,if_false,run_askRoom,db hs,ahV,z1,newRow,run_newObj]
     by_cases J:u * q=0
     ·simp only[J,if_true,iY,List.range_zero,agF]
      rfl
     ·simp only[J,if_false,iY]
      rfl
   cases e
  cases e
 cases e
theorem WE{args:List Value}{F:List PV}{ts:Array TypeId}{ty:TypeId}(z:L2 (aG w A Z h) args F)(e:Qd F=some r):
  ∃u,(Builtin.max_ ts ty args.toArray).run P w=.ok u w/\aG w A Z h u r:=by
 unfold Qd at e
 split at e
 ·rename_i k a f b
  obtain rfl:=af7 e;obtain⟨d,R⟩:=z
  match args,d with
  |[x,y],_=>
   have B:=R 0 yxb;have O:=R 1 yxb;simp only[ah4,ain]at B O;obtain rfl:=B.dO;obtain rfl:=O.dO;exact⟨_,by simp[Builtin.max_,Builtin.max2],.val (.int _ _)⟩
 cases e
theorem WG{args:List Value}{F:List PV}{ts:Array TypeId}{ty:TypeId}(z:L2 (aG w A Z h) args F)(e:U4 F=some r):
  ∃u,(Builtin.min_ ts ty args.toArray).run P w=.ok u w/\aG w A Z h u r:=by
 unfold U4 at e
 split at e
 ·rename_i k a f b
  obtain rfl:=af7 e;obtain⟨d,R⟩:=z
  match args,d with
  |[x,y],_=>
   have B:=R 0 yxb;have O:=R 1 yxb;simp only[ah4,ain]at B O;obtain rfl:=B.dO;obtain rfl:=O.dO;exact⟨_,by simp[Builtin.min_,Builtin.min2],.val (.int _ _)⟩
 cases e
theorem Fh(d:Nat){t:TypeId}(y:P.underlying t=some .bool)(a b:Bool)(w:World):(Op.equalIn (d+1) t (.bool a) (.bool b)).run P w=.ok (a==b) w:=by
 simp[Op.equalIn,bV y]
theorem Bg{t:TypeId}(y:P.underlying t=some .bool)(a b:Bool)(w:World):(Op.equal t (.bool a) (.bool b)).run P w=.ok (a==b) w:=Fh 9999 y a b w
theorem _root_.zbw{P:Prop}(h:P:=by
 unfold s9 at e
 split at e
 cases e
 ·rename_i W
  obtain rfl:=af7 e;refine⟨_,?_,.val (.int _ _)⟩;simp[binOp,Op.shift,W]):P:=h
theorem _root_.zbz{P:Prop}(h:P:=by
 
 rw[d]at e;obtain rfl:=af7 e;obtain⟨f,z⟩:=MC U F d;subst j D;refine⟨_,?_,.val (.bool _)⟩;simp[eqGuard,z,binOp,f]):P:=h
theorem _root_.zb2{P:Prop}(h:P:=by
 obtain rfl:=af7 e;refine⟨_,?_,.val (.bool _)⟩;simp only[binOp,Sem.run_bind,Bg g,Result.andThen_ok,Sem.run_pure]):P:=h
theorem WH{H:BinOp}{t:TypeId}{n:PV}{O i:Operand}(U:aG w A Z h x J)(F:aG w A Z h y n)(e:fS P H t J n=some r):
  ∃u,((do eqGuard H t O i x y;binOp H t x y:Sem Value)).run P w=.ok u w/\aG w A Z h u r:=by
 unfold fS at e
 split at e
 ·rename_i k a B b
  obtain rfl:=U.dO;obtain rfl:=F.dO
  have G:(eqGuard H t O i (.int k a) (.int B b)).run P w=.ok () w:=by
   cases H <;>simp[eqGuard]
  simp only[Sem.run_bind,G,Result.andThen_ok]
  split at e
  ·exact zbw
  ·exact zbw
  ·rename_i S K
   split at e
   ·rename_i v
    subst v;unfold ja at e
    split at e
    all_goals first
     |(obtain rfl:=af7 e;refine⟨_,?_,.val (.int _ _)⟩;simp[binOp,Op.intArith,Op.intBits];done)
     |(obtain rfl:=af7 e;refine⟨_,?_,.val (.bool _)⟩;simp[binOp,Op.intCmp];done)
     |(split at e;cases e;rename_i W;obtain rfl:=af7 e;refine⟨_,?_,.val (.int _ _)⟩;simp[binOp,Op.intDiv,W];done)
     |cases e
   cases e
 ·rename_i a b
  obtain rfl:=U.jB;obtain rfl:=F.jB
  have G:(eqGuard H t O i (.string a) (.string b)).run P w=.ok () w:=by
   cases H <;>simp[eqGuard]
  simp only[Sem.run_bind,G,Result.andThen_ok];unfold pL at e
  split at e
  all_goals first
   |(obtain rfl:=af7 e;refine⟨_,?_,.val (.bool _)⟩;simp[binOp,Op.stringOp];done)
   |(split at e;cases e;rename_i W;obtain rfl:=af7 e;refine⟨_,?_,.val (.str _)⟩;simp only[binOp,Op.stringOp];rw[if_neg W];rfl)
   |cases e
 ·rename_i a b
  obtain rfl:=U.gz;obtain rfl:=F.gz
  have G:(eqGuard H t O i (.bool a) (.bool b)).run P w=.ok () w:=by
   cases H <;>simp[eqGuard]
  simp only[Sem.run_bind,G,Result.andThen_ok]
  split at e
  ·rename_i g
   split at e
   ·exact zb2
   ·exact zb2
   cases e
  cases e
 ·rename_i a b
  obtain⟨M,j,_⟩:=U.lS;obtain⟨Q,D,_⟩:=F.lS
  split at e
  ·cases d:XM P t (.agg a) (.agg b)with
   |none=>rw[d]at e;cases e
   |some q=>exact zbz
  ·cases d:XM P t (.agg a) (.agg b)with
   |none=>rw[d]at e;cases e
   |some q=>exact zbz
  cases e
 cases e
theorem abh{H:UnOp}(U:aG w A Z h x J)(e:Zi H J=some r):
  ∃u,(Op.unary H x).run P w=.ok u w/\aG w A Z h u r:=by
 unfold Zi at e
 split at e
 ·obtain rfl:=af7 e;obtain rfl:=U.dO;exact⟨_,by simp[Op.unary,Op.intArith],.val (.int _ _)⟩
 ·obtain rfl:=af7 e;obtain rfl:=U.gz;exact⟨_,by simp[Op.unary],.val (.bool _)⟩
 cases e
theorem Ta{n:Int}(h:Qb c=some n):c=.int .u8 n:=by
 unfold Qb at h
 split at h
 cases h;rfl
 cases h
theorem yD{r:List PV}(e:qy (c::r)=some l):∃n H,c=.int .u8 n/\qy r=some H/\l=n::H:=by
 unfold qy at e
 split at e
 ·rename_i n O
  split at e
  ·rename_i H X
   exact⟨n,H,Ta O,X,(af7 e).symm⟩
  cases e
 cases e
theorem Bh:∀{es:List PV} {l:List Int},qy es=some l->l.length=es.length
 |[],l,e=>by cases e;rfl
 |c::r,l,e=>by
  obtain⟨n,H,_,h,rfl⟩:=yD e;simp[Bh h]
theorem xR:∀{es:List PV} {l:List Int},qy es=some l->∀i,i<es.length->es.getD i .any=.int .u8 (l.getD i 0)
 |[],l,e,i,h=>by simp at h
 |c::r,l,e,i,h=>by
  obtain⟨n,H,rfl,O,rfl⟩:=yD e
  cases i with
  |zero=>rfl
  |succ i=>simpa using xR O i (by simpa using h)
theorem OQ{s d t:TypeId}(D:aG w A Z h x (.aa full es))(h1:P.underlying s=some (.slice t))(X:P.underlying d=some .string)(Q:P.underlying t=some (.int .u8))(G:qy es=some l):
  (convert s d x).run P w=.ok (.string (Zj l)) w:=by
 cases D with
 |val S=>
  cases S with
  |gJ a j _ g=>
   cases G
   rw[run_convert_bytes_string w s d t a 0 j h1 Q X]
   cases a with
   |none=>simp[Conv.bytesToString];rfl
   |some a=>exact run_bytesToString w a 0 j [] (by simp[loadCells,loadCellsFrom])
  |aa b U j H _ _ F v z O N R K M e=>
   have y:=Bh G;have f:0<es.length:=ahD.2 v
   have u:H=1:=by
    have:=K 0 f;rw[xR G 0 f]at this;exact this.symm
   subst u
   have g:∀i,i<es.length->w.cell? ⟨b,U+i,none⟩=some (.int .u8 (l.getD i 0)):=λi B=>by
    have q:=M i 0 B yxa;have V:=e i 0 B yxa;rw[xR G i B]at V;simp only[cells,ah4]at V
    cases J:F i 0 with
    |int k n=>rw[J]at V q;cases V;simpa using q
    |_=>rw[J]at V;cases V
   exact run_convert_bytes_arg w s t h1 Q b U es.length j l y g d X
theorem Tb{s d:TypeId}(U:aG w A Z h x J)(e:zB P s d J=some r):
  ∃u,(convert s d x).run P w=.ok u w/\aG w A Z h u r:=by
 unfold zB at e
 split at e
 ·rename_i z k B n O X
  obtain rfl:=af7 e;obtain rfl:=U.dO;refine⟨_,?_,.val (.int _ _)⟩;simp only[convert,Sem.run_bind,bV O,bV X,Result.andThen_ok]
  cases z <;>simp[Conv.intToInt]
 ·rename_i z Y O X
  obtain rfl:=af7 e;obtain rfl:=U.jB;refine⟨_,?_,.val (.str _)⟩;simp only[convert,Sem.run_bind,bV O,bV X,Result.andThen_ok]
  cases z <;>simp
 ·rename_i O X
  split at e
  ·rename_i Q G
   obtain rfl:=af7 e;exact⟨_,OQ U O X Q G,.val (.str _)⟩
  cases e
 cases e
def zq(w:World)(A:Nat->Prop)(Z:List (Nat×Nat))(h:ab):Option Value->Option PV->Prop
 |none,none=>True
 |some v,some p=>aG w A Z h v p
 |_,_=>False
theorem gT{v:Value}{d:Nat}{code:BoundsCode}(a:aG w A Z h v p)(e:dq (some p) d t=some n):
  n<=t/\∀t',t<=t'->(Instr.sliceBound v t' code).run P w=.ok n w:=by
 unfold dq at e
 split at e
 ·rename_i z;cases z
 ·rename_i k i K
  obtain rfl:=af7 K;obtain rfl:=a.dO
  split at e
  ·rename_i G
   obtain rfl:=af7 e;refine⟨by omega,λt' b=>?_⟩;have f:0<=i/\i<=(t':Int):=yxa
   simp[Instr.sliceBound,asIntOf,f]
  cases e
 cases e
theorem jK{d:Nat}(e:dq none d t=some n):n=d:=by
 simpa[dq]using e.symm
theorem Ky{len cap m b a:Nat}{u:Option Value}{G g:Option PV}(d:zq w A Z h z G)(e:zq w A Z h B g)(j:zq w A Z h u f)
  (hle:len<=cap) (D:dq f len len=some m) (N:dq g len m=some b) (q:dq G 0 b=some a) (M:(f.isSome&&g.isNone)=false):
  ∃i,(Instr.sliceBounds true len cap z B u).run P w=.ok (a,b,i) w/\a<=b/\b<=len/\b<=i/\(f=none->i=cap)/\(f≠none->i=m):=by
 have Q:a<=b/\∀c,(match z with |some v=>Instr.sliceBound v b c |none=>pure 0:Sem Nat).run P w=.ok a w:=by
  cases G with
  |none=>cases z with
   |none=>obtain rfl:=jK q;exact⟨ag7 _,λc=>rfl⟩
   |some _=>simp[zq]at d
  |some t=>cases z with
   |none=>simp[zq]at d
   |some y=>
    refine⟨(gT (P:=P) (code:=.sliceB) (show aG w A Z h y t from d) q).1,λc=>?_⟩;exact(gT (P:=P) (show aG w A Z h y t from d) q).2 _ (agb _)
 cases f with
 |none=>
  cases u with
  |some _=>simp[zq]at j
  |none=>
   obtain rfl:=jK D;refine⟨cap,?_,Q.1,?_,?_,λ_=>rfl,λR=>absurd rfl R⟩
   ·cases g with
    |none=>cases B with
     |none=>
      obtain rfl:=jK N;simp only[Instr.sliceBounds,Sem.run_bind,Sem.run_pure,Result.andThen_ok];have:=Q.2 .sliceB
      cases z <;>simp_all
     |some _=>simp[zq]at e
    |some n=>cases B with
     |none=>simp[zq]at e
     |some V=>
      have W:=(gT (P:=P) (code:=.sliceAcap) (show aG w A Z h V n from e) N).2 cap hle;simp only[Instr.sliceBounds,Sem.run_bind,Sem.run_pure,Result.andThen_ok,if_true,W];have:=Q.2 .sliceB
      cases z <;>simp_all
   ·cases g with
    |none=>obtain rfl:=jK N;exact agb _
    |some n=>cases B with
     |none=>simp[zq]at e
     |some V=>exact(gT (P:=P) (code:=.sliceAcap) (show aG w A Z h V n from e) N).1
   ·cases g with
    |none=>obtain rfl:=jK N;exact hle
    |some n=>cases B with
     |none=>simp[zq]at e
     |some V=>exact agI (gT (P:=P) (code:=.sliceAcap) (show aG w A Z h V n from e) N).1 hle
 |some H=>
  cases u with
  |none=>simp[zq]at j
  |some J=>
   obtain⟨Y,O⟩:=gT (P:=P) (code:=.slice3Acap) (show aG w A Z h J H from j) D
   cases g with
   |none=>simp at M
   |some n=>cases B with
    |none=>simp[zq]at e
    |some V=>
     obtain⟨F,U⟩:=gT (P:=P) (code:=.slice3B) (show aG w A Z h V n from e) N;refine⟨m,?_,Q.1,by omega,F,(λR=>by cases R),(λ_=>rfl)⟩;simp only[Instr.sliceBounds,Sem.run_bind,Result.andThen_ok,if_true,O cap hle,U m (agb _)];have:=Q.2 .slice3C
     cases z <;>simp_all
theorem cd.tf{v:Value}(J:cd w A v (.aa full es)):es=[]\/
  ∃b off cap sz,∃K:Nat->Nat->Value,v=.slice (some ⟨b,off,none⟩) es.length cap/\¬A b/\0<sz/\(∀i,i<es.length->(Pm.cells (es.getD i .any)).length=sz)/\
   (∀i j,i<es.length->j<sz->w.cell? ⟨b,off+(i * sz+j),none⟩=some (K i j))/\
   (∀i j,i<es.length->j<sz->cd w A (K i j) ((Pm.cells (es.getD i .any)).getD j .any)):=by
 cases J with
 |gJ a cap _ u=>exact .inl rfl
 |aa b off cap sz _ _ K O X Q G d N H n=>exact .inr ⟨b,off,cap,sz,K,rfl,G,d,N,H,n⟩
theorem _root_.zaj{P:Prop}(h:P:=by
 split at e
 ·rename_i Yo
  subst Yo;obtain rfl:=af7 e;refine .an _ id ep U b o n ⟨_,_,_,rfl⟩ D Y e3 (m2 o D) (λ_ _=>?_);exact⟨d,by rw[O];split <;>simp,c2⟩
 ·rename_i Yo
  split at e
  ·rename_i hz
   obtain rfl:=af7 e;rw[hz];exact .val (.gJ _ _ _ (λR=>by cases R))
  ·rename_i hz
   obtain rfl:=af7 e;rw[if_neg yxa];refine .an _ id ep (U+a) (b - a) o n ⟨_,_,_,rfl⟩ D Y e3 (m2 o D) (λ_ _=>?_);exact⟨d - a,by rw[O,ag0],by omega⟩):P:=h
theorem OR(H:bp w F Z h){t:TypeId}{px:PV}{M:Option Value}{X y:Option PV}(hx:aG w (Av F h Z) Z h x px)
  (xe:zq w (Av F h Z) Z h z X) (N:zq w (Av F h Z) Z h B y) (JN:zq w (Av F h Z) Z h M f) (e:cS P h t px X y f=some r):
  ∃u,(Instr.sliceAt t x z B M).run P w=.ok u w/\aG w (Av F h Z) Z h u r:=by
 unfold cS at e
 split at e
 ·-- a string
  rename_i s hu
  obtain rfl:=hx.jB
  split at e
  cases e
  ·rename_i hm
   obtain rfl:f=none:=by simpa using hm
   obtain rfl:M=none:=by cases M <;>simp_all[zq]
   split at e
   ·rename_i b hb
    split at e
    ·rename_i a J
     obtain rfl:=af7 e
     have O:∃gI,(match B with |some v=>Instr.sliceBound v s.size .sliceAlen |none=>pure s.size:Sem Nat).run P w=.ok b w/\gI=b:=by
      cases y with
      |none=>cases B with
       |none=>exact⟨b,by simp[jK hb],rfl⟩
       |some _=>simp[zq]at N
      |some ph=>cases B with
       |none=>simp[zq]at N
       |some vh=>exact⟨b,(gT (P:=P) (show aG w _ Z h vh ph from N) hb).2 _ (agb _),rfl⟩
     have h2:(match z with |some v=>Instr.sliceBound v b .sliceB |none=>pure 0:Sem Nat).run P w=.ok a w:=by
      cases X with
      |none=>cases z with
       |none=>simp[jK J]
       |some _=>simp[zq]at xe
      |some pl=>cases z with
       |none=>simp[zq]at xe
       |some vl=>exact(gT (P:=P) (show aG w _ Z h vl pl from xe) J).2 _ (agb _)
     obtain⟨_,O,_⟩:=O;refine⟨.string (s.extract a b),?_,.val (.str _)⟩;simp only[Instr.sliceAt,Sem.run_bind,bV hu,Result.andThen_ok,Instr.slice,Instr.sliceBounds]
     cases B <;>cases z <;>simp_all
    cases e
   cases e
 ·-- a snapshot
  rename_i el G S hu
  split at e
  ·rename_i sz hs
   split at e
   ·rename_i m hm
    split at e
    ·rename_i b hb
     split at e
     ·rename_i a J
      split at e
      ·rename_i hc
       obtain⟨NF,xJ⟩:=hc;obtain rfl:=af7 e;obtain⟨ad,d,rfl,V,yC⟩:=hx.fI.iC;obtain⟨q,r1,r2,r3,r4,r5,r6⟩:=Ky (P:=P) xe N JN V hm hb J NF
       have cN:(Instr.sliceAt t (.slice ad S.length d) z B M).run P w=.ok (.slice (if q=a then ad else ad.map (·.add (a * sz))) (b - a) (q - a)) w:=by
        simp only[Instr.sliceAt,Sem.run_bind,bV hu,Result.andThen_ok,Instr.slice,r1,db hs,Sem.run_pure]
       refine⟨_,cN,.val ?_⟩
       have PQ:((if f.isSome then m==b else G&&b==S.length)=true->q - a=b - a):=by
        intro R
        cases f with
        |none=>
         simp at R;have O:=r5 rfl;have h2:=yC R.1;omega
        |some pm=>
         simp at R;have O:=r6 yxb;omega
       by_cases ZH:b - a=0
       ·rw[ZH];have:(S.drop a).take 0=[]:=by simp
        rw[this];exact .gJ _ _ _ (λR=>by have:=PQ R;omega)
       ·have hmc:q≠a:=yxa
        rw[if_neg hmc];rcases hx.fI.tf with rfl |⟨b0,U,Ge,Q,qw,ev,k4,k5,k6,k7,k8⟩;simp at r3;omega
        ·simp at ev;obtain⟨rfl,rfl⟩:=ev
         have jz:Q=sz:=by
          have:=k6 a yxa;have ha':S[a]?=some S[a]:=agd yxa;rw[ha']at xJ;simp[List.getD,show a<S.length by omega]at this xJ;omega
         subst jz;have K:((S.drop a).take (b - a)).length=b - a:=by simp;omega
         have yL:∀i,i<b - a->((S.drop a).take (b - a)).getD i .any=S.getD (a+i) .any:=λi B=>by
          simp[List.getD,agP,B]
         have:=cd.aa (w:=w) (A:=Av F h Z) b0 (U+a * Q) (q - a) Q (if f.isSome then m==b else G&&b==S.length) ((S.drop a).take (b - a)) (λi j=>qw (a+i) j)
          (by intro hn;rw[hn]at K;simp at K;omega) (by rw[K];omega) (λR=>by rw[K];exact PQ R) k4 k5
          (λi B=>by rw[K]at B;rw[yL i B];exact k6 (a+i) yxa)
          (λi j B hj=>by
           rw[K]at B;have:=k7 (a+i) j yxa hj;rw[ag0]at this;rw[show U+a * Q+(i * Q+j)=U+(a * Q+i * Q+j) by omega];exact this)
          (λi j B hj=>by rw[K]at B;rw[yL i B];exact k8 (a+i) j yxa hj)
         rw[K]at this;simpa[fu]using this
      cases e
     cases e
    cases e
   cases e
  cases e
 ·-- a reference
  rename_i el id ep U g hu
  split at e
  ·rename_i sz o hs ho
   split at e
   ·rename_i hc
    obtain⟨rfl,V⟩:=hc;obtain⟨D,e2,e3⟩:=getM_some ho;obtain⟨n,Y⟩:=fh H.len D;obtain⟨m1,m2,m3⟩:=hx.eC;obtain⟨d,rfl,c2⟩:=m3 o n D Y e3 e2 V;obtain⟨T,vy,k1,k2,k3,k4,k5⟩:=(H.obj id o n D Y e3).c (m2 o D).2
    split at e
    ·rename_i b OS
     split at e
     ·rename_i a J
      obtain⟨afh,kk,ii,afi,hgt,hbd⟩:f=none/\∃kk ii,y=some (.int kk ii)/\(g:Int)<ii/\dq (some (.int kk ii)) 0 (o.es.length - U)=some b:=by
       unfold beyond at OS
       split at OS
       ·rename_i kk ii
        split at OS
        exact⟨rfl,kk,ii,rfl,by assumption,OS⟩
        cases OS
       cases OS
      subst afh;subst afi;obtain⟨q,r1,r2,r3,r4,r5,r6⟩:=Ky (P:=P) (len:=o.es.length - U) (cap:=d) (m:=o.es.length - U) xe N JN yxa rfl hbd J rfl;have afj:M=none:=by cases M with |none=>rfl |some _=>simp[zq]at JN
      subst afj
      have r1':(Instr.sliceBounds true g d z B none).run P w=.ok (a,b,q) w:=by
       cases B with
       |none=>simp[zq]at N
       |some vh=>exact r1
      have cN:(Instr.sliceAt t (.slice (some ⟨n.1,U * o.bQ,none⟩) g d) z B none).run P w=.ok (.slice (if q=a then some ⟨n.1,U * o.bQ,none⟩else some ⟨n.1,U * o.bQ+a * o.bQ,none⟩) (b - a) (q - a)) w:=by
       simp only[Instr.sliceAt,Sem.run_bind,bV hu,Result.andThen_ok,Instr.slice,r1',db hs,Sem.run_pure,ago,fu]
      refine⟨_,cN,?_⟩;have O:=r5 rfl
      exact zaj
     cases e
    split at e
    ·rename_i m hm
     split at e
     ·rename_i b hb
      split at e
      ·rename_i a J
       split at e
       ·rename_i NF
        obtain⟨q,r1,r2,r3,r4,r5,r6⟩:=Ky (P:=P) (cap:=d) xe N JN yxa hm hb J NF
        have cN:(Instr.sliceAt t (.slice (some ⟨n.1,U * o.bQ,none⟩) g d) z B M).run P w=.ok (.slice (if q=a then some ⟨n.1,U * o.bQ,none⟩else some ⟨n.1,U * o.bQ+a * o.bQ,none⟩) (b - a) (q - a)) w:=by
         simp only[Instr.sliceAt,Sem.run_bind,bV hu,Result.andThen_ok,Instr.slice,r1,db hs,Sem.run_pure,ago,fu]
        refine⟨_,cN,?_⟩
        split at e
        ·rename_i W
         split at e
         ·rename_i hma
          obtain rfl:=af7 e;have O:=r6 (by intro R;rw[R]at W;simp at W);have:b - a=0:=by omega
          rw[this];exact .val (.gJ _ _ _ (λ_=>by omega))
         ·obtain rfl:=af7 e;exact .any _
        ·rename_i W
         have O:=r5 (by cases f <;>simp_all)
         exact zaj
       cases e
      cases e
     cases e
    cases e
   cases e
  cases e
 cases e
theorem OT(l:List Value):∀(i off:Nat) (cs:Array Value),off+i+l.length<=cs.size->
  ((l.zipIdx i).foldl (λcs (x:Value×Nat)=>cs.setIfInBounds (off+x.2) x.1) cs).size=cs.size/\
  ∀k,((l.zipIdx i).foldl (λcs (x:Value×Nat)=>cs.setIfInBounds (off+x.2) x.1) cs)[k]?=if off+i<=k/\k<off+i+l.length then l[k - (off+i)]? else cs[k]?:=by
 induction l with
 |nil=>intro i off cs _;exact⟨rfl,λk=>by rw[if_neg (by simp only[agH];omega)];rfl⟩
 |cons v r P=>
  intro i off cs A
  simp only[agj]at A;obtain⟨O,X⟩:=P (i+1) off (cs.setIfInBounds (off+i) v) yxd;refine⟨by simpa[List.zipIdx_cons]using O,λk=>?_⟩;rw[List.zipIdx_cons,aht,X k]
  by_cases t:off+i=k
  ·subst t;rw[if_neg yxa,if_pos (by simp only[agj];omega)];rw[Array.getElem?_setIfInBounds_self_of_lt yxa];simp
  ·by_cases H:off+(i+1)<=k/\k<off+(i+1)+r.length
   ·rw[if_pos H,if_pos (by simp only[agj];omega)];obtain⟨m,d⟩:∃m,k - (off+i)=m+1:=⟨k - (off+i) - 1,by omega⟩;rw[d,List.getElem?_cons_succ]
    congr 1
    omega
   ·rw[if_neg H,if_neg (by simp only[agj];omega),Array.getElem?_setIfInBounds_ne t]
theorem HO(v:Value)(off:Nat)(cs:Array Value)(A:off+v.cells.size<=cs.size):
  (v.cells.zipIdx.foldl (λcs (x:Value×Nat)=>cs.setIfInBounds (off+x.2) x.1) cs).size=cs.size/\
  ∀k,(v.cells.zipIdx.foldl (λcs (x:Value×Nat)=>cs.setIfInBounds (off+x.2) x.1) cs)[k]?=if off<=k/\k<off+v.cells.size then v.cells[k - off]? else cs[k]?:=by
 have:=OT v.cells.toList 0 off cs (by simpa using A);simp only[ahJ,ahl,agG]at this;rw[<-Array.foldl_toList,Array.toList_zipIdx];exact this
def pG(w:World)(A:Nat->Prop)(Z:List (Nat×Nat))(h:ab)(vs:List (Nat×Value))(F:List (Nat×PV)):Prop:=
 vs.length=F.length/\∀(k:Nat) (x:Nat×PV),F[k]?=some x->∃v:Value,vs[k]?=some (x.1,v)/\aG w A Z h v x.2
theorem pG.MM(r:pG w A Z h vs []):vs=[]:=agm r.1
theorem pG.cons_inv{x:Nat×PV}{F:List (Nat×PV)}(r:pG w A Z h vs (x::F)):∃v n,vs=(x.1,v)::n/\aG w A Z h v x.2/\pG w A Z h n F:=by
 obtain⟨O,X⟩:=r;obtain⟨v,Q,G⟩:=X 0 x rfl
 match vs,O,Q with
 |y::n,O,Q=>
  simp at Q;subst Q;exact⟨v,n,rfl,G,by simpa using O,λk x U=>by simpa using X (k+1) x (by simpa using U)⟩
def Bi(w:World)(A:Nat->Prop)(Z:List (Nat×Nat))(h:ab)(cs:Array Value)(F:List PV):Prop:=
 cs.size=F.length/\∀(k:Nat) (q:PV),F[k]?=some q->∃u:Value,cs[k]?=some u/\aG w A Z h u q
theorem HP{d:Nat->Option (Nat×Nat)}{pl':Nat->Option (Nat×Nat)}(S:∀i x,d i=some x->pl' i=some x):∀(F:List (Nat×PV)) (vs:List (Nat×Value)) (cs:Array Value) (z r:List PV),
  pG w A Z h vs F->Bi w A Z h cs z->kN d z F=some r->∃f,Instr.fill pl' cs vs=some f/\Bi w A Z h f r:=by
 intro F
 induction F with
 |nil=>
  intro vs cs z r K G e
  obtain rfl:=K.MM;simp[kN]at e;subst e;exact⟨cs,by simp[Instr.fill],G⟩
 |cons x F Q=>
  intro vs cs z r K G e
  obtain⟨v,n,rfl,M,X⟩:=K.cons_inv;obtain⟨i,p⟩:=x;simp only[kN]at e
  split at e
  cases e
  ·rename_i U N P
   split at e
   ·rename_i j
    obtain⟨a,g,W⟩:=j;obtain⟨V,b⟩:=M.cells g;simp only at V b a;have jz:=G.1;obtain⟨R,B⟩:=HO v U cs yxa
    obtain⟨f,D,J⟩:=Q n _ (rI z U (Pm.cells p)) r X (by
     refine⟨by rw[R];simp[rI];omega,λk q y=>?_⟩;rw[rI,iJ _ _ _ _ yxa]at y;rw[B k]
     by_cases t:k<U
     ·rw[if_pos t]at y;obtain⟨u,Y,O⟩:=G.2 k q y;exact⟨u,by rw[if_neg yxa];exact Y,O⟩
     ·rw[if_neg t]at y
      by_cases H:k<U+(Pm.cells p).length
      ·rw[if_pos H]at y;obtain⟨u,Y,O,_⟩:=b _ q y;exact⟨u,by rw[if_pos yxa];exact Y,O⟩
      ·rw[if_neg H]at y;obtain⟨u,Y,O⟩:=G.2 k q y;exact⟨u,by rw[if_neg yxa];exact Y,O⟩) e
    refine⟨f,?_,J⟩;simp only[Instr.fill,S i _ P];rw[if_neg yxd];exact D
   cases e
theorem HQ(V:Array Field)(b:V.toList.all (λf=>(dF P f.type).isSome)=true)(w:World):
  ∃d:Array (Nat×Nat),(V.mapM (λf=>do pure (f.offset,<-sizeOf f.type)):Sem (Array (Nat×Nat))).run P w=.ok d w/\∀i x,jP P V i=some x->d[i]?=some x:=by
 have v:∀(l:List Field),l.all (λf=>(dF P f.type).isSome)=true->
   ∃d:List (Nat×Nat),(l.mapM (λf=>do pure (f.offset,<-sizeOf f.type)):Sem (List (Nat×Nat))).run P w=.ok d w/\∀(i:Nat) (f:Field),l[i]?=some f->∃s,dF P f.type=some s/\d[i]?=some (f.offset,s):=by
  intro l
  induction l with
  |nil=>intro _;exact⟨[],by simp,λi f u=>by simp at u⟩
  |cons f r e=>
   intro j
   simp at j;obtain⟨s,S⟩:=ah1.1 j.1;obtain⟨d,O,X⟩:=e (by simpa using j.2);refine⟨(f.offset,s)::d,?_,λi g N=>?_⟩;simp only[List.mapM_cons,Sem.run_bind,db S,Result.andThen_ok,Sem.run_pure,O]
   ·cases i with
    |zero=>simp at N;subst N;exact⟨s,S,rfl⟩
    |succ i=>simpa using X i g (by simpa using N)
 obtain⟨d,O,X⟩:=v V.toList b;refine⟨d.toArray,?_,λi x U=>?_⟩
 ·rw[<-Array.toArray_toList (xs:=V),List.mapM_toArray];simp only[Sem.run_map,O,Result.andThen_ok]
 ·unfold jP at U
  split at U
  ·rename_i f u
   obtain⟨s,K,a⟩:=X i f (by simpa using u);rw[K]at U;simp at U;subst U;simpa using a
  cases U
theorem Bi.agg{A:Nat->Prop}{cs:Array Value}{F:List PV}(r:Bi w A Z h cs F):aG w A Z h (.agg cs) (.agg F):=by
 have:=aG.agg (w:=w) (A:=A) (Z:=Z) (h:=h) cs.toList F (by simpa using r.1) (λj M=>by
  obtain⟨u,Y,O⟩:=r.2 j F[j] (agd M);have D:cs.toList.getD j Go.undef=u:=by simp[List.getD,Y]
  have N:F.getD j .any=F[j]:=by simp[List.getD,M]
  rw[D,N];exact O)
 simpa using this
theorem yE{t:TypeId}{z:PV}(e:jN P t=some z)(h1:(Pm.cells z).all bP=true)(w:World)(Z:List (Nat×Nat))(h:ab):∃v,(∀w,(zeroValue t).run P w=.ok v w)/\Bi w A Z h v.cells (Pm.cells z):=by
 obtain⟨v,H,D⟩:=lI (P:=P) e;obtain⟨Q,b⟩:=(D w A Z h).cells h1;exact⟨v,H,Q,λk q y=>by obtain⟨u,Y,O,_⟩:=b k q y;exact⟨u,Y,O⟩⟩
theorem OU{t:TypeId}{vs:Array (Nat×Value)}{F:List (Nat×PV)}(g:pG w A Z h vs.toList F)(e:xh P t F=some r):
  ∃u,(Instr.build t vs).run P w=.ok u w/\aG w A Z h u r:=by
 unfold xh at e
 split at e
 ·rename_i z V M y
  split at e
  ·rename_i b
   obtain⟨b,X⟩:=b
   cases a:kN (jP P V) (Pm.cells z) F with
   |none=>rw[a]at e;simp at e
   |some q=>
    rw[a]at e;simp at e;subst e;obtain⟨v,H,D⟩:=yE (P:=P) (A:=A) M X w Z h;obtain⟨B,J,j⟩:=HQ V b w;obtain⟨f,K,d⟩:=HP (pl':=λi=>B[i]?) j F vs.toList v.cells (Pm.cells z) q g D a;refine⟨.agg f,?_,d.agg⟩;simp only[Instr.build,Sem.run_bind,H,Result.andThen_ok,bV y,J,K,Sem.run_pure]
  cases e
 ·rename_i z n G M y
  split at e
  ·rename_i N S
   split at e
   ·rename_i X
    cases a:kN (λi=>some (i * N,N)) (Pm.cells z) F with
    |none=>rw[a]at e;simp at e
    |some q=>
     rw[a]at e;simp at e;subst e;obtain⟨v,H,D⟩:=yE (P:=P) (A:=A) M X w Z h;obtain⟨f,K,d⟩:=HP (pl':=λi=>some (i * N,N)) (λ_ _ U=>U) F vs.toList v.cells (Pm.cells z) q g D a;refine⟨.agg f,?_,d.agg⟩;simp only[Instr.build,Sem.run_bind,H,Result.andThen_ok,bV y,db S,K,Sem.run_pure]
   cases e
  cases e
 cases e
theorem Flat.set{A:Nat->Prop}{sz:Nat}{cs f:Array Value}{es:List PV}(a:Flat w A Z h sz cs.toList es){v:Value}{p:PV}(J:aG w A Z h v p)(h1:(Pm.cells p).length=sz)(X:(Pm.cells p).all bP=true)
  (i:Nat) (B:i<es.length) (D:f.size=cs.size) (g:∀k,f[k]?=if i * sz<=k/\k<i * sz+v.cells.size then v.cells[k - i * sz]? else cs[k]?):Flat w A Z h sz f.toList (es.set i p):=by
 obtain⟨Q,z⟩:=J.cells X;refine⟨by have:=a.1;simp at this ⊢;omega,λk e b=>?_⟩
 by_cases d:k=i
 ·subst d;rw[agc B]at b;obtain rfl:=af7 b;refine⟨h1,λj q y=>?_⟩;have M:=ag y;obtain⟨u,Y,O,_⟩:=z j q y;refine⟨u,?_,O⟩;rw[agG,g,if_pos yxa,show k * sz+j - k * sz=j by omega];exact Y
 ·rw[aga (agV d)]at b;obtain⟨S,t⟩:=a.2 k e b;refine⟨S,λj q y=>?_⟩;have M:=ag y;obtain⟨u,Y,O⟩:=t j q y;refine⟨u,?_,O⟩;rw[agG,g,if_neg];simpa using Y
  ·rcases Nat.lt_or_gt_of_ne d with n |N
   ·have:=mD (s:=sz) n;omega
   ·have:=mD (s:=sz) N;omega
theorem OV{sz:Nat}:∀(F:List (Nat×PV)) (vs:List (Nat×Value)) (cs:Array Value) (es:List PV),pG w A Z h vs F->Flat w A Z h sz cs.toList es->
  (∀x∈F,(Pm.cells x.2).length=sz/\(Pm.cells x.2).all bP=true/\x.1<es.length)->
  ∃f,Instr.fill (λi=>some (i * sz,sz)) cs vs=some f/\Flat w A Z h sz f.toList (F.foldl (λes x=>es.set x.1 x.2) es):=by
 intro F
 induction F with
 |nil=>
  intro vs cs es K u _
  obtain rfl:=K.MM;exact⟨cs,by simp[Instr.fill],u⟩
 |cons x F P=>
  intro vs cs es K u b
  obtain⟨v,n,rfl,O,X⟩:=K.cons_inv;obtain⟨a,t,q⟩:=b x yxb;obtain⟨Q,_⟩:=O.cells t;have B:=u.1;have H:=mD (s:=sz) q;simp at B;obtain⟨R,g⟩:=HO v (x.1 * sz) cs yxa;have M:=u.set O a t x.1 q R g
  obtain⟨f,d,j⟩:=P n _ _ X M (λy G=>by
   obtain⟨z,D,e⟩:=b y (by simp[G]);exact⟨z,D,by simpa using e⟩)
  refine⟨f,?_,j⟩;simp only[Instr.fill];rw[if_neg yxd];exact d
theorem Flat.aa{A:Nat->Prop}{sz:Nat}{cs:List Value}{es:List PV}(a:Flat w A Z h sz cs es)(S:0<sz)(J:aw es=true){w':World}{A':Nat->Prop}{b cap:Nat}{full:Bool}
  (H:∀k,k<w.heap.size->¬A k->w'.heap[k]?=w.heap[k]?) (v:∀k,k<w.heap.size->¬A k->¬A' k) (W:¬A' b) (G:∀(k:Nat) (u:Value),cs[k]?=some u->w'.cell? ⟨b,k,none⟩=some u) (t:es.length<=cap) (n:full=true->cap=es.length):
  cd w' A' (.slice (some ⟨b,0,none⟩) es.length cap) (.aa full es):=by
 by_cases z:es=[]
 ·subst z;exact .gJ _ _ _ (λR=>by simpa using n R)
 ·have g:∀(l:List PV),aw l=true->∀e∈l,aW e=true:=by
   intro l
   induction l with
   |nil=>intro _ e d;cases d
   |cons c r P=>
    intro f e d
    simp[aw]at f;rcases agi.1 d with rfl |d;exact f.1;exact P f.2 e d
  have Q:∀(e:PV),aW e=true->∀q∈Pm.cells e,aW q=true:=by
   intro e d q y
   cases e <;>first
    |(simp only[Pm.cells,agu]at y;subst y;exact d)
    |(simp[aW]at d;exact g _ d q y)
  have X:∀i j,i<es.length->j<sz->∃u,cs[i * sz+j]?=some u/\cd w A u ((Pm.cells (es.getD i .any)).getD j .any):=by
   intro i j B M
   have d:=agd B;obtain⟨K,F⟩:=a.2 i _ d;have y:=agd (show j<(Pm.cells es[i]).length by omega);obtain⟨u,Y,O⟩:=F j _ y;have D:es.getD i .any=es[i]:=by simp[List.getD,B]
   refine⟨u,Y,?_⟩;rw[D];have N:(Pm.cells es[i]).getD j .any=(Pm.cells es[i])[j]' yxa:=by simp[List.getD,y]
   rw[N];exact O.CN (Q _ (g es J _ (agO B)) _ (agO _))
  refine .aa b 0 cap sz full es (λi j=>cs.getD (i * sz+j) Go.undef) z t n W S (λi B=>?_) (λi j B M=>?_) (λi j B M=>?_)
  ·have D:es.getD i .any=es[i]:=by simp[List.getD,B]
   rw[D];exact(a.2 i _ (agd B)).1
  ·obtain⟨u,Y,O⟩:=X i j B M;rw[agz,G _ u Y];simp[List.getD,Y]
  ·obtain⟨u,Y,O⟩:=X i j B M;have:cs.getD (i * sz+j) Go.undef=u:=by simp[List.getD,Y]
   rw[this];exact O.mono H v
theorem Bj(H:bp w F Z h){t:TypeId}{vs:Array (Nat×Value)}{d:List (Nat×PV)}(y:pG w (Av F h Z) Z h vs.toList d)(e:ek P lv h t n d=some (r,h')):
  EP P lv w F Z h (Instr.buildSlice t n vs) r h':=by
 unfold ek at e
 split at e
 ·rename_i f hu
  split at e
  ·rename_i N z hs hz
   split at e
   ·rename_i hc
    obtain⟨Q,O,U,G,Y⟩:=hc;obtain⟨V,z1,z2⟩:=lI (P:=P) hz;obtain⟨s1,s2⟩:=tw (z2 w (Av F h Z) Z h) U G Q n
    obtain⟨q,K,g⟩:=OV (sz:=N) d vs.toList (List.map (λi=>V.cells[i % V.cells.size]!) (List.range (n * N))).toArray (List.replicate n z) y (by simpa using s2) (λx hx=>by
     have:=af9.1 Y x hx;simp only[age,decide_eq_true_eq]at this;exact⟨this.1.1,this.1.2,by simpa using this.2⟩)
    have W:d.foldl (λa x=>a.set x.1 x.2) (List.replicate n z)=Ch z n d:=rfl;rw[W]at g
    have A:(Ch z n d).length=n:=by
     have:∀(l:List (Nat×PV)) (a:List PV),(l.foldl (λa x=>a.set x.1 x.2) a).length=a.length:=by
      intro l
      induction l with
      |nil=>intro a;rfl
      |cons x l ih=>intro a;rw[aht,ih];simp
     unfold Ch;rw[this];simp
    have D:(Instr.buildSlice t n vs).run P w=.ok (.slice (some ⟨w.heap.size,0,none⟩) n n) (w.alloc (.cells q f)):=by
     simp only[Instr.buildSlice,Sem.run_bind,bV hu,Result.andThen_ok,db hs,Sem.run_ite];rw[if_neg yxa]
     by_cases B:n * N=0
     ·have R:n=0:=by
       rcases Nat.mul_eq_zero.1 B with h |h;exact h;omega
      subst R;simp only[B,if_true,Sem.run_pure,Result.andThen_ok,iY,List.range_zero,agF]at K ⊢;rw[K];simp only[Sem.run_bind,newRow,run_newObj,Result.andThen_ok,Sem.run_pure]
      rfl
     ·simp only[B,if_false,z1,Result.andThen_ok,Sem.run_pure,iY];rw[K];simp only[Sem.run_bind,newRow,run_newObj,Result.andThen_ok,Sem.run_pure]
      rfl
    split at e
    ·rename_i J
     obtain⟨rfl,rfl⟩:=agk (af7 e);refine⟨_,_,Z,D,.val ?_,H.Cm (dH.alloc w _),(dH.alloc w _).xa h Z,λ_=>dH.alloc w _⟩
     have:=g.aa (w':=w.alloc (.cells q f)) (A':=Av F h Z) (b:=w.heap.size) (cap:=n) (full:=true) Q J (λk v _=>heap_alloc_old w _ k v) (λk _ v=>v)
      (λhm=>by have:=Av.lt H hm;omega) (λk u X=>by rw[World.cell?_alloc_new];simpa using X) yxa (λ_=>by omega)
     rwa[A]at this
    ·rename_i J
     split at e
     ·obtain⟨rfl,rfl⟩:=agk (af7 e)
      obtain⟨M,S⟩:=bp.new H (w':=w.alloc (.cells q f)) f q {mu:=.m,ep:=0,bQ:=N,es:=Ch z n d} n rfl rfl rfl rfl rfl (by simp[A])
       (by have:=g.1;simp[A]at this;simp[this]) Q (λi e he=>by
        obtain⟨n1,n2⟩:=g.2 i e he;exact⟨n1,λj p y=>by obtain⟨u,m1,m2⟩:=n2 j p y;exact⟨u,by simpa using m1,m2⟩⟩)
      exact⟨_,_,_,D,H.zm,M,S,λ_=>dH.alloc w _⟩
     cases e
   cases e
  cases e
 cases e
open Go.MapKept
theorem _root_.zbt{P:Prop}(h:P:=by
 obtain rfl:=af7 S;refine⟨by simp[Instr.sameNow],λW=>?_⟩;have:=eq_of_beq W;subst this;exact⟨by simp[Instr.sameBits],J⟩):P:=h
theorem Ww{t:TypeId}{v:Value}(g:rz P t k=true)(J:aG w A Z h v k):∃d,P.underlying t=some d/\IsKey d v/\∀(B:PV) (a:Value) (b:Bool),kQ k B=some b->aG w A Z h a B->Instr.sameNow d v a=some b/\(b=true->Instr.sameBits 10000 a v=true/\aG w A Z h v B):=by
 unfold rz at g
 split at g
 ·rename_i D k n y
  obtain rfl:=J.dO;have g:=of_decide_eq_true g;refine⟨_,y,by simpa[IsKey]using g,λB a b S q=>?_⟩
  cases B <;>simp only[kQ]at S <;>try(cases S;done)
  obtain rfl:=q.dO
  split at S
  ·rename_i H
   subst H;exact zbt
  cases S
 ·rename_i s y
  obtain rfl:=J.jB;refine⟨_,y,by simp[IsKey],λB a b S q=>?_⟩
  cases B <;>simp only[kQ]at S <;>try(cases S;done)
  obtain rfl:=q.jB;obtain rfl:=af7 S;refine⟨by simp[Instr.sameNow],λW=>?_⟩;have:=(bytes_beq _ _).1 W;subst this;exact⟨by simp only[Instr.sameBits];exact W,J⟩
 ·rename_i b y
  obtain rfl:=J.gz;refine⟨_,y,by simp[IsKey],λB a b S q=>?_⟩
  cases B <;>simp only[kQ]at S <;>try(cases S;done)
  obtain rfl:=q.gz;exact zbt
 cases g
def YD(w:World)(A:Nat->Prop)(Z:List (Nat×Nat))(h:ab)(l:List MapEntry)(F:List PV):Prop:=
 l.length=F.length/\∀(i:Nat) (e:PV),F[i]?=some e->∃(k v:PV) (m:MapEntry),e=.agg [k,v]/\l[i]?=some m/\aG w A Z h m.key k/\aG w A Z h m.val v
theorem Hs{A:Nat->Prop}{d:TypeDesc}{k:PV}{v:Value}(S:∀(B:PV) (W:Value) (b:Bool),kQ k B=some b->aG w A Z h W B->Instr.sameNow d v W=some b/\(b=true->Instr.sameBits 10000 W v=true/\aG w A Z h v B)):
  ∀(l:List MapEntry) (F:List PV) (n:Nat) (r:Option (Nat×PV)),YD w A Z h l F->oO k F n=some r->
   match r with
   |none=>Instr.findNow d v l n=some none
   |some (j,p)=>∃(i:Nat) (m:MapEntry) (B:PV),j=n+i/\l[i]?=some m/\F[i]?=some (.agg [B,p])/\Instr.findNow d v l n=some (some (j,m.val))/\aG w A Z h m.val p/\Instr.sameBits 10000 m.key v=true/\aG w A Z h v B
 |[],F,n,r,a,e=>by
  obtain⟨O,_⟩:=a;have:F=[]:=ait.1 O.symm;subst this;simp only[oO]at e;obtain rfl:=af7 e
  rfl
 |m::l,[],n,r,a,e=>by
  obtain⟨O,_⟩:=a;simp at O
 |m::l,M::F,n,r,a,e=>by
  obtain⟨O,X⟩:=a;obtain⟨t,v0,m0,rfl,q,G,y⟩:=X 0 M rfl;simp at q;subst q
  have Q:YD w A Z h l F:=⟨by simpa using O,λi e H=>by
   obtain⟨g,v1,Y,K,f,D⟩:=X (i+1) e (by simpa using H);exact⟨g,v1,Y,K,by simpa using f,D⟩⟩
  simp only[oO]at e
  split at e
  ·rename_i R
   obtain rfl:=af7 e;obtain⟨U,P⟩:=S t m.key true R G;obtain⟨V,q4⟩:=P rfl;exact⟨0,m,t,rfl,rfl,rfl,by simp[Instr.findNow,U],y,V,q4⟩
  ·rename_i R
   obtain⟨U,_⟩:=S t m.key false R G;have:=Hs S l F (n+1) r Q e;have u:Instr.findNow d v (m::l) n=Instr.findNow d v l (n+1):=by simp[Instr.findNow,U]
   cases r with
   |none=>simpa[u]using this
   |some J=>
    obtain⟨j,p⟩:=J;obtain⟨i,Y,g,K,f,D,N,z⟩:=this;exact⟨i+1,Y,g,by omega,by simpa using f,by simpa using D,by rw[u];exact N,z⟩
  cases e
theorem Dw{A:Nat->Prop}{O:TypeId}{cs:List PV}{v:Value}(J:aG w A Z h v (.agg cs))(W:rL P O (.agg cs)=true):
  ∀(l:List MapEntry) (F:List PV) (n:Nat),YD w A Z h l F->F.all (Zk P O)=true->
   match re cs F n with
   |none=>(Instr.findAsking O v l n).run P w=.ok none w
   |some (j,p)=>∃(i:Nat) (m:MapEntry) (V:PV),j=n+i/\l[i]?=some m/\F[i]?=some (.agg [V,p])/\(Instr.findAsking O v l n).run P w=.ok (some (j,m.val)) w/\aG w A Z h m.val p/\m.key=v
 |[],F,n,b,_=>by
  obtain⟨a,_⟩:=b;have:F=[]:=ait.1 a.symm;subst this;simp[re,Instr.findAsking]
 |m::l,[],n,b,_=>by
  obtain⟨a,_⟩:=b;simp at a
 |m::l,p0::F,n,b,q=>by
  obtain⟨a,X⟩:=b;obtain⟨k0,v0,m0,rfl,B,G,H⟩:=X 0 p0 rfl;simp at B;subst B
  have R:YD w A Z h l F:=⟨by simpa using a,λi e q=>by
   obtain⟨t,v1,Y,K,g,D⟩:=X (i+1) e (by simpa using q);exact⟨t,v1,Y,K,by simpa using g,D⟩⟩
  simp only[ahh,age]at q;have z:rL P O k0=true:=q.1;obtain⟨M,vs0,l0,rfl,q2,q3,_⟩:=wj z G;obtain⟨f,r2⟩:=MB J G W z w;simp only[re]
  cases S:nr cs M with
  |true=>
   simp only[if_true];rw[S]at f;refine⟨0,m,.agg M,rfl,rfl,rfl,?_,H,(r2.1 S).symm⟩;simp[Instr.findAsking,f]
  |false=>
   simp only[agn,if_false];rw[S]at f;have d:=Dw J W l F (n+1) R q.2
   have y:(Instr.findAsking O v (m::l) n).run P w=(Instr.findAsking O v l (n+1)).run P w:=by
    simp[Instr.findAsking,f]
   cases u:re cs F (n+1)with
   |none=>rw[u]at d;simpa[y]using d
   |some U=>
    obtain⟨j,p⟩:=U;rw[u]at d;obtain⟨i,Y,t,K,g,D,N,Q⟩:=d;exact⟨i+1,Y,t,by omega,by simpa using g,by simpa using D,by rw[y];exact N,Q⟩
theorem A4{O:TypeId}{v:Value}(q:Ci P O k=true)(g:aG w A Z h v k):
  (∀n:Bool,(Instr.checkKey n 10000 O v).run P w=.ok () w)/\
  ∀(l:List MapEntry) (F:List PV) (r:Option (Nat×PV)),YD w A Z h l F->rN P O k F=some r->
   match r with
   |none=>(Instr.findKey O v l).run P w=.ok none w
   |some (j,p)=>∃(m:MapEntry) (B:PV),l[j]?=some m/\F[j]?=some (.agg [B,p])/\(Instr.findKey O v l).run P w=.ok (some (j,m.val)) w/\aG w A Z h m.val p/\(Instr.keyThatStays m.key v).run P w=.ok v w:=by
 by_cases J:rz P O k=true
 ·obtain⟨d,y,K,f⟩:=Ww J g;refine⟨λn=>run_checkKey y K n 9999,λl F r R u=>?_⟩;unfold rN at u;rw[if_pos J]at u;have:=Hs f l F 0 r R u
  cases r with
  |none=>exact run_findKey y this
  |some H=>
   obtain⟨j,p⟩:=H;obtain⟨i,m,B,M,a,D,N,b,e,W⟩:=this;obtain rfl:j=i:=by omega
   exact⟨m,B,a,D,run_findKey y N,b,by simp[Instr.keyThatStays,e]⟩
 ·have z:rL P O k=true:=by
   unfold Ci at q;simpa[J]using q
  obtain⟨Y,vs,l0,rfl,q2,q3,V,U,X,Q⟩:=wj z g;have L:=deep_law (P:=P) (m:=3) yxa U X (wk V);refine⟨λn=>L.check w n Q,λl F r R u=>?_⟩;unfold rN at u;rw[if_neg J]at u;simp only at u
  split at u
  ·rename_i G
   rw[age]at G;obtain rfl:=af7 u;have:=Dw g z l F 0 R G.2;have S:=run_findKey_eq (P:=P) w (wk V) v l
   cases t:re Y F 0 with
   |none=>
    rw[t]at this;show _=_;rw[S];exact this
   |some H=>
    obtain⟨j,p⟩:=H;rw[t]at this;obtain⟨i,m,B,M,a,D,N,b,e⟩:=this;obtain rfl:j=i:=by omega
    exact⟨m,B,a,D,by rw[S];exact N,b,by rw[e];exact L.stays w Q⟩
  cases u
theorem SI{es:Array MapEntry}{F:List PV}(h1:es.size=F.length)(X:∀(i:Nat) (e:PV),F[i]?=some e->∃(k v:PV) (m:MapEntry),e=.agg [k,v]/\es[i]?=some m/\aG w A Z h m.key k/\aG w A Z h m.val v):
  YD w A Z h es.toList F:=⟨by simpa using h1,λi e q=>by
 obtain⟨k,v,m,K,a,D⟩:=X i e q;exact⟨k,v,m,K,by simpa using a,D⟩⟩
theorem Ht{O:TypeId}{v:Value}(g:Ci P O k=true)(J:aG w A Z h v k):(Instr.findKey O v []).run P w=.ok none w:=by
 have R:YD w A Z h [] []:=⟨rfl,λi e q=>by simp at q⟩;refine(A4 g J).2 [] [] none R ?_;unfold rN
 split
 rfl
 ·rename_i a
  have H:rL P O k=true:=by
   unfold Ci at g;simpa[a]using g
  obtain⟨Y,_,_,rfl,_⟩:=wj H J;simp[H,re]
theorem Kl(H:bp w F Z h){J:Value}{q:PV}{t:TypeId}{G:Bool}(i:aG w (Av F h Z) Z h J m)(g:aG w (Av F h Z) Z h K k)(e:lQ P h t m k G=some q):
  ∃u,(Instr.lookup t J K G).run P w=.ok u w/\aG w (Av F h Z) Z h u q:=by
 unfold lQ at e
 split at e
 ·rename_i kt et y
  split at e
  ·rename_i z W
   split at e
   ·rename_i Y
    obtain⟨a,v⟩:=A4 Y g;obtain⟨vz,B,D⟩:=xQ W w (Av F h Z) Z h
    have U:∀{u:Value} {p:PV} (b:Bool),aG w (Av F h Z) Z h u p->aG w (Av F h Z) Z h (if G then .tuple #[u,.bool b]else u) (fQ G p b):=by
     intro u p b n
     unfold fQ
     cases G
     exact n
     ·exact .b8 [u,.bool b] [p,.bool b] rfl (λj O=>by
       match j,O with
       |0,_=>exact n
       |1,_=>exact .val (.bool b))
    split at e
    ·obtain rfl:=af7 e;obtain rfl:=i.Hv;refine⟨_,?_,U false D⟩;have Q:(Instr.findKey kt K (#[]:Array MapEntry).toList).run P w=.ok none w:=Ht Y g;simp only[Instr.lookup,Sem.run_bind,bV y,Result.andThen_ok,Sem.run_pure,a,Q,B]
    ·rename_i id
     split at e
     ·rename_i o V
      obtain⟨bc,S,d,rfl,A,X,k4⟩:=SJ H i V;have R:=SI X k4
      split at e
      ·rename_i j p f
       obtain rfl:=af7 e;obtain⟨me,k',g2,g3,N,M,g6⟩:=v S.toList o.es _ R f;refine⟨_,?_,U true M⟩;simp only[Instr.lookup,Sem.run_bind,bV y,Result.andThen_ok,Sem.run_pure,og A,a,N]
      ·rename_i f
       obtain rfl:=af7 e;have N:=v S.toList o.es _ R f;refine⟨_,?_,U false D⟩;simp only[Instr.lookup,Sem.run_bind,bV y,Result.andThen_ok,Sem.run_pure,og A,a,N,B]
      cases e
     cases e
    cases e
   cases e
  cases e
 cases e
theorem Hw(H:bp w F Z h){t:TypeId}{r:Option PV}{V:Option Value}(z:zq w (Av F h Z) Z h V r)(e:lY P lv h t r=some (p,h')):EP P lv w F Z h (Instr.makeMap t V) p h':=by
 obtain⟨B,d⟩:=H.aaD
 have J:aG (w.alloc (.map #[] 0)) (Av F (newObj h 0 []) (Z++[(w.heap.size,0)])) (Z++[(w.heap.size,0)]) (newObj h 0 []) (.map (some w.heap.size)) (.cq h.length):=
  .cq _ _ {mu:=.m,ep:=0,bQ:=0,es:=[]} (w.heap.size,0) ⟨_,rfl⟩ (by simp[newObj]) (by rw[<-H.len];simp) yxb (λ_=>rfl)
 unfold lY at e
 split at e
 ·split at e
  ·obtain⟨rfl,rfl⟩:=agk (af7 e)
   cases V with
   |some v=>exact z.elim
   |none=>exact⟨_,_,_,rfl,J,B,d,λ_=>dH.alloc w _⟩
  ·rename_i k n O R y
   obtain⟨rfl,rfl⟩:=agk (af7 e)
   cases V with
   |none=>exact z.elim
   |some v=>
    obtain rfl:=aG.dO z;refine⟨_,_,_,?_,J,B,d,λ_=>dH.alloc w _⟩;simp[Instr.makeMap,bV y,asInt,asIntOf]
  ·cases e
 cases e
theorem A5(H:bp w F Z h){vm R:Value}{x:PV}{t:TypeId}(hm:aG w (Av F h Z) Z h vm m)(Y:aG w (Av F h Z) Z h K k)(hx:aG w (Av F h Z) Z h R x)(e:iQ P h t m k x=some h'):
  ∃w' Z',(Instr.mapUpdate t vm K R).run P w=.ok () w'/\bp w' F Z' h'/\eN w h Z w' h' Z':=by
 unfold iQ at e
 split at e
 ·rename_i kt et V hu
  split at e
  ·rename_i o ho
   split at e
   ·rename_i hc
    obtain⟨dA,vJ⟩:=hc;obtain⟨D,e2,e3,M⟩:=Dx ho;obtain⟨n,y⟩:=fh H.len D;obtain⟨_,S,u,A,Q,k4⟩:=(H.obj V o n D y e3).m M;obtain rfl:=hm.Hx D y e2;have hE:=SI Q k4;obtain⟨F3,Hu⟩:=A4 dA Y;have cK:=(agw.1 A).1
    have hZ:Z=Z.set V n:=by
     apply agZ
     intro j
     by_cases hj:j=V
     subst hj;rw[agc (by have:=H.len;have:=ag D;omega)];exact y;rw[aga (agV hj)]
    have J:∀(W:Array MapEntry) (a:Nat) (d:List PV),YD w (Av F h Z) Z h W.toList d->
      bp {w with heap:=w.heap.setIfInBounds n.1 (.map W a)} F Z (h.set V {o with es:=d})/\eN w h Z {w with heap:=w.heap.setIfInBounds n.1 (.map W a)} (h.set V {o with es:=d}) Z:=by
     intro W a d hR
     have dm:({w with heap:=w.heap.setIfInBounds n.1 (.map W a)}:World).heap[n.1]?=some (.map W a):=by
      simp[cK]
     have:=bp.ac0 H D y vJ (w':={w with heap:=w.heap.setIfInBounds n.1 (.map W a)}) d o.ep n yxb (λb rT bD=>by
      simp only[Array.getElem?_setIfInBounds];rw[if_neg (agV bD)]) (.inl ⟨rfl,λ_=>.inr M⟩) (agb _) rfl rfl rfl (λhs=>.inr ⟨M,W,a,dm,by simpa using hR.1,λi e q=>by
       obtain⟨k,v,m,g1,G,O,N⟩:=hR.2 i e q;exact⟨k,v,m,g1,by simpa using G,O.mono hs,N.mono hs⟩⟩)
     rw[<-hZ]at this;exact this
    unfold No at e
    split at e
    ·rename_i eG f
     obtain rfl:=af7 e
     split at f
     ·rename_i j p U
      obtain rfl:=af7 f;obtain⟨me,k',G,O,N,g5,g6⟩:=Hu S.toList o.es _ hE U;have g:S[j]?=some me:=by simpa using G
      obtain⟨z,X⟩:=J (S.modify j λe=>{e with key:=K,val:=R}) u (o.es.set j (.agg [k,x])) (by
       refine⟨by simp[Q],λi e q=>?_⟩
       by_cases B:i=j
       ·subst B;rw[agc (ag O)]at q;obtain rfl:=af7 q;refine⟨k,x,{me with key:=K,val:=R},rfl,?_,Y,hx⟩;rw[agG,aii,if_pos rfl,g];rfl
       ·rw[aga (agV B)]at q;obtain⟨k1,v1,m1,q1,q2,q3⟩:=k4 i e q;refine⟨k1,v1,m1,q1,?_,q3⟩;rw[agG,aii,if_neg (agV B)];exact q2)
      refine⟨_,Z,?_,z,X⟩;simp only[Instr.mapUpdate,Sem.run_bind,bV hu,Result.andThen_ok,og A,F3,N,g,ago,Option.getD_some,g6,Sem.run_pure,run_setObj_map _ A]
     ·rename_i U
      obtain rfl:=af7 f;have N:=Hu S.toList o.es _ hE U
      obtain⟨z,X⟩:=J (S.push {key:=K,val:=R,born:=u}) (u+1) (o.es++[.agg [k,x]]) (by
       refine⟨by simp[Q],λi e q=>?_⟩
       by_cases B:i<o.es.length
       ·rw[af8 B]at q;obtain⟨k1,v1,m1,q1,q2,q3⟩:=k4 i e q;refine⟨k1,v1,m1,q1,?_,q3⟩;rw[agG,Array.getElem?_push,if_neg yxa];exact q2
       ·have hl:=ag q;simp at hl;obtain rfl:i=o.es.length:=by omega
        rw[agl (agb _)]at q;simp at q;subst q;refine⟨k,x,{key:=K,val:=R,born:=u},rfl,?_,Y,hx⟩;rw[agG,<-Q];simp)
      refine⟨_,Z,?_,z,X⟩;simp only[Instr.mapUpdate,Sem.run_bind,bV hu,Result.andThen_ok,og A,F3,N,run_setObj_map _ A]
     cases f
    cases e
   cases e
  cases e
 cases e
end Go.Pm
namespace Go.Pm
variable{A A':Nat->Prop}{a:Act}{Y:Nat->PV}{V j lv n:Nat}{s:Sem Value}{e p p':PV}{h':ab}{f:FuncId}{args cs r:List PV}{vs:List Value}
variable[iD:Inhabited Prop]
variable{P:Program}{w:World}{F:Nat->Prop}{Z:List (Nat×Nat)}{h:ab}
def iA(w:World)(A:Nat->Prop)(Z:List (Nat×Nat))(h:ab)(a:Act)(Y:Nat->PV):Prop:=∀t,aG w A Z h (a.tmps.getD t Go.undef) (Y t)
theorem iA.ev{A:Nat->Prop}{a:Act}{Y:Nat->PV}(r:iA w A Z h a Y)(G:eA w A)(x:Operand):aG w A Z h (a.eval x) (Pm.ev Y x):=by
 cases x with
 |tmp t=>exact r t
 |const v=>exact Kv w A Z h v
 |global g=>
  show aG w A Z h _ (match zA g with |some p=>.eX [p]|none=>.any)
  split
  ·rename_i p e;exact .val (G.rel e)
  exact .any _
 |func f=>exact .fn f [] [] rfl yxb
theorem iA.PR(r:iA w A Z h a Y)(G:eA w A)(xs:List Operand):L2 (aG w A Z h) (xs.map a.eval) (xs.map (Pm.ev Y)):=by
 refine⟨by simp,λj M=>?_⟩;simp at M;have D:(xs.map a.eval).getD j undef=a.eval xs[j]:=by simp[List.getD,M]
 have N:(xs.map (Pm.ev Y)).getD j .any=Pm.ev Y xs[j]:=by simp[List.getD,M]
 rw[D,N];exact r.ev G _
theorem iA.parts(r:iA w A Z h a Y)(G:eA w A)(xs:Array (Nat×Operand)):pG w A Z h (xs.map λ(i,x)=>(i,a.eval x)).toList (xs.toList.map λ(i,x)=>(i,Pm.ev Y x)):=by
 refine⟨by simp,λk x U=>?_⟩;simp only[agt,ag2]at U;obtain⟨y,O,rfl⟩:=U;exact⟨a.eval y.2,by simp only[Array.toList_map,agt,O];rfl,r.ev G y.2⟩
theorem iA.opt(r:iA w A Z h a Y)(G:eA w A)(x:Option Operand):zq w A Z h (x.map a.eval) (x.map (Pm.ev Y)):=by
 cases x with
 |none=>trivial
 |some x=>exact r.ev G x
def yO(P:Program)(lv:Nat)(w:World)(F:Nat->Prop)(Z:List (Nat×Nat))(h:ab)(s:Sem Next)(p:PV)(h':ab):Prop:=
 ∃v X q,(s.run P w=.ok (.value v) X\/(s.run P w=.ok .skip X/\v=undef))/\aG X (Av F h' q) q h' v p/\bp X F q h'/\eN w h Z X h' q/\(lv<=1->dH w X)
theorem EP.o(x:EP P lv w F Z h s p h'):yO P lv w F Z h (do pure (.value (<-s))) p h':=by
 obtain⟨v,a,q,O,X,Q,G⟩:=x;exact⟨v,a,q,.inl (by simp only[Sem.run_bind,O,Result.andThen_ok,Sem.run_pure]),X,Q,G⟩
theorem gu(H:bp w F Z h)(x:∃u,s.run P w=.ok u w/\aG w (Av F h Z) Z h u p):yO P lv w F Z h (do pure (.value (<-s))) p h:=by
 obtain⟨u,O,X⟩:=x;exact(EP.still H O X).o
theorem eF{v:Type}{x:Option v}{p:v}(e:x.map (·,h)=some (p,h')):x=some p/\h'=h:=by
 cases x with
 |none=>cases e
 |some y=>simp at e;exact⟨by rw[e.1],e.2.symm⟩
theorem _root_.zam{P:Prop}(h:P:=by
 split at e
 ·rename_i IW
  cases S:iQ P h t (Pm.ev Y m) (Pm.ev Y k) (Pm.ev Y x)with
  |none=>rw[S]at e;simp at e
  |some A=>
   rw[S]at e;simp at e;obtain⟨rfl,rfl⟩:=e;obtain⟨X,q,g,V,u⟩:=A5 H (R.ev H.fG m) (R.ev H.fG k) (R.ev H.fG x) S;exact⟨undef,X,q,.inr ⟨by simp only[Sem.run_bind,g,Result.andThen_ok,Sem.run_pure],rfl⟩,.undef,V,u,λhh=>by omega⟩
 cases e):P:=h
theorem _root_.zcb{P:Prop}(h:P:=by
 obtain⟨rfl,rfl⟩:=agk (af7 e);exact⟨_,w,Z,.inl rfl,R.ev H.fG x,H,eN.refl w h Z,λ_=>dH.refl w⟩):P:=h
theorem Js(H:bp w F Z h)(R:iA w (Av F h Z) Z h a Y){o:Oper}(hc:∀c,o.op≠.call c)(e:aD P lv o.op Y h=some (p,h')):
  yO P lv w F Z h (execOp a.eval o) p h':=by
 obtain⟨dst,b,type,pos,G,J⟩:=o;simp only at e hc ⊢
 cases b <;>simp only[aD]at e <;>simp only[execOp]
 case move x=>
  exact zcb
 case assign x=>
  exact zcb
 case pick c x y=>
  split at e
  ·rename_i t ht
   obtain⟨rfl,rfl⟩:=agk (af7 e);have hb:=R.ev H.fG c;rw[ht]at hb;have:=hb.gz;refine⟨if t then a.eval x else a.eval y,w,Z,.inl ?_,?_,H,eN.refl w h Z,λ_=>dH.refl w⟩;simp only[this,asBool,Sem.run_bind,Sem.run_pure,Result.andThen_ok]
   ·cases t
    ·exact R.ev H.fG y
    ·exact R.ev H.fG x
  cases e
 case alloc t=>
  split at e
  ·rename_i z hz
   split at e
   ·rename_i j
    obtain⟨rfl,rfl⟩:=agk (af7 e);exact(OO H t hz j.2.1 j.2.2).o
   cases e
  cases e
 case box t x=>
  split at e
  ·rename_i j
   obtain⟨rfl,rfl⟩:=agk (af7 e);exact(ML H t (R.ev H.fG x) j.2.1 j.2.2).o
  cases e
 case build t ps=>
  obtain⟨D,rfl⟩:=eF e;exact gu H (OU (R.parts H.fG ps) D)
 case buildSlice t n ps=>exact(Bj H (R.parts H.fG ps) e).o
 case load t x=>
  obtain⟨D,rfl⟩:=eF e;exact gu H (HN H (R.ev H.fG x) D)
 case store t x y=>
  split at e
  ·rename_i IW
   cases S:jc P h t (Pm.ev Y x) (Pm.ev Y y)with
   |none=>rw[S]at e;simp at e
   |some A=>
    rw[S]at e;simp at e;obtain⟨rfl,rfl⟩:=e;obtain⟨X,q,g,V,u⟩:=ON H (R.ev H.fG x) (R.ev H.fG y) S;exact⟨undef,X,q,.inr ⟨by simp only[Sem.run_bind,g,Result.andThen_ok,Sem.run_pure],rfl⟩,.undef,V,u,λhh=>by omega⟩
  cases e
 case nilCheck x=>
  have U:=R.ev H.fG x;generalize a.eval x=v at U ⊢
  split at e
  ·rename_i id ep i oo K
   obtain⟨rfl,rfl⟩:=agk (af7 e);rw[K]at U
   cases U with
   |val S=>cases S
   |ptr _ _ _ _ _ oo bc h0 h1 A h3 h4 h5=>
    obtain⟨ad,rfl⟩:=h0;exact⟨_,w,Z,.inl rfl,.ptr _ _ _ _ _ oo bc ⟨_,rfl⟩ h1 A h3 h4 h5,H,eN.refl w h Z,λ_=>dH.refl w⟩
  ·rename_i cs K
   obtain⟨rfl,rfl⟩:=agk (af7 e);rw[K]at U;have S:=U.wL
   cases S with
   |eX=>exact⟨_,w,Z,.inl rfl,U,H,eN.refl w h Z,λ_=>dH.refl w⟩
  ·rename_i f cs K
   obtain⟨rfl,rfl⟩:=agk (af7 e);rw[K]at U;obtain⟨vs,rfl,_⟩:=U.zH;exact⟨_,w,Z,.inl rfl,U,H,eN.refl w h Z,λ_=>dH.refl w⟩
  cases e
 case binOp b t x y yt=>
  obtain⟨D,rfl⟩:=eF e;exact gu H (WH (R.ev H.fG x) (R.ev H.fG y) D)
 case unOp b t x=>
  obtain⟨D,rfl⟩:=eF e;exact gu H (abh (R.ev H.fG x) D)
 case convert s d x=>
  obtain⟨D,rfl⟩:=eF e;exact gu H (Tb (R.ev H.fG x) D)
 case makeFunc fn first M=>
  cases fn <;>simp only at e <;>try(cases e;done)
  rename_i f
  split at e
  ·rename_i hf
   obtain⟨rfl,rfl⟩:=agk (af7 e);obtain rfl:first= #[]:=by simpa using hf
   obtain⟨Q,W⟩:=R.PR H.fG M.toList;refine(EP.still H (v:=.func (.func f) #[] (M.toList.map a.eval).toArray) ?_ (.fn f _ _ Q W)).o;have:M.map a.eval=(M.toList.map a.eval).toArray:=by apply ahH;simp
   simp[Instr.makeFunc,this]
  ·obtain⟨rfl,rfl⟩:=agk (af7 e);obtain⟨Q,W⟩:=R.PR H.fG (first.toList++M.toList);refine(EP.still H (v:=.func (.func f) (((first.toList++M.toList).map a.eval).take first.size).toArray (((first.toList++M.toList).map a.eval).drop first.size).toArray) ?_ (.pK f first.size _ _ Q W)).o;have D:first.map a.eval=(((first.toList++M.toList).map a.eval).take first.size).toArray:=by apply ahH;simp
   have N:M.map a.eval=(((first.toList++M.toList).map a.eval).drop first.size).toArray:=by apply ahH;simp
   simp only[Instr.makeFunc,D,N];rfl
 case makeSlice t l c=>exact(SZ H (R.ev H.fG l) (R.ev H.fG c) e).o
 case slice t x lo B mx=>
  obtain⟨D,rfl⟩:=eF e;exact gu H (OR H (R.ev H.fG x) (R.opt H.fG lo) (R.opt H.fG B) (R.opt H.fG mx) D)
 case fieldAddr s x f=>
  obtain⟨D,rfl⟩:=eF e;exact gu H (Cz H (R.ev H.fG x) D)
 case field s x f=>
  obtain⟨D,rfl⟩:=eF e;exact gu H (OL (R.ev H.fG x) D)
 case indexAddr t x O=>
  obtain⟨D,rfl⟩:=eF e;exact gu H (CA H (R.ev H.fG x) (R.ev H.fG O) D)
 case index t x O=>
  obtain⟨D,rfl⟩:=eF e;exact gu H (OM (R.ev H.fG x) (R.ev H.fG O) D)
 case makeMap t r=>exact(Hw H (R.opt H.fG r) e).o
 case lookup t x k ok=>
  obtain⟨D,rfl⟩:=eF e;exact gu H (Kl H (R.ev H.fG x) (R.ev H.fG k) D)
 case mapUpdate t m k x=>
  exact zam
 case insert t m k x=>
  exact zam
 case extract x i=>
  split at e
  ·rename_i vs hv
   split at e
   ·rename_i v B
    obtain⟨rfl,rfl⟩:=agk (af7 e);have U:=R.ev H.fG x;rw[hv]at U;obtain⟨us,hu,hl,hr⟩:=U.qG;have hj:=ag B;have:=hr i hj;have N:vs.getD i .any=v:=by simp[List.getD,B]
    rw[N]at this;refine gu H ⟨us.getD i Go.undef,?_,this⟩;rw[hu];have:i<us.length:=yxa
    simp[Instr.extract,this,List.getD]
   cases e
  cases e
 case call c=>exact absurd rfl (hc c)
 all_goals cases e
theorem Gg(H:bp w F Z h)(R:iA w (Av F h Z) Z h a Y){b:Builtin}{ts:Array TypeId}{ty:TypeId}{cb:Array Bool}{xs:Array Operand}
  (e:bA P lv h b ts.toList (xs.toList.map (Pm.ev Y))=some (p,h')):yO P lv w F Z h (builtin b ts ty cb (xs.map a.eval)) p h':=by
 have g:∀{t:TypeId} {r:List TypeId},ts.toList=t::r->ts[0]?=some t:=λf=>by rw[<-agG,f];rfl
 have V:∀{t N:TypeId} {r:List TypeId},ts.toList=t::N::r->ts[1]?=some N:=λf=>by rw[<-agG,f];rfl
 have n:∀{p:PV} {r:List PV},xs.toList.map (Pm.ev Y)=p::r->∃v,(xs.map a.eval)[0]?=some v/\aG w (Av F h Z) Z h v p:=λ{p r} f=>by
  cases U:xs.toList with
  |nil=>rw[U]at f;simp at f
  |cons y Q=>
   rw[U]at f;simp at f;refine⟨a.eval y,?_,by rw[<-f.1];exact R.ev H.fG y⟩;rw[<-agG,Array.toList_map,U];rfl
 have J:∀{p q:PV} {r:List PV},xs.toList.map (Pm.ev Y)=p::q::r->∃v,(xs.map a.eval)[1]?=some v/\aG w (Av F h Z) Z h v q:=λ{p q r} f=>by
  cases U:xs.toList with
  |nil=>rw[U]at f;simp at f
  |cons y Q=>
   cases A:Q with
   |nil=>rw[U,A]at f;simp at f
   |cons z zs=>
    rw[U,A]at f;simp at f;refine⟨a.eval z,?_,by rw[<-f.2.1];exact R.ev H.fG z⟩;rw[<-agG,Array.toList_map,U,A];rfl
 have G:xs.map a.eval=(xs.toList.map a.eval).toArray:=by apply ahH;simp
 unfold bA at e
 split at e
 ·rename_i t r x j O X
  obtain⟨D,rfl⟩:=eF e;obtain⟨v,i,K⟩:=n X;refine gu H ?_
  cases U:xs.toList with
  |nil=>rw[U]at X;simp at X
  |cons y Q=>
   rw[G,U,agp];rw[U]at X;simp at X;have:=R.ev H.fG y;rw[X.1]at this;exact WB H (g O) this D
 ·rename_i st xt r s x j O X
  obtain⟨v,i,K⟩:=n X;obtain⟨u,B,M⟩:=J X;exact(Kw H (g O) (V O) i B K M e).o
 ·rename_i dt r d x j O X
  obtain⟨v,i,K⟩:=n X;obtain⟨u,B,M⟩:=J X;exact(SY H (g O) i B K M e).o
 ·rename_i t r x j O X
  obtain⟨v,i,K⟩:=n X;exact(OP H (g O) i K e).o
 ·rename_i t r x j O X
  obtain⟨D,rfl⟩:=eF e;obtain⟨v,i,K⟩:=n X;refine gu H ?_;unfold Zl at D
  split at D
  ·rename_i el es hu
   obtain rfl:=af7 D;obtain⟨ad,S,rfl,_,W⟩:=K.fI.iC;obtain rfl:=W rfl;exact⟨_,by simp[Builtin.cap_,g O,i,bV hu,goInt],.val (.int _ _)⟩
  cases D
 ·rename_i tt xx
  obtain⟨D,rfl⟩:=eF e;rw[G];exact gu H (WE (R.PR H.fG xs.toList) D)
 ·rename_i tt xx
  obtain⟨D,rfl⟩:=eF e;rw[G];exact gu H (WG (R.PR H.fG xs.toList) D)
 cases e
theorem cB(cs:List PV):aY cs=cs.map b9:=by
 induction cs with
 |nil=>rfl
 |cons c r P=>simp[aY,P]
theorem bz(cs:List PV):aw cs=cs.all aW:=by
 induction cs with
 |nil=>rfl
 |cons c r P=>simp[aw,P]
theorem FU(cs:List PV):rH cs=cs.all fm:=by
 induction cs with
 |nil=>rfl
 |cons c r P=>simp[rH,P]
theorem gW(cs:List PV)(j:Nat):(aY cs).getD j .any=b9 (cs.getD j .any):=by
 rw[cB];simp only[List.getD,agt]
 cases cs[j]? <;>simp[b9]
theorem CM(e:PV):Pm.cells (b9 e)=aY (Pm.cells e):=by
 cases e <;>simp[b9,Pm.cells,aY]
theorem cd.b9{A:Nat->Prop}{v:Value}{p:PV}(r:cd w A v p):cd w A v (Pm.b9 p):=by
 induction r with
 |int k n=>exact .int k n
 |bool b=>exact .bool b
 |str s=>exact .str s
 |ji=>exact .ji
 |mM=>exact .mM
 |jD=>exact .jD
 |agg W Y d _ P=>exact .agg W _ (by simp[cB,d]) (λj M=>by rw[gW];exact P j (by simpa[cB]using M))
 |b8 W Y d _ P=>exact .b8 W _ (by simp[cB,d]) (λj M=>by rw[gW];exact P j (by simpa[cB]using M))
 |fn f W Y d _ P=>exact .fn f W _ (by simp[cB,d]) (λj M=>by rw[gW];exact P j (by simpa[cB]using M))
 |pK f k W Y d _ P=>exact .pK f k W _ (by simp[cB,d]) (λj M=>by rw[gW];exact P j (by simpa[cB]using M))
 |gJ a e y u=>exact .gJ a e false (λR=>by cases R)
 |aa b U e q y S K O X Q G g N H _ P=>
  have d:(aY S).length=S.length:=by simp[cB]
  have:=cd.aa (w:=w) (A:=A) b U e q false (aY S) K (by intro z;rw[z]at d;exact O (agm d.symm)) yxa (λR=>by cases R) G g
   (λi B=>by rw[gW,CM,cB,agY];exact N i yxa) (λi j B M=>H i j yxa M)
   (λi j B M=>by rw[gW,CM,gW];exact P i j yxa M)
  rw[d]at this;exact this
 |eX b U Y K O X Q _ P=>
  have d:(aY Y).length=Y.length:=by simp[cB]
  exact .eX b U (aY Y) K (by intro z;rw[z]at d;exact O (agm d.symm)) X (λj M=>Q j yxa) (λj M=>by rw[gW];exact P j yxa)
theorem gy{f:PV->Bool}(h:cs.all f=true)(M:j<cs.length):f (cs.getD j .any)=true:=by
 have:cs.getD j .any=cs[j]:=by simp[List.getD,M]
 rw[this];exact af9.1 h _ (agO M)
theorem cd.fm{A A':Nat->Prop}{w':World}{v:Value}{p:PV}(r:cd w A v p)(S:Pm.fm p=true):cd w' A' v p:=by
 induction r with
 |int k n=>exact .int k n
 |bool b=>exact .bool b
 |str s=>exact .str s
 |ji=>exact .ji
 |mM=>exact .mM
 |jD=>exact .jD
 |agg W Y d _ P=>simp[Pm.fm,FU]at S;exact .agg W _ d (λj M=>P j M (gy (by simpa using S) M))
 |b8 W Y d _ P=>simp[Pm.fm,FU]at S;exact .b8 W _ d (λj M=>P j M (gy (by simpa using S) M))
 |fn f W Y d _ P=>simp[Pm.fm]at S
 |pK f k W Y d _ P=>simp[Pm.fm]at S
 |gJ a e y u=>simp[Pm.fm]at S
 |aa=>simp[Pm.fm]at S
 |eX=>simp[Pm.fm]at S
theorem Ei(H:bp w F Z h)(S:∀b,b<w.heap.size->¬Av F h Z b->¬A' b){v:Value}(X:aG w (Av F h Z) Z h v p)(e:rf h p=some p')
  (hM:∀(V:Nat) (o:ax) (bc:Nat×Nat),V∈tJ p->h[V]?=some o->Z[V]?=some bc->(o.mu=.m\/o.mu=.f)->¬A' bc.1):cd w A' v p':=by
 unfold rf at e
 split at e
 ·rename_i V ep U a
  split at e
  ·rename_i o ho
   split at e
   ·rename_i hc
    obtain⟨J,Nu,jm⟩:=hc;obtain rfl:=af7 e;obtain⟨D,N,P⟩:=getM_some ho;obtain⟨bc,W⟩:=fh H.len D;obtain⟨h1,h2,h3⟩:=X.eC;obtain⟨t,rfl,c2⟩:=h3 o bc D W P N J;obtain⟨T,vy,k1,k2,k3,k4,k5⟩:=(H.obj V o bc D W P).c (h2 o D).2;have K:((o.es.drop U).take a).length=a:=by simp;omega
    by_cases yM:a=0
    ·subst yM;simp;exact .gJ _ _ _ (λR=>by cases R)
    ·have n:∀i,i<a->∃e,((o.es.drop U).take a).getD i .any=e/\o.es[U+i]?=some e/\aW e=true:=λi B=>by
      have g:((o.es.drop U).take a)[i]?=some (o.es[U+i]' yxa):=by
       rw[agy,if_pos B,agP];exact agd yxa
      refine⟨o.es[U+i]' yxa,by rw[agA,g];rfl,agd yxa,?_⟩;rw[bz]at jm;exact af9.1 jm _ (agq g)
     have Qw:∀(e:PV),aW e=true->∀q∈Pm.cells e,aW q=true:=by
      intro e G q y
      cases e <;>first
       |(simp only[Pm.cells,agu]at y;subst y;exact G)
       |(simp only[aW,bz]at G;exact af9.1 G q y)
     have mI:∀i j,i<a->j<o.bQ->∃u,w.cell? ⟨bc.1,U * o.bQ+(i * o.bQ+j),none⟩=some u/\cd w A' u ((Pm.cells (((o.es.drop U).take a).getD i .any)).getD j .any):=by
      intro i j B M
      obtain⟨d,g,z,Q⟩:=n i B;obtain⟨n1,n2⟩:=k5 _ d z;have y:=agd (show j<(Pm.cells d).length by omega);obtain⟨u,Y,O⟩:=n2 j _ y;refine⟨u,?_,?_⟩
      ·rw[cell_of_row w bc.1 _ vy T (0,0) k1,<-ahM,<-ag0];exact Y
      ·rw[g];have N:(Pm.cells d).getD j .any=(Pm.cells d)[j]' yxa:=by simp[List.getD,y]
       rw[N];exact(O.CN (Qw d Q _ (agO _))).mono (λ_ _ _=>rfl) S
     have:=cd.aa (w:=w) (A:=A') bc.1 (U * o.bQ) t o.bQ false ((o.es.drop U).take a) (λi j=>(w.cell? ⟨bc.1,U * o.bQ+(i * o.bQ+j),none⟩).getD Go.undef)
      (by intro hn;rw[hn]at K;simp at K;omega) (by rw[K];omega) (λR=>by cases R) (hM V o bc (by simp[tJ]) D W Nu) k4
      (λi B=>by rw[K]at B;obtain⟨d,g,z,Q⟩:=n i B;rw[g];exact(k5 _ d z).1)
      (λi j B M=>by rw[K]at B;obtain⟨u,Y,O⟩:=mI i j B M;rw[Y];rfl)
      (λi j B M=>by rw[K]at B;obtain⟨u,Y,O⟩:=mI i j B M;rw[Y];exact O)
     rw[K]at this;exact this
   cases e
  cases e
 ·split at e
  ·rename_i vf
   obtain rfl:=af7 e;exact(X.CN vf).mono (λ_ _ _=>rfl) S
  ·cases e
def Jb(p:PV):List Nat:=(Pm.cells p).flatMap tJ
theorem _root_.za3{P:Prop}(h:P:=by
 split at e
 ·rename_i a i O X
  obtain rfl:=af7 e;obtain⟨y,B⟩:=P X;refine⟨by simp[y],λj M=>?_⟩
  cases j with
  |zero=>simpa using O
  |succ j=>simpa using B j (by simpa using M)
 cases e):P:=h
theorem FK(e:oE h cs=some r):r.length=cs.length/\∀j,j<cs.length->rf h (cs.getD j .any)=some (r.getD j .any):=by
 induction cs generalizing r with
 |nil=>simp[oE]at e;subst e;exact⟨rfl,λj M=>by simp at M⟩
 |cons c cs P=>
  simp only[oE]at e
  exact za3
theorem FV(e:iR h cs=some r):r.length=cs.length/\∀j,j<cs.length->kZ h (cs.getD j .any)=some (r.getD j .any):=by
 induction cs generalizing r with
 |nil=>simp[iR]at e;subst e;exact⟨rfl,λj M=>by simp at M⟩
 |cons c cs P=>
  simp only[iR]at e
  exact za3
theorem FM(M:j<cs.length){f:PV->List Nat}(d:V∈f (cs.getD j .any)):V∈cs.flatMap f:=by
 have:cs.getD j .any=cs[j]:=by simp[List.getD,M]
 rw[this]at d;exact ag6.2 ⟨_,agO M,d⟩
theorem zf(H:bp w F Z h)(t:∀b,b<w.heap.size->¬Av F h Z b->¬A' b){v:Value}(J:aG w (Av F h Z) Z h v p)(e:kZ h p=some p')
  (u:∀(V:Nat) (o:ax) (bc:Nat×Nat),V∈Jb p->h[V]?=some o->Z[V]?=some bc->(o.mu=.m\/o.mu=.f)->¬A' bc.1):cd w A' v p':=by
 unfold kZ at e
 split at e
 ·rename_i Y
  cases z:oE h Y with
  |none=>rw[z]at e;simp at e
  |some r=>
   rw[z]at e;simp at e;subst e;obtain⟨y,B⟩:=FK z;obtain⟨W,rfl,A,R⟩:=J.lS;exact .agg W r yxa (λj M=>Ei H t (R j yxa) (B j yxa) (λV o bc d=>u V o bc (FM (cs:=Y) yxa d)))
 ·rename_i P
  have G:Pm.cells p=[p]:=by cases p <;>first |rfl |exact absurd rfl (P _)
  exact Ei H t J e (λV o bc d=>u V o bc (by simp[Jb,G,d]))
theorem ZA(H:bp w F Z h)(t:∀b,b<w.heap.size->¬Av F h Z b->¬A' b){v:Value}(J:aG w (Av F h Z) Z h v p)(e:rb h p=some p')
  (u:∀(V:Nat) (o:ax) (bc:Nat×Nat),h[V]?=some o->Z[V]?=some bc->(o.mu=.m\/o.mu=.f)->¬A' bc.1):cd w A' v p':=by
 unfold rb at e
 split at e
 ·rename_i Y
  cases z:iR h Y with
  |none=>rw[z]at e;simp at e
  |some r=>
   rw[z]at e;simp at e;subst e;obtain⟨y,B⟩:=FV z;obtain⟨W,rfl,A,R⟩:=J.qG;exact .b8 W r yxa (λj M=>zf H t (R j yxa) (B j yxa) (λV o bc _=>u V o bc))
 exact zf H t J e (λV o bc _=>u V o bc)
theorem mX{f:PV->Option PV}:∀{cs r:List PV},fT f cs=some r->r.length=cs.length/\∀j,j<cs.length->f (cs.getD j .any)=some (r.getD j .any)
 |[],r,e=>by simp[fT]at e;subst e;exact⟨rfl,λj M=>by simp at M⟩
 |c::cs,r,e=>by
  simp only[fT]at e
  split at e
  ·rename_i a i O X
   obtain rfl:=af7 e;obtain⟨y,B⟩:=mX X;refine⟨by simp[y],λj M=>?_⟩
   cases j with
   |zero=>simpa using O
   |succ j=>simpa using B j (by simpa using M)
  cases e
theorem Vf{A:PV}(P:∀cs,e≠.agg cs)(q:mW n h e=some A):Pm.cells e=[e]/\Pm.cells A=[A]:=by
 have G:Pm.cells e=[e]:=by cases e <;>first |rfl |exact absurd rfl (P _)
 refine⟨G,?_⟩
 cases n with
 |zero=>
  simp only[mW]at q
  split at q
  obtain rfl:=af7 q;exact G
  cases q
 |succ n=>
  unfold mW at q
  split at q
  ·split at q
   ·split at q
    ·obtain⟨r,z,rfl⟩:=ag2.1 q;rfl
    ·cases q
   ·cases q
  exact absurd rfl (P _);obtain⟨r,z,rfl⟩:=ag2.1 q;rfl
  ·split at q
   ·obtain rfl:=af7 q;exact G
   ·cases q
theorem Nv{A:PV}(q:mW n h e=some A):(Pm.cells A).length=(Pm.cells e).length/\∀j,j<(Pm.cells e).length->∃m,m<=n/\mW m h ((Pm.cells e).getD j .any)=some ((Pm.cells A).getD j .any):=by
 by_cases P:∀Y,e≠.agg Y
 ·obtain⟨a,t⟩:=Vf P q;rw[a,t];refine⟨rfl,λj M=>?_⟩;obtain rfl:j=0:=by simp at M;omega
  exact⟨n,agb _,by simpa using q⟩
 ·obtain⟨Y,rfl⟩:∃Y,e=.agg Y:=Classical.byContradiction λR=>P λY G=>R ⟨Y,G⟩
  cases n with
  |zero=>
   simp only[mW]at q
   split at q
   ·rename_i J
    obtain rfl:=af7 q;refine⟨rfl,λj M=>⟨0,agb _,?_⟩⟩;have b:Y.all aW=true:=by rw[<-bz];simpa[aW]using J
    have R:aW ((Pm.cells (.agg Y)).getD j .any)=true:=gy b M;simp only[mW];rw[if_pos R]
   cases q
  |succ n=>
   simp only[mW]at q;obtain⟨r,z,rfl⟩:=ag2.1 q;obtain⟨y,B⟩:=mX z;exact⟨y,λj M=>⟨n,by omega,B j M⟩⟩
theorem Lz(H:bp w F Z h)(hA:∀b,b<w.heap.size->¬Av F h Z b->¬A' b)
  (hM:∀(V:Nat) (o:ax) (bc:Nat×Nat),h[V]?=some o->Z[V]?=some bc->(o.mu=.m\/o.mu=.f)->¬A' bc.1):∀(n:Nat) {v:Value} {p p':PV},aG w (Av F h Z) Z h v p->mW n h p=some p'->cd w A' v p':=by
 intro n
 induction n using Nat.strongRecOn with
 |ind n Q=>
  intro v p p' J e
  have vl:aW p=true->cd w A' v p:=λq=>(J.CN q).mono (λ_ _ _=>rfl) hA
  cases n with
  |zero=>
   simp only[mW]at e
   split at e
   ·rename_i q;obtain rfl:=af7 e;exact vl q
   cases e
  |succ n=>
   unfold mW at e
   split at e
   ·rename_i V ep U a
    split at e
    ·rename_i o ho
     split at e
     ·rename_i hc
      obtain⟨N,Nu⟩:=hc;obtain⟨S,mJ,rfl⟩:=ag2.1 e;obtain⟨D,e2,e3⟩:=getM_some ho;obtain⟨bc,W⟩:=fh H.len D;obtain⟨h1,h2,h3⟩:=J.eC;obtain⟨z,rfl,c2⟩:=h3 o bc D W e3 e2 N;obtain⟨T,vy,k1,k2,k3,k4,k5⟩:=(H.obj V o bc D W e3).c (h2 o D).2;obtain⟨l1,t⟩:=mX mJ;have XS:((o.es.drop U).take a).length=a:=by simp;omega
      have K:S.length=a:=by omega
      by_cases yM:a=0
      ·subst yM;obtain rfl:=ait.1 K;exact .gJ _ _ _ (λR=>by cases R)
      ·have d:∀i,i<a->∃g,o.es[U+i]?=some g/\mW n h g=some (S.getD i .any):=λi B=>by
        have G:((o.es.drop U).take a)[i]?=some (o.es[U+i]' yxa):=by
         rw[agy,if_pos B,agP];exact agd yxa
        have y:=t i yxa;rw[agA,G]at y;exact⟨_,agd yxa,y⟩
       have X:∀i j,i<a->j<o.bQ->(Pm.cells (S.getD i .any)).length=o.bQ/\∃u,w.cell? ⟨bc.1,U * o.bQ+(i * o.bQ+j),none⟩=some u/\cd w A' u ((Pm.cells (S.getD i .any)).getD j .any):=by
        intro i j B M
        obtain⟨g,G,y⟩:=d i B;obtain⟨n1,n2⟩:=k5 _ g G;obtain⟨Y,O⟩:=Nv y;have hq:=agd (show j<(Pm.cells g).length by omega);obtain⟨u,q1,q2⟩:=n2 j _ hq;obtain⟨m,hm,q3⟩:=O j yxa;rw[agA,hq]at q3;refine⟨by omega,u,?_,Q m yxa q2 q3⟩;rw[cell_of_row w bc.1 _ vy T (0,0) k1,<-ahM,<-ag0];exact q1
       have:=cd.aa (w:=w) (A:=A') bc.1 (U * o.bQ) z o.bQ false S (λi j=>(w.cell? ⟨bc.1,U * o.bQ+(i * o.bQ+j),none⟩).getD Go.undef)
        (by intro hn;rw[hn]at K;simp at K;omega) (by rw[K];omega) (λR=>by cases R) (hM V o bc D W Nu) k4
        (λi B=>(X i 0 yxa k4).1)
        (λi j B M=>by obtain⟨_,u,Y,O⟩:=X i j yxa M;rw[Y];rfl)
        (λi j B M=>by obtain⟨_,u,Y,O⟩:=X i j yxa M;rw[Y];exact O)
       rw[K]at this;exact this
     cases e
    cases e
   ·rename_i cs
    obtain⟨r,P,rfl⟩:=ag2.1 e;obtain⟨l1,t⟩:=mX P;obtain⟨vs,rfl,hl,R⟩:=J.lS;exact .agg vs r yxa (λj M=>Q n yxa (R j yxa) (t j yxa))
   ·rename_i cs
    obtain⟨r,P,rfl⟩:=ag2.1 e;obtain⟨l1,t⟩:=mX P;obtain⟨vs,rfl,hl,R⟩:=J.qG;exact .b8 vs r yxa (λj M=>Q n yxa (R j yxa) (t j yxa))
   ·split at e
    ·rename_i q;obtain rfl:=af7 e;exact vl q
    ·cases e
theorem zg(H:bp w F Z h)(t:∀b,b<w.heap.size->¬Av F h Z b->¬A' b){v:Value}(J:aG w (Av F h Z) Z h v p)(e:yb h p=some p')
  (u:∀(V:Nat) (o:ax) (bc:Nat×Nat),h[V]?=some o->Z[V]?=some bc->(o.mu=.m\/o.mu=.f)->¬A' bc.1):cd w A' v p':=by
 unfold yb at e
 split at e
 ·rename_i r z
  obtain rfl:=af7 e;exact ZA H t J z u
 exact Lz H t u 8 J e
theorem bp.empty(w:World)(F:Nat->Prop)(hF:∀b,F b->b<w.heap.size)(hG:eA w F):bp w F [] [] where
 fG:=hG.jk λb hb=>hb.elim id λm=>by obtain⟨id,o,bc,e,_⟩:=m;simp at e
 len:=rfl
 fin:=hF
 obj id o bc e:=by simp at e
 iv id ee o o' bc dB _ e:=by simp at e
 out id o bc e:=by simp at e
theorem l6(b:Nat):¬Mb [] [] b:=by rintro⟨V,o,n,e,_⟩;simp at e
def nC(P:Program)(lv:Nat)(w:World)(F:Nat->Prop)(Z:List (Nat×Nat))(h:ab)(f:FuncId)(vs:List Value)(r:PV)(h':ab):Prop:=
 Calls P f vs.toArray w λe X=>∃v q,e=.returned v/\aG X (Av F h' q) q h' v r/\bp X F q h'/\eN w h Z X h' q/\(lv<=1->dH w X)
def ez(P:Program)(f:FuncId)(g:List PV->ab->Option (PV×ab)):Prop:=
 ∀V h r d,g V h=some (r,d)->∀w F Z W,bp w F Z h->L2 (aG w (Av F h Z) Z h) W V->nC P 2 w F Z h f W r d
theorem bp.mO(H:bp w F Z h){V:Nat}{X:ab}(e:mO h V=some X):
  bp w F Z X/\eN w h Z w X Z/\(∃o:ax,X[V]?=some o/\o.mu=.f)/\(∀(k:Nat) (o:ax),h[k]?=some o->o.mu=.f->X[k]?=some o):=by
 unfold Pm.mO at e
 split at e
 ·rename_i o d
  split at e
  ·rename_i G
   obtain⟨K,n⟩:=G;obtain rfl:=af7 e;have z:=ag d;have v:(h.set V {o with mu:=.f})[V]?=some {o with mu:=.f}:=by simp[z]
   have i:∀k,k≠V->(h.set V {o with mu:=.f})[k]?=h[k]?:=λk g=>aga (agV g)
   have U:o.mu≠.x:=by rcases n with h |h <;>rw[h] <;>simp
   have S:eN w h Z w (h.set V {o with mu:=.f}) Z:=by
    refine⟨agb _,by simp,λ_ _ _=>rfl,?_,?_,?_,rfl,rfl,rfl,λ_=>agb _⟩
    ·rintro b W ⟨k,y,a,D,N,P,rfl⟩
     by_cases g:k=V
     subst g;rw[v]at D;obtain rfl:=af7 D;simp at P;rw[i k g]at D;exact⟨k,y,a,D,N,P,rfl⟩
    ·intro k y a D N P
     by_cases g:k=V
     ·subst g;rw[d]at D;obtain rfl:=af7 D;exact⟨_,a,v,N,by simp,⟨agb _,λh=>h⟩,λ_=>⟨rfl,λ_=>rfl,rfl⟩⟩
     exact⟨y,a,by rw[i k g];exact D,N,P,⟨agb _,λh=>h⟩,λ_=>⟨rfl,λ_=>rfl,rfl⟩⟩
    ·intro k y D N
     refine⟨?_,rfl⟩
     by_cases g:k=V
     ·subst g;rw[d]at D;obtain rfl:=af7 D;rw[v];rcases n with j |j;exact absurd j N
      ·congr 1;cases o;simp at j;subst j;rfl
     rw[i k g];exact D
   refine⟨⟨by simp[H.len],H.fin,?_,?_,?_,H.fG.xa S⟩,S,⟨_,v,rfl⟩,?_⟩
   ·intro k y a D N P
    by_cases g:k=V
    ·subst g;rw[v]at D;obtain rfl:=af7 D;exact kJ.mono S rfl (H.obj k o a d N U)
    rw[i k g]at D;exact kJ.mono S rfl (H.obj k y a D N P)
   ·intro k B u J A t Q D N P M Y O
    have g:k≠V:=by rintro rfl;rw[v]at D;obtain rfl:=af7 D;simp at Y
    rw[i k g]at D
    by_cases q:B=V
    subst q;exact H.iv k B u o A t Q D d P M Y U;rw[i B q]at N;exact H.iv k B u J A t Q D N P M Y O
   ·intro k y a D N P
    by_cases g:k=V
    subst g;exact H.out k o a d N n;rw[i k g]at D;exact H.out k y a D N P
   ·intro k y D N
    by_cases g:k=V
    ·subst g;rw[d]at D;obtain rfl:=af7 D;rw[v];congr 1;cases o;simp at N;subst N;rfl
    rw[i k g];exact D
  cases e
 cases e
theorem bp.gm:∀(t:List Nat) {h X:ab},bp w F Z h->gm h t=some X->
  bp w F Z X/\eN w h Z w X Z/\(∀V∈t,∃o:ax,X[V]?=some o/\o.mu=.f)/\(∀(k:Nat) (o:ax),h[k]?=some o->o.mu=.f->X[k]?=some o)
 |[],h,X,H,e=>by
  simp[Pm.gm]at e;subst e;exact⟨H,eN.refl w h Z,(λ_ j=>by cases j),(λ_ _ O _=>O)⟩
 |V::r,h,X,H,e=>by
  simp only[Pm.gm]at e
  split at e
  ·rename_i O b
   obtain⟨B,d,⟨o,u,q⟩,v⟩:=H.mO b;obtain⟨i,W,N,a⟩:=bp.gm r B e;refine⟨i,d.trans W,λk g=>?_,λk o Q G=>a k o (v k o Q G) G⟩;rcases agi.1 g with rfl |g;exact⟨o,a _ o u q,q⟩;exact N k g
  cases e
theorem Nw(M:j<args.length)(d:V∈Jb (args.getD j .any)):V∈jQ args:=by
 have:args.getD j .any=args[j]:=by simp[List.getD,M]
 rw[this]at d;exact ag6.2 ⟨_,agO M,d⟩
theorem zM(H:bp w F Z h){o:ax}{bc:Nat×Nat}(D:h[V]?=some o)(N:Z[V]?=some bc)(P:o.mu=.f):¬Av F h Z bc.1:=by
 rintro(u |⟨k,y,a,R,g,d,G⟩);exact H.out V o bc D N (.inr P) u
 ·have Q:k≠V:=by
   rintro rfl;rw[D]at R;obtain rfl:=af7 R;rw[P]at d;cases d
  exact H.iv k V y o a bc Q R D g N d (by rw[P];simp) G
theorem rW{w':World}{q:List (Nat×Nat)}(s:eN w [] [] w' h' q):dH w w':=
 ⟨s.size,λb W=>s.ba b W (l6 b),s.os,s.tape,s.output,s.drawn⟩
theorem pU{f:FuncId}{run:List PV->ab->Option (PV×ab)}(S:ez P f run){A:Nat->Prop}(hA:∀b,A b->b<w.heap.size)(hG:eA w A){args:List PV}{vs:List Value}(ha:L2 (cd w A) vs args)
  {r r':PV} {hc:ab} (e1:run (aY args) []=some (r,hc)) (e2:yb hc r=some r'):
  Calls P f vs.toArray w λe w'=>∃v,e=.returned v/\cd w' A v (b9 r')/\dH w w':=by
 have hl:(aY args).length=args.length:=by simp[cB]
 have hAv:∀b,Av A [] [] b↔A b:=λb=>⟨λh=>h.elim id (λh=>absurd h (l6 b)),.inl⟩
 have oR:L2 (aG w (Av A [] []) [] []) vs (aY args):=⟨by rw[hl];exact ha.1,λj hj=>by
  rw[gW];exact .val (((ha.2 j (by omega)).b9).jk (λb hb=>(hAv b).1 hb))⟩
 refine(S (aY args) [] r hc e1 w A [] vs (bp.empty w A hA hG) oR).mono ?_;rintro e w' ⟨v,Z',rfl,q1,q2,q3,_⟩;refine⟨v,rfl,?_,rW q3⟩;refine(zg q2 (λb _ hb ha=>hb (.inl ha)) q1 e2 (λid o bc m1 m2 m3=>?_)).b9;rcases m3 with m3 |m3;exact q2.out id o bc m1 m2 (.inl m3);exact q2.out id o bc m1 m2 (.inr m3)
mutual
theorem zN:∀p:PV,fm p=true->fm (b9 p)=true
 | .agg Y,h=>by simp only[fm,b9]at h ⊢;exact ux Y h
 | .b8 Y,h=>by simp only[fm,b9]at h ⊢;exact ux Y h
 | .int _ _,_=>rfl
 | .bool _,_=>rfl
 | .str _,_=>rfl
 | .ji,_=>rfl
 | .mM,_=>rfl
 | .jD,_=>rfl
 | .aa _ _,h=>by simp[fm]at h
 | .an _ _ _ _,h=>by simp[fm]at h
 | .ptr _ _ _ _,h=>by simp[fm]at h
 | .cq _,h=>by simp[fm]at h
 | .eX _,h=>by simp[fm]at h
 | .fn _ _,h=>by simp[fm]at h
 | .pK _ _ _,h=>by simp[fm]at h
 | .undef,h=>by simp[fm]at h
 | .any,h=>by simp[fm]at h
theorem ux:∀cs:List PV,rH cs=true->rH (aY cs)=true
 |[],_=>rfl
 |c::r,h=>by
  simp only[rH,aY,age]at h ⊢;exact⟨zN c h.1,ux r h.2⟩
end
theorem En{run:hZ}(S:ez P f (run f)){r:PV}(e:dL run lv f args h=some (r,h'))(H:bp w F Z h)
  (n:L2 (aG w (Av F h Z) Z h) vs args):nC P lv w F Z h f vs r h':=by
 unfold dL at e
 have done:∀{X:ab} (i:bp w F Z X) (d:eN w h Z w X Z) (p:PV),(Calls P f vs.toArray w λe u=>∃v,e=.returned v/\cd u (Av F X Z) v p/\dH w u)->nC P lv w F Z h f vs p X:=by
  intro X i d p G
  refine G.mono ?_;rintro e u ⟨v,rfl,U,z⟩;exact⟨v,Z,rfl,.val U,i.Cm z,d.trans (z.xa X Z),λ_=>z⟩
 split at e
 ·rename_i N
  split at e
  ·rename_i Q G O
   split at e
   ·rename_i t X
    obtain⟨rfl,rfl⟩:=agk (af7 e);refine done H (eN.refl w h Z) _ (pU (A:=Av F h Z) S (λb W=>Av.lt H W) H.fG (args:=args) ⟨n.1,λj M=>?_⟩ O X);rw[bz]at N;exact(n.2 j M).CN (gy N M)
   cases e
  cases e
 ·split at e
  ·rename_i D J
   obtain⟨y,B⟩:=FV J
   split at e
   ·rename_i Q G O
    split at e
    ·rename_i t X
     have a:∀{X:ab} (i:bp w F Z X) (d:eN w h Z w X Z) (K:∀V∈jQ args,∃o:ax,X[V]?=some o/\o.mu=.f),L2 (cd w (Av F X Z)) vs D:=by
      intro X i d K
      refine⟨by rw[n.1,y],λj M=>?_⟩;refine zf H (λb W hn=>Av.mono d b W hn) (n.2 j yxa) (B j yxa) (λV o bc hm m1 m2 m3=>?_);obtain⟨o2,g1,g2⟩:=K V (Nw yxa hm);exact zM i g1 m2 g2
     split at e
     ·rename_i g
      obtain⟨rfl,rfl⟩:=agk (af7 e);simp only[agJ]at g;rcases g with g |g
      ·refine done H (eN.refl w h Z) _ ?_;have:=pU (P:=P) (w:=w) (A:=λ_=>False) S (λb W=>W.elim) (H.fG.jk λb W=>W.elim) (args:=D) (vs:=vs) ⟨by rw[n.1,y],λj M=>zf H (λ_ _ _ R=>R) (n.2 j yxa) (B j yxa) (λ_ _ _ _ _ _ _ R=>R)⟩ O X;refine this.mono ?_;rintro e u ⟨v,rfl,U,z⟩;have vD:fm (b9 t)=true:=zN t g;exact⟨v,rfl,U.fm vD,z⟩
      ·refine done H (eN.refl w h Z) _ (pU (A:=Av F h Z) S (λb W=>Av.lt H W) H.fG (a H (eN.refl w h Z) (λV bL=>?_)) O X);have:=af9.1 g V bL
       split at this
       ·rename_i o ho
        simp only[age,decide_eq_true_eq]at this;exact⟨o,ho,this.1⟩
       cases this
     ·split at e
      ·cases q:gm h (jQ args)with
       |none=>rw[q]at e;simp at e
       |some h3=>
        rw[q]at e;simp at e;obtain⟨rfl,rfl⟩:=e;obtain⟨i,d,Y,_⟩:=bp.gm (jQ args) H q;exact done i d _ (pU (A:=Av F h3 Z) S (λb W=>Av.lt i W) i.fG (a i d Y) O X)
      ·cases e
    cases e
   cases e
  ·split at e
   ·rename_i D J
    obtain⟨y,B⟩:=mX J
    split at e
    ·rename_i Q G O
     split at e
     ·rename_i t X
      split at e
      ·rename_i g
       obtain⟨rfl,rfl⟩:=agk (af7 e);refine done H (eN.refl w h Z) _ ?_;have:=pU (P:=P) (w:=w) (A:=λ_=>False) S (λb W=>W.elim) (H.fG.jk λb W=>W.elim) (args:=D) (vs:=vs) ⟨by rw[n.1,y],λj M=>Lz H (λ_ _ _ R=>R) (λ_ _ _ _ _ _ R=>R) 8 (n.2 j yxa) (B j yxa)⟩ O X;refine this.mono ?_;rintro e u ⟨v,rfl,U,z⟩;exact⟨v,rfl,U.fm (zN t g),z⟩
      cases e
     cases e
    cases e
   ·cases e
end Go.Pm
