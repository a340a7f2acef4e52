/-
  Pm, a part. Conditions: none.
-/
import Derived.LoopN
import Derived.Scope
import Derived.Laws.Externs
import Derived.Laws.Cover3
import Derived.Test.YtiipafafbpaaoaaGreatDoorPsAF
import Derived.Test.YtiipafafbpaaoaaGreatDoorRows
import Derived.WalkKit
import Derived.ProofKit
import Derived.Deep.Slices
import Derived.ChangeArms
import Derived.OpenShut
import Derived.JoinedCond
import Derived.WideKeyArgs
import Derived.Shelf.SlSortCmp.WholeK
import Derived.Lib.Overlaps
import Derived.Shelf.SlLaysF0
import Derived.Test.YtiipafafbpaaoaaGreatDoorProg
import Derived.KernelRfl
set_option linter.unusedVariables false
set_option linter.unusedSimpArgs false
set_option linter.unnecessarySimpa false
set_option linter.unusedSectionVars false
namespace Go.Pm
variable{run:hZ}{N V n:Nat}{A F:Nat->Prop}{P:Program}{w:World}{a:Act}{vs:List Value}{f:FuncId}{args:List PV}{r:PV}{ops:Array Oper}{Q:Exit->Act->World->Prop}{o:Oper}{s:St}{h':ab}{c:Code}{bc:Nat×Nat}
variable[iD:Inhabited Prop]
def codeOk(N:Nat):Code->Bool
 | .region _ O D=>O.toList.all (fN N)&& (!D ||iz O)
 | .seq a b=>codeOk N a&&codeOk N b
 | .cond _ a b=>codeOk N a&&codeOk N b
 | .block _ c=>codeOk N c
 | .loop c=>codeOk N c
 | .scope c=>codeOk N c
 |_=>true
def Gn:Ex->Exit
 | .normal=>.normal
 | .exit id=>.exit id
 | .ret=>.ret
theorem HT{C:cA}(K:dn C)(hm:C.P.follows .mixedOrders=true)(S:dJ C run):∀(c:Code) {s U:St} {A:Ex} {a:Act} {w:World} {Z:List (Nat×Nat)} {Q:Exit->Act->World->Prop},
  codeOk N c=true->bT C run n c s=some (A,U)->SR N w F Z s a->(∀u w' t,SR N w' F t U u->eN w s.h Z w' U.h t->Q (Gn A) u w')->c.wp C.P Q a w:=by
 intro c
 induction c with
 |skip=>
  intro s U A a w Z Q G e R v
  simp only[bT,agx,ah7]at e;obtain⟨rfl,rfl⟩:=e;exact wp_skip (v a w Z R (eN.refl _ _ _))
 |label l=>
  intro s U A a w Z Q G e R v
  simp only[bT,agx,ah7]at e;obtain⟨rfl,rfl⟩:=e;exact wp_label (v a w Z R (eN.refl _ _ _))
 |exit V=>
  intro s U A a w Z Q G e R v
  simp only[bT,agx,ah7]at e;obtain⟨rfl,rfl⟩:=e;exact wp_exit (v a w Z R (eN.refl _ _ _))
 |ret=>
  intro s U A a w Z Q G e R v
  simp only[bT,agx,ah7]at e;obtain⟨rfl,rfl⟩:=e;exact wp_ret (v a w Z R (eN.refl _ _ _))
 |region V O D=>
  intro s U A a w Z Q G e R v
  simp only[codeOk,age,agJ,ahg]at G;simp only[bT]at e
  cases D with
  |false=>
   simp only[agn,if_false]at e
   split at e
   ·rename_i s1 q
    obtain⟨rfl,rfl⟩:=agk (af7 e);exact NL K S G.1 R q v
   cases e
  |true=>
   simp only[if_true]at e
   by_cases hk:pO O=true
   ·simp only[hk,if_true]at e
    cases q:ka C run O s with
    |none=>rw[q]at e;simp at e
    |some y=>
     rw[q]at e;obtain⟨rfl,rfl⟩:=agk (af7 e);exact Vm K S hm G.1 (by simpa using G.2) R q v
   ·simp only[hk,if_false]at e
    by_cases hf:kb O=true
    ·simp only[hf,if_true]at e
     cases q:eQ C run (Eh O s.Y) s.h O.toList s with
     |none=>rw[q]at e;simp at e
     |some y=>
      rw[q]at e;obtain⟨rfl,rfl⟩:=agk (af7 e);exact SQ K S hm G.1 (by simpa using G.2) hf R q v
    simp only[hf,if_false]at e
    cases q:dQ C run O (before O) 0 O.toList ⟨s,s.h.length,[]⟩with
    |none=>rw[q]at e;simp at e
    |some y=>
     rw[q]at e;simp only[ago]at e;obtain⟨rfl,rfl⟩:=agk (af7 e);exact JC K S hm G.1 (by simpa using G.2) R q v
 |seq x y z j=>
  intro s U A a w Z Q G e R v
  simp only[codeOk,age]at G;simp only[bT]at e;refine wp_seq ?_
  cases g:bT C run n x s with
  |none=>rw[g]at e;cases e
  |some r=>
   obtain⟨b,s1⟩:=r;rw[g]at e;refine z G.1 g R (λf i J B d=>?_)
   cases b with
   |normal=>exact j G.2 e B (λa2 w2 X M W=>v a2 w2 X M (d.trans W))
   |exit V=>
    obtain⟨rfl,rfl⟩:=agk (af7 e);exact v f i J B d
   |ret=>
    obtain⟨rfl,rfl⟩:=agk (af7 e);exact v f i J B d
 |cond c x y z j=>
  intro s U A a w Z Q G e R v
  simp only[codeOk,age]at G;simp only[bT]at e
  split at e
  ·rename_i hb
   have:=R.er.ev R.hr.fG c;rw[hb]at this;exact wp_cond_true this.gz (z G.1 e R v)
  ·rename_i hb
   have:=R.er.ev R.hr.fG c;rw[hb]at this;exact wp_cond_false this.gz (j G.2 e R v)
  cases e
 |block V c H=>
  intro s U A a w Z Q G e R v
  simp only[codeOk]at G;simp only[bT]at e;refine wp_block ?_
  cases g:bT C run n c s with
  |none=>rw[g]at e;cases e
  |some r=>
   obtain⟨b,s1⟩:=r;rw[g]at e;refine H G g R (λf i J B d=>?_)
   cases b with
   |normal=>
    obtain⟨rfl,rfl⟩:=agk (af7 e);exact v f i J B d
   |exit ee=>
    simp only at e;simp only[Gn,Exit.inBlock]
    split at e
    ·rename_i bL
     obtain⟨rfl,rfl⟩:=agk (af7 e);rw[if_pos bL];exact v f i J B d
    ·rename_i bL
     obtain⟨rfl,rfl⟩:=agk (af7 e);rw[if_neg bL];exact v f i J B d
   |ret=>
    obtain⟨rfl,rfl⟩:=agk (af7 e);exact v f i J B d
 |loop c H=>
  intro s U A a w Z Q G e R v
  simp only[codeOk]at G;simp only[bT]at e
  have key:∀(m:Nat) {s:St} {a:Act} {w:World} {Z:List (Nat×Nat)},iter (bT C run n c) m s=some (A,U)->SR N w F Z s a->(∀u w' t,SR N w' F t U u->eN w s.h Z w' U.h t->Q (Gn A) u w')->Code.rounds C.P c Q m a w:=by
   intro m
   induction m with
   |zero=>intro s a w Z e;simp[iter]at e
   |succ m ihm=>
    intro s a w Z e R v
    simp only[iter]at e;rw[rounds_succ]
    cases g:bT C run n c s with
    |none=>rw[g]at e;cases e
    |some r=>
     obtain⟨b,s1⟩:=r;rw[g]at e;refine H G g R (λf i J B d=>?_)
     cases b with
     |normal=>exact ihm e B (λa2 w2 X M W=>v a2 w2 X M (d.trans W))
     |exit V=>
      obtain⟨rfl,rfl⟩:=agk (af7 e);exact v f i J B d
     |ret=>
      obtain⟨rfl,rfl⟩:=agk (af7 e);exact v f i J B d
  exact wp_loop_rounds n (key n e R v)
 |scope c H=>
  intro s U A a w Z Q G e R v
  simp only[codeOk]at G;simp only[bT]at e;refine wp_scope_straight (H G e R (λf i J B d=>?_))
  cases A <;>exact v f i J B d
 |_=>
  intro s U A a w Z Q G e R v
  simp[bT]at e
def xZ(r:ResultVar)(b:Array Value):Sem Value:=
 match r with
 | .tmp t=>pure (b.getD t undef)
 | .cell a t=>do loadVar t (<-asAddr (b.getD a undef))
theorem wQ{P:Program}{w:World}{F:Nat->Prop}{Z:List (Nat×Nat)}{h:ab}{a:Act}{Y:Nat->PV}(H:bp w F Z h)(R:iA w (Av F h Z) Z h a Y):∀(l:List ResultVar) (vs:List PV),dM P h Y l=some vs->
  ∃us:List Value,(l.mapM (λr=>xZ r a.tmps)).run P w=.ok us w/\L2 (aG w (Av F h Z) Z h) us vs
 |[],vs,e=>by
  simp[dM]at e;subst e;exact⟨[],by simp,rfl,λj M=>by simp at M⟩
 |r::l,vs,e=>by
  simp only[dM]at e
  split at e
  ·rename_i v n O X
   obtain rfl:=af7 e;obtain⟨us,g,B,Q⟩:=wQ H R l n X
   have V:∃u,(xZ r a.tmps).run P w=.ok u w/\aG w (Av F h Z) Z h u v:=by
    cases r with
    |tmp t=>
     obtain rfl:=af7 O;exact⟨_,rfl,R t⟩
    |cell x t=>
     obtain⟨u,f,A⟩:=HN (P:=P) H (R x) O;refine⟨u,?_,A⟩;rw[<-f];unfold xZ Instr.loadAt;simp only[Sem.run_bind];unfold Instr.loadAt at f;simp only[Sem.run_bind]at f;generalize a.tmps.getD x undef=y at f ⊢
     cases y with
     |pointer p=>
      cases p with
      |some d=>simp[Instr.sureAddr,asAddr]
      |none=>simp[Instr.sureAddr]at f
     |_=>simp[Instr.sureAddr]at f
   obtain⟨u,b,q⟩:=V;refine⟨u::us,?_,by simp[B],λj M=>?_⟩;simp only[List.mapM_cons,Sem.run_bind,b,g,Result.andThen_ok,Sem.run_pure]
   ·cases j with
    |zero=>simpa using q
    |succ j=>simpa using Q j (by simpa using M)
  cases e
theorem pn{P:Program}{w:World}{F:Nat->Prop}{Z:List (Nat×Nat)}{h:ab}{a:Act}{Y:Nat->PV}(H:bp w F Z h)(R:iA w (Av F h Z) Z h a Y)(fn:Func){vs:List PV}(e:dM P h Y fn.results.toList=some vs):
  ∃u,(results fn a.tmps).run P w=.ok u w/\aG w (Av F h Z) Z h u (bo vs):=by
 obtain⟨us,u1,u2,u3⟩:=wQ (P:=P) H R _ _ e
 have cN:(fn.results.mapM (λr=>xZ r a.tmps)).run P w=.ok us.toArray w:=by
  rw[<-Array.toArray_toList (xs:=fn.results),List.mapM_toArray];simp only[Sem.run_map,u1,Result.andThen_ok]
 refine⟨if h:us.toArray.size=1 then us.toArray[0]else .tuple us.toArray,?_,?_⟩
 ·have:results fn a.tmps=(do let vs<-fn.results.mapM (λr=>xZ r a.tmps);pure (if h:vs.size=1 then vs[0]else .tuple vs)):=by
   unfold results xZ
   rfl
  rw[this];simp only[Sem.run_bind,cN,Result.andThen_ok,Sem.run_pure]
 ·match us,vs,u2 with
  |[],[],_=>exact .b8 [] [] rfl (λj hj=>by simp at hj)
  |[u],[v],_=>simpa[bo]using u3 0 (by simp)
  |u1::u2::us,v1::v2::vs,hl=>
   have:¬((u1::u2::us).toArray.size=1):=by simp
   rw[dif_neg this];exact .b8 _ _ hl u3
structure ic(C:cA):Prop where
 rU:∀(f:FuncId) (fn:Func) (c:Code),(C.mode f=.pure\/C.mode f=.opened)->C.P.funcs[f]?=some fn->fn.body=some c->codeOk fn.ntmps c=true
 mixed:C.P.follows .mixedOrders=true
theorem ur{C:cA}(K:dn C)(KC:ic C)(S:dJ C run)(hk:∀(i:Func) (c:Code),C.P.funcs[f]?=some i->i.body=some c->codeOk i.ntmps c=true):ez C.P f (rj C run n f):=by
 intro V h r d e w F Z W H j
 unfold rj at e
 split at e
 ·rename_i i b
  split at e
  ·rename_i c G
   have v:∀(A:Ex) (s:St),bT C run n c ⟨pP V,h⟩=some (A,s)->(A=.normal\/A=.ret)->(∃W,dM C.P s.h s.Y i.results.toList=some W/\r=bo W/\d=s.h)->nC C.P 2 w F Z h f W r d:=by
    rintro A s a M ⟨X,z,rfl,rfl⟩;refine calls_of_wp b G ?_;have g:=j.1
    have R:SR i.ntmps w F Z ⟨pP V,h⟩ {tmps:=W.toArray++Array.replicate (i.ntmps - W.toArray.size) undef,defers:=[]}:=by
     refine⟨H,λt=>?_,rfl,by simp;omega⟩;show aG w (Av F h Z) Z h ((W.toArray++Array.replicate (i.ntmps - W.toArray.size) undef).getD t Go.undef) (V.getD t .undef)
     by_cases B:t<V.length
     ·have D:(W.toArray++Array.replicate (i.ntmps - W.toArray.size) undef).getD t Go.undef=W.getD t Go.undef:=by
       rw[ag1,aho,if_pos yxd];simp[List.getD]
      have N:V.getD t .undef=V.getD t .any:=by simp[List.getD,B]
      rw[D,N];exact j.2 t B
     ·have D:(W.toArray++Array.replicate (i.ntmps - W.toArray.size) undef).getD t Go.undef=Go.undef:=by
       rw[ag1,aho];rw[if_neg yxd];rw[ahI]
       split <;>rfl
      have N:V.getD t .undef=.undef:=by simp[List.getD,agr (show V.length<=t by omega)]
      rw[D,N];exact .undef
    refine HT K KC.mixed S c (hk i c b G) a R (λa' w' q y O=>?_);obtain⟨u,Q,U⟩:=pn (P:=C.P) y.hr y.er i z;rcases M with rfl |rfl;exact⟨y.df,u,Q,u,q,rfl,U,y.hr,O,λhh=>by omega⟩;exact⟨y.df,u,Q,u,q,rfl,U,y.hr,O,λhh=>by omega⟩
   cases a:bT C run n c ⟨pP V,h⟩with
   |none=>rw[a]at e;cases e
   |some x=>
    obtain⟨A,s⟩:=x;rw[a]at e
    have J:(match dM C.P s.h s.Y i.results.toList with |some W=>some (bo W,s.h)|none=>none)=some (r,d)->∃W,dM C.P s.h s.Y i.results.toList=some W/\r=bo W/\d=s.h:=by
     intro e
     split at e
     ·rename_i X z
      obtain⟨rfl,rfl⟩:=agk (af7 e);exact⟨X,z,rfl,rfl⟩
     cases e
    cases A with
    |normal=>exact v .normal s a (.inl rfl) (J e)
    |ret=>exact v .ret s a (.inr rfl) (J e)
    |exit id=>cases e
  cases e
 cases e
theorem O'{C:cA}(K:dn C)(Q:ic C)(S:dJ C run)(u:C.mode f=.pure\/C.mode f=.opened):ez C.P f (rj C run n f):=
 ur K Q S λi c O X=>Q.rU f i c u O X
theorem pQ{C:cA}(K:dn C)(Q:ic C):∀n,dJ C (dC C n)
 |0=>λf _ V h r d e=>by cases e
 |n+1=>λf u=>O' K Q (pQ K Q n) u
theorem xO{C:cA}(K:dn C)(KC:ic C){n:Nat}{f:FuncId}(hf:C.mode f=.pure\/C.mode f=.opened){args:List PV}{r:PV}(e:rk C n f args=some r)
  {w:World} {A:Nat->Prop} (hA:∀b,A b->b<w.heap.size) {vs:List Value} (ha:L2 (cd w A) vs args) (hG:eA w A:=by intro g p e;cases e):
  Calls C.P f vs.toArray w λen w'=>∃v,en=.returned v/\cd w' A v r/\dH w w':=by
 unfold rk at e
 split at e
 ·rename_i r0 hc h1
  cases h2:yb hc r0 with
  |none=>rw[h2]at e;cases e
  |some r1=>
   rw[h2]at e;obtain rfl:=af7 e;have hAv:∀b,Av A [] [] b↔A b:=λb=>⟨λh=>h.elim id (λh=>absurd h (l6 b)),.inl⟩
   have oR:L2 (aG w (Av A [] []) [] []) vs args:=⟨ha.1,λj hj=>.val ((ha.2 j hj).jk (λb hb=>(hAv b).1 hb))⟩;refine(pQ K KC n f hf args [] r0 hc h1 w A [] vs (bp.empty w A hA hG) oR).mono ?_;rintro en w' ⟨v,Z',rfl,q1,q2,q3,_⟩;refine⟨v,rfl,?_,rW q3⟩;refine(zg q2 (λb _ hb ha=>hb (.inl ha)) q1 h2 (λid o bc m1 m2 m3=>?_)).b9;rcases m3 with m3 |m3;exact q2.out id o bc m1 m2 (.inl m3);exact q2.out id o bc m1 m2 (.inr m3)
 cases e
variable{w:World}{F:Nat->Prop}{Z:List (Nat×Nat)}{h:ab}
theorem mh{C:cA}(K:dn C)(S:dJ C run)(J:ops.toList.all (fN N)=true)(rest:List Nat)(B:List Oper):
  ∀(l:List Oper) (k:Nat) {w:World} {Z:List (Nat×Nat)} {s U:St} {a:Act},ops.toList.drop k=l++B->SR N w F Z s a->eB C run ops l s=some U->
   (∀u w' q,SR N w' F q U u->eN w s.h Z w' U.h q->wpOps C.P ops Q rest u w')->wpOps C.P ops Q (List.map (·+k) (List.range l.length)++rest) a w:=by
 intro l
 induction l with
 |nil=>
  intro k w Z s U a A R e v
  simp[eB]at e;subst e;simpa using v a w Z R (eN.refl w s.h Z)
 |cons o r j=>
  intro k w Z s U a A R e v
  simp only[eB]at e
  have i:ops[k]?=some o:=by
   rw[<-agG];have:(ops.toList.drop k)[0]?=some o:=by rw[A];rfl
   rwa[agP]at this
  have z:ops.toList.drop (k+1)=r++B:=by
   have:=congrArg (List.drop 1) A;rw[List.drop_drop]at this;simpa using this
  have n:List.map (·+k) (List.range (o::r).length)++rest=k::(List.map (·+(k+1)) (List.range r.length)++rest):=by
   rw[agj,ahQ];simp only[agp,agz,aie,agL]
   congr 2
   apply ahk
   intro x _
   simp;omega
  rw[n];simp only[wpOps,i]
  split at e
  ·rename_i D f
   have b:fN N o=true:=af9.1 J o (by
    have:o∈ops.toList.drop k:=by rw[A];simp
    exact ahr this)
   have:=C1 K S R b f (Q:=Q) (next:=wpOps C.P ops Q (List.map (·+(k+1)) (List.range r.length)++rest)) (λu w' q y O=>j (k+1) z y e (λd t g Y W=>v d t g Y (O.trans W)))
   exact zcd
  cases e
theorem Fi{rest:List Nat}{k:Nat}{p:PV}(g:ops[k]?=some o)(f:o.guard=none)(e:fN N o=true)(R:SR N w F Z s a)
  (S:yO P 2 w F Z s.h (execOp a.eval o) p h') (n:∀b w' q,SR N w' F q ⟨bZ s.Y o.dst p,h'⟩ b->eN w s.h Z w' h' q->wpOps P ops Q rest b w'):wpOps P ops Q (k::rest) a w:=by
 simp only[wpOps,g];have H:Region.wanted o (yielded ops a.tmps)=true:=by simp[Region.wanted,f]
 rw[if_pos H]
 left
 have t:=fp e R.sz;obtain⟨v,w',q,O,X,d,G,_⟩:=S
 have J:∀u,u=v->wpOps P ops Q rest (a.put o.dst u) w':=by
  rintro u rfl;exact n _ w' q ⟨d,(R.er.mono G).put t X,by rw[cE];exact R.df,by rw[eD];exact R.sz⟩ G
 unfold Oper.wp;rcases O with O |⟨O,rfl⟩;rw[O];exact J _ rfl;rw[O];exact J _ rfl
theorem _root_.zbp{P:Prop}(h:P:=by
 rw[jb,List.range_add];simp only[ahJ,List.map_id',agC]
 congr 1
 rw[ahQ];simp only[agp,ahJ,aie]
 congr 1
 apply ahk
 intro x _
 simp;omega):P:=h
theorem _root_.zcl{P:Prop}(h:P:=by
 have:ops.toList.drop (pre.length+1)=post:=by
  rw[f,List.drop_append];simp
 simpa using this):P:=h
theorem dj{C:cA}(K:dn C)(z:∀n,dJ C (dC C n)){id:Nat}(d:ops.toList.all (fN N)=true){pre post:List Oper}(f:ops.toList=pre++o::post)(V:o.guard=none)
  {s:St} {a:Act} (R:SR N w F Z s a) {M M2:St->Prop} (G:ai C ops pre s M)
  (hs:∀s1 b i J,M s1->SR N i F J s1 b->eN w s.h Z i s1.h J->∃p h',yO C.P 2 i F J s1.h (execOp b.eval o) p h'/\ai C ops post ⟨bZ s1.Y o.dst p,h'⟩ M2)
  (U:∀q O y j,M2 q->SR N y F j q O->eN w s.h Z y q.h j->Q .normal O y):(Code.region id ops false).wp C.P Q a w:=by
 refine wp_region ?_;obtain⟨s1,m1,g,D⟩:=G
 have jb:ops.size=pre.length+(post.length+1):=by
  have:=congrArg List.length f;simpa using this
 have qQ:List.range ops.size=List.map (·+0) (List.range pre.length)++(pre.length::(List.map (·+(pre.length+1)) (List.range post.length)++[])):=by
  exact zbp
 rw[qQ];have u:fN N o=true:=af9.1 d o (by rw[f];simp)
 have hk:ops[pre.length]?=some o:=by
  rw[<-agG,f,agl (agb _)];simp
 refine mh K (z g) d _ (o::post) pre 0 (by simpa using f) R (D g (agb _)) (λb i J B e=>?_);obtain⟨p,h',os,H⟩:=hs s1 b i J m1 B e;obtain⟨q,m3,S,t⟩:=H;refine Fi hk V u B os (λa2 w2 Z2 v W=>?_);refine mh K (z S) d [] [] post (pre.length+1) ?_ v (t S (agb _)) (λO y j X A=>?_)
 ·exact zcl
 ·simp only[wpOps];exact U q O y j m3 X (e.trans (W.trans A))
theorem dV{C:cA}(K:dn C)(d:C.P.follows .mixedOrders=true)(z:∀n,dJ C (dC C n)){M:Ex->St->Prop}(G:codeOk N c=true)(e:Ev C c s M)(R:SR N w F Z s a)
  (v:∀A U u w' q,M A U->SR N w' F q U u->eN w s.h Z w' U.h q->Q (Gn A) u w'):c.wp C.P Q a w:=by
 obtain⟨A,U,m,B,b⟩:=e;exact HT K d (z B) c G (b B B (agb _) (agb _)) R (λu w' q y O=>v A U u w' q m y O)
theorem _root_.zat{P:Prop}(h:P:=by
 have D:(vs.toArray++Array.replicate (i.ntmps - vs.toArray.size) undef).getD t Go.undef=Go.undef:=by
  rw[ag1,aho];rw[if_neg yxd];rw[ahI]
  split <;>rfl
 have N:args.getD t .undef=.undef:=by simp[List.getD,agr (show args.length<=t by omega)]
 rw[D,N];exact .undef):P:=h
theorem mR{i:Func}(J:P.funcs[f]?=some i)(O:i.body=some c)(H:bp w F Z h)(n:L2 (aG w (Av F h Z) Z h) vs args)
  (S:∀a,SR i.ntmps w F Z ⟨pP args,h⟩ a->c.wp P (λA b w'=>(A=.normal\/A=.ret)/\∃U q,SR i.ntmps w' F q U b/\eN w h Z w' U.h q/\∃B,dM P U.h U.Y i.results.toList=some B/\
    ∀u,aG w' (Av F U.h q) q U.h u (bo B)->∃g,aG w' (Av F h' g) g h' u r/\bp w' F g h'/\eN w h Z w' h' g) a w):nC P 2 w F Z h f vs r h':=by
 refine calls_of_wp J O ?_;have K:=n.1
 have R:SR i.ntmps w F Z ⟨pP args,h⟩ {tmps:=vs.toArray++Array.replicate (i.ntmps - vs.toArray.size) undef,defers:=[]}:=by
  refine⟨H,λt=>?_,rfl,by simp;omega⟩;show aG w (Av F h Z) Z h ((vs.toArray++Array.replicate (i.ntmps - vs.toArray.size) undef).getD t Go.undef) (args.getD t .undef)
  by_cases v:t<args.length
  ·have D:(vs.toArray++Array.replicate (i.ntmps - vs.toArray.size) undef).getD t Go.undef=vs.getD t Go.undef:=by
    rw[ag1,aho,if_pos yxd];simp[List.getD]
   have N:args.getD t .undef=args.getD t .any:=by simp[List.getD,v]
   rw[D,N];exact n.2 t v
  ·exact zat
 refine Code.wp_mono ?_ (S _ R);rintro A b w' ⟨M,U,q,y,X,B,z,W⟩;obtain⟨u,G,V⟩:=pn (P:=P) y.hr y.er i z;obtain⟨g,d,e,j⟩:=W u V;rcases M with rfl |rfl;exact⟨y.df,u,G,u,g,rfl,d,e,j,λQ=>by omega⟩;exact⟨y.df,u,G,u,g,rfl,d,e,j,λQ=>by omega⟩
theorem bp.EW(H:bp w F Z h){o:ax}(g:h[V]?=some o)(X:Z[V]?=some bc)(n:o.mu=.m)(U:List PV)(P:Nat)(t:o.ep<P)(h1:U.length<=bc.2)
  (G:∀(i:Nat) (e:PV),U[i]?=some e->o.es[i]?=some e\/((cells e).length=o.bQ/\∀p∈cells e,p=.any)) (M:0<o.bQ:=by first |assumption |omega):
  bp w F Z (h.set V {o with es:=U,ep:=P})/\eN w h Z w (h.set V {o with es:=U,ep:=P}) Z:=by
 obtain⟨T,Y,f,A,Q,u,a⟩:=(H.obj V o bc g X (by rw[n];simp)).c M
 have O:∀i:Nat,i<U.length->i * o.bQ+o.bQ<=Y.size:=λi B=>by
  have:(i+1) * o.bQ<=bc.2 * o.bQ:=agR _ yxa;rw[ag0,Nat.one_mul]at this;omega
 have:=H.set g X n (w':=w) T Y U P bc (agb _) f (λ_ _ _=>rfl) (.inl ⟨rfl,λR=>by omega⟩) (Nat.le_of_lt t) rfl rfl rfl h1 Q (λi e q=>by
  rcases G i e q with R |⟨d,N⟩;exact a i e R
  ·refine⟨d,λj p K=>?_⟩;have b:j<o.bQ:=by have:=ag K;omega
   have B:=ag q;have:=O i B;refine⟨Y[i * o.bQ+j],ahc yxa,?_⟩;rw[N p (agq K)];exact .any _)
 rw[wO X]at this;exact this
theorem aG.EW{v:Value}{ep:Nat}{o:ax}(g:h[V]?=some o)(X:Z[V]?=some bc)(b:o.mu=.m)(J:aG w (Av F h Z) Z h v (.an V ep 0 n))(q:o.ep=ep)(hn:n<=o.es.length)(U:List PV)(P:Nat):
  aG w A Z (h.set V {o with es:=U,ep:=P}) v (.an V P 0 n):=by
 obtain⟨_,O,u⟩:=J.eC;obtain⟨j,a,t⟩:=u o bc g X (by rw[b];simp) q yxa;exact .an v V P 0 n {o with es:=U,ep:=P} bc ⟨_,_,_,a⟩ (agc (ag g)) X (by show o.mu≠.x;rw[b];simp) ⟨agb _,(O o g).2⟩ (λ_ _=>⟨j,a,t⟩)
end Go.Pm
namespace Go.Pm
variable{f:Nat}
open Go.Proofs
set_option maxRecDepth 20000
def YI:Mode->Bool
 | .pure=>true
 | .opened=>true
 |_=>false
def adH:Mode->Bool
 | .no=>true
 | .ext _=>true
 |_=>false
def MJ(C:cA)(f:FuncId):Bool:=!YI (C.mode f)||match C.P.funcs[f]? with
 |some i=>match i.body with
  |some c=>codeOk i.ntmps c
  |none=>true
 |none=>true
def HJ(C:cA)(f:FuncId):Bool:=adH (C.mode f)||match C.P.funcs[f]? with
 | some i => i.body.isSome && !(i.name == "runtime.NumGoroutine")
 |none=>false
theorem abd:((List.range 352).all (MJ C))=true:=by kernel_rfl
theorem WA:((List.range 352).all (HJ C))=true:=by kernel_rfl
theorem DC{p:Nat->Bool}{n:Nat}(h:(List.range n).all p=true)(u:f<n):p f=true:=af9.1 h f (ais.2 u)
theorem HK(h:352<=f):C.mode f=.no:=by
 show lm f=.no;unfold lm;have Q:∀k:Nat,k<352->¬f=k:=λk g=>by omega
 have A:∀l:List Nat,l.all (λk=>decide (k<352))=true->l.contains f=false:=by
  intro l A
  cases G:l.contains f with
  |false=>rfl
  |true=>
   have:=af9.1 A f (by simpa using G);have:=of_decide_eq_true this;omega
 rw[A _ yxe,A _ yxe];simp only[agn,if_false]
 repeat' rw[if_neg (Q _ yxe)]
 rw[if_neg (by omega:¬f<325)]
theorem pS:ic C where
 mixed:=by kernel_rfl
 rU f fn c d hf hb:=by
  have F:f<352:=by
   rcases agM f 352 with h |h;exact h;rw[HK h]at d;rcases d with d |d <;>cases d
  have:=DC abd F;unfold MJ at this;rw[hf]at this;simp only[hb]at this;have z:YI (C.mode f)=true:=by rcases d with d |d <;>rw[d] <;>rfl
  simpa[z]using this
theorem Od : ∀ f, (∀ a : C.mode f = .no, False) → (∀ g, C.mode f ≠ .ext g) → ∃ i, C.P.funcs[f]? = some i ∧ i.body.isSome = true ∧ (i.name == "runtime.NumGoroutine") = false := by
 intro f u Q
 have F:f<352:=by
  rcases agM f 352 with h |h;exact h;exact(u (HK h)).elim
 have:=DC WA F;unfold HJ at this
 have z:adH (C.mode f)=false:=by
  cases d:C.mode f with
  |no=>exact(u d).elim
  |ext g=>exact(Q g d).elim
  |_=>rfl
 rw[z]at this;simp only[ahN]at this
 split at this
 ·rename_i i v
  simp only[age,ahg]at this;exact⟨i,v,this.1,this.2⟩
 cases this
theorem aaT:∀f g,C.mode f=.ext g->∀args r,g args=some r->∀(w:World) (A:Nat->Prop) (vs:List Value),L2 (cd w A) vs args->∃v,(callFunc f vs.toArray).run C.P w=.ok (.value v) w/\cd w A v r:=by
 intro f g h args r z w A vs j
 have V:lm f=.ext g:=h;unfold lm at V
 split at V
 cases V
 ·split at V
  ·rename_i u
   obtain rfl:=Mode.ext.inj V;simp only at z
   split at z
   ·rename_i a b
    obtain rfl:=af7 z;obtain⟨d,R⟩:=j
    match vs,d with
    |[x,y],_=>
     have B:=R 0 yxb;have O:=R 1 yxb;simp only[ah4,ain]at B O
     cases B
     cases O
     subst u;refine⟨_,?_,.int _ _⟩;rw[run_callFunc_extern (P:=C.P) Tryz.func164 (by kernel_rfl) (by kernel_rfl) (by kernel_rfl) (e:=Extern.BytealgCompare.compare) (by kernel_rfl)];show((Extern.BytealgCompare.compare #[.string a,.string b]).run C.P w).andThen _=_;rw[Lib.run_compareString]
     rfl
   cases z
  ·repeat' split at V
   all_goals cases V
end Go.Pm
namespace Go.Pm
variable{f:FuncId}{x y:Operand}{fl full:Bool}{es:List PV}{G sz:Nat}{r z:PV}{vs:List Value}{h':ab}
variable[iD:Inhabited Prop]
open Go.Proofs
set_option maxRecDepth 100000
def L0:List FuncId:=[264,262,162]
noncomputable def C0:cA:=⟨C.P,λf=>if L0.contains f=true then .opened else .no⟩
theorem El(h:L0.contains f=true):C0.mode f=.opened:=if_pos h
theorem zJ(f:FuncId):C0.mode f=.opened\/C0.mode f=.no:=by
 by_cases u:L0.contains f=true
 exact .inl (if_pos u);exact .inr (if_neg u)
theorem XR(h:C0.mode f≠.no):f∈L0:=by
 by_cases u:L0.contains f=true
 simpa using u;exact(h (if_neg u)).elim
def Qu(P:Program)(f:FuncId):Bool:=match P.funcs[f]? with
 | some i => i.body.isSome && !(i.name == "runtime.NumGoroutine")
 |none=>false
theorem aer:L0.all (Qu C0.P)=true:=by kernel_rfl
theorem K0:dn C0 where
 enters f hf _:=by
  have h:=af9.1 aer f (XR (λh=>hf h));unfold Qu at h
  split at h
  ·rename_i i v
   simp only[age,ahg]at h;exact⟨i,v,h.1,h.2⟩
  cases h
 ri f g hh:=by rcases zJ f with h |h <;>rw[h]at hh <;>cases hh
 de f g hh:=by rcases zJ f with h |h <;>rw[h]at hh <;>cases hh
 ext f g hh:=by rcases zJ f with h |h <;>rw[h]at hh <;>cases hh
def Em(P:Program)(f:FuncId):Bool:=match P.funcs[f]? with
 |some i=>match i.body with
  |some c=>codeOk i.ntmps c
  |none=>true
 |none=>true
theorem aes:L0.all (Em C0.P)=true:=by kernel_rfl
theorem KC0:ic C0 where
 mixed:=pS.mixed
 rU f fn c d hf hb:=by
  have O:Em C0.P f=true:=af9.1 aes f (XR (λh=>by rcases d with d |d <;>rw[d]at h <;>cases h));unfold Em at O;rw[hf]at O;simp only[hb]at O;exact O
theorem S0:∀n,dJ C0 (dC C0 n):=pQ K0 KC0
theorem cZ:C0.P.follows .mixedOrders=true:=pS.mixed
namespace Zero
noncomputable def T6:li C0.P:=Go.Pm.T6
end Zero
variable{w:World}{F:Nat->Prop}{Z:List (Nat×Nat)}{h:ab}
attribute [local irreducible] aE az aO aL Ev ai ah ay bh
set_option maxHeartbeats 4000000
theorem nH{a:Act}{Y:Nat->PV}(H:bp w F Z h)(R:iA w (Av F h Z) Z h a Y){t el:TypeId}(y:C0.P.underlying t=some (.slice el))(U:ev Y x=.aa fl es):
  ∃q,(q=true->es=[])/\∀(o:Oper) {u:TypeId},o.op=.binOp .eql t x (.const (.slice none 0 0)) u->yO C0.P 2 w F Z h (execOp a.eval o) (.bool q) h:=by
 have J:=R.ev H.fG x;rw[U]at J;obtain⟨e,j,D,_,_⟩:=J.fI.iC;refine⟨e.isNone,λW=>?_,λo u f=>⟨.bool e.isNone,w,Z,.inl ?_,.val (.bool _),H,eN.refl w h Z,λ_=>dH.refl w⟩⟩
 ·have z:e=none:=by cases e <;>simp_all
  subst z;rcases J.fI.tf with B |⟨b,v,O,M,Q,i,_⟩;exact B;rw[D]at i;cases i
 ·obtain⟨d,A,S,G,N,g⟩:=o;simp only at f;subst f;have X:a.eval (.const (.slice none 0 0))=.slice none 0 0:=rfl;have K:(eqGuard .eql t x (.const (.slice none 0 0)) (.slice e es.length j) (.slice none 0 0)).run C0.P w=.ok () w:=by simp[eqGuard]
  have n:(binOp .eql t (.slice e es.length j) (.slice none 0 0)).run C0.P w=.ok (.bool e.isNone) w:=by
   simp only[binOp];simp[run_equal_slice_nil w t el e es.length j y]
  simp only[execOp,D,X,Sem.run_bind,K,n,Result.andThen_ok,Sem.run_pure]
theorem Gf{C:cA}(T:li C.P){lv:Nat}{st xt el b:TypeId}(g:T.kd st=some (.sl el))(D:T.kd xt=some (.sl b))(S:T.ts el=some (sz+1))(W:T.tb el=some G)(M:T.tz el=some z)
  (O:G<=1000) (A:(cells z).length=sz+1) (f:(cells z).all bP=true):bR C.P lv h st xt (.aa true []) (.aa full [])=some (.aa true [],h):=by
 unfold bR;rw[bG (T.dA _ _ g)];simp only[T.eT _ _ S,T.vg _ _ W,T.pJ _ _ M,cH,bG (T.dA _ _ D),cr];rw[if_pos ⟨by omega,by omega,⟨A,f⟩,rfl⟩]
 rfl
section
variable{C:cA}(T:li C.P)
variable{ops:Array Oper}{d:Nat}{ty:TypeId}{pos:String}{af:Array Edge}{r:List Oper}{Y:Nat->PV}{L:List (Nat×PV)}{Q:St->Prop}
theorem R.p8{st xt el b:TypeId}(U:cW L x=some (.aa true []))(F:cW L y=some (.aa full []))(g:T.kd st=some (.sl el))(D:T.kd xt=some (.sl b))(S:T.ts el=some (sz+1))(W:T.tb el=some G)(M:T.tz el=some z)
  (O:G<=1000) (A:(cells z).length=sz+1) (f:(cells z).all bP=true) (w:ai C ops r ⟨al ((d,.aa true [])::L) Y,h⟩ Q):
  ai C ops (⟨some d,.call ⟨.builtin .append,#[x,y],#[st,xt]⟩,ty,pos,af,none⟩::r) ⟨al L Y,h⟩ Q:=by
 refine ai.fO (λX=>?_) w;have a:=Gf T (h:=h) (lv:=2) (full:=full) g D S W M O A f;simp only[ar,bA,agp,agF,ak U,ak F,a]
theorem R.mf{st xt el e:TypeId}{ys:List PV}(U:cW L x=some (.aa true []))(F:cW L y=some (.aa full ys))(g:T.kd st=some (.sl el))(D:T.kd xt=some (.sl e))(S:T.ts el=some (sz+1))(W:T.tb el=some G)(M:T.tz el=some z)
  (O:G<=1000) (A:(cells z).length=sz+1) (f:(cells z).all bP=true) (i:eE (sz+1) ys) (a:ys≠[]) (hn:ys.length<1000000000) (w:ai C ops r ⟨al ((d,.an h.length 0 0 ys.length)::L) Y,h++[⟨.m,0,sz+1,ys⟩]⟩ Q):
  ai C ops (⟨some d,.call ⟨.builtin .append,#[x,y],#[st,xt]⟩,ty,pos,af,none⟩::r) ⟨al L Y,h⟩ Q:=by
 refine ai.fO (λX=>?_) w;have b:=iB T (h:=h) (lv:=2) (full:=full) yxe g D S W M O A f i (by cases ys with |nil=>exact absurd rfl a |cons=>rfl) hn;simp only[ar,bA,agp,agF,ak U,ak F,b]
end
namespace Zero
theorem _root_.zaa{P:Prop}(h:P:=by
 refine mR (P:=C0.P) G rfl H N (λa j=>?_);refine wp_seq ?_;refine dV K0 cZ S0 (M:=λA U=>A=.normal/\∃b,U=⟨al [(0,.aa fl es)] b,h⟩) rfl ?_ j ?_
 ·rw[iE];refine wB ?_;exact⟨rfl,_,St.ba ⟨rfl,trivial⟩⟩
 rintro A U a1 w1 Z1 ⟨rfl,Y1,rfl⟩ B e;refine wp_seq ?_;refine wp_seq ?_;apply dj K0 S0 (pre:=[_]) (post:=[]) (R:=B) (M:=λU=>∃b,U=⟨al [(0,.aa fl es),(3,.aa fl es)] b,h⟩) (M2:=λU=>∃q b,U=⟨al [(0,.aa fl es),(4,.bool q)] b,h⟩/\(q=true->es=[]))
 rfl
 rfl
 ·refine wB ?_;exact⟨_,St.ba ⟨rfl,rfl,trivial⟩⟩
 ·rintro s1 a2 w2 Z2 ⟨D,rfl⟩ Y S2;obtain⟨q,W,S⟩:=nH (x:=.tmp 3) (fl:=fl) (es:=es) Y.hr Y.er J (fi (L:=[(0,.aa fl es),(3,.aa fl es)]) (t:=3) rfl D);refine⟨.bool q,h,S _ rfl,ai.nil ⟨q,al ((4,.bool q)::[(0,.aa fl es),(3,.aa fl es)]) D,?_,W⟩⟩;show(⟨bZ (al [(0,.aa fl es),(3,.aa fl es)] D) (some 4) (.bool q),h⟩:St)=_;rw[cy];exact St.ba ⟨rfl,rfl,trivial⟩
 rintro s3 a3 w3 Z3 ⟨q,Y3,rfl,W⟩ X f
 cases q
 ·refine dV K0 cZ S0 (M:=λA U=>A=.normal/\∃b,U=⟨al [(0,.aa fl es)] b,h⟩) rfl ?_ X ?_
  ·refine wB ?_;exact⟨rfl,_,St.ba ⟨rfl,trivial⟩⟩
  rintro A U a4 w4 Z4 ⟨rfl,Y4,rfl⟩ i g;refine dV K0 cZ S0 (M:=λA U=>A=.ret/\∃b,U=⟨al [(2,r)] b,h'⟩) rfl ?_ i ?_
  ·refine wB ?_;rcases d with⟨rfl,rfl,rfl⟩|⟨Q,rfl,rfl⟩
   ·apply R.p8 T6;exact rfl;exact rfl;exact rfl;exact rfl;exact rfl;exact rfl;exact rfl;exact yxe;exact rfl;exact rfl;refine wB ?_;exact⟨rfl,_,St.ba ⟨rfl,trivial⟩⟩
   ·apply R.mf T6;exact rfl;exact rfl;exact rfl;exact rfl;exact rfl;exact rfl;exact rfl;exact yxe;exact rfl;exact rfl;exact O;exact Q;exact hn;refine wB ?_;exact⟨rfl,_,St.ba ⟨rfl,trivial⟩⟩
  rintro A s5 n w5 z ⟨rfl,v,rfl⟩ K V;refine⟨.inr rfl,_,z,K,((e.trans f).trans g).trans V,[r],?_,λu y=>⟨z,y,K.hr,((e.trans f).trans g).trans V⟩⟩;exact gq (L:=[(2,r)]) rfl
 ·obtain rfl:=W rfl;rcases d with⟨_,rfl,rfl⟩|⟨Q,_⟩
  ·refine dV K0 cZ S0 (M:=λA U=>A=.ret/\∃b,U=⟨al [(2,.aa true [])] b,h'⟩) rfl ?_ X ?_
   ·refine wB ?_;exact⟨rfl,_,St.ba ⟨rfl,trivial⟩⟩
   rintro A s5 n w5 z ⟨rfl,v,rfl⟩ K V;refine⟨.inr rfl,_,z,K,(e.trans f).trans V,[.aa true []],?_,λu y=>⟨z,y,K.hr,(e.trans f).trans V⟩⟩;exact gq (L:=[(2,.aa true [])]) rfl
  exact absurd rfl Q
 rfl):P:=h
theorem Vs(H:bp w F Z h)(N:L2 (aG w (Av F h Z) Z h) vs [.aa fl es])(O:eE 4 es)(hn:es.length<1000000000)
  (d:(es=[]/\r=.aa true []/\h'=h)\/(es≠[]/\r=.an h.length 0 0 es.length/\h'=h++[⟨.m,0,4,es⟩])):nC C0.P 2 w F Z h 50 vs r h':=by
 have G:=Tryz.func50;have J:=bG (T6.dA 36 _ rfl);exact zaa
theorem Vt(H:bp w F Z h)(N:L2 (aG w (Av F h Z) Z h) vs [.aa fl es])(O:eE 1 es)(hn:es.length<1000000000)
  (d:(es=[]/\r=.aa true []/\h'=h)\/(es≠[]/\r=.an h.length 0 0 es.length/\h'=h++[⟨.m,0,1,es⟩])):nC C0.P 2 w F Z h 312 vs r h':=by
 have G:=Tryz.func312;have J:=bG (T6.dA 258 _ rfl);exact zaa
end Zero
theorem nI(k:∀{w:World} {F:Nat->Prop} {Z:List (Nat×Nat)} {h:ab} {fl:Bool} {es:List PV} {vs:List Value},bp w F Z h->L2 (aG w (Av F h Z) Z h) vs [.aa fl es]->eE sz es->es.length<1000000000->∀{r:PV} {h':ab},((es=[]/\r=.aa true []/\h'=h)\/(es≠[]/\r=.an h.length 0 0 es.length/\h'=h++[⟨.m,0,sz,es⟩]))->nC C0.P 2 w F Z h f vs r h'):ez C.P f (bW sz):=by
 intro V h r h' e w F Z vs H j
 unfold bW at e
 split at e
 ·rename_i fl es
  split at e
  ·rename_i a
   obtain⟨rfl,rfl⟩:=agk (af7 e);obtain rfl:es=[]:=by simpa using a
   exact k H j rfl yxb (.inl ⟨rfl,rfl,rfl⟩)
  ·rename_i a
   split at e
   ·rename_i G
    obtain⟨rfl,rfl⟩:=agk (af7 e);exact k H j G.1 G.2 (.inr ⟨by simpa using a,rfl,rfl⟩)
   cases e
 cases e
end Go.Pm
namespace Go.Pm
open Go.Proofs
attribute [local irreducible] aE az aO aL Ev ai ah ay bh
set_option maxRecDepth 4000
set_option maxHeartbeats 8000000
theorem sq(s:ByteArray)(l:List Tm)(A:l.length<100000000):aT C 35 [.str s,.aa false (ae l)] (enc (.mk 3 s 0 l)):=by
 refine aT.of (ay.gk Tryz.func35 rfl ?_);have Z:=aj l;have D:=qK l;have y:=bI l;have J:=fy l;rw[bE];generalize ae l=S at Z D y J ⊢;refine wB ?_
 cases S with
 |nil=>
  apply R.p8 T6;exact rfl;exact rfl;exact rfl;exact rfl;exact rfl;exact rfl;exact rfl;exact yxe;exact rfl;exact rfl;refine wB ?_;refine R.mw T6 (n:=0) (o:=⟨.m,0,4,[.agg Nm]⟩) (i:=0) (e:=.agg Nm) rfl rfl rfl rfl rfl rfl rfl rfl (agb 4) ?_;refine wB ?_;exact⟨_,rfl,by simp[b9,aY]⟩
 |cons e S=>
  apply R.mf T6;exact rfl;exact rfl;exact rfl;exact rfl;exact rfl;exact rfl;exact rfl;exact yxe;exact rfl;exact rfl;exact D;exact yxb;exact yxa;refine wB ?_;refine R.mw T6 (n:=0) (o:=⟨.m,0,4,[.agg Nm]⟩) (i:=0) (e:=.agg Nm) rfl rfl rfl rfl rfl rfl rfl rfl (agb 4) ?_;refine wB ?_;refine⟨.agg [.I 3,.str s,.I 0,.aa false (e::S)],?_,by show PV.agg [.I 3,.str s,.I 0,.aa false (aY (e::S))]=_;rw[y]⟩;show kZ _ (.agg [.I 3,.str s,.I 0,.an 1 0 0 (e::S).length])=_;simp[kZ,oE,rf,aW,getM,J]
end Go.Pm
namespace Go.Pm
variable{t:Tm}{w:World}
open Go.Proofs
set_option maxRecDepth 4000
set_option maxHeartbeats 8000000
theorem Bv:∀{l:List Pw} {f:Option Tm},mU f l=0->Bd 1000 l/\(∀p∈l,valid p.1=0/\gQ p.1=false)/\Nz l/\U9 l/\(∀q,f=some q->∀p∈l,aZ q p.1<0)
 |[],_,_=>⟨(λp K=>by cases K),(λp K=>by cases K),(λp K=>by cases K),by simp[U9],(λ_ _ p K=>by cases K)⟩
 |p::l,f,h=>by
  rw[qT]at h
  by_cases O:valid p.1=0
  ·rw[if_neg yxa]at h
   by_cases X:gQ p.1=true
   rw[if_pos X]at h;cases h
   ·rw[if_neg X]at h
    by_cases Q:p.2=0\/p.2< -1000\/1000<p.2
    rw[if_pos Q]at h;cases h
    ·rw[if_neg Q]at h
     have v:mU (some p.1) l=0/\(∀q,f=some q->aZ q p.1<0):=by
      cases f with
      |none=>
       simp only[agn,if_false]at h;exact⟨h,λq y=>by cases y⟩
      |some q=>
       simp only at h
       split at h
       cases h
       ·rename_i G
        refine⟨h,λd y=>?_⟩
        cases y
        have:¬0<=aZ q p.1:=λR=>G (decide_eq_true R)
        omega
     obtain⟨F,a,P,A,b⟩:=Bv v.1;refine⟨λx U=>?_,λx U=>?_,λx U=>?_,agE.2 ⟨λx U=>b p.1 rfl x U,A⟩,λq y x U=>?_⟩
     ·rcases agi.1 U with rfl |U
      ·omega
      ·exact F x U
     ·rcases agi.1 U with rfl |U
      ·exact⟨O,by simpa using X⟩
      ·exact a x U
     ·rcases agi.1 U with rfl |U
      ·omega
      ·exact P x U
     ·rcases agi.1 U with rfl |U
      ·exact v.2 q y
      ·exact fH (v.2 q y) (b p.1 rfl x U)
  rw[if_pos O]at h;exact absurd h O
theorem HB{l:List Pw}(h:oe l=0):l.length<=200/\Bd 1000 l/\(∀p∈l,valid p.1=0/\gQ p.1=false)/\Nz l/\U9 l:=by
 unfold oe at h
 split at h
 cases h
 ·obtain⟨F,U,P,A,_⟩:=Bv h;exact⟨by omega,F,U,P,A⟩
def jF(l:List (List Pw)):List PV:=l.map λp=>.aa false (cQ p)
def lz(l:List (List Pw)):List Tm:=l.flatMap λp=>p.map (·.1)
def Tm.k:Tm->Int | .mk k _ _ _=>k
def Tm.s:Tm->ByteArray | .mk _ s _ _=>s
def Tm.o:Tm->Int | .mk _ _ o _=>o
def Tm.l:Tm->List Tm | .mk _ _ _ l=>l
abbrev Do(u:Tm):List PV:=[.I u.k,.str u.s,.I u.o,.aa false (ae u.l)]
abbrev Pi(u:Tm):ax:=⟨.m,0,4,[.agg (Do u)]⟩
theorem au(t:Tm):enc t=.agg (Do t):=by cases t;exact bE _ _ _ _
theorem Bu(t:Tm)(n:Int):Cj (t,n)=.agg [.I t.k,.str t.s,.I t.o,.aa false (ae t.l),.I n]:=by cases t;rfl
attribute [simp] aw aW aY b9 fy bI lL mV zG zF
@[simp] theorem Gi(t:Tm):PV.agg (Do t)=enc t:=(au t).symm
@[simp] theorem PL(t:Tm)(n:Int):PV.agg [.I t.k,.str t.s,.I t.o,.aa false (ae t.l),.I n]=Cj (t,n):=(Bu t n).symm
theorem cU(a b:List PV):aw (a++b)=(aw a&&aw b):=by rw[bz,ag9,<-bz,<-bz]
attribute [simp] cU
@[simp] theorem abW(p:Pw):aW (Cj p)=true:=by obtain⟨t,n⟩:=p;rw[Bu];simp
@[simp] theorem aek(p:Pw):b9 (Cj p)=Cj p:=by obtain⟨t,n⟩:=p;rw[Bu];simp[-PL,-Gi]
@[simp] theorem ab9:cQ []=[]:=rfl
@[simp] theorem vW:ae []=[]:=by simp[ae]
@[simp] theorem aca(l:List Tm):(ae l).length=l.length:=aj l
@[simp] theorem abX(l:List Pw):(cQ l).length=l.length:=jR l
theorem bO{l p q:List Tm}(e:l=p++t::q):(ae l)[p.length]?=some (.agg (Do t)):=by rw[dw,e,<-au];simp
theorem Gh{l p q:List Pw}{n:Int}(e:l=p++(t,n)::q):(cQ l)[p.length]?=some (.agg [.I t.k,.str t.s,.I t.o,.aa false (ae t.l),.I n]):=by rw[cQ,e,<-Bu];simp
set_option maxRecDepth 100000
set_option maxHeartbeats 2000000
instance:Inhabited Tm:=⟨gZ⟩
def P6:Nat->Prop:=λ_=>False
theorem A3{a:Addr}{v:Value}(h:w.cell? a=some v):∃b off,a=⟨b,off,none⟩:=by
 obtain⟨b,off,u⟩:=a
 cases u with
 |none=>exact⟨b,off,rfl⟩
 |some s=>
  exfalso;unfold World.cell? at h
  split at h
  simp at h
  cases h
theorem Wv(a:Addr):a.add 0=a:=by obtain⟨b,U,u⟩:=a;simp[Addr.add]
open Go.Proofs.YtiipafafbpaaoaaGreatDoor in
theorem Ig{H E:Type}(B:E->Nat):∀(l:List E) (z:List (DataW H)),l.length=z.length->(∀(i:Nat) (t:E) (d:DataW H),l[i]?=some t->z[i]?=some d->B t<=Rows.uptoBulk d)->(l.map B).sum<=Rows.uptoBulkAll z
 |[],_,_,_=>by simp
 |t::l,[],h,_=>by simp at h
 |t::l,d::z,h,W=>by
  have O:=W 0 t d rfl rfl;have X:=Ig B l z (by simpa using h) (λi j V D N=>W (i+1) j V (by simpa using D) (by simpa using N));simp only[agp,ahP,Rows.uptoBulkAll];omega
open Go.Proofs.YtiipafafbpaaoaaGreatDoor in
theorem AY{H:Type}{ec:TypeId×Value->H}{sp:Nat->Bool}{u:Bool}{ty el:TypeId}{sz:Nat}{E:Type}[Inhabited E](f:E->PV)(B:E->Nat)(hk:C.P.underlying ty=some (.slice el))(Q:C.P.cellsOf el=sz)(qS:0<sz)(hl:∀e,(Pm.cells (f e)).length=sz)
  (D:∀(n:Nat) (cs:List Value) (x:DataW H×List MemPlace),DataW.trod ec C.P w 0 sp u n el cs=some x->∃e:E,cs.length=sz/\(∀j,j<sz->cd w P6 (cs.getD j undef) ((Pm.cells (f e)).getD j .any))/\B e<=Rows.uptoBulk x.1)
  {n:Nat} {cs:List Value} {x:DataW H×List MemPlace} (h:DataW.trod ec C.P w 0 sp u n ty cs=some x):∃(c:Value) (l:List E),cs=[c]/\cd w P6 c (.aa false (l.map f))/\(l.map B).sum+1<=Rows.uptoBulk x.1:=by
 rcases DataW.trod_slice hk h with⟨Y,rfl⟩|⟨a,K,z,A,rest,n2,VA,Y,rfl,hb,hle,Ck,YC,cL,_,_⟩;exact⟨_,[],Y,.gJ none 0 false (λh=>by cases h),by simp[Rows.uptoBulk]⟩
 ·subst Q
  have R:∀i,i<K->∃q:List Value×E,w.cells? 0 (a.add (i * C.P.cellsOf el)) (C.P.cellsOf el)=some q.1/\(q.1.length=C.P.cellsOf el/\∀j,j<C.P.cellsOf el->cd w P6 (q.1.getD j undef) ((Pm.cells (f q.2)).getD j .any))/\∀y,A[i]?=some y->B q.2<=Rows.uptoBulk y.1:=by
   intro i g
   have O:=cL i g;obtain⟨y,F⟩:∃y,A[i]?=some y:=⟨A[i],agd yxa⟩;rw[F]at O
   cases Q:w.cells? 0 (a.add (i * C.P.cellsOf el)) (C.P.cellsOf el)with
   |none=>rw[Q]at O;cases O
   |some jx=>
    rw[Q]at O;obtain⟨t,t1,t2,t3⟩:=D n2 jx y O;exact⟨(jx,t),rfl,⟨t1,t2⟩,λy' J=>by rw[F]at J;obtain rfl:=af7 J;exact t3⟩
  obtain⟨q,S⟩:=Deep.choose_lt R;have Fy:((List.range K).map λi=>(q i).2).length=K:=by simp
  have yL:∀i,i<K->((List.range K).map λi=>(q i).2)[i]?=some (q i).2:=λi g=>by rw[agt,aiF g];rfl
  refine⟨_,(List.range K).map λi=>(q i).2,Y,?_,?_⟩
  ·by_cases h0:K=0
   ·subst h0;exact .gJ (some a) z false (λh=>by cases h)
   ·have Z:=(S 0 yxa).1;obtain⟨_,eW,W⟩:=World.cells?_some Z;have V:=W 0 qS;rw[ah3,Wv,Wv]at V;obtain⟨v0,Cb⟩:∃v,(q 0).1[0]?=some v:=⟨(q 0).1[0],agd yxa⟩;rw[Cb]at V;obtain⟨b,U,rfl⟩:=A3 V;have mJ:(((List.range K).map λi=>(q i).2).map f).length=K:=by simp
    have G:∀i,i<K->(((List.range K).map λi=>(q i).2).map f).getD i .any=f (q i).2:=λi g=>by
     rw[List.getD,agt,yL i g];rfl
    have M:cd w P6 (.slice (some ⟨b,U,none⟩) (((List.range K).map λi=>(q i).2).map f).length z) (.aa false (((List.range K).map λi=>(q i).2).map f)):=by
     refine .aa b U z (C.P.cellsOf el) false _ (λi j=>(q i).1.getD j undef) (λh=>?_) yxa (λh=>by cases h) (λh=>h) qS (λi g=>?_) (λi j g hj=>?_) (λi j g hj=>?_);rw[h]at mJ;simp at mJ;omega;rw[G i yxa];exact hl _
     ·obtain⟨_,eW,W⟩:=World.cells?_some (S i yxa).1;have:=W j hj;rw[fu,fu]at this;rw[show U+(i * C.P.cellsOf el+j)=U+i * C.P.cellsOf el+j by omega,this,agd yxa];simp[List.getD,agd (show j<(q i).1.length by omega)]
     rw[G i yxa];exact(S i yxa).2.1.2 j hj
    rw[mJ]at M;exact M
  ·have:=Ig B ((List.range K).map λi=>(q i).2) (A.map (·.1)) (by simp[YC]) (λi t d X N=>by
    have g:i<K:=by have:=ag X;rwa[Fy]at this
    rw[yL i g]at X;obtain rfl:=af7 X;rw[agt]at N
    cases F:A[i]? with
    |none=>rw[F]at N;cases N
    |some y=>
     rw[F]at N;obtain rfl:=af7 N;exact(S i g).2.2 y F)
   simp only[Rows.uptoBulk];omega
instance:Inhabited Pw:=⟨(gZ,0)⟩
variable[iD:Inhabited Prop]
theorem dH.kept{W a:World}(g:dH W a)(M:MemPlace->Prop):W.keptBut a M:=by
 refine⟨g.os,g.output,λi B=>?_⟩;rw[g.ba i B]
 cases W.heap[i]? with
 |none=>rfl
 |some o=>cases o <;>simp
end Go.Pm
namespace Go.Pm
structure MI(a:List Pw)(k:Nat):Prop where
 Mt:U9 a
 nz:Nz a
 bd:Bd (1000+1000 * (k:Int)) a
 len:a.length<=200+k
theorem MI.of{a:List Pw}(h:oe a=0):MI a 0:=by
 obtain⟨O,X,Q,G,d⟩:=HB h;exact⟨d,G,λp K=>by have:=X p K;omega,by omega⟩
open Go.Proofs
set_option maxRecDepth 4000
def yU{v:Type}(p:v->Bool)(l:List v):Int:=match l.findIdx? p with |some i=>i |none=>-1
theorem tu{v:Type}{p:v->Bool}{a q:List v}{x:v}(h:∀y∈a,p y=false)(U:p x=true):yU p (a++x::q)=a.length:=by
 unfold yU;rw[List.findIdx?_append,aip.2 h];simp[List.findIdx?_cons,U]
theorem nh{v:Type}{p:v->Bool}{a:List v}(h:∀y∈a,p y=false):yU p a=-1:=by
 unfold yU;rw[aip.2 h]
theorem wc{v:Type}(p:v->Bool)(l:List v):decide (0<=yU p l)=l.any p:=by
 unfold yU
 cases h:l.findIdx? p with
 |none=>
  rw[aip]at h;have:l.any p=false:=by rw[ahL];intro x U;simp[h x U]
  rw[this];rfl
 |some i=>
  obtain⟨O,X,_⟩:=List.findIdx?_eq_some_iff_getElem.1 h;have:l.any p=true:=ahy.2 ⟨_,agO O,X⟩;rw[this];simp
@[simp] theorem abv(l:List Pw):eE (4+1) (cQ l):=by
 unfold eE cQ;rw[List.all_map,af9];rintro⟨t,n⟩ _;simp only[Function.comp,Bu]
 rfl
def ye:List Pw->Tm->Int
 |[],_=>0
 |p::l,t=>if aZ p.1 t=0 then p.2 else ye l t
theorem QF{p q:List Pw}{x:Pw}{t:Tm}(h:∀y∈p,aZ y.1 t≠0)(U:aZ x.1 t=0):ye (p++x::q) t=x.2:=by
 induction p with
 |nil=>rw[agS,ye,if_pos U]
 |cons y p P=>rw[agL,ye,if_neg (h y yxb),P (λz M=>h z (by simp[M]))]
theorem NH{l p q:List (List Pw)}{x:List Pw}(e:l=p++x::q):(jF l)[p.length]?=some (.aa false (cQ x)):=by rw[jF,e];simp
@[simp] theorem XZ(l:List (List Pw)):(jF l).length=l.length:=by simp[jF]
@[simp] theorem X0(l:List (List Pw)):aw (jF l)=true:=by induction l with |nil=>rfl |cons x l P=>simpa[jF]using P
@[simp] theorem X6(l:List (List Pw)):aY (jF l)=jF l:=by induction l with |nil=>rfl |cons x l P=>simpa[jF]using P
def jo(l:List Int):List PV:=l.map λx=>.int .i64 x
@[simp] theorem abZ(l:List Int):(jo l).length=l.length:=by simp[jo]
@[simp] theorem ZJ(l:List Int):aw (jo l)=true:=by induction l with |nil=>rfl |cons x l P=>simpa[jo]using P
@[simp] theorem ZK(l:List Int):aY (jo l)=jo l:=by induction l with |nil=>rfl |cons x l P=>simpa[jo]using P
def fV(t:Tm):List Tm->List Tm
 |[]=>[t]
 |x::r=>if aZ t x<=0 then(if aZ t x<0 then t::x::r else x::r)else x::fV t r
attribute [local irreducible] aE az aO aL Ev ai ah ay bh
theorem QG(t:Tm)(l:List Tm)(Z:aC t<1000000000)(W:∀x∈l,aC x<1000000000)(hl:l.length<1000000):aT C 102 [.aa false (ae l),enc t] (.aa false (ae (fV t l))):=by
 have cL:(ae l).length=l.length:=by simp
 rw[au];refine aT.x T6 Tryz.func102 rfl ?_;refine wA ?_;refine dU.zip T6 l (λp q L H=>∃v u d,L=[(0,.aa false (ae l)),(3,.ptr 0 0 0 0),(5,v),(6,.bool d),(7,.I p.length)]/\HV H/\H[0]?=some (Pi t)/\Out 4 H v (ae u)/\(∀w n,v≠.an 0 w 0 n)/\(u.length<=p.length+if d then 1 else 0)/\u++(if d then q else fV t q)=fV t l) (.nx ⟨_,[],false,rfl,HV.one rfl,rfl,.inl ⟨rfl,rfl⟩,(λ_ _ h=>by cases h),by simp,by simp⟩) ?_ ?_
 ·rintro p x q _ h Y e ⟨v,u,d,rfl,K,B,b,j,f,N⟩;have dm:=bO e;have eR:=lenE e;have U:=QH t x Z (W x yxf);rw[au,au]at U;have z:(ae u).length=u.length:=by simp
  have M:u.length<=p.length+1:=by cases d <;>simp at f <;>omega
  refine wA ?_;refine .p U ?_;have S:∀(a:List Tm) (y:Tm),ae a++[.agg (Do y)]=ae (a++[y]):=λa y=>by rw[<-CX,au]
  cases d
  ·rw[if_neg yxe]at N
   (repeat' (first |(refine Rn.go ?_;conv=>whnf)|refine .mk ?_ |refine .mk (λG=>?_) λG=>?_ |refine .lp λv H i=>?_ |fail))
   ·obtain⟨O,P⟩:=i.obj B j;have Q:=i.hv;have X:=i.out;rw[S]at X;have R:(ae (u++[t])).length=u.length+1:=by simp
    clear i;refine wH λv H i=>?_;have F:=i.out;rw[S]at F;exact .nx ⟨_,u++[t]++[x],true,rfl,i.hv,(i.obj O P).1,F,(i.obj O P).2,by simp at f ⊢;omega,by rw[<-N,show fV t (x::q)=t::x::q by rw[fV,if_pos yxc,if_pos G]];simp⟩
   ·have F:=i.out;rw[S]at F;exact .nx ⟨_,u++[x],true,rfl,i.hv,(i.obj B j).1,F,(i.obj B j).2,by simp at f ⊢;omega,by rw[<-N,show fV t (x::q)=x::q by rw[fV,if_pos yxc,if_neg G]];simp⟩
   ·have F:=i.out;rw[S]at F;exact .nx ⟨_,u++[x],false,rfl,i.hv,(i.obj B j).1,F,(i.obj B j).2,by simp at f ⊢;omega,by rw[<-N,show fV t (x::q)=x::fV t q by rw[fV,if_neg G]];simp⟩
  ·refine wH λv H i=>?_;have F:=i.out;rw[S]at F;exact .nx ⟨_,u++[x],true,rfl,i.hv,(i.obj B j).1,F,(i.obj B j).2,by simp at f ⊢;omega,by rw[<-N];simp⟩
 ·rintro _ h Y ⟨v,u,d,rfl,K,B,b,j,f,N⟩;have z:(ae u).length=u.length:=by simp
  have M:u.length<=l.length+1:=by cases d <;>simp at f <;>omega
  have S:∀(a:List Tm) (y:Tm),ae a++[.agg (Do y)]=ae (a++[y]):=λa y=>by rw[<-CX,au]
  have J:∀{h:ab} {v:PV} {a:List Tm},Out 4 h v (ae a)->a=fV t l->∃g,rb h (bo [v])=some g/\b9 g=.aa false (ae (fV t l)):=λ{h v a} b V=>by
   obtain⟨g,D,A⟩:=b.kZ (fy _);exact⟨g,by rcases b with⟨rfl,_⟩|⟨id,w,rfl,_⟩ <;>exact D,by rw[A,bI,V]⟩
  cases d
  ·refine wH λv H i=>?_;have F:=i.out;rw[S]at F;exact J F (by rw[<-N];simp[fV])
  ·refine wA ?_;exact J b (by rw[<-N];simp)
end Go.Pm
namespace Go.Pm
open Go.Proofs
set_option maxRecDepth 4000
theorem Ga(t:Tm):∀l:List Tm,(fV t l).length<=l.length+1
 |[]=>by simp[fV]
 |x::r=>by
  have:=Ga t r;unfold fV
  split
  split <;>simp
  simp only[agj];omega
theorem Gb{t:Tm}{y:Tm}:∀{l:List Tm},y∈fV t l->y=t\/y∈l
 |[],h=>by simp[fV]at h;exact .inl h
 |x::r,h=>by
  unfold fV at h
  split at h
  ·split at h
   ·rcases agi.1 h with h |h
    ·exact .inl h
    ·exact .inr h
   ·exact .inr h
  ·rcases agi.1 h with h |h
   ·exact .inr (by simp[h])
   ·rcases Gb h with h |h
    ·exact .inl h
    ·exact .inr (by simp[h])
def NI(l:List (List Pw)):List Tm:=(lz l).foldl (λa t=>fV t a) []
def SmT(l:List (List Pw)):Prop:=(∀x∈l,(∀p∈x,aC p.1<100000000)/\x.length<=200)/\l.length<=1000
def tL(ts:List Tm)(a:List Tm):List Tm:=ts.foldl (λa t=>fV t a) a
theorem zY:∀(ts a:List Tm),(tL ts a).length<=a.length+ts.length
 |[],a=>by simp[tL]
 |t::ts,a=>by
  have:=zY ts (fV t a);have:=Ga t a;simp only[tL,aht,agj]at *;omega
theorem Gc{y:Tm}:∀{ts a:List Tm},y∈tL ts a->y∈ts\/y∈a
 |[],a,h=>.inr h
 |t::ts,a,h=>by
  rcases Gc (ts:=ts) (a:=fV t a) h with h |h;exact .inl (by simp[h])
  ·rcases Gb h with h |h
   ·exact .inl (by simp[h])
   ·exact .inr h
theorem EA:∀{l:List (List Pw)},(∀x∈l,x.length<=200)->(lz l).length<=200 * l.length
 |[],_=>by simp[lz]
 |x::l,h=>by
  have O:=EA (l:=l) λy F=>h y (by simp[F])
  have X:=h x yxb;have Q:(lz (x::l)).length=x.length+(lz l).length:=by simp[lz]
  rw[Q,agj];omega
def inr(n:Int):Bool:=decide (-35184372088832<=n/\n<=35184372088832)
@[simp] theorem X7(l:List (List Pw)):eE (0+1) (jF l):=by
 unfold eE;rw[af9]
 intro v J
 obtain⟨x,_,rfl⟩:=agv.1 J
 rfl
def gY(l:List Tm):Prop:=l.Pairwise λp q=>aZ p q<0
theorem qN(t:Tm):∀(l:List Tm) (y:Tm),y∈fV t l↔y=t\/y∈l
 |[],y=>by simp[fV]
 |x::r,y=>by
  unfold fV
  by_cases O:aZ t x<=0
  ·rw[if_pos O]
   by_cases X:aZ t x<0
   rw[if_pos X];simp
   ·rw[if_neg X];obtain rfl:=dD (t:=t) (t':=x) yxa;simp
  ·rw[if_neg O,agi,qN t r y,agi]
   constructor
   ·rintro(h |h |h)
    ·exact .inr (.inl h)
    ·exact .inl h
    ·exact .inr (.inr h)
   ·rintro(h |h |h)
    ·exact .inr (.inl h)
    ·exact .inl h
    ·exact .inr (.inr h)
theorem zZ{t:Tm}:∀{l:List Tm},gY l->gY (fV t l)
 |[],_=>by simp[fV,gY]
 |x::r,h=>by
  have K:=agE.1 h;unfold fV
  by_cases O:aZ t x<=0
  ·rw[if_pos O]
   by_cases X:aZ t x<0
   ·rw[if_pos X];refine agE.2 ⟨λy F=>?_,h⟩;rcases agi.1 F with rfl |F;exact X;exact fH X (K.1 y F)
   rw[if_neg X];exact h
  ·rw[if_neg O];refine agE.2 ⟨λy F=>?_,zZ K.2⟩;rcases(qN t r y).1 F with rfl |F;have:=di y x;omega;exact K.1 y F
theorem z7:∀{ts a:List Tm},gY a->gY (tL ts a)
 |[],a,h=>h
 |t::ts,a,h=>z7 (ts:=ts) (zZ (t:=t) h)
theorem EB:∀(ts a:List Tm) (y:Tm),y∈tL ts a↔y∈ts\/y∈a
 |[],a,y=>by simp[tL]
 |t::ts,a,y=>by
  have:=EB ts (fV t a) y;rw[show tL (t::ts) a=tL ts (fV t a)from rfl,this,qN,agi]
  constructor
  ·rintro(h |h |h)
   ·exact .inl (.inr h)
   ·exact .inl (.inl h)
   ·exact .inr h
  ·rintro((h |h)|h)
   ·exact .inr (.inl h)
   ·exact .inl h
   ·exact .inr (.inr h)
theorem qO:∀{a b:List Tm},gY a->gY b->(∀y,y∈a↔y∈b)->a=b
 |[],[],_,_,_=>rfl
 |[],y::b,_,_,h=>by have:=(h y).2 yxb;cases this
 |x::a,[],_,_,h=>by have:=(h x).1 yxb;cases this
 |x::a,y::b,j,W,h=>by
  have P:=agE.1 j;have d:=agE.1 W;have i:∀{u:Tm},¬aZ u u<0:=λ{u} R=>by rw[cP]at R;omega
  have n:x=y:=by
   rcases agi.1 ((h x).1 yxb)with e |U;exact e
   ·rcases agi.1 ((h y).2 yxb)with e |F
    ·exact e.symm
    ·exact(i (fH (d.1 x U) (P.1 y F))).elim
  subst n
  have:a=b:=qO P.2 d.2 λz=>by
   constructor
   ·intro M
    rcases agi.1 ((h z).1 (by simp[M]))with rfl |O;exact(i (P.1 z M)).elim;exact O
   ·intro M
    rcases agi.1 ((h z).2 (by simp[M]))with rfl |O;exact(i (d.1 z M)).elim;exact O
  rw[this]
theorem QI(l:List (List Pw)):gY (NI l):=z7 (ts:=lz l) (a:=[]) (by simp[gY])
theorem Vr(l:List (List Pw))(y:Tm):y∈NI l↔y∈lz l:=by
 have:=EB (lz l) [] y;simpa[tL,NI]using this
end Go.Pm
namespace Go.Pm
variable{w:World}
structure Sy where
 n:ByteArray
 a:Int
 b:Int
 k:Int
def kT:ByteArray:=⟨#[112,97,105,114]⟩
def kM:ByteArray:=⟨#[101,110,99]⟩
def gK:ByteArray:=⟨#[97,101,110,99]⟩
def LV:ByteArray:=⟨#[112,107]⟩
def pf:ByteArray:=⟨#[115,105,103,110]⟩
def yp:ByteArray:=⟨#[104,97,115,104]⟩
def AJ:ByteArray:=⟨#[120,111,114]⟩
def kV:ByteArray:=⟨#[122,101,114,111]⟩
def Sf:ByteArray:=⟨#[101,120,112]⟩
def EX:ByteArray:=⟨#[109,117,108]⟩
def EY:ByteArray:=⟨#[105,110,118]⟩
def xM:ByteArray:=⟨#[111,110,101]⟩
def JH:ByteArray:=⟨#[115,107]⟩
def Gq:ByteArray:=⟨#[115,104,107]⟩
def TJ:ByteArray:=⟨#[110,101,119]⟩
def adj:ByteArray:=⟨#[102,115,116]⟩
def adk:ByteArray:=⟨#[115,110,100]⟩
def adl:ByteArray:=⟨#[100,101,99]⟩
def Ys:ByteArray:=⟨#[97,100,101,99]⟩
def Yt:ByteArray:=⟨#[111,112,101,110]⟩
def Yu:ByteArray:=⟨#[114,101,97,100]⟩
def syL:List Sy:=[⟨⟨#[112,97,105,114]⟩,2,2,1⟩,⟨⟨#[101,110,99]⟩,2,2,1⟩,⟨⟨#[97,101,110,99]⟩,2,2,1⟩,⟨⟨#[112,107]⟩,1,1,1⟩,⟨⟨#[115,105,103,110]⟩,2,2,1⟩,⟨⟨#[104,97,115,104]⟩,1,1,1⟩,⟨⟨#[120,111,114]⟩,2,8,1⟩,⟨⟨#[122,101,114,111]⟩,0,0,1⟩,⟨⟨#[101,120,112]⟩,2,2,1⟩,⟨⟨#[109,117,108]⟩,2,8,1⟩,⟨⟨#[105,110,118]⟩,1,1,1⟩,⟨⟨#[111,110,101]⟩,0,0,1⟩,⟨⟨#[115,107]⟩,1,1,2⟩,⟨⟨#[115,104,107]⟩,2,2,2⟩,⟨⟨#[110,101,119]⟩,1,8,2⟩,⟨⟨#[102,115,116]⟩,1,1,3⟩,⟨⟨#[115,110,100]⟩,1,1,3⟩,⟨⟨#[100,101,99]⟩,2,2,3⟩,⟨⟨#[97,100,101,99]⟩,2,2,3⟩,⟨⟨#[111,112,101,110]⟩,2,2,3⟩,⟨⟨#[114,101,97,100]⟩,1,1,3⟩]
def sy0:Sy:=⟨ByteArray.empty,0,0,0⟩
def dz(s:ByteArray):Sy:=(syL.find? λy=>y.n.toList==s.toList).getD sy0
def DY(y:Sy):PV:=.agg [.str y.n,.int .i64 y.a,.int .i64 y.b,.int .i64 y.k]
def iP(s n:ByteArray):Bool:=s.toList==n.toList
def jM(u:Tm):Bool:=decide (u.k≠3/\u.o=1)
def ia(s:ByteArray)(l:List Tm):Bool:=
 if iP s JH ||iP s Gq then l.all jM
 else if iP s TJ then(match l with |u::_=>decide (u.k=2)|[]=>true)
 else true
mutual
def rC:Tm->Int
 | .mk k s o l=>if k≠3 then 0 else if(dz s).k=0 then 10 else if(l.length:Int)<(dz s).a\/(dz s).b<l.length then 6 else if ia s l=false then 10 else wg l
def wg:List Tm->Int
 |[]=>0
 |t::l=>if rC t≠0 then rC t else wg l
end
def pA(t:Tm):Int:=if valid t≠0 then valid t else rC t
mutual
def pre:Tm->List Tm
 | .mk k s o l=>.mk k s o l::cX l
def cX:List Tm->List Tm
 |[]=>[]
 |t::l=>pre t++cX l
end
mutual
def every(p:ByteArray->Bool):Tm->Bool
 | .mk k s o l=>(decide (k≠3)||p s)&&jH p l
def jH(p:ByteArray->Bool):List Tm->Bool
 |[]=>true
 |t::l=>every p t&&jH p l
end
def yT(s:ByteArray):Bool:=iP s AJ ||iP s kV ||iP s Sf ||iP s EX ||iP s EY ||iP s xM
def FC(s:ByteArray):Bool:=!yT s&&decide ((dz s).k≠3)
def yi(t:Tm):Bool:=decide (pA t=0)&&every FC t
def nL(l:List Tm):List Tm:=tL l []
def tY(n:Int)(t:Tm):List Tm:=nL ((pre t).filter λu=>decide (u.k=n))
def cC(t:Tm):List Tm:=tY 1 t
structure cg where
 kn:List Tm
 tm:Tm
structure cV where
 v:Tm
 t:Tm
variable{l:List cV}{b:cV}
def tQ(d:cg):PV:=.agg [.aa false (ae d.kn),.int .i64 d.tm.k,.str d.tm.s,.int .i64 d.tm.o,.aa false (ae d.tm.l)]
def fW(b:cV):PV:=.agg [.int .i64 b.v.k,.str b.v.s,.int .i64 b.v.o,.aa false (ae b.v.l),.int .i64 b.t.k,.str b.t.s,.int .i64 b.t.o,.aa false (ae b.t.l)]
def aR(l:List cg):List PV:=l.map tQ
def aU(l:List cV):List PV:=l.map fW
@[simp] theorem ZV(d:cg):aW (tQ d)=true:=by simp[tQ]
@[simp] theorem ZW(b:cV):aW (fW b)=true:=by simp[fW]
@[simp] theorem acD(d:cg):b9 (tQ d)=tQ d:=by simp[tQ,b9,aY,bI]
@[simp] theorem acE(b:cV):b9 (fW b)=fW b:=by simp[fW,b9,aY,bI]
@[simp] theorem VD(l:List cg):aw (aR l)=true:=by rw[bz];simp[aR]
@[simp] theorem VE(l:List cV):aw (aU l)=true:=by rw[bz];simp[aU]
@[simp] theorem Ag(l:List cg):aY (aR l)=aR l:=by rw[cB];simp[aR]
@[simp] theorem ZX(l:List cV):aY (aU l)=aU l:=by rw[cB];simp[aU]
@[simp] theorem dE(l:List cg):(aR l).length=l.length:=by simp[aR]
@[simp] theorem fR(l:List cV):(aU l).length=l.length:=by simp[aU]
@[simp] theorem ab0:aR []=[]:=rfl
@[simp] theorem ab1:aU []=[]:=rfl
theorem uF(d:cg):tQ d=.agg [.aa false (ae d.kn),.I d.tm.k,.str d.tm.s,.I d.tm.o,.aa false (ae d.tm.l)]:=rfl
theorem iG(b:cV):fW b=.agg [.I b.v.k,.str b.v.s,.I b.v.o,.aa false (ae b.v.l),.I b.t.k,.str b.t.s,.I b.t.o,.aa false (ae b.t.l)]:=rfl
theorem gA{l p q:List cg}{d:cg}(e:l=p++d::q):(aR l)[p.length]?=some (.agg [.aa false (ae d.kn),.I d.tm.k,.str d.tm.s,.I d.tm.o,.aa false (ae d.tm.l)]):=by rw[aR,e,<-uF];simp
theorem vP{p q:List cV}(e:l=p++b::q):(aU l)[p.length]?=some (.agg [.I b.v.k,.str b.v.s,.I b.v.o,.aa false (ae b.v.l),.I b.t.k,.str b.t.s,.I b.t.o,.aa false (ae b.t.l)]):=by rw[aU,e,<-iG];simp
theorem C3{i:Nat}(e:l[i]?=some b):(aU l)[i]?=some (.agg [.I b.v.k,.str b.v.s,.I b.v.o,.aa false (ae b.v.l),.I b.t.k,.str b.t.s,.I b.t.o,.aa false (ae b.t.l)]):=by rw[aU,agt,e,<-iG];rfl
def cG(l:List Tm)(t:Tm):Bool:=l.any λu=>decide (aZ t u=0)
theorem eH{l:List Tm}{t:Tm}:cG l t=true↔t∈l:=by
 simp only[cG,ahy,decide_eq_true_eq]
 constructor
 rintro⟨u,y,h⟩;rw[dD h];exact y;exact λh=>⟨t,h,cP t⟩
def VF(t:Tm):Bool:=decide (t.o=1\/t.o=5)
def fJ(t:Tm):Int:=if pA t≠0 then pA t else if yi t=false\/(cC t).any VF=true then 10 else if 60<size t then 3 else 0
def jA:List Tm->Int
 |[]=>0
 |t::l=>if fJ t≠0 then fJ t else jA l
def kept(Q:Option (List Tm))(k:List Tm):Bool:=match Q with |none=>true |some p=>p.all λt=>cG k t
def QV(b k:List Tm):Bool:=k.all λt=>(cC t).all λx=>cG b x
def yj:Option (List Tm)->List Tm->List cg->Int
 |_,_,[]=>0
 |Q,b,d::l=>
  if 40<d.kn.length then 3
  else if jA (d.kn++[d.tm])≠0 then jA (d.kn++[d.tm])
  else if kept Q d.kn=false then 9
  else if QV b d.kn=false then 13
  else yj (some d.kn) (b++cC d.tm) l
def gB(l:List cg):Int:=if 40<l.length then 3 else yj none [] l
def rn(x t:Tm):Bool:=decide (valid x=0/\valid t=0/\x.k=1/\(x.o=0\/(t.k≠3/\t.o=x.o)))
def FB(b:cV):Int:=if valid b.v≠0 then valid b.v else if b.v.k≠1\/aZ b.v b.t=0 then 1 else if valid b.t≠0 then valid b.t else if rn b.v b.t=false then 10 else 0
def behind(Q:Option Tm)(x:Tm):Bool:=match Q with |none=>true |some p=>decide (aZ p x<0)
def rp:Option Tm->List cV->Int
 |_,[]=>0
 |Q,b::l=>if FB b≠0 then FB b else if behind Q b.v=false then 5 else rp (some b.v) l
def pB(s:List cV):Int:=if 200<s.length then 3 else rp none s
def mz:List cV->Tm->Tm
 |[],x=>x
 |b::s,x=>if aZ b.v x=0 then b.t else mz s x
mutual
def cw(s:List cV):Tm->Tm
 | .mk k n o l=>if k=1 then mz s (.mk k n o l)else .mk k n o (cR s l)
def cR(s:List cV):List Tm->List Tm
 |[]=>[]
 |t::l=>cw s t::cR s l
end
def cj(s:List cV)(t:Tm):Tm×Int:=if valid t≠0 then(gZ,valid t)else if valid (cw s t)≠0 then(gZ,valid (cw s t))else(cw s t,0)
def kK(s:List cV):List Tm->Int
 |[]=>0
 |t::l=>if(cj s t).2≠0 then(cj s t).2 else kK s l
def vQ(s:List cV)(d:cg):Int:=if kK s d.kn≠0 then kK s d.kn else(cj s d.tm).2
def rB(s:List cV)(d:cg):cg:=⟨cR s d.kn,cw s d.tm⟩
def rq(s:List cV):List cg->Int
 |[]=>0
 |d::l=>if vQ s d≠0 then vQ s d else rq s l
def instE(l:List cg)(s:List cV):Int:=if gB l≠0 then gB l else if pB s≠0 then pB s else if rq s l≠0 then rq s l else gB (l.map (rB s))
def instL(l:List cg)(s:List cV):List cg:=if instE l s≠0 then[]else l.map (rB s)
theorem fK(t:Tm):t∈pre t:=by cases t;simp[pre]
theorem eJ(s:List cV)(l:List Tm):cR s l=l.map (cw s):=by
 induction l with
 |nil=>rfl
 |cons t l P=>simp[cR,P]
theorem iU(s:List cV)(l:List Tm):(cR s l).length=l.length:=by rw[eJ];simp
open Go.Proofs
set_option maxRecDepth 100000
set_option maxHeartbeats 2000000
instance:Inhabited cg:=⟨⟨[],gZ⟩⟩
instance:Inhabited cV:=⟨⟨gZ,gZ⟩⟩
open Go.Proofs.YtiipafafbpaaoaaGreatDoor in
theorem Kk{n:Nat}{cs:List Value}{p:List MemPlace}(h:DataW.trod (λ_=>()) C.P w 0 (λ_=>true) false n 65 cs=some (Rows.laid_sealring_term_words,p)):
  ∃c,cs=[c]/\cd w P6 c (.aa false [.str ⟨#[97,110,121]⟩,.str ⟨#[97,103,101,110,116]⟩,.str ⟨#[110,111,110,99,101]⟩,.str ⟨#[107,101,121]⟩,.str ⟨#[100,97,116,97]⟩,.str ⟨#[116,97,103]⟩]):=by
 have Yq:C.P.cellsOf 9=1:=by kernel_rfl
 rcases DataW.trod_slice (bG (T6.dA 65 _ rfl)) h with⟨g,X⟩|⟨a,K,e,H,rest,n2,VA,g,X,hb,f,Ck,YC,Z,_,_⟩
 cases X
 ·refine⟨_,g,?_⟩;have Q:H.map (·.1)=_:=(DataW.slice.inj (agk X).1).1.symm;have h6:K=6:=by have:=congrArg List.length Q;simp at this;omega
  subst h6;rw[Yq]at Z
  have R:∀i,i<6->∃s:ByteArray,w.cell? (a.add (i * 1))=some (.string s)/\∀x,(H.map (·.1))[i]?=some x->x=.lit (.string s.data.toList):=by
   intro i B
   have O:=Z i B;obtain⟨y,F⟩:∃y,H[i]?=some y:=⟨H[i],agd yxa⟩;rw[F]at O
   cases G:w.cells? 0 (a.add (i * 1)) 1 with
   |none=>rw[G]at O;cases O
   |some jx=>
    rw[G]at O;obtain⟨s,rfl,rfl,_⟩:=DataW.trod_string (qX (T6.dA 9 _ rfl)) O;obtain⟨_,eW,Cp⟩:=World.cells?_some G;have J:=Cp 0 yxa;rw[Wv]at J;refine⟨s,J,λx z=>?_⟩;rw[agt,F]at z;exact(af7 z).symm
  obtain⟨s0,M,N⟩:=R 0 yxa;obtain⟨s1,A,S⟩:=R 1 yxa;obtain⟨s2,t,V⟩:=R 2 yxa;obtain⟨s3,q,W⟩:=R 3 yxa;obtain⟨s4,v,Y⟩:=R 4 yxa;obtain⟨s5,u,q5⟩:=R 5 yxa;rw[Q]at N S V W Y q5
  have D:∀{s:ByteArray} {l:List UInt8} {x:DataW Unit},x=.lit (.string l)->x=.lit (.string s.data.toList)->s=⟨l.toArray⟩:=by
   rintro⟨⟨d⟩⟩ l x rfl h;have:=Lit.string.inj (DataW.lit.inj h);rw[this]
  obtain rfl:=D rfl (N _ rfl);obtain rfl:=D rfl (S _ rfl);obtain rfl:=D rfl (V _ rfl);obtain rfl:=D rfl (W _ rfl);obtain rfl:=D rfl (Y _ rfl);obtain rfl:=D rfl (q5 _ rfl);obtain⟨b,U,rfl⟩:=A3 (by rw[ah3,Wv]at M;exact M);rw[fu]at M A t q v u;refine .aa b U e 1 false [.str ⟨#[97,110,121]⟩,.str ⟨#[97,103,101,110,116]⟩,.str ⟨#[110,111,110,99,101]⟩,.str ⟨#[107,101,121]⟩,.str ⟨#[100,97,116,97]⟩,.str ⟨#[116,97,103]⟩] (λi _=>[Value.string ⟨#[97,110,121]⟩,.string ⟨#[97,103,101,110,116]⟩,.string ⟨#[110,111,110,99,101]⟩,.string ⟨#[107,101,121]⟩,.string ⟨#[100,97,116,97]⟩,.string ⟨#[116,97,103]⟩].getD i undef) yxb f (λh=>by cases h) (λh=>h) yxa (λi B=>?_) (λi j B hj=>?_) (λi j B hj=>?_)
  ·match i,B with
   |0,_ |1,_ |2,_ |3,_ |4,_ |5,_=>rfl
  ·obtain rfl:j=0:=by omega
   match i,B with
   |0,_=>exact M
   |1,_=>exact A
   |2,_=>exact t
   |3,_=>exact q
   |4,_=>exact v
   |5,_=>exact u
  ·obtain rfl:j=0:=by omega
   match i,B with
   |0,_=>exact .str _
   |1,_=>exact .str _
   |2,_=>exact .str _
   |3,_=>exact .str _
   |4,_=>exact .str _
   |5,_=>exact .str _
open Go.Proofs.YtiipafafbpaaoaaGreatDoor in
theorem SG(a:laidMetH C.P Rows.simplifyMeasureUptoRow.laid w):eA w P6:=by
 have i:laidMet C.P Rows.simplifyMeasureUptoRow.laid w:=a;obtain⟨F,h,_,_⟩:=i;obtain⟨_,_,_,_,_,U,_,_,_,_,h,_⟩:=h;obtain⟨_,_,_,_,_,d,_,_,_,_,h,_⟩:=h;obtain⟨_,_,_,_,_,n,_,_,_,_,h,_⟩:=h;obtain⟨_,_,_,_,_,V,_,_,_,_,h,_⟩:=h;obtain⟨g,t,Y,H,p,q,N,Z,J,z,_,_⟩:=h;obtain rfl := af7 ((show C.P.globalNamed "sealring/term.words" = some 0 by kernel_rfl).symm.trans N)
 obtain rfl:=af7 ((show(C.P.globals[0]?).map (·.type)=some 65 by kernel_rfl).symm.trans Z);obtain⟨c,G,S⟩:=Kk z
 intro g p e
 unfold zA at e
 split at e
 ·obtain rfl:=af7 e;refine⟨λh=>h,c,?_,S⟩;unfold World.var? at J;rw[N]at J;simp only[aix]at J
  split at J
  ·rename_i D f j R
   obtain rfl:=af7 J
   have B:D[0]?=some c:=by
    have:D.toList[0]?=some c:=by rw[G];rfl
    simpa using this
   have b:w.heap[0]?=some (.cells D f j):=R;simp[World.cell?,b,B]
  cases J
 cases e
theorem dH.grow{w w':World}(g:dH w w'):∃q a,w'=Go.Sort.grow (w.drewN q) a:=by
 refine⟨w'.drawn - w.drawn,w'.heap.extract w.heap.size w'.heap.size,?_⟩
 have R:w'.heap=w.heap++w'.heap.extract w.heap.size w'.heap.size:=by
  apply Array.ext_getElem?
  intro i
  have S:=g.size
  by_cases B:i<w.heap.size
  rw[g.ba i B,Array.getElem?_append_left B]
  ·rw[Array.getElem?_append_right yxa,Array.getElem?_extract]
   by_cases X:i<w'.heap.size
   rw[if_pos yxa];congr 1;omega;rw[if_neg yxa,ahE yxa]
 obtain⟨K,t,d,b,f⟩:=w';have O:=g.os;have X:=g.tape;have Q:=g.output;have G:=g.drawn trivial;simp only at O X Q G R;subst O X Q;simp only[Go.Sort.grow,World.drewN];rw[<-R]
 congr 1
 omega
end Go.Pm
namespace Go.Pm
variable{P:Program}{V b ep len:Nat}{o:ax}{k:IntKind}
variable[iD:Inhabited Prop]
open Go.Proofs
section
variable{C:cA}(T:li C.P)
variable{ops:Array Oper}{i:Nat}{d:Nat}{ty:TypeId}{pos:String}{af:Array Edge}{r:List Oper}{Y:Nat->PV}{L:List (Nat×PV)}{h:ab}{Q:St->Prop}
set_option maxRecDepth 100000
set_option maxHeartbeats 4000000
theorem NP{t el:TypeId}(y:P.underlying t=some (.slice el))(S:dF P el=some o.bQ)(N:getM h V ep=some o)(W:b<=len)(hle:len<=o.es.length):
  cS P h t (.an V ep 0 len) none (some (.int k (b:Int))) none=some (.an V ep 0 b):=by
 have O:¬((len:Int)<(b:Int)):=yxa
 simp[cS,y,S,N,hle,beyond,O,dq,W]
theorem C2{t el:TypeId}{a:Nat}(y:P.underlying t=some (.slice el))(S:dF P el=some o.bQ)(N:getM h V ep=some o)(j:a<=len)(hle:len<=o.es.length):
  cS P h t (.an V ep 0 len) (some (.int k (a:Int))) none none=some (if a=0 then .an V ep 0 len else if len - a=0 then .aa false []else .an V ep a (len - a)):=by
 simp[cS,y,S,N,hle,beyond,dq,j]
 by_cases B:a=0
 simp[B]
 ·by_cases O:len - a=0 <;>simp[B,O]
theorem Af{t el:TypeId}{B:IntKind}(y:P.underlying t=some (.slice el))(S:dF P el=some o.bQ)(N:getM h V ep=some o)(W:len<b)(hle:b<=o.es.length):
  cS P h t (.an V ep 0 len) none (some (.int B (b:Int))) none=some (.an V ep 0 b):=by
 have O:(len:Int)<(b:Int):=yxa
 have Q:len<=o.es.length:=by omega
 simp[cS,y,S,N,Q,beyond,O,dq,hle]
theorem R.slice{t:TypeId}{x:Operand}{z B u:Option Operand}{p q:PV}{G g f:Option PV}(U:cW L x=some p)(h1:z.map (ev (al L Y))=G)(X:B.map (ev (al L Y))=g)(a:u.map (ev (al L Y))=f)(S:cS C.P h t p G g f=some q)
  (w:ai C ops r ⟨al ((d,q)::L) Y,h⟩ Q):ai C ops (⟨some d,.slice t x z B u,ty,pos,af,none⟩::r) ⟨al L Y,h⟩ Q:=
 ai.fO (λb=>by simp only[ar,aD,ak U,h1,X,a,S,ago]) w
theorem D.slice{t:TypeId}{x:Operand}{z B u:Option Operand}{p q:PV}{G g f:Option PV}(V:br h=true)(U:cW L x=some p)(J:bq (bj h) p=true)(h1:z.map (ev (al L Y))=G)(X:B.map (ev (al L Y))=g)(a:u.map (ev (al L Y))=f)
  (b:G.all (bq (bj h))=true) (K:g.all (bq (bj h))=true) (v:f.all (bq (bj h))=true) (S:cS C.P h t p G g f=some q)
  (w:bh C ops (i+1) r ⟨⟨al ((d,q)::L) Y,h⟩,h.length,[]⟩ Q):bh C ops i (⟨some d,.slice t x z B u,ty,pos,af,none⟩::r) ⟨⟨al L Y,h⟩,h.length,[]⟩ Q:=by
 refine bh.read rfl V ?_ ⟨0,λn W _ _=>by simp only[ar,aD,ak U,h1,X,a,S,ago]⟩ w;rw[<-h1]at b;rw[<-X]at K;rw[<-a]at v;rw[af9]
 intro y F
 simp only[Op.operands]at F
 cases z <;>cases B <;>cases u <;>simp at F b K v <;>rcases F with rfl |F <;>first
  |(rw[ak U];exact J)
  |(simp_all;done)
  |(rcases F with rfl |F <;>first |assumption |(rcases F with rfl |rfl <;>assumption)|(subst F;assumption))
end
end Go.Pm
namespace Go.Pm
variable{e:PV}{sz:Nat}{fl:Bool}
open Go.Proofs
variable{w:World}{F:Nat->Prop}{Z:List (Nat×Nat)}{h:ab}
set_option maxRecDepth 100000
set_option maxHeartbeats 4000000
theorem R.RQ{C:cA}(T:li C.P){ops:Array Oper}{d:Nat}{ty:TypeId}{j:String}{e:Array Edge}{r:List Oper}{Y:Nat->PV}{L:List (Nat×PV)}{Q:St->Prop}{st xt el n:TypeId}{G V ep len:Nat}{z:PV}{full:Bool}{ys:List PV}{o:ax}{x y:Operand}(U:cW L x=some (.an V ep 0 len))(H:cW L y=some (.aa full ys))(g:T.kd st=some (.sl el))(D:T.kd xt=some (.sl n))(S:T.ts el=some (sz+1))(W:T.tb el=some G)(M:T.tz el=some z)(O:G<=1000)(A:(cells z).length=sz+1)(f:(cells z).all bP=true)
  (F:eE (sz+1) ys) (a:ys.isEmpty=false) (hn:len+ys.length<1000000000) (N:getM h V ep=some o) (b:o.mu=.m) (Z:o.bQ=sz+1) (hle:len<=o.es.length)
  (w:ai C ops r ⟨al ((d,.an V (ep+1) 0 (len+ys.length))::L) Y,h.set V {o with ep:=ep+1,es:=o.es.take len++ys}⟩ Q):
  ai C ops (⟨some d,.call ⟨.builtin .append,#[x,y],#[st,xt]⟩,ty,j,e,none⟩::r) ⟨al L Y,h⟩ Q:=by
 refine ai.fO (λX=>?_) w;have i:=lA T (full:=full) g D S W M O A f F a hn N b Z hle;simp only[ar,bA,agp,agF,ak U,ak H,i]
theorem Dm{P:Program}{t el:TypeId}{k:IntKind}(y:P.underlying t=some (.slice el))(S:dF P el=some sz):cS P h t (.aa fl []) (some (.int k 0)) none none=some (.aa fl []):=by
 simp[cS,y,S,dq]
attribute [local irreducible] aE az aO aL Ev ai ah ay bh
theorem AF(h:uw sz e=true):eE sz [e]:=by
 unfold uw at h;simp only[age]at h;unfold eE;simp only[ahh,ahG,ahO,age];exact⟨h.1.2,h.2⟩
namespace Zero
theorem _root_.zag{P:Prop}(h:P:=by
 (repeat' (first |refine ai.nil ?_ |(apply R.move;exact rfl)|(apply R.assign;exact rfl)|(apply R.cmp;exact rfl;exact rfl;exact rfl;all_goals intro G;all_goals(try(exfalso;omega)))|(apply R.xp T6;exact rfl;exact rfl)|refine Ev.seq ?_ |refine Ev.region ?_ |(apply Ev.ie;exact rfl)|refine Ev.skip ?_ |refine aE.normal ?_ |fail))
 all_goals try(exfalso;revert G;decide)
 all_goals(
  apply R.mf T6;exact rfl;exact rfl;exact rfl;exact rfl;exact rfl;exact rfl;exact rfl;exact yxe;exact rfl;exact rfl;exact AF q;exact yxb;exact(by show 1<_;decide);refine wD ?_;exact⟨rfl,rfl⟩)):P:=h
theorem xK(q:uw 5 e=true):ay C0 262 [.aa true [],.I 0,.aa fl [e]] h (λr h'=>r=.an h.length 0 0 1/\h'=h++[⟨.m,0,5,[e]⟩]):=by
 refine ay.gk Tryz.func262 rfl ?_;have y:C0.P.underlying 182=some (.slice 186):=bG (T6.dA 182 _ rfl);have z:([e]:List PV).length=1:=rfl;refine wD ?_;apply R.slice;exact rfl;exact rfl;exact rfl;exact rfl;exact Dm y (T6.eT 186 5 rfl)
 exact zag
end Zero
end Go.Pm
namespace Go.Pm
variable{V ep len n off sz:Nat}{o:ax}{P:Program}{a:Act}{Y:Nat->PV}{x y:Operand}{bc:Nat×Nat}
variable[iD:Inhabited Prop]
open Go.Proofs
variable{w:World}{F:Nat->Prop}{Z:List (Nat×Nat)}{h:ab}
set_option maxRecDepth 100000
set_option maxHeartbeats 4000000
theorem EU(H:bp w F Z h){v:Value}(J:aG w (Av F h Z) Z h v (.an V ep off len))(a:getM h V ep=some o)(hle:off+len<=o.es.length):
  ∃bc:Nat×Nat,Z[V]?=some bc/\∃cap,v=.slice (some ⟨bc.1,off * o.bQ,none⟩) len cap/\off+cap=bc.2:=by
 obtain⟨D,N,P⟩:=getM_some a;obtain⟨bc,W⟩:=fh H.len D;obtain⟨_,_,u⟩:=J.eC;exact⟨bc,W,u o bc D W P N hle⟩
theorem GH(H:bp w F Z h)(R:iA w (Av F h Z) Z h a Y){t el:TypeId}(y:P.underlying t=some (.slice el))(U:ev Y x=.an V ep 0 len)(N:getM h V ep=some o)(W:Z[V]?=some bc)(hle:len<=o.es.length):
  ∀b:Oper,b.op=.call ⟨.builtin .cap,#[x],#[t]⟩->yO P 2 w F Z h (execOp a.eval b) (.I (bc.2:Int)) h:=by
 intro b f
 have J:=R.ev H.fG x;rw[U]at J;obtain⟨z,M,j,D,q⟩:=EU H J N yxa;obtain rfl:=af7 (W.symm.trans M);have G:j=bc.2:=by omega
 subst G;obtain⟨d,e,A,i,n,g⟩:=b;simp only at f;subst f;refine⟨.I (bc.2:Int),w,Z,.inl ?_,.val (.int _ _),H,eN.refl w h Z,λ_=>dH.refl w⟩
 have O:(Builtin.cap_ #[t] A #[a.eval x]).run P w=.ok (.I (bc.2:Int)) w:=by
  simp[Builtin.cap_,D,bV y,goInt]
 simp only[execOp,resolve,Sem.run_bind,Sem.run_pure,Result.andThen_ok,invoke,builtin];simp[O]
theorem tT(w:World)(t tR e:TypeId)(d:P.underlying t=some (.slice e))(N:Nat)(M:∀w,(Go.sizeOf e).run P w=.ok N w)
  (a b:Addr) (j D i cb:Nat) (Q:a.block≠b.block) (J O:TypeId) (g K:Nat)
  (u:w.shape? a.block=some (J,g)) (H:w.shape? b.block=some (O,K)) (F:g≠0)
  (h:w.frozen? b=false) (S:w.frozen? {block:=b.block,off:=K}=false):
  (Extern.SlicesOverlaps.overlaps #[t,t] #[tR] #[.slice (some a) j D,.slice (some b) i cb]).run P w=.ok (.bool false) w:=by
 have n:(a.block !=b.block)=true:=by simpa using Q
 have A:(a.block==b.block)=false:=by simpa using Q
 conv=>lhs;arg 2;whnf
 have q:(#[t,t]:Array TypeId)[0]=t:=rfl;have y:∀{v Z:Type} (x:v) (f:v->Sem Z),(pure x:Sem v).bind f=f x:=λ_ _=>rfl
 by_cases B:j=0\/i=0\/N=0
 simp[Sem.run,Sem.bind,y,q,d,M,B]
 ·cases g with
  |zero=>exact absurd rfl F
  |succ g=>
   cases z:w.frozen? a <;>cases G:w.frozen? {block:=a.block,off:=g+1} <;>
    simp[Sem.run,Sem.bind,y,q,d,M,B,n,A,frozen,noView,viewAt,mayBeOne,stringish,shape,u,H,h,S,z,G]
theorem Cw(H:bp w F Z h)(R:iA w (Av F h Z) Z h a Y){t el tR:TypeId}{f:FuncId}{j:Func}{fl:Bool}{e1:PV}
  (hu:P.underlying t=some (.slice el)) (hs:dF P el=some sz) (hx:ev Y x=.aa fl [e1]) (hy:ev Y y=.an V ep off n) (hg:getM h V ep=some o) (hm:o.mu=.m) (hle:off+n<=o.es.length)
  (hf : P.funcs[f]? = some j) (A : (j.name == "runtime.NumGoroutine") = false) (O : j.body.isNone = true) (hn : Extern.findNext j = none) (he : Extern.find j = some (Extern.SlicesOverlaps.overlaps #[t, t] #[tR])) {Dk : Array TypeId} :
  ∀z:Oper,z.op=.call ⟨.value (.func f),#[x,y],Dk⟩->yO P 2 w F Z h (execOp a.eval z) (.bool false) h:=by
 intro z ho
 have u:=R.ev H.fG x;rw[hx]at u;have e:=R.ev H.fG y;rw[hy]at e;obtain⟨i,hb,D,ey,e2⟩:=EU H e hg hle;obtain⟨K,g2,g3⟩:=getM_some hg;obtain⟨T,cs,k1,k2,k3,k4,k5⟩:=(H.obj V o i K hb g3).c (e.eC.2.1 o K).2;rcases u.fI.tf with h0 |⟨b,B,Ge,LK,qw,ex,Yp,jz,Fy,V1,Ae⟩
 cases h0
 have N:b≠i.1:=λS=>Yp (.inr ⟨V,o,i,K,hb,hm,S.symm⟩)
 have M:=V1 0 0 yxb jz
 obtain⟨tA,v,W,V0⟩:∃tA v,w.shape? b=some (tA,v)/\v≠0:=by
  simp only[World.cell?]at M
  split at M
  ·rename_i c J fr S
   split at M
   cases M
   ·refine⟨J,c.size,by simp[World.shape?,S],?_⟩
    intro h0
    have:=(agw.1 M).1;omega
  cases M
 have X:w.shape? i.1=some (T,cs.size):=by simp[World.shape?,k1]
 have q:∀of,w.frozen? ⟨i.1,of,none⟩=false:=λof=>by simp[World.frozen?,k1]
 have U:=tT (P:=P) w t tR el hu sz (λw=>db hs w) ⟨b,B,none⟩ ⟨i.1,off * o.bQ,none⟩ 1 Ge n D N tA T v cs.size W X V0 (q _) (q _);obtain⟨d,op,ty,pos,af,g⟩:=z;simp only at ho;subst ho;refine⟨.bool false,w,Z,.inl ?_,.val (.bool _),H,eN.refl w h Z,λ_=>dH.refl w⟩;have G:=run_callFunc_extern hf A O hn he #[a.eval x,a.eval y] w;rw[ex,ey]at G;rw[show([e1]:List PV).length=1 from rfl]at G;rw[U]at G;have Q:a.eval (.func f)=.func (.func f) #[] #[]:=rfl;simp only[execOp,resolve,Q,Deferred.ofValue,Sem.run_bind,Sem.run_pure,Result.andThen_ok,invoke];simp only[aiJ,aiw,agp,agF,ex,ey];exact G
theorem GJ(H:bp w F Z h)(R:iA w (Av F h Z) Z h a Y){st xt el:TypeId}{k:IntKind}{G:Nat}{z:PV}{A:Nat}
  (hu:P.underlying st=some (.slice el)) (UM:P.underlying xt=some (.int k)) (hs:dF P el=some sz) (qS:0<sz) (hb:pu P el=some G) (ir:G<=1000) (hz:jN P el=some z) (hl:(cells z).length=sz) (xJ:(cells z).all bP=true)
  (hx:ev Y x=.an A ep 0 len) (hy:ev Y y=.int k (n:Int)) (W:getM h A ep=some o) (pC:Z[A]?=some bc) (hle:len<=o.es.length) (jz:o.bQ=sz) (mH:bc.2<len+n) (hn:len+n<1000000000):
  ∀J:Oper,J.op=.call ⟨.builtin .append,#[x,y],#[st,xt]⟩->yO P 2 w F Z h (execOp a.eval J) (.an h.length 0 0 (len+n)) (h++[⟨.m,0,sz,o.es.take len++List.replicate n z⟩]):=by
 intro J ho
 obtain⟨d,op,ty,pos,af,g⟩:=J;simp only at ho;subst ho;have b:=R.ev H.fG x;rw[hx]at b;have t:=R.ev H.fG y;rw[hy]at t;obtain⟨dB,gI,U,ex,e2⟩:=EU H b W yxa;obtain rfl:=af7 (pC.symm.trans gI);have Ck:U=bc.2:=by omega
 subst Ck;obtain⟨g1,g2,g3⟩:=getM_some W;obtain⟨T,vy,k1,k2,k3,k4,k5⟩:=(H.obj A o bc g1 pC g3).c (b.eC.2.1 o g1).2
 have B:EP P 2 w F Z h (Builtin.append_ #[st,xt] ty #[a.eval x,a.eval y]) (.an h.length 0 0 (len+n)) (h++[⟨.m,0,sz,o.es.take len++List.replicate n z⟩]):=by
  have u:(List.replicate n z).length=n:=ahx
  have eY:(List.replicate n z).all (λv=>decide ((Pm.cells v).length=sz)&& (Pm.cells v).all bP)=true:=by
   rw[af9]
   intro v hv
   obtain rfl:=ag8 hv;rw[hl,xJ];simp
  have O:cH P h z xt (.int k (n:Int))=some (List.replicate n z):=by
   simp only[cH,UM];rw[if_pos yxa];simp
  obtain⟨V,z1,z2⟩:=lI (P:=P) hz;obtain⟨zb,d',a1,a2,K,a3,a4,a5,a6⟩:=vZ (st:=st) (vz:=V) H hs hb hz qS yxa t O eY;rw[u]at a5 a6;have zsz:V.cells.size=sz:=by rw[((z2 w (Av F h Z) Z h).cells xJ).1];exact hl
  have mJ:cr h (.an A ep 0 len)=some ((o.es.drop 0).take len):=by simp only[cr,W];rw[if_pos yxa]
  have M:((o.es.drop 0).take len).length=len:=by simp;omega
  obtain⟨a',Ge,ev',_,j,D,f2⟩:=nY (P:=P) (sz:=sz) H b mJ (λy hy=>by
   obtain⟨k,q⟩:=ahB hy;rw[agy]at q
   split at q
   simp at q;rw[<-jz];exact(k5 k y q).1
   cases q)
  simp only[ahs]at D M f2;have RN:len+n<=17592186044416:=by omega
  have N:(len+n) * G<=17592186044416:=by
   have:(len+n) * G<=1000000000 * 1000:=aih yxa ir
   omega
  obtain⟨c,c1,cN⟩:=sC (P:=P) (w:=w) (ty:=ty) (ts:=#[st,xt]) (args:=#[a.eval x,a.eval y]) (olds:=j) (sLen:=len) (sCap:=bc.2) (base:=some ⟨bc.1,0 * o.bQ,none⟩) rfl rfl (by rw[ex];rfl) rfl hu hs a1 a2 hb yxa z1 a5 a6 (λX Jg=>by
   have:=f2 X Jg len yxa;rw[agB (by rw[D.1,M];exact agb _)]at this;rw[<-ex];exact this) yxa N RN
  have Ct:=D.append a3;have Q:j.toArray++K.toArray++Builtin.zeroCells V.cells (c - (len+n))=(j++K++(Builtin.zeroCells V.cells (c - (len+n))).toList).toArray:=by apply ahH;simp
  have f:c * sz<=(j.toArray++K.toArray++Builtin.zeroCells V.cells (c - (len+n))).size:=by
   simp only[Array.size_append,aiu,size_zeroCells,zsz,D.1,a3.1,M,u,<-ag0];rw[show len+n+(c - (len+n))=c by omega];exact agb _
  obtain⟨HH,S⟩:=bp.new H (w':=w.drew.alloc (.cells (j.toArray++K.toArray++Builtin.zeroCells V.cells (c - (len+n))) el)) el
   (j.toArray++K.toArray++Builtin.zeroCells V.cells (c - (len+n))) {mu:=.m,ep:=0,bQ:=sz,es:=o.es.take len++List.replicate n z} c rfl rfl rfl rfl rfl yxd
   f qS (λi e he=>by
    rw[Q];exact Ct.obj (rest:=(Builtin.zeroCells V.cells (c - (len+n))).toList) i e he)
  exact⟨_,_,_,cN,H.zm,HH,S,λhh=>by omega⟩
 obtain⟨v,X,Z',r1,r2,r3,r4,r5⟩:=B;refine⟨v,X,Z',.inl ?_,r2,r3,r4,r5⟩;simp only[execOp,resolve,Sem.run_bind,Sem.run_pure,Result.andThen_ok,invoke,builtin];simp only[aiw,agp,agF,r1,Result.andThen_ok]
theorem bp.aaS{w':World}(H:bp w F Z h)(u:h[V]?=some o)(eb:Z[V]?=some bc)(R:o.mu=.m)
  (T:TypeId) (cs:Array Value) (U:List PV) (d:Nat) (z:Nat×Nat)
  (X:w.heap.size<=w'.heap.size) (dm:w'.heap[z.1]?=some (.cells cs T (0,0))) (uJ:∀b,b<w.heap.size->w'.heap[b]?=w.heap[b]?)
  (Ej:w.heap.size<=z.1) (cK:o.ep<d) (ho:w'.os=w.os) (ht:w'.tape=w.tape) (hu:w'.output=w.output)
  (h1:U.length<=z.2) (h2:z.2 * o.bQ<=cs.size)
  (h4:∀(i:Nat) (e:PV),U[i]?=some e->(cells e).length=o.bQ/\∀(j:Nat) (p:PV),(cells e)[j]?=some p->∃v:Value,cs[i * o.bQ+j]?=some v/\aG w' (Av F (h.set V {o with es:=U,ep:=d}) (Z.set V z)) (Z.set V z) (h.set V {o with es:=U,ep:=d}) v p)
  (hd:NE->w.drawn<=w'.drawn:=by first |exact λ_=>agb _ |exact λ_=>ahz _) (Zx:0<o.bQ:=by first |assumption |omega):
  bp w' F (Z.set V z) (h.set V {o with es:=U,ep:=d})/\eN w h Z w' (h.set V {o with es:=U,ep:=d}) (Z.set V z):=by
 have K:=H.len;have O:=ag u;have t:0<o.bQ:=Zx;have pT:(h.set V {o with es:=U,ep:=d})[V]?=some {o with es:=U,ep:=d}:=by simp[O]
 have A:(Z.set V z)[V]?=some z:=by simp[K,O]
 have f:∀k,k≠V->(h.set V {o with es:=U,ep:=d})[k]?=h[k]?:=λk g=>aga (agV g)
 have a:∀k,k≠V->(Z.set V z)[k]?=Z[k]?:=λk g=>aga (agV g)
 have S:eN w h Z w' (h.set V {o with es:=U,ep:=d}) (Z.set V z):=by
  refine⟨X,by simp,λb W hm=>uJ b W,?_,?_,?_,ho,ht,hu,hd⟩
  ·rintro b W ⟨k,y,n,D,N,P,rfl⟩
   by_cases g:k=V
   ·subst g;rw[A]at N;obtain rfl:=af7 N;omega
   ·rw[f k g]at D;rw[a k g]at N;exact⟨k,y,n,D,N,P,rfl⟩
  ·intro k y n D N P
   by_cases g:k=V
   ·subst g;rw[u]at D;rw[eb]at N;obtain rfl:=af7 D;obtain rfl:=af7 N;exact⟨_,z,pT,A,by rw[R];simp,⟨Nat.le_of_lt cK,λh=>h⟩,λe=>by simp at e;omega⟩
   exact⟨y,n,by rw[f k g];exact D,by rw[a k g];exact N,P,⟨agb _,λh=>h⟩,λ_=>⟨rfl,λ_=>rfl,rfl⟩⟩
  ·intro k y D N
   have g:k≠V:=by
    rintro rfl;rw[u]at D;obtain rfl:=af7 D;exact N R
   exact⟨by rw[f k g];exact D,a k g⟩
 refine⟨⟨by simp[K],λb W=>agK (H.fin b W) X,?_,?_,?_,H.fG.xa S⟩,S⟩
 ·intro k y n D N P
  by_cases g:k=V
  ·subst g;rw[pT]at D;rw[A]at N;obtain rfl:=af7 D;obtain rfl:=af7 N;exact .inl ⟨T,cs,dm,h1,h2,t,h4⟩
  ·rw[f k g]at D;rw[a k g]at N;have r:=H.obj k y n D N P;exact kJ.mono S (uJ _ r.lt) r
 ·intro k B o1 o2 J G Q D N P M Y m2
  by_cases g:k=V
  ·subst g;have q:B≠k:=agV Q;rw[f B q]at N;rw[a B q]at M;rw[A]at P;obtain rfl:=af7 P;have:=(H.obj B o2 G N M m2).lt;omega
  ·rw[f k g]at D;rw[a k g]at P
   by_cases q:B=V
   ·subst q;rw[A]at M;obtain rfl:=af7 M;have:=Mb.lt H ⟨k,o1,J,D,P,Y,rfl⟩;omega
   ·rw[f B q]at N;rw[a B q]at M;exact H.iv k B o1 o2 J G Q D N P M Y m2
 ·intro k y n D N P
  by_cases g:k=V
  ·subst g;rw[A]at N;obtain rfl:=af7 N
   intro hf;have:=H.fin _ hf;omega
  ·rw[f k g]at D;rw[a k g]at N;exact H.out k y n D N P
end Go.Pm
namespace Go.Pm
variable{V ep i len sz:Nat}{a e u:PV}{o:ax}{W es ys:List PV}{h h':ab}{vs:List Value}
variable[iD:Inhabited Prop]
open Go.Proofs
section
variable{w:World}{F:Nat->Prop}{Z:List (Nat×Nat)}
variable{C:cA}(T:li C.P)
variable{ops:Array Oper}{i:Nat}{d:Nat}{ty:TypeId}{pos:String}{af:Array Edge}{r:List Oper}{Y:Nat->PV}{L:List (Nat×PV)}{h:ab}{Q:St->Prop}
set_option maxRecDepth 100000
set_option maxHeartbeats 4000000
theorem iI{P:Program}{t el:TypeId}{a:Nat}{k:IntKind}(y:P.underlying t=some (.slice el))(S:dF P el=some o.bQ)(N:getM h V ep=some o)(j:a<len)(hle:len<=o.es.length):
  cS P h t (.an V ep 0 len) (some (.int k (a:Int))) none none=some (.an V ep a (len - a)):=by
 rw[C2 y S N yxa hle]
 by_cases B:a=0
 subst B;simp;rw[if_neg B,if_neg yxa]
theorem RO{A el:TypeId}{off:Nat}(g:T.kd A=some (.sl el))(S:T.ts el=some sz)(y:cr h u=some ys)(N:getM h V ep=some o)(d:o.mu=.m)(M:o.bQ=sz)(hle:off+len<=o.es.length)
  (F:ys.all (λv=>decide ((cells v).length=sz))=true) (q:(ys.take (min ys.length len)).all (λv=>decide ((cells v).length=sz)&& (cells v).all bP)=true):
  CD C.P 2 h A (.an V ep off len) u=some (.I (min ys.length len:Nat),h.set V {o with es:=o.es.take off++ys.take (min ys.length len)++o.es.drop (off+min ys.length len)}):=by
 unfold CD;rw[bG (T.dA _ _ g),y];simp only[T.eT _ _ S,N];rw[if_pos ⟨agb _,d,M.symm,hle,F,q⟩]
theorem R.copy{A xt el:TypeId}{sz V ep off len:Nat}{u:PV}{ys:List PV}{o:ax}{x y:Operand}(U:cW L x=some (.an V ep off len))(H:cW L y=some u)(g:T.kd A=some (.sl el))(S:T.ts el=some sz)(b:cr h u=some ys)(N:getM h V ep=some o)(a:o.mu=.m)(M:o.bQ=sz)(hle:off+len<=o.es.length)
  (F:ys.all (λv=>decide ((cells v).length=sz))=true) (q:(ys.take (min ys.length len)).all (λv=>decide ((cells v).length=sz)&& (cells v).all bP)=true)
  (w:ai C ops r ⟨al ((d,.I (min ys.length len:Nat))::L) Y,h.set V {o with es:=o.es.take off++ys.take (min ys.length len)++o.es.drop (off+min ys.length len)}⟩ Q):
  ai C ops (⟨some d,.call ⟨.builtin .copy,#[x,y],#[A,xt]⟩,ty,pos,af,none⟩::r) ⟨al L Y,h⟩ Q:=by
 refine ai.fO (λX=>?_) w;have e:=RO T g S b N a M hle F q;simp only[ar,bA,agp,agF,ak U,ak H,e]
theorem D.copy{A xt el:TypeId}{sz V ep off len Z:Nat}{P:List Nat}{u:PV}{ys:List PV}{o:ax}{x y:Operand}(b:level ops (before ops) i=2)(U:cW L x=some (.an V ep off len))(H:cW L y=some u)(g:T.kd A=some (.sl el))(S:T.ts el=some sz)(e:cr h u=some ys)(N:getM h V ep=some o)(a:o.mu=.m)(M:o.bQ=sz)(hle:off+len<=o.es.length)
  (F:ys.all (λv=>decide ((cells v).length=sz))=true) (q:(ys.take (min ys.length len)).all (λv=>decide ((cells v).length=sz)&& (cells v).all bP)=true)
  (w:bh C ops (i+1) r ⟨⟨al ((d,.I (min ys.length len:Nat))::L) Y,h.set V {o with es:=o.es.take off++ys.take (min ys.length len)++o.es.drop (off+min ys.length len)}⟩,(h.set V {o with es:=o.es.take off++ys.take (min ys.length len)++o.es.drop (off+min ys.length len)}).length,[]⟩ Q):
  bh C ops i (⟨some d,.call ⟨.builtin .copy,#[x,y],#[A,xt]⟩,ty,pos,af,none⟩::r) ⟨⟨al L Y,h⟩,Z,P⟩ Q:=by
 refine bh.two rfl b ⟨0,λn _=>?_⟩ w;have f:=RO T g S e N a M hle F q;simp only[ar,bA,agp,agF,ak U,ak H,f]
end
set_option maxRecDepth 100000
set_option maxHeartbeats 4000000
def tlC:Nat->Code->Code
 |0,c=>c
 |n+1,.seq _ b=>tlC n b
 |_,c=>c
theorem JV{pre:List PV}{X:PV}(B:i<pre.length)(t:ys=((pre++[X]).drop i).take (pre.length+1 - i))(g:W=(pre++[X]).take (i+1)++ys.take (pre.length - i)++(pre++[X]).drop (i+1+(pre.length - i))):
  ys.take (pre.length - i)=pre.drop i/\W.length=pre.length+1/\W.take i++[e]++W.drop (i+1)=pre.take i++[e]++pre.drop i:=by
 have O:ys.take (pre.length - i)=pre.drop i:=by
  rw[t,aif,ahj yxa];rw[agX yxd];rw[agB yxd]
 have a:(pre++[X]).drop (i+1+(pre.length - i))=[]:=agU yxd;have Q:W=(pre++[X]).take (i+1)++pre.drop i:=by rw[g,O,a];simp
 have G:((pre++[X]).take (i+1)).length=i+1:=by simp;omega
 refine⟨O,by rw[Q];simp;omega,?_⟩
 congr 1
 ·congr 1
  rw[Q,agX yxa,aif,agX yxa]
  congr 1;omega
 rw[Q,ahj yxa,agU yxa,agS]
mutual
theorem Oa{f g:Nat->Bool}(P:∀i,f i=true->g i=true):∀p,bq f p=true->bq g p=true
 | .int ..,_ | .bool _,_ | .str _,_ | .ji,_ | .mM,_ | .jD,_ | .aa ..,_ | .eX _,_ | .undef,_ | .any,_=>rfl
 | .agg Y,h=>by simp only[bq]at h ⊢;exact lH P Y h
 | .b8 Y,h=>by simp only[bq]at h ⊢;exact lH P Y h
 | .fn _ Y,h=>by simp only[bq]at h ⊢;exact lH P Y h
 | .pK _ _ Y,h=>by simp only[bq]at h ⊢;exact lH P Y h
 | .an ..,h=>by simp only[bq]at h ⊢;exact P _ h
 | .ptr ..,h=>by simp only[bq]at h ⊢;exact P _ h
 | .cq _,h=>by simp only[bq]at h ⊢;exact P _ h
theorem lH{f g:Nat->Bool}(P:∀i,f i=true->g i=true):∀cs,bB f cs=true->bB g cs=true
 |[],_=>rfl
 |c::r,h=>by
  simp only[bB,age]at h ⊢;exact⟨Oa P c h.1,lH P r h.2⟩
end
theorem sB(J:∀i,bj h i=true->bj h' i=true)(f:∀y∈h',y.mu=.x\/bB (bj h') y.es=true\/∃o∈h,o.es=y.es/\(o.mu=.x->y.mu=.x))(V:br h=true):br h'=true:=by
 unfold br at V ⊢;rw[af9]at V ⊢
 intro y O
 rcases f y O with X |X |⟨o,X,Q,G⟩;simp[X];rw[X];simp
 ·have:=V o X;simp only[agJ,decide_eq_true_eq]at this ⊢;rcases this with R |R;exact .inl (G R);exact .inr (by rw[<-Q];exact lH J _ R)
theorem GD(V:br h=true):br (h.map cm)=true:=by
 refine sB (h:=h) (λi B=>?_) (λy O=>?_) V
 ·unfold bj at B ⊢;rw[agt]
  split at B
  ·rename_i o f
   rw[f];simp only[ago,decide_eq_true_eq]at B ⊢;exact λR=>B ((bU o).2.2.2.1.1 R)
  cases B
 ·obtain⟨o,X,rfl⟩:=agv.1 O;exact .inr (.inr ⟨o,X,(bU o).2.2.1.symm,λR=>(bU o).2.2.2.1.2 R⟩)
theorem GF{n:Nat}(J:aw es=true)(V:br h=true):br (h++[⟨.m,n,sz,es⟩])=true:=by
 refine sB (h:=h) (λi B=>?_) (λy O=>?_) V
 ·unfold bj at B ⊢
  split at B
  ·rename_i o f
   rw[af8 (ag f),f];exact B
  cases B
 ·rcases agh.1 O with O |O
  ·exact .inr (.inr ⟨y,O,rfl,λR=>R⟩)
  ·obtain rfl:=agu.1 O;exact .inr (.inl (bg _ _ J))
theorem Ob(B:i<len)(A:len<=es.length){g:List PV}(h1:g=es.take i++List.replicate (len+1 - i) a)(X:W=g.take i++[e]++g.drop (i+1))(Q:ys=(es.drop i).take (len - i)):
  g.length=len+1/\W.length=len+1/\ys.length=len - i/\ys=(es.take len).drop i/\W.take (i+1)++ys++W.drop (i+1+(len - i))=(es.take len).take i++[e]++(es.take len).drop i:=by
 have f:g.length=len+1:=by rw[h1];simp;omega
 have S:W.length=len+1:=by rw[X];simp;omega
 have O:ys.length=len - i:=by rw[Q];simp;omega
 have N:ys=(es.take len).drop i:=by rw[Q,List.drop_take]
 refine⟨f,S,O,N,?_⟩;rw[agU yxa,agC,N]
 congr 1
 rw[X,agX yxd,agB (by simp;exact Nat.min_le_left _ _)]
 congr 1
 rw[h1,agX yxd,aif,aif]
 congr 1;omega
theorem VY(d:o.mu≠.x):getM (h++[o]) h.length o.ep=some o:=bw yxb rfl d
theorem lC{k:ab}(N:getM h V ep=some o):getM (h++k) V ep=some o:=by
 obtain⟨K,a,D⟩:=getM_some N;exact bw (by rw[af8 (ag K)];exact K) a D
theorem set_push{y:ax}:(h++[o]).set h.length y=h++[y]:=by
 rw[ahn _ _ (agb _)];simp
theorem Dl{f:Nat->Bool}:∀{a b:List PV},bB f a=true->bB f b=true->bB f (a++b)=true
 |[],_,_,W=>W
 |x::a,b,j,W=>by
  simp only[bB,age,agL]at j ⊢;exact⟨j.1,Dl j.2 W⟩
theorem Qw(h:aW e=true):∀q∈cells e,aW q=true:=by
 intro q y
 cases e with
 |agg Y=>
  simp only[aW]at h;rw[bz]at h;exact af9.1 h q y
 |_=>simp only[cells,agu]at y;subst y;exact h
theorem aG.V2{w:World}{A A':Nat->Prop}{Z q:List (Nat×Nat)}{v:Value}{p:PV}(J:aG w A Z h v p)(K:aW p=true)(t:∀b,A' b->A b):aG w A' q h' v p:=
 .val ((J.CN K).jk t)
attribute [local irreducible] aE az aO aL Ev ai ah ay bh
namespace Zero
variable{w:World}{F:Nat->Prop}{Z:List (Nat×Nat)}
theorem o9{f:FuncId}{args:List PV}{r:PV}(d:C0.mode f=.opened)(e:ay C0 f args h (λi X=>i=r/\X=h'))(H:bp w F Z h)(j:L2 (aG w (Av F h Z) Z h) vs args):nC C0.P 2 w F Z h f vs r h':=by
 unfold ay at e;obtain⟨S,Q,⟨rfl,rfl⟩,B,q⟩:=e;exact S0 B _ (.inr d) _ h _ _ (q B (agb _)) w F Z vs H j
theorem nW{R y:Value->PV->Prop}{b c g c':PV}(h:L2 R vs [a,b,c])(d:∀v,R v a->y v u)(W:∀v,R v b->y v g)(G:∀v,R v c->y v c'):L2 y vs [u,g,c']:=by
 refine⟨h.1,λj M=>?_⟩;have B:=h.2 0 yxb;have O:=h.2 1 yxb;have X:=h.2 2 yxb
 match j,M with
 |0,_=>exact d _ B
 |1,_=>exact W _ O
 |2,_=>exact G _ X
 |j+3,M=>simp at M;omega
theorem GK:ez C0.P 262 rV:=by
 intro V h r d e w F Z W H j
 unfold rV at e
 split at e
 ·rename_i i n D
  split at e
  ·rename_i G
   obtain⟨rfl,q⟩:=G;obtain⟨rfl,rfl⟩:=agk (af7 e);exact o9 (El rfl) (xK q) H j
  cases e
 cases e
end Zero
theorem JX:ez C.P 50 (bW 4):=nI λH a b c=>λd=>Zero.Vs H a b c d
theorem JY:ez C.P 312 (bW 1):=nI λH a b c=>λd=>Zero.Vt H a b c d
theorem xL:dn C where
 enters f u bD:=Od f (λh=>u h) bD
 ri f g hh:=by
  have d:lm f=.ri g:=hh;unfold lm at d
  repeat' split at d
  all_goals cases d
 de f g hh:=by
  have d:lm f=.de g:=hh;unfold lm at d
  split at d
  cases d
  split at d
  cases d
  split at d
  ·rename_i u
   subst u;obtain rfl:=Mode.de.inj d;exact Zero.GK
  split at d
  ·rename_i u
   subst u;obtain rfl:=Mode.de.inj d;exact JX
  split at d
  ·rename_i u
   subst u;obtain rfl:=Mode.de.inj d;exact JY
  repeat' split at d
  all_goals cases d
 ext:=aaT
end Go.Pm
namespace Go.Pm
open Go.Proofs Go.Shelf
def AW:Go.Shelf.Ren:=⟨λ|6=>98 |15=>134 |14=>133 |28=>181 |29=>182 |20=>173 |21=>174 |22=>175 |23=>176 |24=>177 |25=>178 |26=>179 |27=>180 |46=>218 |47=>219 |48=>220 |49=>221 |50=>222 |57=>258 |n=>n,λ|22=>36 |24=>38 |25=>92 |3=>3 |39=>163 |0=>0 |53=>198 |55=>172 |4=>4 |46=>192 |45=>191 |50=>152 |5=>5 |9=>9 |66=>236 |70=>166 |76=>265 |77=>266 |n=>n,λ|n=>n⟩
theorem adu:Go.Proofs.SlLaysF0.n6 Tryz.prog AW:={
 mixed:=by kernel_rfl
 f6:=⟨Tryz.f98.name,by decide,Tryz.func98.trans (congrArg some (by kernel_rfl))⟩
 f14:=⟨Tryz.f133.name,by decide,Tryz.func133.trans (congrArg some (by kernel_rfl))⟩
 f15:=Tryz.func134.trans (congrArg some (by kernel_rfl))
 f20:=⟨Tryz.f173.name,by decide,Tryz.func173.trans (congrArg some (by kernel_rfl))⟩
 f21:=⟨Tryz.f174.name,by decide,Tryz.func174.trans (congrArg some (by kernel_rfl))⟩
 f22:=⟨Tryz.f175.name,by decide,Tryz.func175.trans (congrArg some (by kernel_rfl))⟩
 f23:=⟨Tryz.f176.name,by decide,Tryz.func176.trans (congrArg some (by kernel_rfl))⟩
 f24:=⟨Tryz.f177.name,by decide,Tryz.func177.trans (congrArg some (by kernel_rfl))⟩
 f25:=⟨Tryz.f178.name,by decide,Tryz.func178.trans (congrArg some (by kernel_rfl))⟩
 f26:=⟨Tryz.f179.name,by decide,Tryz.func179.trans (congrArg some (by kernel_rfl))⟩
 f27:=⟨Tryz.f180.name,by decide,Tryz.func180.trans (congrArg some (by kernel_rfl))⟩
 f28:=Tryz.func181.trans (congrArg some (by kernel_rfl))
 f29:=Tryz.func182.trans (congrArg some (by kernel_rfl))
 f46:=⟨Tryz.f218.name,by decide,Tryz.func218.trans (congrArg some (by kernel_rfl))⟩
 f47:=Tryz.func219.trans (congrArg some (by kernel_rfl))
 f48:=Tryz.func220.trans (congrArg some (by kernel_rfl))
 f49:=⟨Tryz.f221.name,by decide,Tryz.func221.trans (congrArg some (by kernel_rfl))⟩
 f50:=⟨Tryz.f222.name,by decide,Tryz.func222.trans (congrArg some (by kernel_rfl))⟩
 f57:=⟨Tryz.f258.name,by decide,Tryz.func258.trans (congrArg some (by kernel_rfl))⟩
 t0:=Tryz.underlying0
 a0:=Tryz.isAgg0
 z0:=Tryz.sizeOf0
 v0:=Tryz.zeroValue0
 t3:=Tryz.underlying3
 a3:=Tryz.isAgg3
 z3:=Tryz.sizeOf3
 v3:=Tryz.zeroValue3
 t4:=Tryz.underlying4
 a4:=Tryz.isAgg4
 z4:=Tryz.sizeOf4
 v4:=Tryz.zeroValue4
 t5:=Tryz.underlying5
 a5:=Tryz.isAgg5
 z5:=Tryz.sizeOf5
 v5:=Tryz.zeroValue5
 t9:=Tryz.underlying9
 a9:=Tryz.isAgg9
 z9:=Tryz.sizeOf9
 v9:=Tryz.zeroValue9
 t22:=Tryz.underlying36
 a22:=Tryz.isAgg36
 z22:=Tryz.sizeOf36
 v22:=Tryz.zeroValue36
 t25:=Tryz.underlying92
 a25:=Tryz.isAgg92
 z25:=Tryz.sizeOf92
 v25:=Tryz.zeroValue92
 t39:=Tryz.underlying163
 a39:=Tryz.isAgg163
 z39:=Tryz.sizeOf163
 v39:=Tryz.zeroValue163
 t45:=Tryz.underlying191
 a45:=Tryz.isAgg191
 z45:=Tryz.sizeOf191
 v45:=Tryz.zeroValue191
 t46:=Tryz.underlying192
 a46:=Tryz.isAgg192
 z46:=Tryz.sizeOf192
 v46:=Tryz.zeroValue192
 t50:=Tryz.underlying152
 a50:=Tryz.isAgg152
 z50:=Tryz.sizeOf152
 v50:=Tryz.zeroValue152
 t53:=Tryz.underlying198
 a53:=Tryz.isAgg198
 z53:=Tryz.sizeOf198
 v53:=Tryz.zeroValue198
 t55:=Tryz.underlying172
 a55:=Tryz.isAgg172
 z55:=Tryz.sizeOf172
 v55:=Tryz.zeroValue172
 t66:=Tryz.underlying236
 a66:=Tryz.isAgg236
 z66:=Tryz.sizeOf236
 v66:=Tryz.zeroValue236
 t70:=Tryz.underlying166
 a70:=Tryz.isAgg166
 z70:=Tryz.sizeOf166
 v70:=Tryz.zeroValue166
 t76:=Tryz.underlying265
 a76:=Tryz.isAgg265
 z76:=Tryz.sizeOf265
 v76:=Tryz.zeroValue265
 t77:=Tryz.underlying266
 a77:=Tryz.isAgg266
 z77:=Tryz.sizeOf266
 v77:=Tryz.zeroValue266}
theorem adw:∀w,(isAgg (AW.t 24)).run Tryz.prog w=.ok true w:=Tryz.isAgg38
theorem adx:∀w,(Go.sizeOf (AW.t 24)).run Tryz.prog w=.ok 4 w:=Tryz.sizeOf38
end Go.Pm
