/-
  Pm, a part. Conditions: none.
-/
import Derived.Test.YtimogkojklpdnaaGreatDoorPxAC
set_option linter.unusedVariables false
set_option linter.unusedSimpArgs false
set_option linter.unnecessarySimpa false
set_option linter.unusedSectionVars false
namespace Go.Pm
variable[iD:Inhabited Prop]
variable{P:Program}{w:World}{F:Nat->Prop}{Y:List (Nat×Nat)}{h:aa}
def Alike(h h':aa):Prop:=h.length=h'.length/\∀(id:Nat) (o o':aC),h[id]?=some o->h'[id]?=some o'->o.ep=o'.ep/\o.aP=o'.aP/\o.es=o'.es/\(o.mu=.x↔o'.mu=.x)
theorem jN{α:Type}{l:List α}{i:Nat}(h:i<l.length):∃x,l[i]?=some x:=⟨l[i],TJ h⟩
theorem Alike.F9{h':aa}(a:Alike h h')(Y:List (Nat×Nat)):yl h Y h' Y:=by
 intro id o bc e1 e2 e3
 have bE:=ae e1;obtain⟨o',ho⟩:=jN (l:=h') (i:=id) (by rw[<-a.1];exact bE);obtain⟨p1,p2,p3,p4⟩:=a.2 id o o' e1 ho;exact⟨o',bc,ho,e2,λhh=>e3 (p4.2 hh),⟨by omega,λhz=>by omega⟩,λ_=>⟨p2.symm,λ_=>by rw[p3],rfl⟩⟩
theorem ar.alike{h':aa}(a:Alike h h'){A A':Nat->Prop}(hA:∀b,A' b->A b){v:Value}{p:PV}(r:ar w A Y h v p):ar w A' Y h' v p:=
 r.F9 (a.F9 Y) (λ_ _ _=>rfl) (λb _ hn ha=>hn (hA b ha))
theorem gq.alike{h':aa}(a:Alike h h'){A A':Nat->Prop}(hA:∀b,A' b->A b){o o':aC}{bc:Nat×Nat}(e1:o.aP=o'.aP)(e2:o.es=o'.es)(r:gq w A Y h o bc):gq w A' Y h' o' bc:=by
 rcases r with⟨T,cs,h1,h2,h3,h4,h5⟩|⟨h0,es,clock,h1,h2,h3⟩
 ·refine .inl ⟨T,cs,h1,by rw[<-e2];exact h2,by rw[<-e1];exact h3,by rw[<-e1];exact h4,λi e he=>?_⟩;rw[<-e2]at he;obtain⟨k1,k2⟩:=h5 i e he;refine⟨by rw[<-e1];exact k1,λj p hp=>?_⟩;obtain⟨v,m1,m2⟩:=k2 j p hp;exact⟨v,by rw[<-e1];exact m1,m2.alike a hA⟩
 ·refine .inr ⟨by rw[<-e1];exact h0,es,clock,h1,by rw[<-e2];exact h2,λi e he=>?_⟩;rw[<-e2]at he;obtain⟨k,v,m,q1,q2,q3,q4⟩:=h3 i e he;exact⟨k,v,m,q1,q2,q3.alike a hA,q4.alike a hA⟩
theorem aO(o:aC):(bB o).ep=o.ep/\(bB o).aP=o.aP/\(bB o).es=o.es/\((bB o).mu=.x↔o.mu=.x)/\(bB o).mu≠.m/\((bB o).mu=.f↔o.mu=.f):=by
 cases o with
 |mk mu ep aP es=>cases mu <;>simp[bB]
theorem eH(h:aa):Alike h (h.map bB):=by
 refine⟨by simp,λid o o' e1 e2=>?_⟩;rw[TS,e1]at e2;obtain rfl:=TF e2;obtain⟨p1,p2,p3,p4,_⟩:=aO o;exact⟨p1.symm,p2.symm,p3.symm,p4.symm⟩
theorem gj(h:aa)(Y:List (Nat×Nat))(b:Nat):¬Mb (h.map bB) Y b:=by
 rintro⟨id,o,bc,e1,e2,e3,e4⟩;rw[TS]at e1
 cases hh:h[id]? with
 |none=>rw[hh]at e1;cases e1
 |some o2=>
  rw[hh]at e1;obtain rfl:=TF e1;exact(aO o2).2.2.2.2.1 e3
theorem vC{h:aa}{id:Nat}{o:aC}(e:(h.map bB)[id]?=some o):∃o2,h[id]?=some o2/\o=bB o2:=by
 rw[TS]at e
 cases hh:h[id]? with
 |none=>rw[hh]at e;cases e
 |some o2=>rw[hh]at e;exact⟨o2,rfl,(TF e).symm⟩
theorem aG.lock(H:aG w F Y h):aG w (Av F h Y) Y (h.map bB):=by
 have hA:∀b,Av (Av F h Y) (h.map bB) Y b->Av F h Y b:=λb hb=>hb.elim id (λhm=>absurd hm (gj h Y b))
 refine⟨by simp[H.len],λb hb=>Av.lt H hb,?_,?_,?_,H.di.ia hA⟩
 ·intro id o bc e1 e2 e3
  obtain⟨o2,f1,rfl⟩:=vC e1;obtain⟨p1,p2,p3,p4,_⟩:=aO o2;exact(H.obj id o2 bc f1 e2 (λhh=>e3 (p4.2 hh))).alike (eH h) hA p2.symm p3.symm
 ·intro id cz o o' bc bW aU e1 e2 e3 e4 m1 m2
  obtain⟨o2,f1,rfl⟩:=vC e1;exact absurd m1 (aO o2).2.2.2.2.1
 ·intro id o bc e1 e2 e3
  obtain⟨o2,f1,rfl⟩:=vC e1;obtain⟨p1,p2,p3,p4,p5,p6⟩:=aO o2;rcases e3 with e3 |e3;exact absurd e3 p5;exact qV H f1 e2 (p6.1 e3)
theorem aG.unlock(H:aG w F Y h){w':World}{h1:aa}{Y1:List (Nat×Nat)}(q2:aG w' (Av F h Y) Y1 h1)(q3:cP w (h.map bB) Y w' h1 Y1)(v8:(h1.drop h.length).all (λo=>decide (o.mu≠.l))=true):
  (∀(v:Value) (p:PV),ar w' (Av (Av F h Y) h1 Y1) Y1 h1 v p->ar w' (Av F (h++h1.drop h.length) Y1) Y1 (h++h1.drop h.length) v p)/\aG w' F Y1 (h++h1.drop h.length)/\cP w h Y w' (h++h1.drop h.length) Y1/\cc w w':=by
 have hn:h.length<=h1.length:=by have:=q3.len;simpa using this
 have RW:Y1.length=h1.length:=q2.len
 have old:∀(id:Nat) (o:aC),h[id]?=some o->h1[id]?=some (bB o)/\Y1[id]?=Y[id]?:=λid o ho=>by
  have e1:(h.map bB)[id]?=some (bB o):=by rw[TS,ho];rfl
  exact q3.Bg id (bB o) e1 (aO o).2.2.2.2.1
 have rS:∀(id:Nat),id<h.length->(h++h1.drop h.length)[id]?=h[id]?:=λid bE=>TG bE
 have vD:∀(id:Nat),h.length<=id->(h++h1.drop h.length)[id]?=h1[id]?:=λid bE=>by
  rw[TQ bE,T9];congr 1;omega
 have al:Alike h1 (h++h1.drop h.length):=by
  refine⟨by simp;omega,λid o o' e1 e2=>?_⟩
  by_cases bE:id<h.length
  ·rw[rS id bE]at e2;rw[(old id o' e2).1]at e1;obtain rfl:=TF e1;obtain⟨p1,p2,p3,p4,_⟩:=aO o';exact⟨p1,p2,p3,p4⟩
  ·rw[vD id (by omega)]at e2;rw[e1]at e2;obtain rfl:=TF e2;exact⟨rfl,rfl,rfl,Iff.rfl⟩
 have C5:∀b,Av F (h++h1.drop h.length) Y1 b->Av (Av F h Y) h1 Y1 b:=by
  rintro b (hb |⟨id,o,bc,e1,e2,e3,e4⟩);exact .inl (.inl hb)
  ·by_cases bE:id<h.length
   ·rw[rS id bE]at e1;rw[(old id o e1).2]at e2;exact .inl (.inr ⟨id,o,bc,e1,e2,e3,e4⟩)
   ·rw[vD id (by omega)]at e1;exact .inr ⟨id,o,bc,e1,e2,e3,e4⟩
 have newmu:∀(id:Nat) (o:aC),h.length<=id->h1[id]?=some o->o.mu≠.l:=λid o bE ho=>by
  have:o∈h1.drop h.length:=by
   apply TU (i:=id - h.length);rw[T9];rw[show h.length+(id - h.length)=id by omega];exact ho
  have:=TH.1 v8 o this;simpa using this
 refine⟨λv p q1=>q1.alike al C5,⟨by rw[RW,<-al.1],λb hb=>T4 (H.fin b hb) q3.size,?_,?_,?_,q2.di.ia C5⟩,?_,⟨q3.size,λb hb=>q3.aB b hb (gj h Y b),q3.os,q3.tape,q3.output,q3.drawn⟩⟩
 ·intro id o bc e1 e2 e3
  by_cases bE:id<h.length
  ·rw[rS id bE]at e1;obtain⟨p1,p2,p3,p4,_⟩:=aO o;exact(q2.obj id (bB o) bc (old id o e1).1 e2 (λhh=>e3 (p4.1 hh))).alike al C5 p2 p3
  ·rw[vD id (by omega)]at e1;exact(q2.obj id o bc e1 e2 e3).alike al C5 rfl rfl
 ·intro id cz o o' bc bW aU e1 e2 e3 e4 m1 m2
  by_cases bE:id<h.length <;>by_cases Jj:cz<h.length
  ·rw[rS id bE]at e1;rw[rS cz Jj]at e2;rw[(old id o e1).2]at e3;rw[(old cz o' e2).2]at e4;exact H.eZ id cz o o' bc bW aU e1 e2 e3 e4 m1 m2
  ·rw[rS id bE]at e1;rw[vD cz (by omega)]at e2;have nl:=newmu cz o' (by omega) e2
   cases hm:o'.mu with
   |m=>
    have:=q2.eZ cz id o' (bB o) bW bc (Um aU) e2 (old id o e1).1 e4 e3 hm (λhh=>by rw[(aO o).2.2.2.1]at hh;rw[m1]at hh;cases hh);exact Um this
   |l=>exact absurd hm nl
   |f=>
    have Fu:=q2.out cz o' bW e2 e4 (.inr hm);rw[(old id o e1).2]at e3
    intro heq
    exact Fu (.inr ⟨id,o,bc,e1,e3,m1,heq⟩)
   |x=>exact absurd hm m2
  ·rw[vD id (by omega)]at e1;rw[rS cz Jj]at e2;exact q2.eZ id cz o (bB o') bc bW aU e1 (old cz o' e2).1 e3 e4 m1 (λhh=>m2 ((aO o').2.2.2.1.1 hh))
  ·rw[vD id (by omega)]at e1;rw[vD cz (by omega)]at e2;exact q2.eZ id cz o o' bc bW aU e1 e2 e3 e4 m1 m2
 ·intro id o bc e1 e2 e3
  by_cases bE:id<h.length
  ·rw[rS id bE]at e1;rw[(old id o e1).2]at e2;exact H.out id o bc e1 e2 e3
  ·rw[vD id (by omega)]at e1;exact λhf=>q2.out id o bc e1 e2 e3 (.inl hf)
 ·refine⟨q3.size,by simp,λb hb _=>q3.aB b hb (gj h Y b),?_,?_,?_,q3.os,q3.tape,q3.output,q3.drawn⟩
  ·rintro b hb ⟨id,o,bc,e1,e2,e3,e4⟩
   by_cases bE:id<h.length
   ·rw[rS id bE]at e1;rw[(old id o e1).2]at e2;exact⟨id,o,bc,e1,e2,e3,e4⟩
   ·rw[vD id (by omega)]at e1;exact absurd (q3.shr b hb ⟨id,o,bc,e1,e2,e3,e4⟩) (gj h Y b)
  ·intro id o bc e1 e2 e3
   have bE:=ae e1;exact⟨o,bc,by rw[rS id bE];exact e1,by rw[(old id o e1).2];exact e2,e3,⟨TI _,λh=>h⟩,λ_=>⟨rfl,λ_=>rfl,rfl⟩⟩
  ·intro id o e1 _
   exact⟨by rw[rS id (ae e1)];exact e1,(old id o e1).2⟩
theorem nX{f:FuncId}{g:List PV->aa->Option (PV×aa)}(S:cW P f g){lv:Nat}{args:List PV}{r:PV}{h':aa}(e:da g lv args h=some (r,h'))(H:aG w F Y h){vs:List Value}
  (ha:L2 (ar w (Av F h Y) Y h) vs args):jC P lv w F Y h f vs r h':=by
 unfold da at e
 split at e
 ·rename_i Ea
  refine(S args h r h' e w F Y vs H ha).mono ?_;rintro en w' ⟨v,Y1,q0,q1,q2,q3,q4⟩;exact⟨v,Y1,q0,q1,q2,q3,λhh=>by omega⟩
 ·split at e
  ·split at e
   ·rename_i r0 h1 he
    split at e
    ·rename_i v8
     obtain⟨rfl,rfl⟩:=TL (TF e);have Gi:∀b,Av (Av F h Y) (h.map bB) Y b->Av F h Y b:=λb hb=>hb.elim id (λhm=>absurd hm (gj h Y b))
     refine(S args (h.map bB) r0 h1 he w (Av F h Y) Y vs H.lock ⟨ha.1,λj hj=>(ha.2 j hj).alike (eH h) Gi⟩).mono ?_;rintro en w' ⟨v,Y1,rfl,q1,q2,q3,q4⟩;obtain⟨u1,u2,u3,u4⟩:=H.unlock q2 q3 v8;exact⟨v,Y1,rfl,u1 v _ q1,u2,u3,λ_=>u4⟩
    cases e
   ·cases e
  ·cases e
theorem fp{α:Type}{l:List α}{n i:Nat}{x:α}(e:(l.take n)[i]?=some x):i<n/\l[i]?=some x:=by
 rw[TX]at e
 split at e
 exact⟨by assumption,e⟩
 cases e
theorem ar.rT{A A':Nat->Prop}(hA:∀b,A' b->A b){n:Nat}(hn:n<=h.length){v:Value}{p:PV}(r:ar w A Y h v p)(hb:iH n p=true):ar w A' (Y.take n) (h.take n) v p:=by
 cases p with
 |an id ep off len=>
  have bE:id<n:=by simpa[iH]using hb
  cases r with
  |val hs=>cases hs
  |an _ _ _ _ _ o bc h0 h1 h2 h3 h4 h5=>
   exact .an v id ep off len o bc h0 (by rw[TX,if_pos bE];exact h1) (by rw[TX,if_pos bE];exact h2) h3 h4 h5
 |ptr id ep i off=>
  have bE:id<n:=by simpa[iH]using hb
  cases r with
  |val hs=>cases hs
  |ptr _ _ _ _ _ o bc h0 h1 h2 h3 h4 h5=>
   exact .ptr v id ep i off o bc h0 (by rw[TX,if_pos bE];exact h1) (by rw[TX,if_pos bE];exact h2) h3 h4 h5
 |_=>exact .val ((r.yz (by simpa[iH]using hb)).ia hA)
theorem ar.Eb{A A':Nat->Prop}(hA:∀b,A' b->A b){n:Nat}(hn:n<=h.length){v:Value}{p:PV}(r:ar w A Y h v p)(hb:eW n p=true):ar w A' (Y.take n) (h.take n) v p:=by
 unfold eW at hb
 split at hb
 ·obtain⟨vs,rfl,hl,hh⟩:=r.nC;exact .agg vs _ hl (λj hj=>(hh j hj).rT hA hn (dJ hb hj))
 exact r.rT hA hn hb
theorem ar.JD{A A':Nat->Prop}(hA:∀b,A' b->A b){n:Nat}(hn:n<=h.length){v:Value}{p:PV}(r:ar w A Y h v p)(hb:mM n p=true):ar w A' (Y.take n) (h.take n) v p:=by
 unfold mM at hb
 split at hb
 ·obtain⟨vs,rfl,hl,hh⟩:=r.l9;exact .cT vs _ hl (λj hj=>(hh j hj).Eb hA hn (dJ hb hj))
 exact r.Eb hA hn hb
theorem lP{n:Nat}{e q:PV}(hb:eW n e=true)(hq:q∈Pm.cells e):iH n q=true:=by
 cases e <;>first
  |(simp only[Pm.cells,Ua]at hq;subst hq;exact hb)
  |(simp only[eW]at hb;exact TH.1 hb q hq)
theorem vE{run:gw}{f:FuncId}(S:cW P f (run f)){lv:Nat}{args:List PV}{r:PV}{h':aa}(e:fP run lv f args h=some (r,h'))(H:aG w F Y h){vs:List Value}
  (ha:L2 (ar w (Av F h Y) Y h) vs args):jC P lv w F Y h f vs r h':=by
 unfold fP at e
 split at e
 ·rename_i r0 h1 he
  have C:=nX S he H ha
  split at e
  ·rename_i hc
   obtain⟨rfl,rfl⟩:=TL (TF e);simp only[TK]at hc;refine C.mono ?_;rintro en w' ⟨v,Y1,rfl,q1,q2,q3,q4⟩;have hn:=q3.len
   have hA:∀b,Av F (h1.take h.length) (Y1.take h.length) b->Av F h1 Y1 b:=by
    rintro b (hb |⟨id,o,bc,e1,e2,e3,e4⟩);exact .inl hb;exact .inr ⟨id,o,bc,(fp e1).2,(fp e2).2,e3,e4⟩
   refine⟨v,Y1.take h.length,rfl,q1.JD hA hn hc.1,⟨by simp[q2.len],q2.fin,?_,?_,?_,q2.di.ia hA⟩,?_,q4⟩
   ·intro id o bc e1 e2 e3
    have ib:o∈h1.take h.length:=TU e1;have cZ:=TH.1 (TH.1 hc.2 o ib);rcases q2.obj id o bc (fp e1).2 (fp e2).2 e3 with⟨T,cs,k1,k2,k3,k4,k5⟩|⟨k0,es,clock,k1,k2,k3⟩
    ·refine .inl ⟨T,cs,k1,k2,k3,k4,λi el eE=>⟨(k5 i el eE).1,λj p hp=>?_⟩⟩;obtain⟨u,m1,m2⟩:=(k5 i el eE).2 j p hp;exact⟨u,m1,m2.rT hA hn (lP (cZ el (TU eE)) (TU hp))⟩
    ·refine .inr ⟨k0,es,clock,k1,k2,λi el eE=>?_⟩;obtain⟨k,v,m,g1,g2,g3,g4⟩:=k3 i el eE;have hb:=cZ el (TU eE);subst g1;exact⟨k,v,m,rfl,g2,g3.rT hA hn (lP hb (by simp[Pm.cells])),g4.rT hA hn (lP hb (by simp[Pm.cells]))⟩
   ·intro id cz o o' bc bW aU e1 e2 e3 e4 m1 m2
    exact q2.eZ id cz o o' bc bW aU (fp e1).2 (fp e2).2 (fp e3).2 (fp e4).2 m1 m2
   ·intro id o bc e1 e2 e3
    exact q2.out id o bc (fp e1).2 (fp e2).2 e3
   ·refine⟨q3.size,by simp;omega,q3.aB,?_,?_,?_,q3.os,q3.tape,q3.output,q3.drawn⟩
    ·rintro b hb ⟨id,o,bc,e1,e2,e3,e4⟩;exact q3.shr b hb ⟨id,o,bc,(fp e1).2,(fp e2).2,e3,e4⟩
    ·intro id o bc e1 e2 e3
     obtain⟨o',bW,f1,f2,f3,f4,f5⟩:=q3.refs id o bc e1 e2 e3;have bE:=ae e1;exact⟨o',bW,by rw[TX,if_pos bE];exact f1,by rw[TX,if_pos bE];exact f2,f3,f4,f5⟩
    ·intro id o e1 e2
     obtain⟨f1,f2⟩:=q3.Bg id o e1 e2;have bE:=ae e1;exact⟨by rw[TX,if_pos bE];exact f1,by rw[TX,if_pos bE];exact f2⟩
  ·obtain⟨rfl,rfl⟩:=TL (TF e);exact C
 cases e
def Mn(P:Program)(f:FuncId)(g:List PV->Option PV):Prop:=
 ∀args r,g args=some r->∀(w:World) (A:Nat->Prop) (vs:List Value),(∀b,A b->b<w.heap.size)->L2 (aS w A) vs args->
  Calls P f vs.toArray w λe w'=>∃v,e=.returned v/\aS w' A v r/\cc w w'
structure cj(C:bZ):Prop where
 enters : ∀ f, (∀ h : C.mode f = .no, False) → (∀ g, C.mode f ≠ .ext g) → ∃ fn, C.P.funcs[f]? = some fn ∧ fn.body.isSome = true ∧ (fn.name == "runtime.NumGoroutine") = false
 kX:∀f g,C.mode f=.kX g->Mn C.P f g
 cH:∀f g,C.mode f=.cH g->cW C.P f g
 ext:∀f g,C.mode f=.ext g->∀args r,g args=some r->∀(w:World) (A:Nat->Prop) (vs:List Value),L2 (aS w A) vs args->∃v,(callFunc f vs.toArray).run C.P w=.ok (.value v) w/\aS w A v r
theorem tW{C:bZ}(K:cj C){run:gw}{f:FuncId}(S:C.mode f=.pure\/C.mode f=.opened->cW C.P f (run f)){lv:Nat}{args:List PV}{r:PV}{h':aa}(e:cM C run lv f args h=some (r,h'))(H:aG w F Y h){vs:List Value}
  (ha:L2 (ar w (Av F h Y) Y h) vs args) (aU:∀g,C.mode f≠.ext g):jC C.P lv w F Y h f vs r h'/\C.mode f≠.no:=by
 unfold cM at e
 split at e
 cases e
 ·rename_i hm
  exact⟨uX (S (.inl hm)) e H ha,by rw[hm];simp⟩
 ·rename_i hm
  exact⟨vE (S (.inr hm)) e H ha,by rw[hm];simp⟩
 ·rename_i g hm
  refine⟨?_,by rw[hm];simp⟩
  split at e
  ·rename_i hv
   obtain⟨e1,rfl⟩:=cD e;rw[bp]at hv;refine(K.kX f g hm (ba args) r e1 w (Av F h' Y) vs (λb hb=>Av.lt H hb) ⟨by simp[cK,ha.1],λj hj=>?_⟩).mono ?_
   ·rw[dZ];have Bn:j<args.length:=by simpa[cK]using hj
    exact((ha.2 j Bn).yz (dJ hv Bn)).cJ
   ·rintro en w' ⟨v,rfl,q1,q2⟩;exact⟨v,Y,rfl,.val q1,H.uY q2,q2.pG h' Y,λ_=>q2⟩
  cases e
 ·rename_i g hm
  exact⟨nX (K.cH f g hm) e H ha,by rw[hm];simp⟩
 ·rename_i g hm
  exact absurd hm (aU g)
end Go.Pm
namespace Go.Pm
variable[iD:Inhabited Prop]
variable{w:World}{F:Nat->Prop}{Y:List (Nat×Nat)}{h:aa}
theorem nK{C:bZ}(K:cj C){f:FuncId}(hm:C.mode f≠.no)(aU:∀g,C.mode f≠.ext g)(args:Array Value)(w:World):(callFunc f args).run C.P w=.ok (.enter f args) w:=by
 obtain⟨fn,h1,h2,h3⟩:=K.enters f hm aU;have hb:fn.body.isNone=false:=by cases hh:fn.body <;>simp_all
 simp only[callFunc,Sem.run_bind,run_program,Result.andThen_ok,h1,h3,hb,TR,if_false,Sem.run_pure]
def ch(C:bZ)(run:gw):Prop:=∀f,(C.mode f=.pure\/C.mode f=.opened)->cW C.P f (run f)
theorem L2.append{R:Value->PV->Prop}{vs us:List Value}{cs ds:List PV}(a:L2 R vs cs)(b:L2 R us ds):L2 R (vs++us) (cs++ds):=by
 obtain⟨a1,a2⟩:=a;obtain⟨b1,b2⟩:=b;refine⟨by simp[a1,b1],λj hj=>?_⟩
 by_cases PW:j<cs.length
 ·have:=a2 j PW;simp only[List.getD]at this ⊢;rwa[TG (by omega),TG PW]
 ·have:=b2 (j - cs.length) (by simp at hj;omega);simp only[List.getD]at this ⊢;rwa[TQ (by omega),TQ (by omega),a1]
theorem L2.take{R:Value->PV->Prop}{vs:List Value}{cs:List PV}(a:L2 R vs cs)(k:Nat):L2 R (vs.take k) (cs.take k):=by
 refine⟨by simp[a.1],λj hj=>?_⟩;simp only[UF]at hj;have:=a.2 j (by omega);simp only[List.getD]at this ⊢;rwa[TX,TX,if_pos (by omega),if_pos (by omega)]
theorem L2.drop{R:Value->PV->Prop}{vs:List Value}{cs:List PV}(a:L2 R vs cs)(k:Nat):L2 R (vs.drop k) (cs.drop k):=by
 refine⟨by simp[a.1],λj hj=>?_⟩;simp only[List.length_drop]at hj;have:=a.2 (k+j) (by omega);simp only[List.getD]at this ⊢;rwa[T9,T9]
theorem fV{C:bZ}(K:cj C){run:gw}(S:ch C run)(H:aG w F Y h){a:Act}{V:Nat->PV}(R:fc w (Av F h Y) Y h a V){lv:Nat}{o:Oper}{p:PV}{h':aa}(e:ak C run lv o.op V h=some (p,h'))
  {next:Act->World->Prop} {Q:Exit->Act->World->Prop} (hK:∀v w' Y',ar w' (Av F h' Y') Y' h' v p->aG w' F Y' h'->cP w h Y w' h' Y'->(lv<=1->cc w w')->next (a.put o.dst v) w'):o.wp C.P a w next Q:=by
 have simple:qe C.P lv w F Y h (execOp a.eval o) p h'->o.wp C.P a w next Q:=by
  rintro⟨v,w',Y',h1,h2,h3,h4,h5⟩;unfold Oper.wp;rcases h1 with h1 |⟨h1,rfl⟩;rw[h1];exact hK v w' Y' h2 h3 h4 h5;rw[h1];exact hK undef w' Y' h2 h3 h4 h5
 unfold ak at e
 split at e
 ·rename_i c ls
  have hex:execOp a.eval o=(do let d<-resolve a.eval c o.type;invoke d.target d.args):=by
   cases o;simp only at ls;subst ls;rfl
  split at e
  ·rename_i f CE
   unfold fQ at e
   split at e
   ·rename_i g cA hf
    have hv:=R.ev H.di f;rw[hf]at hv;obtain⟨cv,c1,c2,c3⟩:=hv.yR;have kG:=(R.C3 H.di c.args.toList).append (show L2 (ar w (Av F h Y) Y h) cv cA from⟨c2,c3⟩)
    by_cases hx:∃q,C.mode g=.ext q
    ·obtain⟨q,hq⟩:=hx;unfold cM at e;rw[hq]at e;simp only at e
     split at e
     ·rename_i Dm
      obtain⟨e1,rfl⟩:=cD e;rw[bp]at Dm
      obtain⟨v,x1,x2⟩:=K.ext g q hq _ p e1 w (Av F h' Y) (c.args.toList.map a.eval++cv) ⟨by simp only[cK,U2];exact kG.1,λj hj=>by
       rw[dZ];have Bn:j<(c.args.toList.map (Pm.ev V)++cA).length:=by simpa[cK]using hj
       exact((kG.2 j Bn).yz (dJ Dm Bn)).cJ⟩
      refine simple ⟨v,w,Y,.inl ?_,.val x2,H,cP.refl w h' Y,λ_=>cc.refl w⟩;rw[hex];simp only[resolve,CE,c1,Deferred.ofValue,Sem.run_bind,Sem.run_pure,Result.andThen_ok,invoke];rw[<-x1]
      congr 2
      apply UH;simp
     cases e
    have aU:∀q,C.mode g≠.ext q:=λq hq=>hx ⟨q,hq⟩
    obtain⟨cs,hm⟩:=tW K (S g) e H kG aU
    have bJ:(execOp a.eval o).run C.P w=.ok (.enter g ((c.args.toList.map a.eval)++cv).toArray) w:=by
     rw[hex];simp only[resolve,CE,c1,Deferred.ofValue,Sem.run_bind,Sem.run_pure,Result.andThen_ok,invoke];rw[nK K hm aU]
     congr 2
     apply UH;simp
    unfold Oper.wp;rw[bJ];refine cs.mono ?_;rintro en w' ⟨v,Y',rfl,q1,q2,q3,q4⟩;exact hK v w' Y' q1 q2 q3 q4
   ·rename_i g kk cA hf
    have hv:=R.ev H.di f;rw[hf]at hv;obtain⟨cv,c1,c2,c3⟩:=hv.FZ;have sN:L2 (ar w (Av F h Y) Y h) cv cA:=⟨c2,c3⟩;have kG:=((sN.take kk).append (R.C3 H.di c.args.toList)).append (sN.drop kk)
    by_cases hx:∃q,C.mode g=.ext q
    ·obtain⟨q,hq⟩:=hx;unfold cM at e;rw[hq]at e;simp only at e
     split at e
     ·rename_i Dm
      obtain⟨e1,rfl⟩:=cD e;rw[bp]at Dm
      obtain⟨v,x1,x2⟩:=K.ext g q hq _ p e1 w (Av F h' Y) (cv.take kk++c.args.toList.map a.eval++cv.drop kk) ⟨by simp only[cK,U2];exact kG.1,λj hj=>by
       rw[dZ];have Bn:j<(cA.take kk++c.args.toList.map (Pm.ev V)++cA.drop kk).length:=by simpa[cK]using hj
       exact((kG.2 j Bn).yz (dJ Dm Bn)).cJ⟩
      refine simple ⟨v,w,Y,.inl ?_,.val x2,H,cP.refl w h' Y,λ_=>cc.refl w⟩;rw[hex];simp only[resolve,CE,c1,Deferred.ofValue,Sem.run_bind,Sem.run_pure,Result.andThen_ok,invoke];rw[<-x1]
      congr 2
      apply UH;simp
     cases e
    have aU:∀q,C.mode g≠.ext q:=λq hq=>hx ⟨q,hq⟩
    obtain⟨cs,hm⟩:=tW K (S g) e H kG aU
    have bJ:(execOp a.eval o).run C.P w=.ok (.enter g (cv.take kk++c.args.toList.map a.eval++cv.drop kk).toArray) w:=by
     rw[hex];simp only[resolve,CE,c1,Deferred.ofValue,Sem.run_bind,Sem.run_pure,Result.andThen_ok,invoke];rw[nK K hm aU]
     congr 2
     apply UH;simp
    unfold Oper.wp;rw[bJ];refine cs.mono ?_;rintro en w' ⟨v,Y',rfl,q1,q2,q3,q4⟩;exact hK v w' Y' q1 q2 q3 q4
   cases e
  ·rename_i b Ru
   refine simple ?_
   have hb:∀cb PX,builtin b c.argTypes o.type cb (c.args.map a.eval)=builtin b c.argTypes o.type PX (c.args.map a.eval):=by
    intro cb PX
    cases b <;>first |rfl |simp[aT]at e
   have bJ:(execOp a.eval o).run C.P w=(builtin b c.argTypes o.type #[] (c.args.map a.eval)).run C.P w:=by
    rw[hex];simp only[resolve,Ru,Sem.run_bind,Sem.run_pure,Result.andThen_ok,invoke];rw[hb _ #[]]
   obtain⟨v,w',Y',h1,h2⟩:=xb (ty:=o.type) (cb:=#[]) H R e;refine⟨v,w',Y',?_,h2⟩;rw[bJ];exact h1
  cases e
 ·rename_i Nb
  exact simple (yS H R Nb e)
structure SR(N:Nat)(w:World)(F:Nat->Prop)(Y:List (Nat×Nat))(s:St)(a:Act):Prop where
 hr:aG w F Y s.h
 er:fc w (Av F s.h Y) Y s.h a s.V
 df:a.defers=[]
 sz:N<=a.tmps.size
theorem nL(a:Act)(d:Option Nat)(v:Value)(t:Nat)(N:Nat)(hd:∀k,d=some k->k<a.tmps.size):(a.put d v).tmps.getD t undef=if d=some t then v else a.tmps.getD t undef:=by
 cases d with
 |none=>simp[Act.put]
 |some k=>
  have:=hd k rfl
  by_cases hk:k=t
  subst hk;simp[Act.put,this]
  ·have:¬(some k=some t):=λh=>hk (TF h)
   simp[Act.put,this,hk]
theorem kb(V:Nat->PV)(d:Option Nat)(p:PV)(t:Nat):bh V d p t=if d=some t then p else V t:=by
 cases d with
 |none=>simp[bh]
 |some k=>
  by_cases hk:t=k
  subst hk;simp[bh,kS]
  ·have:¬(some k=some t):=λh=>hk (TF h).symm
   simp[bh,kS,hk,this]
theorem cq(a:Act)(d:Option Nat)(v:Value):(a.put d v).tmps.size=a.tmps.size:=by cases d <;>simp[Act.put]
theorem bN(a:Act)(d:Option Nat)(v:Value):(a.put d v).defers=a.defers:=by cases d <;>simp[Act.put]
theorem fc.put{A:Nat->Prop}{a:Act}{V:Nat->PV}(r:fc w A Y h a V){d:Option Nat}(hd:∀k,d=some k->k<a.tmps.size){v:Value}{p:PV}(hv:ar w A Y h v p):fc w A Y h (a.put d v) (bh V d p):=by
 intro t
 rw[nL a d v t 0 hd,kb]
 split
 exact hv;exact r t
theorem fc.mono{w':World}{h':aa}{Y':List (Nat×Nat)}(s:cP w h Y w' h' Y'){a:Act}{V:Nat->PV}(r:fc w (Av F h Y) Y h a V):fc w' (Av F h' Y') Y' h' a V:=λt=>(r t).mono s
theorem bU{A:Nat->Prop}{a:Act}{V:Nat->PV}(r:fc w A Y h a V){ops:Array Oper}{o:Oper}{b:Bool}(e:aK ops o V=some b):Region.wanted o (yielded ops a.tmps)=b:=by
 unfold aK at e;unfold Region.wanted
 split at e
 ·rename_i hg
  rw[hg];exact TF e
 ·rename_i j want hg
  rw[hg];simp only
  split at e
  ·rename_i hd
   obtain rfl:=TF e;have:((ops[j]?).bind (·.dst))=none:=by simpa using hd
   simp[yielded,this]
  ·rename_i d hd
   have CD:((ops[j]?).bind (·.dst))=some d:=by simpa using hd
   have hr:=r d
   split at e
   ·rename_i bb hb
    obtain rfl:=TF e;rw[hb]at hr;have hv:=hr.dN
    have:a.tmps[d]?=some (.bool bb):=by
     rcases T8 d a.tmps.size with cx |uU;simp[cx]at hv;simp[cx,hv];simp[UJ uU,undef]at hv
    simp[yielded,CD,this]
   ·rename_i hb
    obtain rfl:=TF e;rw[hb]at hr;have hv:=hr.Bo;rcases T8 d a.tmps.size with cx |uU;simp[cx]at hv;simp[yielded,CD,cx,hv];simp[yielded,CD,UJ uU]
   cases e
def dB(N:Nat)(o:Oper):Bool:=match o.dst with |some d=>decide (d<N)|none=>true
theorem dK{N:Nat}{o:Oper}(hd:dB N o=true){a:Act}(hs:N<=a.tmps.size):∀k,o.dst=some k->k<a.tmps.size:=by
 intro k hk
 have:k<N:=by simpa[dB,hk]using hd
 exact T4 this hs
theorem tX{C:bZ}(K:cj C){run:gw}(S:ch C run){N:Nat}{s s':St}{a:Act}(R:SR N w F Y s a){ops:Array Oper}{o:Oper}(hd:dB N o=true)(e:dS C run ops o s=some s')
  {next:Act->World->Prop} {Q:Exit->Act->World->Prop} (hK:∀a' w' Y',SR N w' F Y' s' a'->cP w s.h Y w' s'.h Y'->next a' w'):
  if Region.wanted o (yielded ops a.tmps)then o.wp C.P a w next Q else next (a.put o.dst undef) w:=by
 unfold dS at e;have wa:=dK hd R.sz
 split at e
 ·rename_i hw
  rw[bU R.er hw,if_pos rfl]
  split at e
  ·rename_i v h' hv
   obtain rfl:=TF e;refine fV K S R.hr R.er hv (λu w' Y' q1 q2 q3 _=>hK _ w' Y' ⟨q2,(R.er.mono q3).put wa q1,by rw[bN];exact R.df,by rw[cq];exact R.sz⟩ q3)
  cases e
 ·rename_i hw
  rw[bU R.er hw,if_neg (by simp)];obtain rfl:=TF e;exact hK _ w Y ⟨R.hr,R.er.put wa .undef,by rw[bN];exact R.df,by rw[cq];exact R.sz⟩ (cP.refl w s.h Y)
 cases e
theorem yT{C:bZ}(K:cj C){run:gw}(S:ch C run){N:Nat}{ops:Array Oper}{Q:Exit->Act->World->Prop}(hd:ops.toList.all (dB N)=true):
  ∀(l:List Oper) (k:Nat) {w:World} {Y:List (Nat×Nat)} {s s':St} {a:Act},ops.toList.drop k=l->SR N w F Y s a->cy C run ops l s=some s'->
   (∀a' w' Y',SR N w' F Y' s' a'->cP w s.h Y w' s'.h Y'->Q .normal a' w')->wpOps C.P ops Q (List.map (·+k) (List.range l.length)) a w:=by
 intro l
 induction l with
 |nil=>
  intro k w Y s s' a hl R e hQ
  simp[cy]at e;subst e;simpa[wpOps]using hQ a w Y R (cP.refl w s.h Y)
 |cons o r ih=>
  intro k w Y s s' a hl R e hQ
  simp only[cy]at e
  have hk:ops[k]?=some o:=by
   rw[<-T1];have:(ops.toList.drop k)[0]?=some o:=by rw[hl];rfl
   rwa[T9]at this
  have hr:ops.toList.drop (k+1)=r:=by
   have:=congrArg (List.drop 1) hl;rwa[List.drop_drop]at this
  have km:List.map (·+k) (List.range (o::r).length)=k::List.map (·+(k+1)) (List.range r.length):=by
   rw[T2,U0];simp only[TT,Uu,VN]
   congr 1
   apply UW
   intro x _
   simp;omega
  rw[km];simp only[wpOps,hk]
  split at e
  ·rename_i s1 he
   have Dn:dB N o=true:=TH.1 hd o (by
    have:o∈ops.toList.drop k:=by rw[hl];simp
    exact Ug this)
   have:=tX K S R Dn he (Q:=Q) (next:=wpOps C.P ops Q (List.map (·+(k+1)) (List.range r.length))) (λa' w' Y' R' S'=>ih (k+1) hr R' e (λa2 w2 Y2 R2 S2=>hQ a2 w2 Y2 R2 (S'.trans S2)))
   split
   ·rename_i hw;rw[if_pos hw]at this;exact .inl this
   ·rename_i hw;rw[if_neg hw]at this;exact this
  cases e
theorem Bp{C:bZ}(K:cj C){run:gw}(S:ch C run){N:Nat}{ops:Array Oper}{id:Nat}{Q:Exit->Act->World->Prop}(hd:ops.toList.all (dB N)=true){s s':St}{a:Act}(R:SR N w F Y s a)
  (e:cy C run ops ops.toList s=some s') (hQ:∀a' w' Y',SR N w' F Y' s' a'->cP w s.h Y w' s'.h Y'->Q .normal a' w'):(Code.region id ops false).wp C.P Q a w:=by
 refine wp_region ?_;have:=yT K S hd ops.toList 0 (by simp) R e hQ;simpa using this
theorem lN{h:aa}{id:Nat}:aI h id=true↔∃o,h[id]?=some o/\o.mu≠.x:=by
 unfold aI
 cases h[id]? with
 |none=>simp
 |some o=>simp
theorem jV(f:Nat->Bool)(cs:List PV):bM f cs=cs.all (br f):=by
 induction cs with
 |nil=>rfl
 |cons c r ih=>simp[bM,ih]
theorem ar.restrict{A A':Nat->Prop}{M:aa}{Y':List (Nat×Nat)}(hM:∀(id:Nat) (o:aC),M[id]?=some o->o.mu≠.x->h[id]?=some o/\Y'[id]?=Y[id]?)(hA:∀b,A' b->A b)
  {v:Value} {p:PV} (r:ar w A Y h v p) (hv:br (aI M) p=true):ar w A' Y' M v p:=by
 induction r with
 |val hs=>exact .val (hs.ia hA)
 |undef=>exact .undef
 |any v=>exact .any v
 |an v id ep off len o bc h0 h1 h2 h3 h4 h5=>
  obtain⟨o',e1,e2⟩:=lN.1 (by simpa[br]using hv);obtain⟨f1,f2⟩:=hM id o' e1 e2;rw[h1]at f1;obtain rfl:=TF f1;exact .an v id ep off len o bc h0 e1 (by rw[f2];exact h2) h3 h4 h5
 |ptr v id ep i off o bc h0 h1 h2 h3 h4 h5=>
  obtain⟨o',e1,e2⟩:=lN.1 (by simpa[br]using hv);obtain⟨f1,f2⟩:=hM id o' e1 e2;rw[h1]at f1;obtain rfl:=TF f1;exact .ptr v id ep i off o bc h0 e1 (by rw[f2];exact h2) h3 h4 h5
 |fe v id o bc h0 h1 h2 h3 h5=>
  obtain⟨o',e1,e2⟩:=lN.1 (by simpa[br]using hv);obtain⟨f1,f2⟩:=hM id o' e1 e2;rw[h1]at f1;obtain rfl:=TF f1;exact .fe v id o bc h0 e1 (by rw[f2];exact h2) h3 h5
 |agg vs cs hl _ ih=>exact .agg vs cs hl (λj hj=>ih j hj (by simp only[br,jV]at hv;exact dJ hv hj))
 |cT vs cs hl _ ih=>exact .cT vs cs hl (λj hj=>ih j hj (by simp only[br,jV]at hv;exact dJ hv hj))
 |fn f vs cs hl _ ih=>exact .fn f vs cs hl (λj hj=>ih j hj (by simp only[br,jV]at hv;exact dJ hv hj))
 |j4 f k vs cs hl _ ih=>exact .j4 f k vs cs hl (λj hj=>ih j hj (by simp only[br,jV]at hv;exact dJ hv hj))
theorem zr{f:Nat->Bool}{e q:PV}(hv:br f e=true)(hq:q∈Pm.cells e):br f q=true:=by
 cases e <;>first
  |(simp only[Pm.cells,Ua]at hq;subst hq;exact hv)
  |(simp only[br,jV]at hv;exact TH.1 hv q hq)
theorem gq.to{w':World}{h':aa}{Y':List (Nat×Nat)}{A A':Nat->Prop}{o:aC}{bc:Nat×Nat}(hb:w'.heap[bc.1]?=w.heap[bc.1]?)
  (r:gq w A Y h o bc) (hv:∀(v:Value) (e p:PV),e∈o.es->p∈Pm.cells e->ar w A Y h v p->ar w' A' Y' h' v p):gq w' A' Y' h' o bc:=by
 rcases r with⟨T,cs,h1,h2,h3,h4,h5⟩|⟨h0,es,clock,h1,h2,h3⟩
 ·refine .inl ⟨T,cs,hb.trans h1,h2,h3,h4,λi e he=>⟨(h5 i e he).1,λj p hp=>?_⟩⟩;obtain⟨v,k1,k2⟩:=(h5 i e he).2 j p hp;exact⟨v,k1,hv v e p (TU he) (TU hp) k2⟩
 ·refine .inr ⟨h0,es,clock,hb.trans h1,h2,λi e he=>?_⟩;obtain⟨k,v,m,q1,q2,q3,q4⟩:=h3 i e he;subst q1;exact⟨k,v,m,rfl,q2,hv _ _ _ (TU he) (by simp[Pm.cells]) q3,hv _ _ _ (TU he) (by simp[Pm.cells]) q4⟩
theorem aG.pad(H:aG w F Y h)(ext:aa)(γ:List (Nat×Nat))(hl:γ.length=ext.length)(hx:∀o∈ext,o.mu=.x):
  aG w F (Y++γ) (h++ext)/\cP w h Y w (h++ext) (Y++γ):=by
 have hlen:=H.len
 have back:∀(id:Nat) (o:aC) (bc:Nat×Nat),(h++ext)[id]?=some o->(Y++γ)[id]?=some bc->o.mu≠.x->h[id]?=some o/\Y[id]?=some bc:=by
  intro id o bc e1 e2 e3
  by_cases bE:id<h.length
  ·rw[TG bE]at e1;rw[TG (by omega)]at e2;exact⟨e1,e2⟩
  ·rw[TQ (by omega)]at e1;exact absurd (hx o (TU e1)) e3
 have forth:∀(id:Nat),id<h.length->(h++ext)[id]?=h[id]?/\(Y++γ)[id]?=Y[id]?:=λid bE=>
  ⟨TG bE,TG (by omega)⟩
 have hm:∀b,Mb (h++ext) (Y++γ) b->Mb h Y b:=by
  rintro b ⟨id,o,bc,e1,e2,e3,e4⟩;obtain⟨f1,f2⟩:=back id o bc e1 e2 (by rw[e3];simp);exact⟨id,o,bc,f1,f2,e3,e4⟩
 have hs:cP w h Y w (h++ext) (Y++γ):=by
  refine⟨TI _,by simp,λ_ _ _=>rfl,λb _ m=>hm b m,?_,?_,rfl,rfl,rfl,λ_=>TI _⟩
  ·intro id o bc e1 e2 e3
   obtain⟨f1,f2⟩:=forth id (ae e1);exact⟨o,bc,by rw[f1];exact e1,by rw[f2];exact e2,e3,⟨TI _,λh=>h⟩,λ_=>⟨rfl,λ_=>rfl,rfl⟩⟩
  ·intro id o e1 _
   obtain⟨f1,f2⟩:=forth id (ae e1);exact⟨by rw[f1];exact e1,f2⟩
 refine⟨⟨by simp[hlen,hl],H.fin,?_,?_,?_,H.di.pG hs⟩,hs⟩
 ·intro id o bc e1 e2 e3
  obtain⟨f1,f2⟩:=back id o bc e1 e2 e3;exact gq.mono hs rfl (H.obj id o bc f1 f2 e3)
 ·intro id cz o o' bc bW aU e1 e2 e3 e4 m1 m2
  obtain⟨f1,f2⟩:=back id o bc e1 e3 (by rw[m1];simp);obtain⟨g1,g2⟩:=back cz o' bW e2 e4 m2;exact H.eZ id cz o o' bc bW aU f1 g1 f2 g2 m1 m2
 ·intro id o bc e1 e2 e3
  obtain⟨f1,f2⟩:=back id o bc e1 e2 (by rcases e3 with e3 |e3 <;>rw[e3] <;>simp);exact H.out id o bc f1 f2 e3
def Fp(F:Nat->Prop)(Y:List (Nat×Nat))(h M:aa)(b:Nat):Prop:=F b\/∃(id:Nat) (o:aC) (bc:Nat×Nat),h[id]?=some o/\Y[id]?=some bc/\o.mu=.m/\bc.1=b/\M[id]?≠some o
theorem Fp.av{M:aa}{b:Nat}(hf:Fp F Y h M b):Av F h Y b:=by
 rcases hf with hf |⟨id,o,bc,e1,e2,e3,e4,_⟩;exact .inl hf;exact .inr ⟨id,o,bc,e1,e2,e3,e4⟩
theorem aG.part(H:aG w F Y h){M:aa}(hl:M.length<=h.length)(hM:∀(id:Nat) (o:aC),M[id]?=some o->o.mu≠.x->h[id]?=some o)(hc:aL M=true):
  aG w (Fp F Y h M) (Y.take M.length) M/\(∀(v:Value) (p:PV),ar w (Av F h Y) Y h v p->br (aI M) p=true->ar w (Av (Fp F Y h M) M (Y.take M.length)) (Y.take M.length) M v p):=by
 have hlen:=H.len;have hb:∀id,id<M.length->(Y.take M.length)[id]?=Y[id]?:=λid bE=>by rw[TX,if_pos bE]
 have KA:∀(id:Nat) (o:aC),M[id]?=some o->o.mu≠.x->h[id]?=some o/\(Y.take M.length)[id]?=Y[id]?:=λid o e1 e2=>⟨hM id o e1 e2,hb id (ae e1)⟩
 have hA:∀b,Av (Fp F Y h M) M (Y.take M.length) b->Av F h Y b:=by
  rintro b (hf |⟨id,o,bc,e1,e2,e3,e4⟩);exact hf.av
  ·obtain⟨f1,f2⟩:=KA id o e1 (by rw[e3];simp);exact .inr ⟨id,o,bc,f1,by rw[<-f2];exact e2,e3,e4⟩
 have hv:∀(v:Value) (p:PV),ar w (Av F h Y) Y h v p->br (aI M) p=true->ar w (Av (Fp F Y h M) M (Y.take M.length)) (Y.take M.length) M v p:=λv p r hv=>r.restrict KA hA hv
 refine⟨⟨by simp;omega,λb hb=>Av.lt H (Fp.av hb),?_,?_,?_,H.di.ia hA⟩,hv⟩
 ·intro id o bc e1 e2 e3
  obtain⟨f1,f2⟩:=KA id o e1 e3;rw[f2]at e2;refine(H.obj id o bc f1 e2 e3).to rfl (λv e p he hp r=>hv v p r ?_);have:=TH.1 hc o (TU e1);simp only[Uo,decide_eq_true_eq,jV]at this;exact zr (TH.1 (this.resolve_left e3) e he) hp
 ·intro id cz o o' bc bW aU e1 e2 e3 e4 m1 m2
  obtain⟨f1,f2⟩:=KA id o e1 (by rw[m1];simp);obtain⟨g1,g2⟩:=KA cz o' e2 m2;exact H.eZ id cz o o' bc bW aU f1 g1 (by rw[<-f2];exact e3) (by rw[<-g2];exact e4) m1 m2
 ·intro id o bc e1 e2 e3
  have Kx:o.mu≠.x:=by rcases e3 with e3 |e3 <;>rw[e3] <;>simp
  obtain⟨f1,f2⟩:=KA id o e1 Kx;rw[f2]at e2;rintro(hf |⟨id2,o2,zg,g1,g2,g3,g4,g5⟩);exact H.out id o bc f1 e2 e3 hf
  ·have aU:id2≠id:=by
    rintro rfl;rw[f1]at g1;obtain rfl:=TF g1;exact g5 e1
   exact H.eZ id2 id o2 o zg bc aU g1 f1 g2 e2 g3 Kx g4
theorem aG.merge(H:aG w F Y h){M ext h':aa}{Y1:List (Nat×Nat)}{w':World}(hl:M.length+ext.length<=h.length)(hM:∀(id:Nat) (o:aC),M[id]?=some o->o.mu≠.x->h[id]?=some o)
  (H1:aG w' (Fp F Y h M) Y1 (M++ext)) (S1:cP w M (Y.take M.length) w' (M++ext) Y1) (G:cc w w') (v8:∀o∈ext,o.mu≠.l)
  (Mf:h'.length=h.length) (mz:∀id:Nat,M.length<=id->id<M.length+ext.length->h'[id]?=ext[id - M.length]?) (oS:∀id:Nat,(id<M.length\/M.length+ext.length<=id)->h'[id]?=h[id]?)
  (OS:∀(id:Nat) (o:aC),M.length<=id->id<M.length+ext.length->h[id]?=some o->o.mu=.x):
  ∃Y',aG w' F Y' h'/\yl h Y h' Y'/\(∀b,b<w.heap.size->¬Av F h Y b->¬Av F h' Y' b)/\(∀b,b<w.heap.size->Mb h' Y' b->Mb h Y b)/\(∀id:Nat,id<M.length->Y'[id]?=Y[id]?)/\
   (∀(v:Value) (p:PV),ar w' (Av (Fp F Y h M) (M++ext) Y1) Y1 (M++ext) v p->ar w' (Av F h' Y') Y' h' v p):=by
 have hlen:=H.len;have wX:=H1.len;simp only[T0]at wX;have NY:(Y1.drop M.length).length=ext.length:=by simp;omega
 have hY:∀k,(Y.take M.length++Y1.drop M.length++Y.drop (M.length+(Y1.drop M.length).length))[k]?=if k<M.length then Y[k]? else if k<M.length+ext.length then Y1[k]? else Y[k]?:=by
  intro k
  rw[eI _ _ _ _ (by omega),NY]
  split
  rfl
  ·split
   ·rw[T9];congr 1;omega
   ·rfl
 refine⟨Y.take M.length++Y1.drop M.length++Y.drop (M.length+(Y1.drop M.length).length),?_⟩;generalize RU:Y.take M.length++Y1.drop M.length++Y.drop (M.length+(Y1.drop M.length).length)=Y' at hY ⊢
 have Df:Y'.length=h'.length:=by
  rw[<-RU,Mf];simp;omega
 have bin:∀id,M.length<=id->id<M.length+ext.length->Y'[id]?=Y1[id]?:=λid h1 h2=>by rw[hY,if_neg (by omega),if_pos h2]
 have bout:∀id,(id<M.length\/M.length+ext.length<=id)->Y'[id]?=Y[id]?:=λid h1=>by
  rw[hY]
  by_cases h2:id<M.length
  rw[if_pos h2];rw[if_neg h2,if_neg (by omega)]
 have pin:∀id,M.length<=id->id<M.length+ext.length->(M++ext)[id]?=ext[id - M.length]?:=λid h1 _=>TQ h1
 have pold:∀id,id<M.length->(M++ext)[id]?=M[id]?:=λid h1=>TG h1
 have both:∀(id:Nat) (o:aC) (bc:Nat×Nat),M[id]?=some o->o.mu≠.x->Y[id]?=some bc->Y1[id]?=some bc:=by
  intro id o bc e1 e2 e3
  have bE:=ae e1;obtain⟨o',bW,f1,f2,f3,f4,f5⟩:=S1.refs id o bc e1 (by rw[TX,if_pos bE];exact e3) e2;rw[pold id bE,e1]at f1;obtain rfl:=TF f1;rw[(f5 rfl).2.2]at f2;exact f2
 have nh:∀id:Nat,(M.length<=id/\id<M.length+ext.length)\/(id<M.length\/M.length+ext.length<=id):=λid=>by omega
 have newb:∀(id:Nat) (o:aC) (bc:Nat×Nat),M.length<=id->id<M.length+ext.length->h'[id]?=some o->Y'[id]?=some bc->o.mu=.m->w.heap.size<=bc.1:=by
  intro id o bc a1 a2 e1 e2 e3
  rw[mz id a1 a2,<-pin id a1 a2]at e1;rw[bin id a1 a2]at e2;rcases T8 bc.1 w.heap.size with cx |uU
  ·obtain⟨id2,o2,zg,f1,f2,f3,f4⟩:=S1.shr bc.1 cx ⟨id,o,bc,e1,e2,e3,rfl⟩;have rk:=ae f1;rw[TX,if_pos rk]at f2;exact absurd f4.symm (H1.eZ id id2 o o2 bc zg (by omega) e1 (by rw[pold id2 rk];exact f1) e2 (both id2 o2 zg f1 (by rw[f3];simp) f2) e3 (by rw[f3];simp))
  exact uU
 have Mg:yl h Y h' Y':=by
  intro id o bc e1 e2 e3
  rcases nh id with⟨a1,a2⟩|a;exact absurd (OS id o a1 a2 e1) e3;exact⟨o,bc,by rw[oS id a];exact e1,by rw[bout id a];exact e2,e3,⟨TI _,λh=>h⟩,λ_=>⟨rfl,λ_=>rfl,rfl⟩⟩
 have shr:∀b,b<w.heap.size->Mb h' Y' b->Mb h Y b:=by
  rintro b hb ⟨id,o,bc,e1,e2,e3,rfl⟩;rcases nh id with⟨a1,a2⟩|a;have:=newb id o bc a1 a2 e1 e2 e3;omega;exact⟨id,o,bc,by rw[<-oS id a];exact e1,by rw[<-bout id a];exact e2,e3,rfl⟩
 have Me:∀b,b<w.heap.size->¬Av F h Y b->¬Av F h' Y' b:=by
  rintro b hb hn (hf |hm);exact hn (.inl hf);exact hn (.inr (shr b hb hm))
 have OT:yl (M++ext) Y1 h' Y':=by
  intro id o bc e1 e2 e3
  have bE:=ae e1;simp at bE
  by_cases rk:id<M.length
  ·rw[pold id rk]at e1;have e4:=hM id o e1 e3;obtain⟨Qc,e5⟩:=cm H.len e4;have:=both id o Qc e1 e3 e5;rw[this]at e2;obtain rfl:=TF e2;exact⟨o,Qc,by rw[oS id (.inl rk)];exact e4,by rw[bout id (.inl rk)];exact e5,e3,⟨TI _,λh=>h⟩,λ_=>⟨rfl,λ_=>rfl,rfl⟩⟩
  exact⟨o,bc,by rw[mz id (by omega) bE,<-pin id (by omega) bE];exact e1,by rw[bin id (by omega) bE];exact e2,e3,⟨TI _,λh=>h⟩,λ_=>⟨rfl,λ_=>rfl,rfl⟩⟩
 have C5:∀b,Av F h' Y' b->Av (Fp F Y h M) (M++ext) Y1 b:=by
  rintro b (hf |⟨id,o,bc,e1,e2,e3,e4⟩);exact .inl (.inl hf)
  ·rcases nh id with⟨a1,a2⟩|a
   ·rw[mz id a1 a2,<-pin id a1 a2]at e1;rw[bin id a1 a2]at e2;exact .inr ⟨id,o,bc,e1,e2,e3,e4⟩
   ·rw[oS id a]at e1;rw[bout id a]at e2
    by_cases hm:M[id]?=some o
    ·have bE:=ae hm;exact .inr ⟨id,o,bc,by rw[pold id bE];exact hm,both id o bc hm (by rw[e3];simp) e2,e3,e4⟩
    exact .inl (.inr ⟨id,o,bc,e1,e2,e3,e4,hm⟩)
 have v0:∀(v:Value) (p:PV),ar w (Av F h Y) Y h v p->ar w' (Av F h' Y') Y' h' v p:=λv p r=>r.F9 Mg (λb hb _=>G.aB b hb) Me
 have v1:∀(v:Value) (p:PV),ar w' (Av (Fp F Y h M) (M++ext) Y1) Y1 (M++ext) v p->ar w' (Av F h' Y') Y' h' v p:=λv p r=>r.F9 OT (λ_ _ _=>rfl) (λb _ hn ha=>hn (C5 b ha))
 refine⟨⟨Df,λb hb=>T4 (H.fin b hb) G.size,?_,?_,?_,H.di.mono (λb hb _=>G.aB b hb) Me⟩,Mg,Me,shr,λid bE=>bout id (.inl bE),v1⟩
 ·intro id o bc e1 e2 e3
  rcases nh id with⟨a1,a2⟩|a
  ·rw[mz id a1 a2,<-pin id a1 a2]at e1;rw[bin id a1 a2]at e2;exact(H1.obj id o bc e1 e2 e3).to rfl (λv e p _ _ r=>v1 v p r)
  ·rw[oS id a]at e1;rw[bout id a]at e2;have r:=H.obj id o bc e1 e2 e3;exact r.to (G.aB _ r.lt) (λv e p _ _ r=>v0 v p r)
 ·intro id cz o o' bc bW aU e1 e2 e3 e4 m1 m2
  rcases nh id with⟨a1,a2⟩|a <;>rcases nh cz with⟨b1,b2⟩|b
  ·rw[mz id a1 a2,<-pin id a1 a2]at e1;rw[bin id a1 a2]at e3;rw[mz cz b1 b2,<-pin cz b1 b2]at e2;rw[bin cz b1 b2]at e4;exact H1.eZ id cz o o' bc bW aU e1 e2 e3 e4 m1 m2
  ·have h1:=newb id o bc a1 a2 e1 e3 m1;rw[oS cz b]at e2;rw[bout cz b]at e4;have:=(H.obj cz o' bW e2 e4 m2).lt;omega
  ·rw[oS id a]at e1;rw[bout id a]at e3;rw[mz cz b1 b2,<-pin cz b1 b2]at e2;rw[bin cz b1 b2]at e4
   by_cases hm:M[id]?=some o
   ·have bE:=ae hm;exact H1.eZ id cz o o' bc bW aU (by rw[pold id bE];exact hm) e2 (both id o bc hm (by rw[m1];simp) e3) e4 m1 m2
   ·have nl:o'.mu≠.l:=by
     rw[pin cz b1 b2]at e2;exact v8 o' (TU e2)
    have Ba:o'.mu=.m\/o'.mu=.f:=by
     cases hh:o'.mu with
     |m=>exact .inl rfl
     |l=>exact absurd hh nl
     |f=>exact .inr rfl
     |x=>exact absurd hh m2
    intro heq
    exact H1.out cz o' bW e2 e4 Ba (.inr ⟨id,o,bc,e1,e3,m1,heq,hm⟩)
  ·rw[oS id a]at e1;rw[bout id a]at e3;rw[oS cz b]at e2;rw[bout cz b]at e4;exact H.eZ id cz o o' bc bW aU e1 e2 e3 e4 m1 m2
 ·intro id o bc e1 e2 e3
  rcases nh id with⟨a1,a2⟩|a
  ·rw[mz id a1 a2,<-pin id a1 a2]at e1;rw[bin id a1 a2]at e2;exact λhf=>H1.out id o bc e1 e2 e3 (.inl hf)
  ·rw[oS id a]at e1;rw[bout id a]at e2;exact H.out id o bc e1 e2 e3
end Go.Pm
namespace Go.Pm
theorem ka{V V':Nat->PV}{xs:List Operand}(h:∀x∈xs,ev V x=ev V' x):xs.map (ev V)=xs.map (ev V'):=UW h
theorem lc{V V':Nat->PV}{xs:List (Nat×Operand)}(h:∀x∈xs.map (·.2),ev V x=ev V' x):(xs.map λ(i,x)=>(i,ev V x))=xs.map λ(i,x)=>(i,ev V' x):=
 UW λp hp=>by
  obtain⟨i,x⟩:=p;simp only[h x (U1.2 ⟨(i,x),hp,rfl⟩)]
theorem jn{C:bZ}{run:gw}{lv:Nat}{op:Op}{V V':Nat->PV}{hp:aa}(h:∀x∈op.operands.toList,ev V x=ev V' x):ak C run lv op V hp=ak C run lv op V' hp:=by
 cases op
 case call c=>
  have ha:c.args.toList.map (ev V)=c.args.toList.map (ev V'):=ka λx hx=>h x (by simp[Op.operands,Call.operands];exact .inr (by simpa using hx))
  simp only[ak,ha]
  cases hc:c.callee with
  |value f=>simp only[h f (by simp[Op.operands,Call.operands,hc])]
  |invoke r m=>rfl
  |builtin b=>rfl
 case build t ps=>simp only[ak,aw,lc (V:=V) (V':=V') (xs:=ps.toList) λx hx=>h x (by simpa[Op.operands]using hx)]
 case buildSlice t n ps=>simp only[ak,aw,lc (V:=V) (V':=V') (xs:=ps.toList) λx hx=>h x (by simpa[Op.operands]using hx)]
 case makeFunc fn first cA=>
  have ha:cA.toList.map (ev V)=cA.toList.map (ev V'):=ka λx hx=>h x (by simp[Op.operands];exact .inr (by simpa using hx))
  have hb:(first.toList++cA.toList).map (ev V)=(first.toList++cA.toList).map (ev V'):=ka λx hx=>h x (by simp only[Op.operands,Array.toList_append];exact hx)
  simp only[ak,aw]
  cases fn <;>simp only[ha,hb]
 case makeMap t r=>
  simp only[Op.operands]at h;have h2:r.map (ev V)=r.map (ev V'):=by cases r with |none=>rfl |some y=>simp[h y (by simp)]
  simp only[ak,aw,h2]
 case slice t x lo hi mx=>
  simp only[Op.operands]at h;have h1:=h x (by simp);have h2:lo.map (ev V)=lo.map (ev V'):=by cases lo with |none=>rfl |some y=>simp[h y (by simp)]
  have h3:hi.map (ev V)=hi.map (ev V'):=by cases hi with |none=>rfl |some y=>simp[h y (by simp)]
  have h4:mx.map (ev V)=mx.map (ev V'):=by cases mx with |none=>rfl |some y=>simp[h y (by simp)]
  simp only[ak,aw,h1,h2,h3,h4]
 all_goals(simp only[Op.operands]at h;simp only[ak,aw];try simp_all)
theorem ct{α:Type}{x:Option α}{h:aa}{p:α}{h':aa}(e:x.map (·,h)=some (p,h')):x=some p/\h'=h:=by
 cases x with
 |none=>cases e
 |some y=>simp at e;exact⟨by rw[e.1],e.2.symm⟩
theorem lf{C:bZ}{run:gw}{lv QN:Nat}{op:Op}{V:Nat->PV}{h1 Fu h2:aa}{r:PV}(hn:cw op=false)(e:ak C run lv op V h1=some (r,Fu)):ak C run QN op V h2=some (r,h2):=by
 cases op <;>simp[cw]at hn <;>simp only[ak,aw]at e ⊢
 case move x=>simp at e;simp[e.1]
 case assign x=>simp at e;simp[e.1]
 case pick c x y=>split at e <;>simp_all
 case build t ps=>obtain⟨e1,_⟩:=ct e;rw[e1];rfl
 case nilCheck x=>split at e <;>simp_all
 case binOp=>obtain⟨e1,_⟩:=ct e;rw[e1];rfl
 case unOp=>obtain⟨e1,_⟩:=ct e;rw[e1];rfl
 case convert=>obtain⟨e1,_⟩:=ct e;rw[e1];rfl
 case makeFunc fn first cA=>
  cases fn <;>simp only at e ⊢ <;>try(cases e;done)
  split at e
  ·rename_i hf;simp at e;simp[hf,e.1]
  ·rename_i hf;obtain⟨rfl,rfl⟩:=TL (TF e);rw[if_neg hf]
 case fieldAddr=>obtain⟨e1,_⟩:=ct e;rw[e1];rfl
 case field=>obtain⟨e1,_⟩:=ct e;rw[e1];rfl
 case index=>obtain⟨e1,_⟩:=ct e;rw[e1];rfl
 case extract x i=>
  split at e
  split at e <;>simp_all
  cases e
def Ext(h h':aa):Prop:=∃ext,h'=h++ext
theorem Ext.refl(h:aa):Ext h h:=⟨[],by simp⟩
theorem ny{g:List PV->aa->Option (PV×aa)}{lv:Nat}(hl:lv<=1){args:List PV}{h h':aa}{r:PV}(e:da g lv args h=some (r,h')):Ext h h':=by
 unfold da at e;rw[if_neg (by omega)]at e
 split at e
 ·split at e
  ·split at e
   ·obtain⟨rfl,rfl⟩:=TL (TF e);exact⟨_,rfl⟩
   ·cases e
  ·cases e
 cases e
theorem tn{C:bZ}{run:gw}{lv:Nat}(hl:lv<=1){f:FuncId}{args:List PV}{h h':aa}{r:PV}(e:cM C run lv f args h=some (r,h')):Ext h h':=by
 unfold cM at e
 split at e
 cases e
 ·unfold dp at e
  split at e
  ·split at e
   ·split at e
    ·obtain⟨rfl,rfl⟩:=TL (TF e);exact Ext.refl _
    ·cases e
   ·cases e
  ·split at e
   ·split at e
    ·split at e
     ·split at e
      ·obtain⟨rfl,rfl⟩:=TL (TF e);exact Ext.refl _
      ·rw[if_neg (by omega)]at e;cases e
     ·cases e
    ·cases e
   ·split at e
    ·split at e
     ·split at e
      ·split at e
       ·obtain⟨rfl,rfl⟩:=TL (TF e);exact Ext.refl _
       ·cases e
      ·cases e
     ·cases e
    ·cases e
 ·unfold fP at e
  split at e
  ·rename_i r0 h1 he
   obtain⟨ext,rfl⟩:=ny hl he
   split at e
   obtain⟨rfl,rfl⟩:=TL (TF e);simp;exact Ext.refl _;obtain⟨rfl,rfl⟩:=TL (TF e);exact⟨_,rfl⟩
  cases e
 ·split at e
  ·obtain⟨_,rfl⟩:=ct e;exact Ext.refl _
  ·cases e
 exact ny hl e
 ·split at e
  ·obtain⟨_,rfl⟩:=ct e;exact Ext.refl _
  ·cases e
theorem wh{P:Program}{lv:Nat}(hl:lv<=1){b:Builtin}{ts:List TypeId}{args:List PV}{h h':aa}{r:PV}(e:aT P lv h b ts args=some (r,h')):Ext h h':=by
 unfold aT at e
 split at e
 obtain⟨_,rfl⟩:=ct e;exact Ext.refl _
 ·unfold cg at e
  repeat' split at e
  all_goals first
   |(cases e;done)
   |(obtain⟨rfl,rfl⟩:=TL (TF e);first |exact Ext.refl _ |exact⟨_,rfl⟩)
   |(exfalso;omega)
   |(rename_i hh;exfalso;obtain⟨a1,a2,a3⟩:=hh;omega)
 ·unfold tj at e
  repeat' split at e
  all_goals first
   |(cases e;done)
   |(rename_i hh;exfalso;omega)
 ·unfold kW at e
  repeat' split at e
  all_goals first
   |(cases e;done)
   |(obtain⟨rfl,rfl⟩:=TL (TF e);exact Ext.refl _)
   |(rename_i hh;exfalso;omega)
 obtain⟨_,rfl⟩:=ct e;exact Ext.refl _;obtain⟨_,rfl⟩:=ct e;exact Ext.refl _;obtain⟨_,rfl⟩:=ct e;exact Ext.refl _
 cases e
theorem yp{P:Program}{lv:Nat}(hl:lv<=1){op:Op}{V:Nat->PV}{h h':aa}{r:PV}(e:aw P lv op V h=some (r,h')):Ext h h':=by
 cases op <;>simp only[aw]at e
 case alloc t=>
  split at e
  ·split at e
   ·obtain⟨rfl,rfl⟩:=TL (TF e);exact⟨_,rfl⟩
   ·cases e
  cases e
 case box t x=>
  split at e
  obtain⟨rfl,rfl⟩:=TL (TF e);exact⟨_,rfl⟩
  cases e
 case buildSlice t n ps=>
  unfold cu at e
  repeat' split at e
  all_goals first
   |(cases e;done)
   |(obtain⟨rfl,rfl⟩:=TL (TF e);first |exact Ext.refl _ |exact⟨_,rfl⟩)
 case store t x y=>rw[if_neg (by omega)]at e;cases e
 case mapUpdate t m k x=>rw[if_neg (by omega)]at e;cases e
 case insert t m k x=>rw[if_neg (by omega)]at e;cases e
 case makeMap t r=>
  unfold jK at e
  repeat' split at e
  all_goals first
   |(cases e;done)
   |(obtain⟨rfl,rfl⟩:=TL (TF e);exact⟨_,rfl⟩)
 case makeSlice t l c=>
  unfold iG at e
  repeat' split at e
  all_goals first
   |(cases e;done)
   |(obtain⟨rfl,rfl⟩:=TL (TF e);exact⟨_,rfl⟩)
 case makeFunc fn first cA=>
  cases fn <;>simp only at e <;>try(cases e;done)
  split at e
  obtain⟨rfl,rfl⟩:=TL (TF e);exact Ext.refl _;obtain⟨rfl,rfl⟩:=TL (TF e);exact Ext.refl _
 all_goals first
  |(cases e;done)
  |(obtain⟨rfl,rfl⟩:=TL (TF e);exact Ext.refl _)
  |(obtain⟨_,rfl⟩:=ct e;exact Ext.refl _)
  |repeat' split at e
   all_goals first
    |(cases e;done)
    |(obtain⟨rfl,rfl⟩:=TL (TF e);exact Ext.refl _)
theorem A7{C:bZ}{run:gw}{lv:Nat}(hl:lv<=1){op:Op}{V:Nat->PV}{h h':aa}{r:PV}(e:ak C run lv op V h=some (r,h')):Ext h h':=by
 unfold ak at e
 split at e
 ·split at e
  ·unfold fQ at e
   split at e
   exact tn hl e;exact tn hl e
   cases e
  ·exact wh hl e
  ·cases e
 exact yp hl e
def pI(ops:Array Oper)(i j:Nat):Prop:=((before ops).getD i 0).testBit j=true
theorem ua(f:Edge->Nat)(j:Nat):∀(l:List Edge) (s0:Nat),(l.foldl (λs e=>s |||2^e.on |||f e) s0).testBit j=true->s0.testBit j=true\/∃e∈l,j=e.on\/(f e).testBit j=true
 |[],s0,h=>.inl h
 |e::l,s0,h=>by
  rcases ua f j l _ h with h |⟨e',h1,h2⟩
  ·simp only[Nat.testBit_or,Uo,Nat.testBit_two_pow,decide_eq_true_eq]at h;rcases h with(h |h)|h;exact .inl h;exact .inr ⟨e,by simp,.inl h.symm⟩;exact .inr ⟨e,by simp,.inr h⟩
  exact .inr ⟨e',by simp[h1],h2⟩
theorem ub(all:List Oper):∀(l pre:List Oper) (acc:List Nat),all=pre++l->acc.length=pre.length->
  (∀i j,(acc.getD i 0).testBit j=true->∃o,all[i]?=some o/\∃e∈yn o,j=e.on\/(acc.getD e.on 0).testBit j=true)->
  ∀i j,((l.foldl (λacc o=>acc++[(yn o).foldl (λs e=>s |||2^e.on |||acc.getD e.on 0) 0]) acc).getD i 0).testBit j=true->
   ∃o,all[i]?=some o/\∃e∈yn o,j=e.on\/((l.foldl (λacc o=>acc++[(yn o).foldl (λs e=>s |||2^e.on |||acc.getD e.on 0) 0]) acc).getD e.on 0).testBit j=true
 |[],pre,acc,h1,h2,h3=>h3
 |o::l,pre,acc,h1,h2,h3=>by
  have aB:∀k x (v:Nat),(acc.getD k 0).testBit x=true->((acc++[v]).getD k 0).testBit x=true:=λk x v h=>by
   rcases T8 k acc.length with hk |hk;simpa[List.getD,TG hk]using h;simp[List.getD,TZ hk]at h
  refine ub all l (pre++[o]) _ (by simp[h1]) (by simp[h2]) ?_
  intro i j Kp
  by_cases hi:i<acc.length
  ·have IE:(acc.getD i 0).testBit j=true:=by simpa[List.getD,TG hi]using Kp
   obtain⟨o',e1,e,e2,e3⟩:=h3 i j IE;exact⟨o',e1,e,e2,e3.imp id (aB _ _ _)⟩
  ·by_cases FN:i=acc.length
   ·subst FN;have IE:(((yn o).foldl (λs e=>s |||2^e.on |||acc.getD e.on 0) 0)).testBit j=true:=by simpa[List.getD]using Kp
    rcases ua (λe=>acc.getD e.on 0) j _ _ IE with h |⟨e,h4,h5⟩;simp at h;exact⟨o,by rw[h1,h2,TQ (TI _)];simp,e,h4,h5.imp id (aB _ _ _)⟩
   ·rw[T7,TZ (by simp;omega)]at Kp;simp at Kp
theorem ru{ops:Array Oper}{i j:Nat}(h:pI ops i j):∃o,ops[i]?=some o/\∃e∈yn o,j=e.on\/pI ops e.on j:=by
 obtain⟨o,h1,e,h2,h3⟩:=ub ops.toList ops.toList [] [] rfl rfl (λi j h=>by simp at h) i j h;exact⟨o,by simpa using h1,e,h2,h3⟩
def Bu(ops:Array Oper)(o o':Oper):Bool:=
 match o'.dst with
 |some d=>(o.looksAt ops).contains d ||o.dst==some d
 |none=>false
def fT(ops:Array Oper):Bool:=
 ops.toList.zipIdx.all λ(o,i)=>(yn o).all (λe=>decide (e.on<i))&&
  ops.toList.zipIdx.all λ(o',j)=>decide (i<=j)|| !(Bu ops o o'||Bu ops o' o)||((before ops).getD i 0).testBit j
theorem dq{ops:Array Oper}(h:fT ops=true):
  (∀(i:Nat) (o:Oper),ops[i]?=some o->∀e∈yn o,e.on<i)/\
  (∀(i j:Nat) (o o':Oper),ops[i]?=some o->ops[j]?=some o'->j<i->(Bu ops o o'=true\/Bu ops o' o=true)->pI ops i j):=by
 have mem:∀(i:Nat) (o:Oper),ops[i]?=some o->(o,i)∈ops.toList.zipIdx:=λi o e=>by
  rw[U3];exact⟨i,by simp[e]⟩
 unfold fT at h;rw[TH]at h
 constructor
 ·intro i o e ed he
  have:=h _ (mem i o e);simp only[TK]at this;have:=TH.1 this.1 ed he;simpa using this
 ·intro i j o o' e e' yD hh
  have:=h _ (mem i o e);simp only[TK]at this;have:=TH.1 this.2 _ (mem j o' e');simp only[Uo,decide_eq_true_eq,Ve,Bool.or_eq_false_iff]at this;rcases this with(h1 |h1)|h1;omega;rw[h1.1,h1.2]at hh;simp at hh;exact h1
theorem mZ{ops:Array Oper}{i:Nat}(h:level ops (before ops) i=2){j:Nat}{o:Oper}(e:ops[j]?=some o)(hh:cw o.op=true):j=i\/pI ops i j\/pI ops j i:=by
 unfold level at h
 split at h
 ·rename_i cZ
  have:=TH.1 cZ (o,j) (by rw[U3];exact⟨j,by simp[e]⟩);simp only[hh,Vl,Vm,mN,Uo,beq_iff_eq]at this;rcases this with(h1 |h1)|h1;exact .inl h1.symm;exact .inr (.inl h1);exact .inr (.inr h1)
 cases h
theorem mS{ops:Array Oper}(hd:fT ops=true):∀(i j:Nat),pI ops i j->j<i:=by
 intro i
 induction i using Nat.strongRecOn with
 |ind i ih=>
  intro j h
  obtain⟨o,h1,e,h2,h3⟩:=ru h;have:=(dq hd).1 i o h1 e h2;rcases h3 with rfl |h3;exact this;have:=ih e.on this j h3;omega
theorem yZ{ops:Array Oper}(hd:fT ops=true){E:Nat->Bool}(hE:∀(i:Nat) (o:Oper),ops[i]?=some o->E i=true->∀e∈yn o,E e.on=true):∀(i j:Nat),E i=true->pI ops i j->E j=true:=by
 intro i
 induction i using Nat.strongRecOn with
 |ind i ih=>
  intro j hi h
  obtain⟨o,h1,e,h2,h3⟩:=ru h;have hl:=(dq hd).1 i o h1 e h2;have he:=hE i o h1 hi e h2;rcases h3 with rfl |h3;exact he;exact ih e.on hl j he h3
theorem oP{e:Nat->Bool}{L0:Nat}{own:List Nat}{h:aa}(h1:L0<=h.length)(h2:own.length=h.length - L0):(bX e L0 own h).length=h.length:=by
 unfold bX;simp;omega
theorem oQ{e:Nat->Bool}{L0:Nat}{own nO:List Nat}{h ext:aa}(h1:L0<=h.length)(h2:own.length=h.length - L0):
  bX e L0 (own++nO) (h++ext)=bX e L0 own h++List.zipWith (λo j=>if e j then o else gQ o) ext nO:=by
 unfold bX;rw[Ul h1,Vd h1,List.zipWith_append (by simp;omega),UB]
theorem oR{e e':Nat->Bool}:∀(h:aa) (own:List Nat),(∀j∈own,e j=e' j)->List.zipWith (λo j=>if e j then o else gQ o) h own=List.zipWith (λo j=>if e' j then o else gQ o) h own
 |[],own,_=>by simp
 |_::_,[],_=>by simp
 |o::h,j::own,hh=>by
  simp only[List.zipWith_cons_cons,hh j (by simp)];rw[oR h own (λk hk=>hh k (by simp[hk]))]
theorem pM{e e':Nat->Bool}{L0:Nat}{own:List Nat}{h:aa}(hh:∀j∈own,e j=e' j):bX e L0 own h=bX e' L0 own h:=by
 unfold bX;rw[oR _ _ hh]
theorem vn{e:Nat->Bool}:∀(h:aa) (own:List Nat),own.length=h.length->(∀j∈own,e j=true)->List.zipWith (λo j=>if e j then o else gQ o) h own=h
 |[],own,_,_=>by simp
 |o::h,[],hl,_=>by simp at hl
 |o::h,j::own,hl,hh=>by
  simp only[List.zipWith_cons_cons,hh j (by simp),if_true];rw[vn h own (by simpa using hl) (λk hk=>hh k (by simp[hk]))]
theorem jT{e:Nat->Bool}{L0:Nat}{own:List Nat}{h:aa}(h2:own.length=h.length - L0)(hh:∀j∈own,e j=true):bX e L0 own h=h:=by
 unfold bX;rw[vn _ _ (by simp[h2]) hh,VI]
theorem Bv{e:Nat->Bool}{L0:Nat}{own:List Nat}{h:aa}(h1:L0<=h.length)(h2:own.length=h.length - L0)(id:Nat):
  (bX e L0 own h)[id]?=if id<L0 then h[id]? else(h[id]?).map λo=>if e (own.getD (id - L0) 0)then o else gQ o:=by
 unfold bX
 by_cases bE:id<L0
 rw[if_pos bE,TG (by simp;omega),TX,if_pos bE]
 ·rw[if_neg bE,TQ (by simp;omega)];have hl:(List.take L0 h).length=L0:=by simp;omega
  rw[hl,U4,T9,show L0+(id - L0)=id by omega]
  cases ho:h[id]? with
  |none=>simp
  |some o=>
   have:=ae ho;have hw:own[id - L0]?=some (own[id - L0]'(by omega)):=TJ (by omega);simp[hw]
section
variable{C:bZ}{run:gw}{ops:Array Oper}
theorem iX:∀(l:List Oper) (k:Nat) (x y:qN),cB C run ops (before ops) k l x=some y->
  ∃tr:Nat->qN,tr k=x/\(∀(i:Nat) (o:Oper),l[i]?=some o->bS C run ops (before ops) (k+i) o (tr (k+i))=some (tr (k+i+1)))/\tr (k+l.length)=y
 |[],k,x,y,e=>by
  simp[cB]at e;exact⟨λ_=>x,rfl,λi o h=>by simp at h,by simpa using e⟩
 |o::l,k,x,y,e=>by
  simp only[cB]at e
  split at e
  ·rename_i x' hx
   obtain⟨tr,t1,t2,t3⟩:=iX l (k+1) x' y e;refine⟨λj=>if j<=k then x else tr j,by simp,?_,?_⟩
   ·intro i o' ho
    cases i with
    |zero=>
     simp at ho;subst ho;simp[t1,hx]
     intro hh;omega
    |succ i=>
     have:=t2 i o' (by simpa using ho);have e1:¬(k+(i+1)<=k):=by omega
     have e2:¬(k+(i+1)+1<=k):=by omega
     simp only[e1,e2,if_false];rw[show k+(i+1)=k+1+i by omega];exact this
   ·have e1:¬(k+(o::l).length<=k):=by simp
    simp only[e1,if_false];rw[<-t3];congr 1;simp;omega
  cases e
inductive uc(C:bZ)(run:gw)(ops:Array Oper)(i:Nat)(o:Oper)(x y:qN):Prop
 |off:aK ops o x.s.V=some false->y=⟨⟨bh x.s.V o.dst .undef,x.s.h⟩,x.L0,x.own⟩->uc C run ops i o x y
 |plain (r:PV) (h1:aa):aK ops o x.s.V=some true->cw o.op=false->ak C run 1 o.op x.s.V x.s.h=some (r,h1)->y=⟨⟨bh x.s.V o.dst r,x.s.h⟩,x.L0,x.own⟩->uc C run ops i o x y
 |two (r:PV) (h':aa):aK ops o x.s.V=some true->cw o.op=true->level ops (before ops) i=2->ak C run 2 o.op x.s.V x.s.h=some (r,h')->y=⟨⟨bh x.s.V o.dst r,h'⟩,h'.length,[]⟩->uc C run ops i o x y
 |one (r:PV) (ext:aa):aK ops o x.s.V=some true->cw o.op=true->level ops (before ops) i≠2->aL (bX ((before ops).getD i 0).testBit x.L0 x.own x.s.h)=true->
   (∀z∈o.op.operands.toList,br (aI (bX ((before ops).getD i 0).testBit x.L0 x.own x.s.h)) (ev x.s.V z)=true)->
   ak C run 1 o.op x.s.V (bX ((before ops).getD i 0).testBit x.L0 x.own x.s.h)=some (r,bX ((before ops).getD i 0).testBit x.L0 x.own x.s.h++ext)->
   (∀o∈ext,o.mu≠.l)->y=⟨⟨bh x.s.V o.dst r,x.s.h++ext⟩,x.L0,x.own++List.replicate ext.length i⟩->uc C run ops i o x y
theorem Hs{i:Nat}{o:Oper}{x y:qN}(h1:x.L0<=x.s.h.length)(h2:x.own.length=x.s.h.length - x.L0)(e:bS C run ops (before ops) i o x=some y):uc C run ops i o x y:=by
 unfold bS at e
 split at e
 ·rename_i hw
  split at e
  ·rename_i hh
   split at e
   ·rename_i r hx hv;exact .plain r hx hw hh hv (TF e).symm
   cases e
  ·rename_i hh
   have Kc:cw o.op=true:=by simpa using hh
   split at e
   ·rename_i hl
    split at e
    ·rename_i r h' hv;exact .two r h' hw Kc hl hv (TF e).symm
    cases e
   ·rename_i hl
    simp only at e
    split at e
    ·rename_i hc
     split at e
     ·rename_i r h' hv
      obtain⟨ext,rfl⟩:=A7 (TI 1) hv
      have hd:(bX ((before ops).getD i 0).testBit x.L0 x.own x.s.h++ext).drop x.s.h.length=ext:=by
       rw[<-oP (e:=((before ops).getD i 0).testBit) h1 h2,List.drop_left]
      rw[hd]at e
      split at e
      ·rename_i v8
       exact .one r ext hw Kc hl hc.1 (λz hz=>TH.1 hc.2 z hz) hv (λo ho=>by simpa using TH.1 v8 o ho) (TF e).symm
      cases e
     cases e
    cases e
 ·rename_i hw;exact .off hw (TF e).symm
 cases e
end
variable[iD:Inhabited Prop]
structure Lex(C:bZ)(run:gw)(ops:Array Oper)(tr:Nat->qN):Prop where
 ok:fT ops=true
 st:∀(i:Nat) (o:Oper),ops[i]?=some o->bS C run ops (before ops) i o (tr i)=some (tr (i+1))
 h0:(tr 0).L0<=(tr 0).s.h.length
 o0:(tr 0).own=[]/\(tr 0).L0=(tr 0).s.h.length
def yk(ops:Array Oper)(tr:Nat->qN)(j:Nat):Prop:=∃o,ops[j]?=some o/\cw o.op=true/\aK ops o (tr j).s.V=some true
variable{C:bZ}{run:gw}{ops:Array Oper}{tr:Nat->qN}
theorem mA{k:Nat}(h:k<ops.size):∃o,ops[k]?=some o:=⟨ops[k],UC h⟩
theorem Lex.wf(L:Lex C run ops tr):∀k,k<=ops.size->(tr k).L0<=(tr k).s.h.length/\(tr k).own.length=(tr k).s.h.length - (tr k).L0/\∀j∈(tr k).own,j<k/\yk ops tr j:=by
 intro k
 induction k with
 |zero=>
  intro _
  obtain⟨h1,h2⟩:=L.o0;rw[h1,h2];exact⟨TI _,by simp,λj hj=>by cases hj⟩
 |succ k ih=>
  intro hk
  obtain⟨h1,h2,h3⟩:=ih (by omega);obtain⟨o,ho⟩:=mA (ops:=ops) (k:=k) (by omega);have aB:∀j∈(tr k).own,j<k+1/\yk ops tr j:=λj hj=>⟨by have:=(h3 j hj).1;omega,(h3 j hj).2⟩
  cases Hs h1 h2 (L.st k o ho)with
  |off _ hy=>rw[hy];exact⟨h1,h2,aB⟩
  |plain r hx _ _ _ hy=>rw[hy];exact⟨h1,h2,aB⟩
  |two r h' _ _ _ _ hy=>rw[hy];exact⟨TI _,by simp,λj hj=>by cases hj⟩
  |one r ext hw hh _ _ _ _ _ hy=>
   rw[hy];refine⟨by simp;omega,by simp;omega,λj hj=>?_⟩;rcases TP.1 hj with hj |hj;exact aB j hj
   ·obtain⟨_,rfl⟩:=Vv.1 hj;exact⟨by omega,o,ho,hh,hw⟩
theorem Lex.view(L:Lex C run ops tr){k:Nat}{o:Oper}(ho:ops[k]?=some o):uc C run ops k o (tr k) (tr (k+1)):=by
 have hk:k<ops.size:=(TY.1 ho).1;obtain⟨h1,h2,_⟩:=L.wf k (by omega);exact Hs h1 h2 (L.st k o ho)
theorem Lex.NO(L:Lex C run ops tr){k:Nat}{o:Oper}(ho:ops[k]?=some o):∃r,(tr (k+1)).s.V=bh (tr k).s.V o.dst r:=by
 cases L.view ho with
 |off _ hy=>exact⟨_,by rw[hy]⟩
 |plain r hx _ _ _ hy=>exact⟨_,by rw[hy]⟩
 |two r h' _ _ _ _ hy=>exact⟨_,by rw[hy]⟩
 |one r ext hw hh _ _ _ _ _ hy=>exact⟨_,by rw[hy]⟩
theorem Lex.iP(L:Lex C run ops tr){t:Nat}{i:Nat}:∀k,i<=k->k<=ops.size->(∀j o,i<=j->j<k->ops[j]?=some o->o.dst≠some t)->(tr k).s.V t=(tr i).s.V t:=by
 intro k
 induction k with
 |zero=>intro h1 _ _;obtain rfl:i=0:=(by omega);rfl
 |succ k ih=>
  intro h1 h2 h3
  by_cases hi:i=k+1
  subst hi;rfl
  ·obtain⟨o,ho⟩:=mA (ops:=ops) (k:=k) (by omega);obtain⟨r,hr⟩:=L.NO ho;rw[hr,kb,if_neg (h3 k o (by omega) (by omega) ho)];exact ih (by omega) (by omega) (λj o' a b c=>h3 j o' a (by omega) c)
theorem Lex.phase(L:Lex C run ops tr){i:Nat}:∀k,i<=k->k<=ops.size->(∀j,i<=j->j<k->¬(yk ops tr j/\level ops (before ops) j=2))->
  ∃ext nO,(tr k).s.h=(tr i).s.h++ext/\(tr k).L0=(tr i).L0/\(tr k).own=(tr i).own++nO/\nO.length=ext.length/\∀j∈nO,i<=j:=by
 intro k
 induction k with
 |zero=>intro h1 _ _;obtain rfl:i=0:=(by omega);exact⟨[],[],by simp,rfl,by simp,rfl,λj hj=>by cases hj⟩
 |succ k ih=>
  intro h1 h2 h3
  by_cases hi:i=k+1
  subst hi;exact⟨[],[],by simp,rfl,by simp,rfl,λj hj=>by cases hj⟩
  ·obtain⟨ext,nO,e1,e2,e3,e4,e5⟩:=ih (by omega) (by omega) (λj a b=>h3 j a (by omega));obtain⟨o,ho⟩:=mA (ops:=ops) (k:=k) (by omega)
   cases L.view ho with
   |off _ hy=>rw[hy];exact⟨ext,nO,e1,e2,e3,e4,e5⟩
   |plain r hx _ _ _ hy=>rw[hy];exact⟨ext,nO,e1,e2,e3,e4,e5⟩
   |two r h' hw hh hl _ hy=>exact absurd ⟨⟨o,ho,hh,hw⟩,hl⟩ (h3 k (by omega) (by omega))
   |one r DD hw hh _ _ _ _ _ hy=>
    rw[hy];refine⟨ext++DD,nO++List.replicate DD.length k,by simp[e1],e2,by simp[e3],by simp[e4],λj hj=>?_⟩;rcases TP.1 hj with hj |hj;exact e5 j hj;obtain⟨_,rfl⟩:=Vv.1 hj;omega
def Kh(tr:Nat->qN)(E:Nat->Bool)(k:Nat):aa:=bX E (tr k).L0 (tr k).own (tr k).s.h
structure sV(ops:Array Oper)(tr:Nat->qN)(N:Nat)(F:Nat->Prop)(w0:World)(h0:aa)(Y0:List (Nat×Nat))(E:Nat->Bool)(a:Act)(w:World)(k:Nat)(V:Nat->PV)(Y:List (Nat×Nat)):Prop where
 kn:k<=ops.size
 lo:∀j,yk ops tr j->E j=true->j<k
 hi:∀j,yk ops tr j->level ops (before ops) j=2->j<k->E j=true
 base:h0.length<=(tr k).L0
 hr:aG w F Y (Kh tr E k)
 er:fc w (Av F (Kh tr E k) Y) Y (Kh tr E k) a V
 rh:∀t k',k'<=ops.size->(∀j o,ops[j]?=some o->o.dst=some t->(E j=true↔j<k'))->V t=(tr k').s.V t
 sp:cP w0 h0 Y0 w (Kh tr E k) Y
 df:a.defers=[]
 sz:N<=a.tmps.size
variable{N:Nat}{F:Nat->Prop}{w0:World}{h0:aa}{Y0:List (Nat×Nat)}{E:Nat->Bool}{a:Act}{w:World}
theorem sV.Om(L:Lex C run ops tr){k:Nat}{V:Nat->PV}{Y:List (Nat×Nat)}(D:sV ops tr N F w0 h0 Y0 E a w k V Y)(hk:k<ops.size)(hn:¬(yk ops tr k/\level ops (before ops) k=2)):
  ∃Y',sV ops tr N F w0 h0 Y0 E a w (k+1) V Y':=by
 obtain⟨o,ho⟩:=mA (ops:=ops) hk
 have hE:yk ops tr k->E k=false:=λhr=>by
  cases he:E k with
  |false=>rfl
  |true=>have:=D.lo k hr he;omega
 have ud:∀j,yk ops tr j->E j=true->j<k+1:=λj h1 h2=>by have:=D.lo j h1 h2;omega
 have ue:∀j,yk ops tr j->level ops (before ops) j=2->j<k+1->E j=true:=λj h1 h2 h3=>by
  by_cases hj:j=k
  subst hj;exact absurd ⟨h1,h2⟩ hn;exact D.hi j h1 h2 (by omega)
 have same:(tr (k+1)).s.h=(tr k).s.h->(tr (k+1)).L0=(tr k).L0->(tr (k+1)).own=(tr k).own->∃Y',sV ops tr N F w0 h0 Y0 E a w (k+1) V Y':=λe1 e2 e3=>by
  have hK:Kh tr E (k+1)=Kh tr E k:=by unfold Kh;rw[e1,e2,e3]
  exact⟨Y,⟨hk,ud,ue,by rw[e2];exact D.base,by rw[hK];exact D.hr,by rw[hK];exact D.er,D.rh,by rw[hK];exact D.sp,D.df,D.sz⟩⟩
 cases L.view ho with
 |off _ hy=>exact same (by rw[hy]) (by rw[hy]) (by rw[hy])
 |plain r hx _ _ _ hy=>exact same (by rw[hy]) (by rw[hy]) (by rw[hy])
 |two r h' hw hh hl _ hy=>exact absurd ⟨⟨o,ho,hh,hw⟩,hl⟩ hn
 |one r ext hw hh _ _ _ _ _ hy=>
  obtain⟨w1,w2,_⟩:=L.wf k (by omega);have On:=hE ⟨o,ho,hh,hw⟩
  have hK:Kh tr E (k+1)=Kh tr E k++List.zipWith (λo j=>if E j then o else gQ o) ext (List.replicate ext.length k):=by
   unfold Kh;rw[hy];exact oQ w1 w2
  have Rx:∀o∈List.zipWith (λo j=>if E j then o else gQ o) ext (List.replicate ext.length k),o.mu=.x:=by
   intro o ho
   obtain⟨i,hi⟩:=UN ho;rw[U4]at hi
   cases h1:ext[i]? with
   |none=>rw[h1]at hi;simp at hi
   |some y=>
    have cx:=ae h1;rw[h1,show(List.replicate ext.length k)[i]?=some k by simp[cx]]at hi;simp[On]at hi;subst hi
    rfl
  obtain⟨P1,P2⟩:=D.hr.pad (List.zipWith (λo j=>if E j then o else gQ o) ext (List.replicate ext.length k)) (List.replicate ext.length (0,0)) (by simp) Rx;rw[<-hK]at P1 P2;refine⟨_,⟨hk,ud,ue,by rw[hy];exact D.base,P1,D.er.mono P2,D.rh,D.sp.trans P2,D.df,D.sz⟩⟩
theorem sV.FM(L:Lex C run ops tr){V:Nat->PV}:∀(d:Nat) {k:Nat} {Y:List (Nat×Nat)},sV ops tr N F w0 h0 Y0 E a w k V Y->k+d<=ops.size->(∀j,k<=j->j<k+d->¬(yk ops tr j/\level ops (before ops) j=2))->
  ∃Y',sV ops tr N F w0 h0 Y0 E a w (k+d) V Y'
 |0,k,Y,D,_,_=>⟨Y,D⟩
 |d+1,k,Y,D,h1,h2=>by
  obtain⟨Y1,D1⟩:=D.Om L (by omega) (h2 k (TI _) (by omega));obtain⟨Y2,D2⟩:=sV.FM L d D1 (by omega) (λj a b=>h2 j (by omega) (by omega));exact⟨Y2,by rw[show k+(d+1)=k+1+d by omega];exact D2⟩
end Go.Pm
namespace Go.Pm
variable[iD:Inhabited Prop]
variable{C:bZ}{run:gw}{ops:Array Oper}{tr:Nat->qN}
variable{N:Nat}{F:Nat->Prop}{w0:World}{h0:aa}{Y0:List (Nat×Nat)}{E E':Nat->Bool}{a:Act}{w:World}
def ry(ops:Array Oper)(tr:Nat->qN)(N:Nat)(F:Nat->Prop)(w0:World)(h0:aa)(Y0:List (Nat×Nat))(E:Nat->Bool)(a:Act)(w:World):Prop:=∃k V Y,sV ops tr N F w0 h0 Y0 E a w k V Y
theorem jO{o o':Oper}{t:Nat}(h1:o'.dst=some t)(h2:t∈o.looksAt ops\/o.dst=some t):Bu ops o o'=true:=by
 unfold Bu;rw[h1];rcases h2 with h2 |h2;simp[h2];simp[h2]
structure v7(ops:Array Oper)(E E':Nat->Bool)(i:Nat)(o:Oper):Prop where
 at_:ops[i]?=some o
 out:E i=false
 Fc:∀j,pI ops i j->E j=true
 cl:∀i j,E i=true->pI ops i j->E j=true
 kS:∀j,E' j=true↔E j=true\/j=i
theorem v7.later{i j:Nat}{o:Oper}(R:v7 ops E E' i o)(h:pI ops j i):E j=false:=by
 cases he:E j with
 |false=>rfl
 |true=>have:=R.cl j i he h;rw[R.out]at this;cases this
theorem sV.look(L:Lex C run ops tr){k:Nat}{V:Nat->PV}{Y:List (Nat×Nat)}(D:sV ops tr N F w0 h0 Y0 E a w k V Y){i:Nat}{o:Oper}(R:v7 ops E E' i o){t:Nat}(ht:t∈o.looksAt ops):V t=(tr i).s.V t:=by
 have hi:i<ops.size:=(TY.1 R.at_).1;refine D.rh t i (by omega) (λj o' hj hd=>?_);rcases VA j i with h |h |h;exact⟨λ_=>h,λ_=>R.Fc j ((dq L.ok).2 i j o o' R.at_ hj h (.inl (jO hd (.inl ht))))⟩;subst h;rw[R.out];simp
 ·have:=R.later ((dq L.ok).2 j i o' o hj R.at_ h (.inr (jO hd (.inl ht))));rw[this]
  constructor
  intro hh;cases hh
  intro hh;omega
theorem sV.C3(L:Lex C run ops tr){k:Nat}{V:Nat->PV}{Y:List (Nat×Nat)}(D:sV ops tr N F w0 h0 Y0 E a w k V Y){i:Nat}{o:Oper}(R:v7 ops E E' i o):∀x∈o.op.operands.toList,ev V x=ev (tr i).s.V x:=by
 intro x hx
 cases x with
 |tmp t=>exact D.look L R (List.mem_append_left _ (List.mem_filterMap.2 ⟨.tmp t,hx,rfl⟩))
 |_=>rfl
theorem sV.Ap(L:Lex C run ops tr){k:Nat}{V:Nat->PV}{Y:List (Nat×Nat)}(D:sV ops tr N F w0 h0 Y0 E a w k V Y){i:Nat}{o:Oper}(R:v7 ops E E' i o):aK ops o V=aK ops o (tr i).s.V:=by
 unfold aK
 cases hg:o.guard with
 |none=>rfl
 |some jw=>
  obtain⟨j,want⟩:=jw;simp only
  cases hd:(ops.toList[j]?).bind (·.dst)with
  |none=>rfl
  |some d=>
   have CD:(ops[j]?).bind (·.dst)=some d:=by simpa using hd
   have:V d=(tr i).s.V d:=D.look L R (List.mem_append_right _ (by simp[hg,CD]));simp only[this]
theorem sV.Oo(L:Lex C run ops tr){k:Nat}{V:Nat->PV}{Y:List (Nat×Nat)}(D:sV ops tr N F w0 h0 Y0 E a w k V Y){i:Nat}{o:Oper}(R:v7 ops E E' i o){r:PV}(hr:(tr (i+1)).s.V=bh (tr i).s.V o.dst r):
  ∀t k',k'<=ops.size->(∀j o,ops[j]?=some o->o.dst=some t->(E' j=true↔j<k'))->bh V o.dst r t=(tr k').s.V t:=by
 intro t k' hk hw
 rw[kb]
 split
 ·rename_i ht
  have yC:i<k':=(hw i o R.at_ ht).1 ((R.kS i).2 (.inr rfl));rw[L.iP (t:=t) (i:=i+1) k' yC hk (λj o' h1 h2 h3 h4=>?_),hr,kb,if_pos ht];have he:=(hw j o' h3 h4).2 h2;rcases(R.kS j).1 he with he |he
  ·rw[R.later ((dq L.ok).2 j i o' o h3 R.at_ (by omega) (.inl (jO ht (.inr h4))))]at he
   cases he
  omega
 ·rename_i ht
  refine D.rh t k' hk (λj o' h1 h2=>?_)
  have yD:j≠i:=by
   rintro rfl;rw[R.at_]at h1;obtain rfl:=TF h1;exact ht h2
  rw[<-hw j o' h1 h2,R.kS];simp[yD]
theorem sV.still(L:Lex C run ops tr){k:Nat}{V:Nat->PV}{Y:List (Nat×Nat)}(D:sV ops tr N F w0 h0 Y0 E a w k V Y){i:Nat}{o:Oper}(R:v7 ops E E' i o)(hd:dB N o=true)(hn:¬yk ops tr i)
  {r:PV} (hr:(tr (i+1)).s.V=bh (tr i).s.V o.dst r) {v:Value} (hv:ar w (Av F (Kh tr E k) Y) Y (Kh tr E k) v r):ry ops tr N F w0 h0 Y0 E' (a.put o.dst v) w:=by
 have hK:Kh tr E' k=Kh tr E k:=by
  unfold Kh;refine pM (λj hj=>?_)
  have yD:j≠i:=by
   rintro rfl;exact hn ((L.wf k D.kn).2.2 j hj).2
  have:=R.kS j;simp only[yD,or_false]at this
  cases h1:E j <;>cases h2:E' j <;>simp_all
 refine⟨k,bh V o.dst r,Y,D.kn,?_,?_,D.base,by rw[hK];exact D.hr,by rw[hK];exact D.er.put (dK hd D.sz) hv,D.Oo L R hr,by rw[hK];exact D.sp,by rw[bN];exact D.df,by rw[cq];exact D.sz⟩
 ·intro j h1 h2
  rcases(R.kS j).1 h2 with h2 |rfl;exact D.lo j h1 h2;exact absurd h1 hn
 ·intro j h1 h2 h3
  exact(R.kS j).2 (.inl (D.hi j h1 h2 h3))
theorem ar.DE{A:Nat->Prop}{Y:List (Nat×Nat)}{M:aa}{v:Value}{p:PV}(f:Nat->Bool)(h:br f p=true->ar w A Y M v p):ar w A Y M v (if br f p then p else .any):=by
 split
 ·rename_i hv;exact h hv
 exact .any v
theorem ry.step(K:cj C)(S:ch C run)(L:Lex C run ops tr)(D:ry ops tr N F w0 h0 Y0 E a w){i:Nat}{o:Oper}(R:v7 ops E E' i o)(hd:dB N o=true)
  {Q:Exit->Act->World->Prop} {next:Act->World->Prop} (hK:∀a' w',ry ops tr N F w0 h0 Y0 E' a' w'->next a' w'):wpOp C.P ops Q i next a w:=by
 obtain⟨k,V,Y,D⟩:=D;have hi:i<ops.size:=(TY.1 R.at_).1;have iq:=D.Ap L R;have qb:=D.C3 L R;have gC:∀lv h,ak C run lv o.op V h=ak C run lv o.op (tr i).s.V h:=λlv h=>jn qb
 unfold wpOp;rw[R.at_];simp only;obtain⟨Nr,Lw,Oq⟩:=L.wf i (by omega)
 cases L.view R.at_ with
 |off hw hy=>
  rw[bU D.er (by rw[iq];exact hw),if_neg (by simp)];refine hK _ _ (D.still L R hd ?_ (by rw[hy]) .undef);rintro⟨o',h1,h2,h3⟩;rw[R.at_]at h1;obtain rfl:=TF h1;rw[hw]at h3;cases h3
 |plain r hx hw hh hv hy=>
  rw[bU D.er (by rw[iq];exact hw),if_pos rfl];refine .inl ?_
  have hn:¬yk ops tr i:=by
   rintro⟨o',h1,h2,h3⟩;rw[R.at_]at h1;obtain rfl:=TF h1;rw[hh]at h2;cases h2
  have e:ak C run 1 o.op V (Kh tr E k)=some (r,Kh tr E k):=by
   rw[gC];exact lf hh hv
  refine fV K S D.hr D.er e (λv w' Y' q1 q2 q3 q4=>?_);have G:=q4 (TI 1);have D':sV ops tr N F w0 h0 Y0 E a w' k V Y':=⟨D.kn,D.lo,D.hi,D.base,q2,D.er.mono q3,D.rh,D.sp.trans q3,D.df,D.sz⟩;exact hK _ _ (D'.still L R hd hn (by rw[hy]) q1)
 |two r h' hw hh hl hv hy=>
  rw[bU D.er (by rw[iq];exact hw),if_pos rfl];refine .inl ?_;have yE:yk ops tr i:=⟨o,R.at_,hh,hw⟩
  have Ig:k<=i:=by
   rcases T8 i k with h |h;have:=D.hi i yE hl h;rw[R.out]at this;cases this;exact h
  have anc_of:∀j,yk ops tr j->j<i->E j=true:=λj hj cx=>by
   obtain⟨oj,g1,g2,_⟩:=hj;rcases mZ hl g1 g2 with h |h |h;omega;exact R.Fc j h;have:=mS L.ok j i h;omega
  obtain⟨Y1,D1⟩:=D.FM L (i - k) (by omega) (λj h1 h2 h3=>by
   have:=D.lo j h3.1 (anc_of j h3.1 (by omega));omega)
  rw[show k+(i - k)=i by omega]at D1;have Ry:Kh tr E i=(tr i).s.h:=jT Lw (λj hj=>anc_of j (Oq j hj).2 (Oq j hj).1);have PZ:=D1.hr;have Ot:=D1.er;have Ou:=D1.sp;rw[Ry]at PZ Ot Ou;refine fV K S PZ Ot (by rw[gC];exact hv) (λv w' Y' q1 q2 q3 q4=>hK _ _ ?_)
  have Ih:Kh tr E' (i+1)=h':=by
   unfold Kh;rw[hy];exact jT (by simp) (λj hj=>by cases hj)
  refine⟨i+1,bh V o.dst r,Y',by omega,?_,?_,?_,by rw[Ih];exact q2,by rw[Ih];exact(Ot.mono q3).put (dK hd D.sz) q1,D.Oo L R (by rw[hy]),by rw[Ih];exact Ou.trans q3,by rw[bN];exact D.df,by rw[cq];exact D.sz⟩
  ·intro j h1 h2
   rcases(R.kS j).1 h2 with h2 |rfl;have:=D1.lo j h1 h2;omega;omega
  ·intro j h1 h2 h3
   by_cases hj:j=i
   exact(R.kS j).2 (.inr hj);exact(R.kS j).2 (.inl (anc_of j h1 (by omega)))
  ·rw[hy];have:=(Ou.trans q3).len;exact this
 |one r ext hw hh hl eJ Bm hv v8 hy=>
  rw[bU D.er (by rw[iq];exact hw),if_pos rfl];refine .inl ?_;have yE:yk ops tr i:=⟨o,R.at_,hh,hw⟩
  obtain⟨k,Y,D,yC⟩:∃k Y,sV ops tr N F w0 h0 Y0 E a w k V Y/\i<k:=by
   rcases T8 i k with h |h;exact⟨k,Y,D,h⟩
   ·obtain⟨Y1,D1⟩:=D.FM L (i+1 - k) (by omega) (λj h1 h2 h3=>by
     obtain⟨⟨oj,g1,g2,g3⟩,g4⟩:=h3
     by_cases hj:j=i
     subst hj;exact hl g4
     ·rcases mZ g4 R.at_ hh with h5 |h5 |h5
      ·omega
      ·have:=mS L.ok j i h5;omega
      ·have:=D.lo j ⟨oj,g1,g2,g3⟩ (R.Fc j h5);omega)
    exact⟨i+1,Y1,by rw[show i+1=k+(i+1 - k) by omega];exact D1,by omega⟩
  have wP:∀j,i+1<=j->j<k->¬(yk ops tr j/\level ops (before ops) j=2):=λj h1 h2 h3=>by
   have he:=D.hi j h3.1 h3.2 h2;rcases mZ h3.2 R.at_ hh with h5 |h5 |h5;omega;rw[R.later h5]at he;cases he;have:=mS L.ok i j h5;omega
  obtain⟨DD,nO,p1,p2,p3,p4,p5⟩:=L.phase k yC D.kn wP;rw[hy]at p1 p2 p3;simp only at p1 p2 p3
  have wfx:(tr i).L0<=((tr i).s.h++ext).length/\((tr i).own++List.replicate ext.length i).length=((tr i).s.h++ext).length - (tr i).L0:=by
   refine⟨by simp;omega,by simp;omega⟩
  have P0:∀e:Nat->Bool,Kh tr e k=bX e (tr i).L0 (tr i).own (tr i).s.h++List.zipWith (λo j=>if e j then o else gQ o) ext (List.replicate ext.length i)++List.zipWith (λo j=>if e j then o else gQ o) DD nO:=λe=>by
   unfold Kh;rw[p1,p2,p3,oQ wfx.1 wfx.2,oQ Nr Lw]
  have IF:∀j∈(tr i).own,E j=E' j:=λj hj=>by
   have yD:j≠i:=by have:=(Oq j hj).1;omega
   have:=R.kS j;simp only[yD,or_false]at this
   cases h1:E j <;>cases h2:E' j <;>simp_all
  have IG:∀j∈nO,E j=E' j:=λj hj=>by
   have yD:j≠i:=by have:=p5 j hj;omega
   have:=R.kS j;simp only[yD,or_false]at this
   cases h1:E j <;>cases h2:E' j <;>simp_all
  have hA:=P0 E;have hB:=P0 E';rw[<-pM IF,<-oR DD nO IG,vn (e:=E') ext (List.replicate ext.length i) (by simp) (λj hj=>by obtain⟨_,rfl⟩:=Vv.1 hj;exact(R.kS j).2 (.inr rfl))]at hB;have Ht:(bX E (tr i).L0 (tr i).own (tr i).s.h).length=(tr i).s.h.length:=oP Nr Lw;have Kq:(bX ((before ops).getD i 0).testBit (tr i).L0 (tr i).own (tr i).s.h).length=(tr i).s.h.length:=oP Nr Lw;have P3:(List.zipWith (λo j=>if E j then o else gQ o) ext (List.replicate ext.length i)).length=ext.length:=by simp
  have atA:∀id,id<(tr i).s.h.length->(Kh tr E k)[id]?=(bX E (tr i).L0 (tr i).own (tr i).s.h)[id]?:=λid bE=>by
   rw[hA,UB,TG (by omega)]
  have hM:∀(id:Nat) (o:aC),(bX ((before ops).getD i 0).testBit (tr i).L0 (tr i).own (tr i).s.h)[id]?=some o->o.mu≠.x->(Kh tr E k)[id]?=some o:=by
   intro id o e1 e2
   have bE:id<(tr i).s.h.length:=by have:=ae e1;omega
   rw[atA id bE];rw[Bv Nr Lw]at e1 ⊢
   split at e1
   ·rename_i FC;rw[if_pos FC];exact e1
   ·rename_i FC
    rw[if_neg FC]
    cases ho:(tr i).s.h[id]? with
    |none=>rw[ho]at e1;cases e1
    |some o1=>
     rw[ho]at e1;simp only[TO,Ue]at e1 ⊢
     split at e1
     ·rename_i hb
      rw[if_pos (R.Fc _ hb)];exact e1
     subst e1;exact absurd rfl e2
  obtain⟨HM,VM⟩:=D.hr.part (M:=bX ((before ops).getD i 0).testBit (tr i).L0 (tr i).own (tr i).s.h) (by rw[Kq,hA];simp[Ht]) hM eJ
  have erM:fc w (Av (Fp F Y (Kh tr E k) (bX ((before ops).getD i 0).testBit (tr i).L0 (tr i).own (tr i).s.h)) (bX ((before ops).getD i 0).testBit (tr i).L0 (tr i).own (tr i).s.h) (Y.take (bX ((before ops).getD i 0).testBit (tr i).L0 (tr i).own (tr i).s.h).length))
    (Y.take (bX ((before ops).getD i 0).testBit (tr i).L0 (tr i).own (tr i).s.h).length) (bX ((before ops).getD i 0).testBit (tr i).L0 (tr i).own (tr i).s.h) a
    (λt=>if br (aI (bX ((before ops).getD i 0).testBit (tr i).L0 (tr i).own (tr i).s.h)) (V t)then V t else .any):=λt=>ar.DE _ (λhv=>VM _ _ (D.er t) hv)
  have eM:ak C run 1 o.op (λt=>if br (aI (bX ((before ops).getD i 0).testBit (tr i).L0 (tr i).own (tr i).s.h)) (V t)then V t else .any) (bX ((before ops).getD i 0).testBit (tr i).L0 (tr i).own (tr i).s.h)=
    some (r,bX ((before ops).getD i 0).testBit (tr i).L0 (tr i).own (tr i).s.h++ext):=by
   rw[<-hv];refine jn (λx hx=>?_);have h1:=Bm x hx;have h2:=qb x hx
   cases x with
   |tmp t=>
    simp only[ev]at h1 h2 ⊢;rw[h2,if_pos h1]
   |_=>rfl
  refine fV K S HM erM eM (λv w' Y1 q1 q2 q3 q4=>hK _ _ ?_);have G:=q4 (TI 1)
  have cx:∀id,(tr i).s.h.length<=id->id<(tr i).s.h.length+ext.length->(Kh tr E k)[id]?=(List.zipWith (λo j=>if E j then o else gQ o) ext (List.replicate ext.length i))[id - (tr i).s.h.length]?/\(Kh tr E' k)[id]?=ext[id - (tr i).s.h.length]?:=λid h1 h2=>by
   constructor
   rw[hA,TG (by rw[T0,Ht,P3];omega),TQ (by omega),Ht];rw[hB,TG (by rw[T0,Ht];omega),TQ (by omega),Ht]
  obtain⟨Y',m1,m2,m3,m4,m5,m6⟩:=D.hr.merge (h':=Kh tr E' k) (by rw[Kq,hA];simp[Ht]) hM q2 q3 G v8 (by rw[hA,hB];simp)
   (λid h1 h2=>by rw[Kq]at h1 h2 ⊢;exact(cx id h1 h2).2)
   (λid h1=>by
    rw[Kq]at h1;rcases h1 with h1 |h1;rw[atA id h1,hB,UB,TG (by omega)]
    ·rw[hA,hB,TQ (by rw[T0,Ht];omega),TQ (by rw[T0,Ht,P3];omega)];simp)
   (λid o h1 h2 h3=>by
    rw[Kq]at h1 h2;rw[(cx id h1 h2).1,U4]at h3
    cases h4:ext[id - (tr i).s.h.length]? with
    |none=>rw[h4]at h3;simp at h3
    |some y=>
     have:=ae h4;rw[h4,show(List.replicate ext.length i)[id - (tr i).s.h.length]?=some i by simp[this]]at h3;simp[R.out]at h3;subst h3
     rfl)
  have IH:h0.length<=(tr i).s.h.length:=by
   have:=D.base;rw[p2]at this;omega
  refine⟨k,bh V o.dst r,Y',D.kn,?_,?_,D.base,m1,?_,D.Oo L R (by rw[hy]),?_,by rw[bN];exact D.df,by rw[cq];exact D.sz⟩
  ·intro j h1 h2
   rcases(R.kS j).1 h2 with h2 |rfl;exact D.lo j h1 h2;exact yC
  ·intro j h1 h2 h3
   exact(R.kS j).2 (.inl (D.hi j h1 h2 h3))
  exact fc.put (λt=>(D.er t).F9 m2 (λb hb _=>G.aB b hb) m3) (dK hd D.sz) (m6 _ _ q1)
  ·refine⟨T' D.sp.size G.size,?_,?_,?_,D.sp.refs.trans m2,?_,G.os.trans D.sp.os,G.tape.trans D.sp.tape,G.output.trans D.sp.output,λd=>T' (D.sp.drawn d) (G.drawn d)⟩
   ·have h1:=D.sp.len;rw[hA]at h1;rw[hB];simp at h1 ⊢;omega
   ·intro b hb hm
    rw[G.aB b (T4 hb D.sp.size)];exact D.sp.aB b hb hm
   ·intro b hb hm
    exact D.sp.shr b hb (m4 b (T4 hb D.sp.size) hm)
   ·intro id o e1 e2
    obtain⟨f1,f2⟩:=D.sp.Bg id o e1 e2;have bE:id<(tr i).s.h.length:=by have:=ae e1;omega
    refine⟨?_,by rw[m5 id (by rw[Kq];exact bE)];exact f2⟩;rw[<-f1,atA id bE,hB,UB,TG (by omega)]
theorem uf{p q:Nat->Bool}:∀(l:List Nat),(∀j∈l,q j=true->p j=true)->(∃i∈l,p i=true/\q i=false)->l.countP q<l.countP p
 |[],_,⟨i,h,_⟩=>by cases h
 |j::l,h1,⟨i,h2,h3,h4⟩=>by
  have le:l.countP q<=l.countP p:=List.countP_mono_left (λj hj=>h1 j (by simp[hj]));rcases TW.1 h2 with rfl |h2;rw[VF,VF,h3,h4];simp;omega
  ·have:=uf l (λj hj=>h1 j (by simp[hj])) ⟨i,h2,h3,h4⟩;rw[VF,VF];have hj:=h1 j (by simp)
   cases hq:q j with
   |false=>simp;omega
   |true=>rw[hj hq];simp;omega
theorem ry.done(L:Lex C run ops tr)(D:ry ops tr N F w0 h0 Y0 E a w)(hE:∀j,j<ops.size->E j=true):∃Y,SR N w F Y (tr ops.size).s a/\cP w0 h0 Y0 w (tr ops.size).s.h Y:=by
 obtain⟨k,V,Y,D⟩:=D
 obtain⟨Y1,D1⟩:=D.FM L (ops.size - k) (by have:=D.kn;omega) (λj h1 h2 h3=>by
  have:=D.lo j h3.1 (hE j (by have:=D.kn;omega));omega)
 rw[show k+(ops.size - k)=ops.size by have:=D.kn;omega]at D1;obtain⟨w1,w2,w3⟩:=L.wf ops.size (TI _);have hK:Kh tr E ops.size=(tr ops.size).s.h:=jT w2 (λj hj=>hE j (w3 j hj).1)
 have hV:V=(tr ops.size).s.V:=by
  funext t
  refine D1.rh t ops.size (TI _) (λj o hj _=>?_);have:j<ops.size:=(TY.1 hj).1;simp[hE j this,this]
 have h1:=D1.hr;have h2:=D1.er;have h3:=D1.sp;rw[hK]at h1 h2 h3;rw[hV]at h2;exact⟨Y1,⟨h1,h2,D1.df,D1.sz⟩,h3⟩
theorem oE(ok:fT ops=true)(Inv:(Nat->Bool)->Act->World->Prop){Q:Exit->Act->World->Prop}
  (Lx:∀(E E':Nat->Bool) (a:Act) (w:World) (i:Nat) (o:Oper),Inv E a w->v7 ops E E' i o->∀next:Act->World->Prop,(∀a' w',Inv E' a' w'->next a' w')->wpOp C.P ops Q i next a w)
  (Ly:∀(E:Nat->Bool) (a:Act) (w:World),Inv E a w->(∀j,j<ops.size->E j=true)->Q .normal a w):
  ∀(fuel:Nat) (listed:Array Bool) (a:Act) (w:World),listed.size=ops.size->(∀(i:Nat) (o:Oper),ops[i]?=some o->listed.getD i false=true->∀e∈yn o,listed.getD e.on false=true)->
   (List.range ops.size).countP (λj=>!listed.getD j false)<=fuel->Inv (λj=>listed.getD j false) a w->wpAny C.P .any ops Q fuel listed a w:=by
 have all_of:∀(listed:Array Bool),listed.size=ops.size->Region.ready .any ops listed=[]->∀j,j<ops.size->listed.getD j false=true:=by
  intro listed hs hr j
  induction j using Nat.strongRecOn with
  |ind j ih=>
   intro hj
   obtain⟨o,ho⟩:=mA (ops:=ops) hj
   cases hl:listed.getD j false with
   |true=>rfl
   |false=>
    have hm:j∈Region.ready .any ops listed:=mem_ready.2 ⟨by simp[hs,hj]at hl ⊢;exact hl,o,ho,λe he hb=>by
     have cx:=(dq ok).1 j o ho e (Vs.2 ⟨by simpa using he,hb⟩);exact ih e.on cx (by omega)⟩
    rw[hr]at hm;cases hm
 have fin:∀(listed:Array Bool) (a:Act) (w:World),(∀j,j<ops.size->listed.getD j false=true)->Inv (λj=>listed.getD j false) a w->Q .normal a w:=λlisted a w cZ D=>Ly _ a w D cZ
 intro fuel
 induction fuel with
 |zero=>
  intro listed a w hs hc hn D
  have cZ:∀j,j<ops.size->listed.getD j false=true:=λj hj=>by
   have h0:=List.countP_eq_zero.1 (Nat.le_zero.1 hn) j (VU.2 hj);simpa using h0
  refine⟨?_,fin listed a w cZ D⟩;apply List.eq_nil_iff_forall_not_mem.2
  intro j hj
  obtain⟨h1,o,h2,_⟩:=mem_ready.1 hj;have P4:j<ops.size:=(TY.1 h2).1;have:=cZ j P4;simp[hs,P4]at h1 this;rw[h1]at this;cases this
 |succ fuel ih=>
  intro listed a w hs hc hn D
  refine⟨λhr=>fin listed a w (all_of listed hs hr) D,λi hi=>?_⟩;obtain⟨h1,o,h2,h3⟩:=mem_ready.1 hi;have Ov:i<ops.size:=(TY.1 h2).1;have oS:listed.getD i false=false:=by simp[hs,Ov]at h1 ⊢;exact h1
  have eJ:=yZ ok (E:=λj=>listed.getD j false) hc
  have DF:∀e∈yn o,listed.getD e.on false=true:=λe he=>by
   have:=Vs.1 he;exact h3 e (by simpa using this.1) this.2
  have Ga:∀j,pI ops i j->listed.getD j false=true:=λj hj=>by
   obtain⟨o',g1,e,g2,g3⟩:=ru hj;rw[h2]at g1;obtain rfl:=TF g1;rcases g3 with rfl |g3;exact DF e g2;exact eJ e.on j (DF e g2) g3
  have DG:∀j,(listed.setIfInBounds i true).getD j false=true↔listed.getD j false=true\/j=i:=λj=>by
   by_cases hj:i=j
   subst hj;simp[hs,Ov];rw[getD_set_ne false hj];simp[Um hj]
  refine Lx _ (λj=>(listed.setIfInBounds i true).getD j false) a w i o D ⟨h2,oS,Ga,eJ,DG⟩ _ (λa' w' D'=>?_);refine ih (listed.setIfInBounds i true) a' w' (by simp[hs]) (λj o' hj hl e he=>?_) ?_ D'
  ·refine(DG e.on).2 (.inl ?_);rcases(DG j).1 hl with hl |rfl;exact hc j o' hj hl e he
   ·rw[h2]at hj;obtain rfl:=TF hj;exact DF e he
  ·have:=uf (p:=λj=>!listed.getD j false) (q:=λj=>!(listed.setIfInBounds i true).getD j false) (List.range ops.size) (λj _ hq=>by
    cases hl:listed.getD j false with
    |false=>rfl
    |true=>have:=(DG j).2 (.inl hl);simp[this]at hq) ⟨i,VU.2 Ov,by simp[oS],by simp[(DG i).2 (.inr rfl)]⟩
   omega
theorem Bw(K:cj C)(S:ch C run)(L:Lex C run ops tr)(hd:ops.toList.all (dB N)=true){Q:Exit->Act->World->Prop}
  (hQ:∀a w Y,SR N w F Y (tr ops.size).s a->cP w0 h0 Y0 w (tr ops.size).s.h Y->Q .normal a w):
  ∀(fuel:Nat) (listed:Array Bool) (a:Act) (w:World),listed.size=ops.size->(∀(i:Nat) (o:Oper),ops[i]?=some o->listed.getD i false=true->∀e∈yn o,listed.getD e.on false=true)->
   (List.range ops.size).countP (λj=>!listed.getD j false)<=fuel->ry ops tr N F w0 h0 Y0 (λj=>listed.getD j false) a w->wpAny C.P .any ops Q fuel listed a w:=
 oE L.ok (λE a w=>ry ops tr N F w0 h0 Y0 E a w)
  (λE E' a w i o D R next hK=>ry.step K S L D R (TH.1 hd o (VJ.2 (UL R.at_))) hK)
  (λE a w D cZ=>by obtain⟨Y,h1,h2⟩:=D.done L cZ;exact hQ a w Y h1 h2)
theorem getD_none(n j:Nat):(Array.replicate n false).getD j false=false:=by
 simp only[Ui,UO]
 split <;>rfl
theorem y8(K:cj C)(S:ch C run)(hm:C.P.follows .mixedOrders=true){id:Nat}{Q:Exit->Act->World->Prop}(hd:ops.toList.all (dB N)=true)(hk:fT ops=true){Y:List (Nat×Nat)}{s:St}{y:qN}(R:SR N w F Y s a)
  (e:cB C run ops (before ops) 0 ops.toList ⟨s,s.h.length,[]⟩=some y) (hQ:∀a' w' Y',SR N w' F Y' y.s a'->cP w s.h Y w' y.s.h Y'->Q .normal a' w'):(Code.region id ops true).wp C.P Q a w:=by
 obtain⟨tr,t1,t2,t3⟩:=iX ops.toList 0 _ _ e;have L:Lex C run ops tr:=⟨hk,λi o ho=>by simpa using t2 i o (by simpa using ho),by rw[t1];exact TI _,by rw[t1];exact⟨rfl,rfl⟩⟩;have Kf:tr ops.size=y:=by simpa using t3
 refine wp_region_any hm (Bw (w0:=w) (h0:=s.h) (Y0:=Y) K S L hd (F:=F) (λa' w' Y' R' S'=>by rw[Kf]at R' S';exact hQ a' w' Y' R' S') ops.size _ a _ (by simp) (λi o ho hl=>by rw[getD_none]at hl;cases hl) ?_ ?_);refine T' (VH) (by simp)
 ·have hE:∀j,(Array.replicate ops.size false).getD j false=false:=λj=>getD_none _ j
  have hK:Kh tr (λj=>(Array.replicate ops.size false).getD j false) 0=s.h:=by
   unfold Kh;rw[t1];exact jT (by simp) (λj hj=>by cases hj)
  have G:cc w {w with drawn:=w.drawn+1}:=cc.drew w;refine⟨0,s.V,Y,⟨UG _,λj _ h=>(by rw[hE]at h;cases h),λj _ _ h=>by omega,by rw[t1];exact TI _,by rw[hK];exact R.hr.uY G,by rw[hK];exact R.er.mono (G.pG s.h Y),?_,by rw[hK];exact G.pG s.h Y,R.df,R.sz⟩⟩
  intro t k' fv hw
  rw[L.iP (t:=t) (i:=0) k' (UG _) fv (λj o h1 h2 h3 h4=>by
   have:=(hw j o h3 h4).2 h2;rw[hE]at this;cases this),t1]
end Go.Pm
