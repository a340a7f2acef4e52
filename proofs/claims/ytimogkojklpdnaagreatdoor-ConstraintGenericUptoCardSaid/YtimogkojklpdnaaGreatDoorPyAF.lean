/-
  Pm, a part. Conditions: none.
-/
import Derived.Test.YtimogkojklpdnaaGreatDoorPyAE
import Derived.LoopN
import Derived.Scope
set_option linter.unusedVariables false
set_option linter.unusedSimpArgs false
set_option linter.unnecessarySimpa false
set_option linter.unusedSectionVars false
namespace Go.Pm
variable[iD:Inhabited Prop]
variable{w:World}{F:Nat->Prop}{Z:List (Nat×Nat)}{h:ab}
theorem pZ{h:ab}{id:Nat}:aO h id=true↔∃o,h[id]?=some o/\o.mu≠.x:=by
 unfold aO
 cases h[id]? with
 |none=>simp
 |some o=>simp
theorem nD(f:Nat->Bool)(cs:List PV):bL f cs=cs.all (bw f):=by
 induction cs with
 |nil=>rfl
 |cons c r ih=>simp[bL,ih]
theorem aE.restrict{A A':Nat->Prop}{M:ab}{Z':List (Nat×Nat)}(hM:∀(id:Nat) (o:au),M[id]?=some o->o.mu≠.x->h[id]?=some o/\Z'[id]?=Z[id]?)(hA:∀b,A' b->A b)
  {v:Value} {p:PV} (r:aE w A Z h v p) (hv:bw (aO M) p=true):aE w A' Z' M v p:=by
 induction r with
 |val hs=>exact .val (hs.kL hA)
 |undef=>exact .undef
 |any v=>exact .any v
 |aj v id ep off len o bc h0 h1 h2 h3 h4 h5=>
  obtain⟨o',e1,e2⟩:=pZ.1 (by simpa[bw]using hv);obtain⟨f1,f2⟩:=hM id o' e1 e2;rw[h1]at f1;obtain rfl:=aa2 f1;exact .aj v id ep off len o bc h0 e1 (by rw[f2];exact h2) h3 h4 h5
 |ptr v id ep i off o bc h0 h1 h2 h3 h4 h5=>
  obtain⟨o',e1,e2⟩:=pZ.1 (by simpa[bw]using hv);obtain⟨f1,f2⟩:=hM id o' e1 e2;rw[h1]at f1;obtain rfl:=aa2 f1;exact .ptr v id ep i off o bc h0 e1 (by rw[f2];exact h2) h3 h4 h5
 |cM v id o bc h0 h1 h2 h3 h5=>
  obtain⟨o',e1,e2⟩:=pZ.1 (by simpa[bw]using hv);obtain⟨f1,f2⟩:=hM id o' e1 e2;rw[h1]at f1;obtain rfl:=aa2 f1;exact .cM v id o bc h0 e1 (by rw[f2];exact h2) h3 h5
 |agg vs cs hl _ ih=>exact .agg vs cs hl (λj hj=>ih j hj (by simp only[bw,nD]at hv;exact fJ hv hj))
 |cy vs cs hl _ ih=>exact .cy vs cs hl (λj hj=>ih j hj (by simp only[bw,nD]at hv;exact fJ hv hj))
 |fn f vs cs hl _ ih=>exact .fn f vs cs hl (λj hj=>ih j hj (by simp only[bw,nD]at hv;exact fJ hv hj))
 |nK f k vs cs hl _ ih=>exact .nK f k vs cs hl (λj hj=>ih j hj (by simp only[bw,nD]at hv;exact fJ hv hj))
theorem GL{f:Nat->Bool}{e q:PV}(hv:bw f e=true)(hq:q∈Pm.cells e):bw f q=true:=by
 cases e <;>first
  |(simp only[Pm.cells,abC]at hq;subst hq;exact hv)
  |(simp only[bw,nD]at hv;exact aa4.1 hv q hq)
theorem jK.to{w':World}{h':ab}{Z':List (Nat×Nat)}{A A':Nat->Prop}{o:au}{bc:Nat×Nat}(hb:w'.heap[bc.1]?=w.heap[bc.1]?)
  (r:jK w A Z h o bc) (hv:∀(v:Value) (e p:PV),e∈o.es->p∈Pm.cells e->aE w A Z h v p->aE w' A' Z' h' v p):jK w' A' Z' h' o bc:=by
 rcases r with⟨T,cs,h1,h2,h3,h4,h5⟩|⟨h0,es,clock,h1,h2,h3⟩
 ·refine .inl ⟨T,cs,hb.trans h1,h2,h3,h4,λi e he=>⟨(h5 i e he).1,λj p hp=>?_⟩⟩;obtain⟨v,k1,k2⟩:=(h5 i e he).2 j p hp;exact⟨v,k1,hv v e p (abh he) (abh hp) k2⟩
 ·refine .inr ⟨h0,es,clock,hb.trans h1,h2,λi e he=>?_⟩;obtain⟨k,v,m,q1,q2,q3,q4⟩:=h3 i e he;subst q1;exact⟨k,v,m,rfl,q2,hv _ _ _ (abh he) (by simp[Pm.cells]) q3,hv _ _ _ (abh he) (by simp[Pm.cells]) q4⟩
theorem ba.pad(H:ba w F Z h)(ext:ab)(γ:List (Nat×Nat))(hl:γ.length=ext.length)(hx:∀o∈ext,o.mu=.x):
  ba w F (Z++γ) (h++ext)/\dU w h Z w (h++ext) (Z++γ):=by
 have hlen:=H.len
 have back:∀(id:Nat) (o:au) (bc:Nat×Nat),(h++ext)[id]?=some o->(Z++γ)[id]?=some bc->o.mu≠.x->h[id]?=some o/\Z[id]?=some bc:=by
  intro id o bc e1 e2 e3
  by_cases hid:id<h.length
  ·rw[aa3 hid]at e1;rw[aa3 (by omega)]at e2;exact⟨e1,e2⟩
  ·rw[abd (by omega)]at e1;exact absurd (hx o (abh e1)) e3
 have forth:∀(id:Nat),id<h.length->(h++ext)[id]?=h[id]?/\(Z++γ)[id]?=Z[id]?:=λid hid=>
  ⟨aa3 hid,aa3 (by omega)⟩
 have hm:∀b,Mb (h++ext) (Z++γ) b->Mb h Z b:=by
  rintro b ⟨id,o,bc,e1,e2,e3,e4⟩;obtain⟨f1,f2⟩:=back id o bc e1 e2 (by rw[e3];simp);exact⟨id,o,bc,f1,f2,e3,e4⟩
 have hs:dU w h Z w (h++ext) (Z++γ):=by
  refine⟨aa5 _,by simp,λ_ _ _=>rfl,λb _ m=>hm b m,?_,?_,rfl,rfl,rfl,λ_=>aa5 _⟩
  ·intro id o bc e1 e2 e3
   obtain⟨f1,f2⟩:=forth id (ag e1);exact⟨o,bc,by rw[f1];exact e1,by rw[f2];exact e2,e3,⟨aa5 _,λh=>h⟩,λ_=>⟨rfl,λ_=>rfl,rfl⟩⟩
  ·intro id o e1 _
   obtain⟨f1,f2⟩:=forth id (ag e1);exact⟨by rw[f1];exact e1,f2⟩
 refine⟨⟨by simp[hlen,hl],H.fin,?_,?_,?_,H.fA.Cy hs⟩,hs⟩
 ·intro id o bc e1 e2 e3
  obtain⟨f1,f2⟩:=back id o bc e1 e2 e3;exact jK.mono hs rfl (H.obj id o bc f1 f2 e3)
 ·intro id dF o o' bc cK bN e1 e2 e3 e4 m1 m2
  obtain⟨f1,f2⟩:=back id o bc e1 e3 (by rw[m1];simp);obtain⟨g1,g2⟩:=back dF o' cK e2 e4 m2;exact H.gY id dF o o' bc cK bN f1 g1 f2 g2 m1 m2
 ·intro id o bc e1 e2 e3
  obtain⟨f1,f2⟩:=back id o bc e1 e2 (by rcases e3 with e3 |e3 <;>rw[e3] <;>simp);exact H.out id o bc f1 f2 e3
def Fp(F:Nat->Prop)(Z:List (Nat×Nat))(h M:ab)(b:Nat):Prop:=F b\/∃(id:Nat) (o:au) (bc:Nat×Nat),h[id]?=some o/\Z[id]?=some bc/\o.mu=.m/\bc.1=b/\M[id]?≠some o
theorem Fp.av{M:ab}{b:Nat}(hf:Fp F Z h M b):Av F h Z b:=by
 rcases hf with hf |⟨id,o,bc,e1,e2,e3,e4,_⟩;exact .inl hf;exact .inr ⟨id,o,bc,e1,e2,e3,e4⟩
theorem ba.part(H:ba w F Z h){M:ab}(hl:M.length<=h.length)(hM:∀(id:Nat) (o:au),M[id]?=some o->o.mu≠.x->h[id]?=some o)(hc:aY M=true):
  ba w (Fp F Z h M) (Z.take M.length) M/\(∀(v:Value) (p:PV),aE w (Av F h Z) Z h v p->bw (aO M) p=true->aE w (Av (Fp F Z h M) M (Z.take M.length)) (Z.take M.length) M v p):=by
 have hlen:=H.len;have hb:∀id,id<M.length->(Z.take M.length)[id]?=Z[id]?:=λid hid=>by rw[abn,if_pos hid]
 have W2:∀(id:Nat) (o:au),M[id]?=some o->o.mu≠.x->h[id]?=some o/\(Z.take M.length)[id]?=Z[id]?:=λid o e1 e2=>⟨hM id o e1 e2,hb id (ag e1)⟩
 have hA:∀b,Av (Fp F Z h M) M (Z.take M.length) b->Av F h Z b:=by
  rintro b (hf |⟨id,o,bc,e1,e2,e3,e4⟩);exact hf.av
  ·obtain⟨f1,f2⟩:=W2 id o e1 (by rw[e3];simp);exact .inr ⟨id,o,bc,f1,by rw[<-f2];exact e2,e3,e4⟩
 have hv:∀(v:Value) (p:PV),aE w (Av F h Z) Z h v p->bw (aO M) p=true->aE w (Av (Fp F Z h M) M (Z.take M.length)) (Z.take M.length) M v p:=λv p r hv=>r.restrict W2 hA hv
 refine⟨⟨by simp;omega,λb hb=>Av.lt H (Fp.av hb),?_,?_,?_,H.fA.kL hA⟩,hv⟩
 ·intro id o bc e1 e2 e3
  obtain⟨f1,f2⟩:=W2 id o e1 e3;rw[f2]at e2;refine(H.obj id o bc f1 e2 e3).to rfl (λv e p he hp r=>hv v p r ?_);have:=aa4.1 hc o (abh e1);simp only[abA,decide_eq_true_eq,nD]at this;exact GL (aa4.1 (this.resolve_left e3) e he) hp
 ·intro id dF o o' bc cK bN e1 e2 e3 e4 m1 m2
  obtain⟨f1,f2⟩:=W2 id o e1 (by rw[m1];simp);obtain⟨g1,g2⟩:=W2 dF o' e2 m2;exact H.gY id dF o o' bc cK bN f1 g1 (by rw[<-f2];exact e3) (by rw[<-g2];exact e4) m1 m2
 ·intro id o bc e1 e2 e3
  have WW:o.mu≠.x:=by rcases e3 with e3 |e3 <;>rw[e3] <;>simp
  obtain⟨f1,f2⟩:=W2 id o e1 WW;rw[f2]at e2;rintro(hf |⟨id2,o2,xp,g1,g2,g3,g4,g5⟩);exact H.out id o bc f1 e2 e3 hf
  ·have bN:id2≠id:=by
    rintro rfl;rw[f1]at g1;obtain rfl:=aa2 g1;exact g5 e1
   exact H.gY id2 id o2 o xp bc bN g1 f1 g2 e2 g3 WW g4
theorem ba.merge(H:ba w F Z h){M ext h':ab}{Z1:List (Nat×Nat)}{w':World}(hl:M.length+ext.length<=h.length)(hM:∀(id:Nat) (o:au),M[id]?=some o->o.mu≠.x->h[id]?=some o)
  (H1:ba w' (Fp F Z h M) Z1 (M++ext)) (S1:dU w M (Z.take M.length) w' (M++ext) Z1) (G:dD w w') (zU:∀o∈ext,o.mu≠.l)
  (eP:h'.length=h.length) (kF:∀id:Nat,M.length<=id->id<M.length+ext.length->h'[id]?=ext[id - M.length]?) (qN:∀id:Nat,(id<M.length\/M.length+ext.length<=id)->h'[id]?=h[id]?)
  (aan:∀(id:Nat) (o:au),M.length<=id->id<M.length+ext.length->h[id]?=some o->o.mu=.x):
  ∃Z',ba w' F Z' h'/\Ie h Z h' Z'/\(∀b,b<w.heap.size->¬Av F h Z b->¬Av F h' Z' b)/\(∀b,b<w.heap.size->Mb h' Z' b->Mb h Z b)/\(∀id:Nat,id<M.length->Z'[id]?=Z[id]?)/\
   (∀(v:Value) (p:PV),aE w' (Av (Fp F Z h M) (M++ext) Z1) Z1 (M++ext) v p->aE w' (Av F h' Z') Z' h' v p):=by
 have hlen:=H.len;have yY:=H1.len;simp only[aba]at yY;have hml:(Z1.drop M.length).length=ext.length:=by simp;omega
 have hZ:∀k,(Z.take M.length++Z1.drop M.length++Z.drop (M.length+(Z1.drop M.length).length))[k]?=if k<M.length then Z[k]? else if k<M.length+ext.length then Z1[k]? else Z[k]?:=by
  intro k
  rw[gJ _ _ _ _ (by omega),hml]
  split
  rfl
  ·split
   ·rw[abI];congr 1;omega
   ·rfl
 refine⟨Z.take M.length++Z1.drop M.length++Z.drop (M.length+(Z1.drop M.length).length),?_⟩;generalize hZ':Z.take M.length++Z1.drop M.length++Z.drop (M.length+(Z1.drop M.length).length)=Z' at hZ ⊢
 have LZ:Z'.length=h'.length:=by
  rw[<-hZ',eP];simp;omega
 have bin:∀id,M.length<=id->id<M.length+ext.length->Z'[id]?=Z1[id]?:=λid h1 h2=>by rw[hZ,if_neg (by omega),if_pos h2]
 have bout:∀id,(id<M.length\/M.length+ext.length<=id)->Z'[id]?=Z[id]?:=λid h1=>by
  rw[hZ]
  by_cases h2:id<M.length
  rw[if_pos h2];rw[if_neg h2,if_neg (by omega)]
 have pin:∀id,M.length<=id->id<M.length+ext.length->(M++ext)[id]?=ext[id - M.length]?:=λid h1 _=>abd h1
 have pold:∀id,id<M.length->(M++ext)[id]?=M[id]?:=λid h1=>aa3 h1
 have both:∀(id:Nat) (o:au) (bc:Nat×Nat),M[id]?=some o->o.mu≠.x->Z[id]?=some bc->Z1[id]?=some bc:=by
  intro id o bc e1 e2 e3
  have hid:=ag e1;obtain⟨o',cK,f1,f2,f3,f4,f5⟩:=S1.refs id o bc e1 (by rw[abn,if_pos hid];exact e3) e2;rw[pold id hid,e1]at f1;obtain rfl:=aa2 f1;rw[(f5 rfl).2.2]at f2;exact f2
 have rH:∀id:Nat,(M.length<=id/\id<M.length+ext.length)\/(id<M.length\/M.length+ext.length<=id):=λid=>by omega
 have newb:∀(id:Nat) (o:au) (bc:Nat×Nat),M.length<=id->id<M.length+ext.length->h'[id]?=some o->Z'[id]?=some bc->o.mu=.m->w.heap.size<=bc.1:=by
  intro id o bc a1 a2 e1 e2 e3
  rw[kF id a1 a2,<-pin id a1 a2]at e1;rw[bin id a1 a2]at e2;rcases abJ bc.1 w.heap.size with cL |z7
  ·obtain⟨id2,o2,xp,f1,f2,f3,f4⟩:=S1.shr bc.1 cL ⟨id,o,bc,e1,e2,e3,rfl⟩;have rp:=ag f1;rw[abn,if_pos rp]at f2;exact absurd f4.symm (H1.gY id id2 o o2 bc xp (by omega) e1 (by rw[pold id2 rp];exact f1) e2 (both id2 o2 xp f1 (by rw[f3];simp) f2) e3 (by rw[f3];simp))
  exact z7
 have fI:Ie h Z h' Z':=by
  intro id o bc e1 e2 e3
  rcases rH id with⟨a1,a2⟩|a;exact absurd (aan id o a1 a2 e1) e3;exact⟨o,bc,by rw[qN id a];exact e1,by rw[bout id a];exact e2,e3,⟨aa5 _,λh=>h⟩,λ_=>⟨rfl,λ_=>rfl,rfl⟩⟩
 have shr:∀b,b<w.heap.size->Mb h' Z' b->Mb h Z b:=by
  rintro b hb ⟨id,o,bc,e1,e2,e3,rfl⟩;rcases rH id with⟨a1,a2⟩|a;have:=newb id o bc a1 a2 e1 e2 e3;omega;exact⟨id,o,bc,by rw[<-qN id a];exact e1,by rw[<-bout id a];exact e2,e3,rfl⟩
 have FI:∀b,b<w.heap.size->¬Av F h Z b->¬Av F h' Z' b:=by
  rintro b hb hn (hf |hm);exact hn (.inl hf);exact hn (.inr (shr b hb hm))
 have aao:Ie (M++ext) Z1 h' Z':=by
  intro id o bc e1 e2 e3
  have hid:=ag e1;simp at hid
  by_cases rp:id<M.length
  ·rw[pold id rp]at e1;have e4:=hM id o e1 e3;obtain⟨bc0,e5⟩:=db H.len e4;have:=both id o bc0 e1 e3 e5;rw[this]at e2;obtain rfl:=aa2 e2;exact⟨o,bc0,by rw[qN id (.inl rp)];exact e4,by rw[bout id (.inl rp)];exact e5,e3,⟨aa5 _,λh=>h⟩,λ_=>⟨rfl,λ_=>rfl,rfl⟩⟩
  exact⟨o,bc,by rw[kF id (by omega) hid,<-pin id (by omega) hid];exact e1,by rw[bin id (by omega) hid];exact e2,e3,⟨aa5 _,λh=>h⟩,λ_=>⟨rfl,λ_=>rfl,rfl⟩⟩
 have Bu:∀b,Av F h' Z' b->Av (Fp F Z h M) (M++ext) Z1 b:=by
  rintro b (hf |⟨id,o,bc,e1,e2,e3,e4⟩);exact .inl (.inl hf)
  ·rcases rH id with⟨a1,a2⟩|a
   ·rw[kF id a1 a2,<-pin id a1 a2]at e1;rw[bin id a1 a2]at e2;exact .inr ⟨id,o,bc,e1,e2,e3,e4⟩
   ·rw[qN id a]at e1;rw[bout id a]at e2
    by_cases hm:M[id]?=some o
    ·have hid:=ag hm;exact .inr ⟨id,o,bc,by rw[pold id hid];exact hm,both id o bc hm (by rw[e3];simp) e2,e3,e4⟩
    exact .inl (.inr ⟨id,o,bc,e1,e2,e3,e4,hm⟩)
 have v0:∀(v:Value) (p:PV),aE w (Av F h Z) Z h v p->aE w' (Av F h' Z') Z' h' v p:=λv p r=>r.UD fI (λb hb _=>G.aR b hb) FI
 have v1:∀(v:Value) (p:PV),aE w' (Av (Fp F Z h M) (M++ext) Z1) Z1 (M++ext) v p->aE w' (Av F h' Z') Z' h' v p:=λv p r=>r.UD aao (λ_ _ _=>rfl) (λb _ hn ha=>hn (Bu b ha))
 refine⟨⟨LZ,λb hb=>abO (H.fin b hb) G.size,?_,?_,?_,H.fA.mono (λb hb _=>G.aR b hb) FI⟩,fI,FI,shr,λid hid=>bout id (.inl hid),v1⟩
 ·intro id o bc e1 e2 e3
  rcases rH id with⟨a1,a2⟩|a
  ·rw[kF id a1 a2,<-pin id a1 a2]at e1;rw[bin id a1 a2]at e2;exact(H1.obj id o bc e1 e2 e3).to rfl (λv e p _ _ r=>v1 v p r)
  ·rw[qN id a]at e1;rw[bout id a]at e2;have r:=H.obj id o bc e1 e2 e3;exact r.to (G.aR _ r.lt) (λv e p _ _ r=>v0 v p r)
 ·intro id dF o o' bc cK bN e1 e2 e3 e4 m1 m2
  rcases rH id with⟨a1,a2⟩|a <;>rcases rH dF with⟨b1,b2⟩|b
  ·rw[kF id a1 a2,<-pin id a1 a2]at e1;rw[bin id a1 a2]at e3;rw[kF dF b1 b2,<-pin dF b1 b2]at e2;rw[bin dF b1 b2]at e4;exact H1.gY id dF o o' bc cK bN e1 e2 e3 e4 m1 m2
  ·have h1:=newb id o bc a1 a2 e1 e3 m1;rw[qN dF b]at e2;rw[bout dF b]at e4;have:=(H.obj dF o' cK e2 e4 m2).lt;omega
  ·rw[qN id a]at e1;rw[bout id a]at e3;rw[kF dF b1 b2,<-pin dF b1 b2]at e2;rw[bin dF b1 b2]at e4
   by_cases hm:M[id]?=some o
   ·have hid:=ag hm;exact H1.gY id dF o o' bc cK bN (by rw[pold id hid];exact hm) e2 (both id o bc hm (by rw[m1];simp) e3) e4 m1 m2
   ·have nl:o'.mu≠.l:=by
     rw[pin dF b1 b2]at e2;exact zU o' (abh e2)
    have EY:o'.mu=.m\/o'.mu=.f:=by
     cases hh:o'.mu with
     |m=>exact .inl rfl
     |l=>exact absurd hh nl
     |f=>exact .inr rfl
     |x=>exact absurd hh m2
    intro heq
    exact H1.out dF o' cK e2 e4 EY (.inr ⟨id,o,bc,e1,e3,m1,heq,hm⟩)
  ·rw[qN id a]at e1;rw[bout id a]at e3;rw[qN dF b]at e2;rw[bout dF b]at e4;exact H.gY id dF o o' bc cK bN e1 e2 e3 e4 m1 m2
 ·intro id o bc e1 e2 e3
  rcases rH id with⟨a1,a2⟩|a
  ·rw[kF id a1 a2,<-pin id a1 a2]at e1;rw[bin id a1 a2]at e2;exact λhf=>H1.out id o bc e1 e2 e3 (.inl hf)
  ·rw[qN id a]at e1;rw[bout id a]at e2;exact H.out id o bc e1 e2 e3
end Go.Pm
namespace Go.Pm
theorem nR{Y Y':Nat->PV}{xs:List Operand}(h:∀x∈xs,ev Y x=ev Y' x):xs.map (ev Y)=xs.map (ev Y'):=acg h
theorem pj{Y Y':Nat->PV}{xs:List (Nat×Operand)}(h:∀x∈xs.map (·.2),ev Y x=ev Y' x):(xs.map λ(i,x)=>(i,ev Y x))=xs.map λ(i,x)=>(i,ev Y' x):=
 acg λp hp=>by
  obtain⟨i,x⟩:=p;simp only[h x (abB.2 ⟨(i,x),hp,rfl⟩)]
theorem l9{C:cG}{run:gW}{lv:Nat}{op:Op}{Y Y':Nat->PV}{hp:ab}(h:∀x∈op.operands.toList,ev Y x=ev Y' x):ar C run lv op Y hp=ar C run lv op Y' hp:=by
 cases op
 case call c=>
  have ha:c.args.toList.map (ev Y)=c.args.toList.map (ev Y'):=nR λx hx=>h x (by simp[Op.operands,Call.operands];exact .inr (by simpa using hx))
  simp only[ar,ha]
  cases hc:c.callee with
  |value f=>simp only[h f (by simp[Op.operands,Call.operands,hc])]
  |invoke r m=>rfl
  |builtin b=>rfl
 case build t ps=>simp only[ar,aC,pj (Y:=Y) (Y':=Y') (xs:=ps.toList) λx hx=>h x (by simpa[Op.operands]using hx)]
 case buildSlice t n ps=>simp only[ar,aC,pj (Y:=Y) (Y':=Y') (xs:=ps.toList) λx hx=>h x (by simpa[Op.operands]using hx)]
 case makeFunc fn first dy=>
  have ha:dy.toList.map (ev Y)=dy.toList.map (ev Y'):=nR λx hx=>h x (by simp[Op.operands];exact .inr (by simpa using hx))
  have hb:(first.toList++dy.toList).map (ev Y)=(first.toList++dy.toList).map (ev Y'):=nR λx hx=>h x (by simp only[Op.operands,Array.toList_append];exact hx)
  simp only[ar,aC]
  cases fn <;>simp only[ha,hb]
 case makeMap t r=>
  simp only[Op.operands]at h;have h2:r.map (ev Y)=r.map (ev Y'):=by cases r with |none=>rfl |some y=>simp[h y (by simp)]
  simp only[ar,aC,h2]
 case slice t x lo hi mx=>
  simp only[Op.operands]at h;have h1:=h x (by simp);have h2:lo.map (ev Y)=lo.map (ev Y'):=by cases lo with |none=>rfl |some y=>simp[h y (by simp)]
  have h3:hi.map (ev Y)=hi.map (ev Y'):=by cases hi with |none=>rfl |some y=>simp[h y (by simp)]
  have h4:mx.map (ev Y)=mx.map (ev Y'):=by cases mx with |none=>rfl |some y=>simp[h y (by simp)]
  simp only[ar,aC,h1,h2,h3,h4]
 all_goals(simp only[Op.operands]at h;simp only[ar,aC];try simp_all)
theorem dC{α:Type}{x:Option α}{h:ab}{p:α}{h':ab}(e:x.map (·,h)=some (p,h')):x=some p/\h'=h:=by
 cases x with
 |none=>cases e
 |some y=>simp at e;exact⟨by rw[e.1],e.2.symm⟩
theorem pn{C:cG}{run:gW}{lv lv2:Nat}{op:Op}{Y:Nat->PV}{h1 PL h2:ab}{r:PV}(hn:c9 op=false)(e:ar C run lv op Y h1=some (r,PL)):ar C run lv2 op Y h2=some (r,h2):=by
 cases op <;>simp[c9]at hn <;>simp only[ar,aC]at e ⊢
 case move x=>simp at e;simp[e.1]
 case assign x=>simp at e;simp[e.1]
 case pick c x y=>split at e <;>simp_all
 case build t ps=>obtain⟨e1,_⟩:=dC e;rw[e1];rfl
 case nilCheck x=>split at e <;>simp_all
 case binOp=>obtain⟨e1,_⟩:=dC e;rw[e1];rfl
 case unOp=>obtain⟨e1,_⟩:=dC e;rw[e1];rfl
 case convert=>obtain⟨e1,_⟩:=dC e;rw[e1];rfl
 case makeFunc fn first dy=>
  cases fn <;>simp only at e ⊢ <;>try(cases e;done)
  split at e
  ·rename_i hf;simp at e;simp[hf,e.1]
  ·rename_i hf;obtain⟨rfl,rfl⟩:=abe (aa2 e);rw[if_neg hf]
 case fieldAddr=>obtain⟨e1,_⟩:=dC e;rw[e1];rfl
 case field=>obtain⟨e1,_⟩:=dC e;rw[e1];rfl
 case index=>obtain⟨e1,_⟩:=dC e;rw[e1];rfl
 case extract x i=>
  split at e
  split at e <;>simp_all
  cases e
def Ext(h h':ab):Prop:=∃ext,h'=h++ext
theorem Ext.refl(h:ab):Ext h h:=⟨[],by simp⟩
theorem rZ{g:List PV->ab->Option (PV×ab)}{lv:Nat}(hl:lv<=1){args:List PV}{h h':ab}{r:PV}(e:dI g lv args h=some (r,h')):Ext h h':=by
 unfold dI at e;rw[if_neg (by omega)]at e
 split at e
 ·split at e
  ·split at e
   ·obtain⟨rfl,rfl⟩:=abe (aa2 e);exact⟨_,rfl⟩
   ·cases e
  ·cases e
 cases e
theorem zM{C:cG}{run:gW}{lv:Nat}(hl:lv<=1){f:FuncId}{args:List PV}{h h':ab}{r:PV}(e:di C run lv f args h=some (r,h')):Ext h h':=by
 unfold di at e
 split at e
 cases e
 ·unfold dV at e
  split at e
  ·split at e
   ·split at e
    ·obtain⟨rfl,rfl⟩:=abe (aa2 e);exact Ext.refl _
    ·cases e
   ·cases e
  ·split at e
   ·split at e
    ·split at e
     ·split at e
      ·obtain⟨rfl,rfl⟩:=abe (aa2 e);exact Ext.refl _
      ·rw[if_neg (by omega)]at e;cases e
     ·cases e
    ·cases e
   ·split at e
    ·split at e
     ·split at e
      ·split at e
       ·obtain⟨rfl,rfl⟩:=abe (aa2 e);exact Ext.refl _
       ·cases e
      ·cases e
     ·cases e
    ·cases e
 ·unfold ig at e
  split at e
  ·rename_i r0 h1 he
   obtain⟨ext,rfl⟩:=rZ hl he
   split at e
   obtain⟨rfl,rfl⟩:=abe (aa2 e);simp;exact Ext.refl _;obtain⟨rfl,rfl⟩:=abe (aa2 e);exact⟨_,rfl⟩
  cases e
 ·split at e
  ·obtain⟨_,rfl⟩:=dC e;exact Ext.refl _
  ·cases e
 exact rZ hl e
 ·split at e
  ·obtain⟨_,rfl⟩:=dC e;exact Ext.refl _
  ·cases e
theorem CM{P:Program}{lv:Nat}(hl:lv<=1){b:Builtin}{ts:List TypeId}{args:List PV}{h h':ab}{r:PV}(e:br P lv h b ts args=some (r,h')):Ext h h':=by
 unfold br at e
 split at e
 obtain⟨_,rfl⟩:=dC e;exact Ext.refl _
 ·unfold bJ at e
  repeat' split at e
  all_goals first
   |(cases e;done)
   |(obtain⟨rfl,rfl⟩:=abe (aa2 e);first |exact Ext.refl _ |exact⟨_,rfl⟩)
   |(exfalso;omega)
   |(rename_i hh;exfalso;obtain⟨a1,a2,a3⟩:=hh;omega)
 ·unfold zL at e
  repeat' split at e
  all_goals first
   |(cases e;done)
   |(rename_i hh;exfalso;omega)
 ·unfold mB at e
  repeat' split at e
  all_goals first
   |(cases e;done)
   |(obtain⟨rfl,rfl⟩:=abe (aa2 e);exact Ext.refl _)
   |(rename_i hh;exfalso;omega)
 obtain⟨_,rfl⟩:=dC e;exact Ext.refl _;obtain⟨_,rfl⟩:=dC e;exact Ext.refl _;obtain⟨_,rfl⟩:=dC e;exact Ext.refl _
 cases e
theorem E9{P:Program}{lv:Nat}(hl:lv<=1){op:Op}{Y:Nat->PV}{h h':ab}{r:PV}(e:aC P lv op Y h=some (r,h')):Ext h h':=by
 cases op <;>simp only[aC]at e
 case alloc t=>
  split at e
  ·split at e
   ·obtain⟨rfl,rfl⟩:=abe (aa2 e);exact⟨_,rfl⟩
   ·cases e
  cases e
 case box t x=>
  split at e
  obtain⟨rfl,rfl⟩:=abe (aa2 e);exact⟨_,rfl⟩
  cases e
 case buildSlice t n ps=>
  unfold dE at e
  repeat' split at e
  all_goals first
   |(cases e;done)
   |(obtain⟨rfl,rfl⟩:=abe (aa2 e);first |exact Ext.refl _ |exact⟨_,rfl⟩)
 case store t x y=>rw[if_neg (by omega)]at e;cases e
 case mapUpdate t m k x=>rw[if_neg (by omega)]at e;cases e
 case insert t m k x=>rw[if_neg (by omega)]at e;cases e
 case makeMap t r=>
  unfold mO at e
  repeat' split at e
  all_goals first
   |(cases e;done)
   |(obtain⟨rfl,rfl⟩:=abe (aa2 e);exact⟨_,rfl⟩)
 case makeSlice t l c=>
  unfold jE at e
  repeat' split at e
  all_goals first
   |(cases e;done)
   |(obtain⟨rfl,rfl⟩:=abe (aa2 e);exact⟨_,rfl⟩)
 case makeFunc fn first dy=>
  cases fn <;>simp only at e <;>try(cases e;done)
  split at e
  obtain⟨rfl,rfl⟩:=abe (aa2 e);exact Ext.refl _;obtain⟨rfl,rfl⟩:=abe (aa2 e);exact Ext.refl _
 all_goals first
  |(cases e;done)
  |(obtain⟨rfl,rfl⟩:=abe (aa2 e);exact Ext.refl _)
  |(obtain⟨_,rfl⟩:=dC e;exact Ext.refl _)
  |repeat' split at e
   all_goals first
    |(cases e;done)
    |(obtain⟨rfl,rfl⟩:=abe (aa2 e);exact Ext.refl _)
theorem IX{C:cG}{run:gW}{lv:Nat}(hl:lv<=1){op:Op}{Y:Nat->PV}{h h':ab}{r:PV}(e:ar C run lv op Y h=some (r,h')):Ext h h':=by
 unfold ar at e
 split at e
 ·split at e
  ·unfold fQ at e
   split at e
   exact zM hl e;exact zM hl e
   cases e
  ·exact CM hl e
  ·cases e
 exact E9 hl e
def zk(ops:Array Oper)(i j:Nat):Prop:=((before ops).getD i 0).testBit j=true
theorem Ag(f:Edge->Nat)(j:Nat):∀(l:List Edge) (s0:Nat),(l.foldl (λs e=>s |||2^e.on |||f e) s0).testBit j=true->s0.testBit j=true\/∃e∈l,j=e.on\/(f e).testBit j=true
 |[],s0,h=>.inl h
 |e::l,s0,h=>by
  rcases Ag f j l _ h with h |⟨e',h1,h2⟩
  ·simp only[Nat.testBit_or,abA,Nat.testBit_two_pow,decide_eq_true_eq]at h;rcases h with(h |h)|h;exact .inl h;exact .inr ⟨e,by simp,.inl h.symm⟩;exact .inr ⟨e,by simp,.inr h⟩
  exact .inr ⟨e',by simp[h1],h2⟩
theorem Ah(all:List Oper):∀(l pre:List Oper) (acc:List Nat),all=pre++l->acc.length=pre.length->
  (∀i j,(acc.getD i 0).testBit j=true->∃o,all[i]?=some o/\∃e∈IW o,j=e.on\/(acc.getD e.on 0).testBit j=true)->
  ∀i j,((l.foldl (λacc o=>acc++[(IW o).foldl (λs e=>s |||2^e.on |||acc.getD e.on 0) 0]) acc).getD i 0).testBit j=true->
   ∃o,all[i]?=some o/\∃e∈IW o,j=e.on\/((l.foldl (λacc o=>acc++[(IW o).foldl (λs e=>s |||2^e.on |||acc.getD e.on 0) 0]) acc).getD e.on 0).testBit j=true
 |[],pre,acc,h1,h2,h3=>h3
 |o::l,pre,acc,h1,h2,h3=>by
  have aR:∀k x (v:Nat),(acc.getD k 0).testBit x=true->((acc++[v]).getD k 0).testBit x=true:=λk x v h=>by
   rcases abJ k acc.length with hk |hk;simpa[List.getD,aa3 hk]using h;simp[List.getD,abl hk]at h
  refine Ah all l (pre++[o]) _ (by simp[h1]) (by simp[h2]) ?_
  intro i j Qr
  by_cases hi:i<acc.length
  ·have UA:(acc.getD i 0).testBit j=true:=by simpa[List.getD,aa3 hi]using Qr
   obtain⟨o',e1,e,e2,e3⟩:=h3 i j UA;exact⟨o',e1,e,e2,e3.imp id (aR _ _ _)⟩
  ·by_cases Wu:i=acc.length
   ·subst Wu;have UA:(((IW o).foldl (λs e=>s |||2^e.on |||acc.getD e.on 0) 0)).testBit j=true:=by simpa[List.getD]using Qr
    rcases Ag (λe=>acc.getD e.on 0) j _ _ UA with h |⟨e,h4,h5⟩;simp at h;exact⟨o,by rw[h1,h2,abd (aa5 _)];simp,e,h4,h5.imp id (aR _ _ _)⟩
   ·rw[abt,abl (by simp;omega)]at Qr;simp at Qr
theorem xn{ops:Array Oper}{i j:Nat}(h:zk ops i j):∃o,ops[i]?=some o/\∃e∈IW o,j=e.on\/zk ops e.on j:=by
 obtain⟨o,h1,e,h2,h3⟩:=Ah ops.toList ops.toList [] [] rfl rfl (λi j h=>by simp at h) i j h;exact⟨o,by simpa using h1,e,h2,h3⟩
def Jv(ops:Array Oper)(o o':Oper):Bool:=
 match o'.dst with
 |some d=>(o.looksAt ops).contains d ||o.dst==some d
 |none=>false
def mD(ops:Array Oper):Bool:=
 ops.toList.zipIdx.all λ(o,i)=>(IW o).all (λe=>decide (e.on<i))&&
  ops.toList.zipIdx.all λ(o',j)=>decide (i<=j)|| !(Jv ops o o'||Jv ops o' o)||((before ops).getD i 0).testBit j
theorem fm{ops:Array Oper}(h:mD ops=true):
  (∀(i:Nat) (o:Oper),ops[i]?=some o->∀e∈IW o,e.on<i)/\
  (∀(i j:Nat) (o o':Oper),ops[i]?=some o->ops[j]?=some o'->j<i->(Jv ops o o'=true\/Jv ops o' o=true)->zk ops i j):=by
 have mem:∀(i:Nat) (o:Oper),ops[i]?=some o->(o,i)∈ops.toList.zipIdx:=λi o e=>by
  rw[acI];exact⟨i,by simp[e]⟩
 unfold mD at h;rw[aa4]at h
 constructor
 ·intro i o e ed he
  have:=h _ (mem i o e);simp only[abb]at this;have:=aa4.1 this.1 ed he;simpa using this
 ·intro i j o o' e e' zl hh
  have:=h _ (mem i o e);simp only[abb]at this;have:=aa4.1 this.2 _ (mem j o' e');simp only[abA,decide_eq_true_eq,acD,ady]at this;rcases this with(h1 |h1)|h1;omega;rw[h1.1,h1.2]at hh;simp at hh;exact h1
theorem rz{ops:Array Oper}{i:Nat}(h:level ops (before ops) i=2){j:Nat}{o:Oper}(e:ops[j]?=some o)(hh:c9 o.op=true):j=i\/zk ops i j\/zk ops j i:=by
 unfold level at h
 split at h
 ·rename_i ek
  have:=aa4.1 ek (o,j) (by rw[acI];exact⟨j,by simp[e]⟩);simp only[hh,ac4,acG,q8,abA,beq_iff_eq]at this;rcases this with(h1 |h1)|h1;exact .inl h1.symm;exact .inr (.inl h1);exact .inr (.inr h1)
 cases h
theorem rj{ops:Array Oper}(hd:mD ops=true):∀(i j:Nat),zk ops i j->j<i:=by
 intro i
 induction i using Nat.strongRecOn with
 |ind i ih=>
  intro j h
  obtain⟨o,h1,e,h2,h3⟩:=xn h;have:=(fm hd).1 i o h1 e h2;rcases h3 with rfl |h3;exact this;have:=ih e.on this j h3;omega
theorem FY{ops:Array Oper}(hd:mD ops=true){E:Nat->Bool}(hE:∀(i:Nat) (o:Oper),ops[i]?=some o->E i=true->∀e∈IW o,E e.on=true):∀(i j:Nat),E i=true->zk ops i j->E j=true:=by
 intro i
 induction i using Nat.strongRecOn with
 |ind i ih=>
  intro j hi h
  obtain⟨o,h1,e,h2,h3⟩:=xn h;have hl:=(fm hd).1 i o h1 e h2;have he:=hE i o h1 hi e h2;rcases h3 with rfl |h3;exact he;exact ih e.on hl j he h3
theorem ua{e:Nat->Bool}{L0:Nat}{own:List Nat}{h:ab}(h1:L0<=h.length)(h2:own.length=h.length - L0):(cB e L0 own h).length=h.length:=by
 unfold cB;simp;omega
theorem ub{e:Nat->Bool}{L0:Nat}{own sx:List Nat}{h ext:ab}(h1:L0<=h.length)(h2:own.length=h.length - L0):
  cB e L0 (own++sx) (h++ext)=cB e L0 own h++List.zipWith (λo j=>if e j then o else ez o) ext sx:=by
 unfold cB;rw[abq h1,ab1 h1,List.zipWith_append (by simp;omega),abu]
theorem uc{e e':Nat->Bool}:∀(h:ab) (own:List Nat),(∀j∈own,e j=e' j)->List.zipWith (λo j=>if e j then o else ez o) h own=List.zipWith (λo j=>if e' j then o else ez o) h own
 |[],own,_=>by simp
 |_::_,[],_=>by simp
 |o::h,j::own,hh=>by
  simp only[List.zipWith_cons_cons,hh j (by simp)];rw[uc h own (λk hk=>hh k (by simp[hk]))]
theorem uP{e e':Nat->Bool}{L0:Nat}{own:List Nat}{h:ab}(hh:∀j∈own,e j=e' j):cB e L0 own h=cB e' L0 own h:=by
 unfold cB;rw[uc _ _ hh]
theorem BD{e:Nat->Bool}:∀(h:ab) (own:List Nat),own.length=h.length->(∀j∈own,e j=true)->List.zipWith (λo j=>if e j then o else ez o) h own=h
 |[],own,_,_=>by simp
 |o::h,[],hl,_=>by simp at hl
 |o::h,j::own,hl,hh=>by
  simp only[List.zipWith_cons_cons,hh j (by simp),if_true];rw[BD h own (by simpa using hl) (λk hk=>hh k (by simp[hk]))]
theorem qv{e:Nat->Bool}{L0:Nat}{own:List Nat}{h:ab}(h2:own.length=h.length - L0)(hh:∀j∈own,e j=true):cB e L0 own h=h:=by
 unfold cB;rw[BD _ _ (by simp[h2]) hh,acJ]
theorem Jw{e:Nat->Bool}{L0:Nat}{own:List Nat}{h:ab}(h1:L0<=h.length)(h2:own.length=h.length - L0)(id:Nat):
  (cB e L0 own h)[id]?=if id<L0 then h[id]? else(h[id]?).map λo=>if e (own.getD (id - L0) 0)then o else ez o:=by
 unfold cB
 by_cases hid:id<L0
 rw[if_pos hid,aa3 (by simp;omega),abn,if_pos hid]
 ·rw[if_neg hid,abd (by simp;omega)];have hl:(List.take L0 h).length=L0:=by simp;omega
  rw[hl,acv,abI,show L0+(id - L0)=id by omega]
  cases ho:h[id]? with
  |none=>simp
  |some o=>
   have:=ag ho;have hw:own[id - L0]?=some (own[id - L0]'(by omega)):=aa6 (by omega);simp[hw]
section
variable{C:cG}{run:gW}{ops:Array Oper}
theorem pJ:∀(l:List Oper) (k:Nat) (x y:vO),dJ C run ops (before ops) k l x=some y->
  ∃tr:Nat->vO,tr k=x/\(∀(i:Nat) (o:Oper),l[i]?=some o->ct C run ops (before ops) (k+i) o (tr (k+i))=some (tr (k+i+1)))/\tr (k+l.length)=y
 |[],k,x,y,e=>by
  simp[dJ]at e;exact⟨λ_=>x,rfl,λi o h=>by simp at h,by simpa using e⟩
 |o::l,k,x,y,e=>by
  simp only[dJ]at e
  split at e
  ·rename_i x' hx
   obtain⟨tr,t1,t2,t3⟩:=pJ l (k+1) x' y e;refine⟨λj=>if j<=k then x else tr j,by simp,?_,?_⟩
   ·intro i o' ho
    cases i with
    |zero=>
     simp at ho;subst ho;simp[t1,hx]
     intro hh;omega
    |succ i=>
     have:=t2 i o' (by simpa using ho);have e1:¬(k+(i+1)<=k):=by omega
     have e2:¬(k+(i+1)+1<=k):=by omega
     simp only[e1,e2,if_false];rw[show k+(i+1)=k+1+i by omega];exact this
   ·have e1:¬(k+(o::l).length<=k):=by simp
    simp only[e1,if_false];rw[<-t3];congr 1;simp;omega
  cases e
inductive Ai(C:cG)(run:gW)(ops:Array Oper)(i:Nat)(o:Oper)(x y:vO):Prop
 |off:bu ops o x.s.Y=some false->y=⟨⟨bY x.s.Y o.dst .undef,x.s.h⟩,x.L0,x.own⟩->Ai C run ops i o x y
 |plain (r:PV) (h1:ab):bu ops o x.s.Y=some true->c9 o.op=false->ar C run 1 o.op x.s.Y x.s.h=some (r,h1)->y=⟨⟨bY x.s.Y o.dst r,x.s.h⟩,x.L0,x.own⟩->Ai C run ops i o x y
 |two (r:PV) (h':ab):bu ops o x.s.Y=some true->c9 o.op=true->level ops (before ops) i=2->ar C run 2 o.op x.s.Y x.s.h=some (r,h')->y=⟨⟨bY x.s.Y o.dst r,h'⟩,h'.length,[]⟩->Ai C run ops i o x y
 |one (r:PV) (ext:ab):bu ops o x.s.Y=some true->c9 o.op=true->level ops (before ops) i≠2->aY (cB ((before ops).getD i 0).testBit x.L0 x.own x.s.h)=true->
   (∀z∈o.op.operands.toList,bw (aO (cB ((before ops).getD i 0).testBit x.L0 x.own x.s.h)) (ev x.s.Y z)=true)->
   ar C run 1 o.op x.s.Y (cB ((before ops).getD i 0).testBit x.L0 x.own x.s.h)=some (r,cB ((before ops).getD i 0).testBit x.L0 x.own x.s.h++ext)->
   (∀o∈ext,o.mu≠.l)->y=⟨⟨bY x.s.Y o.dst r,x.s.h++ext⟩,x.L0,x.own++List.replicate ext.length i⟩->Ai C run ops i o x y
theorem Tg{i:Nat}{o:Oper}{x y:vO}(h1:x.L0<=x.s.h.length)(h2:x.own.length=x.s.h.length - x.L0)(e:ct C run ops (before ops) i o x=some y):Ai C run ops i o x y:=by
 unfold ct at e
 split at e
 ·rename_i hw
  split at e
  ·rename_i hh
   split at e
   ·rename_i r hx hv;exact .plain r hx hw hh hv (aa2 e).symm
   cases e
  ·rename_i hh
   have hh':c9 o.op=true:=by simpa using hh
   split at e
   ·rename_i hl
    split at e
    ·rename_i r h' hv;exact .two r h' hw hh' hl hv (aa2 e).symm
    cases e
   ·rename_i hl
    simp only at e
    split at e
    ·rename_i hc
     split at e
     ·rename_i r h' hv
      obtain⟨ext,rfl⟩:=IX (aa5 1) hv
      have hd:(cB ((before ops).getD i 0).testBit x.L0 x.own x.s.h++ext).drop x.s.h.length=ext:=by
       rw[<-ua (e:=((before ops).getD i 0).testBit) h1 h2,List.drop_left]
      rw[hd]at e
      split at e
      ·rename_i zU
       exact .one r ext hw hh' hl hc.1 (λz hz=>aa4.1 hc.2 z hz) hv (λo ho=>by simpa using aa4.1 zU o ho) (aa2 e).symm
      cases e
     cases e
    cases e
 ·rename_i hw;exact .off hw (aa2 e).symm
 cases e
end
variable[iD:Inhabited Prop]
structure Lex(C:cG)(run:gW)(ops:Array Oper)(tr:Nat->vO):Prop where
 ok:mD ops=true
 st:∀(i:Nat) (o:Oper),ops[i]?=some o->ct C run ops (before ops) i o (tr i)=some (tr (i+1))
 h0:(tr 0).L0<=(tr 0).s.h.length
 o0:(tr 0).own=[]/\(tr 0).L0=(tr 0).s.h.length
def E4(ops:Array Oper)(tr:Nat->vO)(j:Nat):Prop:=∃o,ops[j]?=some o/\c9 o.op=true/\bu ops o (tr j).s.Y=some true
variable{C:cG}{run:gW}{ops:Array Oper}{tr:Nat->vO}
theorem qQ{k:Nat}(h:k<ops.size):∃o,ops[k]?=some o:=⟨ops[k],aci h⟩
theorem Lex.wf(L:Lex C run ops tr):∀k,k<=ops.size->(tr k).L0<=(tr k).s.h.length/\(tr k).own.length=(tr k).s.h.length - (tr k).L0/\∀j∈(tr k).own,j<k/\E4 ops tr j:=by
 intro k
 induction k with
 |zero=>
  intro _
  obtain⟨h1,h2⟩:=L.o0;rw[h1,h2];exact⟨aa5 _,by simp,λj hj=>by cases hj⟩
 |succ k ih=>
  intro hk
  obtain⟨h1,h2,h3⟩:=ih (by omega);obtain⟨o,ho⟩:=qQ (ops:=ops) (k:=k) (by omega);have aR:∀j∈(tr k).own,j<k+1/\E4 ops tr j:=λj hj=>⟨by have:=(h3 j hj).1;omega,(h3 j hj).2⟩
  cases Tg h1 h2 (L.st k o ho)with
  |off _ hy=>rw[hy];exact⟨h1,h2,aR⟩
  |plain r hx _ _ _ hy=>rw[hy];exact⟨h1,h2,aR⟩
  |two r h' _ _ _ _ hy=>rw[hy];exact⟨aa5 _,by simp,λj hj=>by cases hj⟩
  |one r ext hw hh _ _ _ _ _ hy=>
   rw[hy];refine⟨by simp;omega,by simp;omega,λj hj=>?_⟩;rcases aa9.1 hj with hj |hj;exact aR j hj
   ·obtain⟨_,rfl⟩:=acV.1 hj;exact⟨by omega,o,ho,hh,hw⟩
theorem Lex.view(L:Lex C run ops tr){k:Nat}{o:Oper}(ho:ops[k]?=some o):Ai C run ops k o (tr k) (tr (k+1)):=by
 have hk:k<ops.size:=(aby.1 ho).1;obtain⟨h1,h2,_⟩:=L.wf k (by omega);exact Tg h1 h2 (L.st k o ho)
theorem Lex.rho(L:Lex C run ops tr){k:Nat}{o:Oper}(ho:ops[k]?=some o):∃r,(tr (k+1)).s.Y=bY (tr k).s.Y o.dst r:=by
 cases L.view ho with
 |off _ hy=>exact⟨_,by rw[hy]⟩
 |plain r hx _ _ _ hy=>exact⟨_,by rw[hy]⟩
 |two r h' _ _ _ _ hy=>exact⟨_,by rw[hy]⟩
 |one r ext hw hh _ _ _ _ _ hy=>exact⟨_,by rw[hy]⟩
theorem Lex.mW(L:Lex C run ops tr){t:Nat}{i:Nat}:∀k,i<=k->k<=ops.size->(∀j o,i<=j->j<k->ops[j]?=some o->o.dst≠some t)->(tr k).s.Y t=(tr i).s.Y t:=by
 intro k
 induction k with
 |zero=>intro h1 _ _;obtain rfl:i=0:=(by omega);rfl
 |succ k ih=>
  intro h1 h2 h3
  by_cases hi:i=k+1
  subst hi;rfl
  ·obtain⟨o,ho⟩:=qQ (ops:=ops) (k:=k) (by omega);obtain⟨r,hr⟩:=L.rho ho;rw[hr,nV,if_neg (h3 k o (by omega) (by omega) ho)];exact ih (by omega) (by omega) (λj o' a b c=>h3 j o' a (by omega) c)
theorem Lex.phase(L:Lex C run ops tr){i:Nat}:∀k,i<=k->k<=ops.size->(∀j,i<=j->j<k->¬(E4 ops tr j/\level ops (before ops) j=2))->
  ∃ext sx,(tr k).s.h=(tr i).s.h++ext/\(tr k).L0=(tr i).L0/\(tr k).own=(tr i).own++sx/\sx.length=ext.length/\∀j∈sx,i<=j:=by
 intro k
 induction k with
 |zero=>intro h1 _ _;obtain rfl:i=0:=(by omega);exact⟨[],[],by simp,rfl,by simp,rfl,λj hj=>by cases hj⟩
 |succ k ih=>
  intro h1 h2 h3
  by_cases hi:i=k+1
  subst hi;exact⟨[],[],by simp,rfl,by simp,rfl,λj hj=>by cases hj⟩
  ·obtain⟨ext,sx,e1,e2,e3,e4,e5⟩:=ih (by omega) (by omega) (λj a b=>h3 j a (by omega));obtain⟨o,ho⟩:=qQ (ops:=ops) (k:=k) (by omega)
   cases L.view ho with
   |off _ hy=>rw[hy];exact⟨ext,sx,e1,e2,e3,e4,e5⟩
   |plain r hx _ _ _ hy=>rw[hy];exact⟨ext,sx,e1,e2,e3,e4,e5⟩
   |two r h' hw hh hl _ hy=>exact absurd ⟨⟨o,ho,hh,hw⟩,hl⟩ (h3 k (by omega) (by omega))
   |one r MC hw hh _ _ _ _ _ hy=>
    rw[hy];refine⟨ext++MC,sx++List.replicate MC.length k,by simp[e1],e2,by simp[e3],by simp[e4],λj hj=>?_⟩;rcases aa9.1 hj with hj |hj;exact e5 j hj;obtain⟨_,rfl⟩:=acV.1 hj;omega
def Kh(tr:Nat->vO)(E:Nat->Bool)(k:Nat):ab:=cB E (tr k).L0 (tr k).own (tr k).s.h
structure zu(ops:Array Oper)(tr:Nat->vO)(N:Nat)(F:Nat->Prop)(w0:World)(h0:ab)(Z0:List (Nat×Nat))(E:Nat->Bool)(a:Act)(w:World)(k:Nat)(Y:Nat->PV)(Z:List (Nat×Nat)):Prop where
 kn:k<=ops.size
 lo:∀j,E4 ops tr j->E j=true->j<k
 hi:∀j,E4 ops tr j->level ops (before ops) j=2->j<k->E j=true
 base:h0.length<=(tr k).L0
 hr:ba w F Z (Kh tr E k)
 er:gZ w (Av F (Kh tr E k) Z) Z (Kh tr E k) a Y
 rh:∀t k',k'<=ops.size->(∀j o,ops[j]?=some o->o.dst=some t->(E j=true↔j<k'))->Y t=(tr k').s.Y t
 sp:dU w0 h0 Z0 w (Kh tr E k) Z
 df:a.defers=[]
 sz:N<=a.tmps.size
variable{N:Nat}{F:Nat->Prop}{w0:World}{h0:ab}{Z0:List (Nat×Nat)}{E:Nat->Bool}{a:Act}{w:World}
theorem zu.ZQ(L:Lex C run ops tr){k:Nat}{Y:Nat->PV}{Z:List (Nat×Nat)}(D:zu ops tr N F w0 h0 Z0 E a w k Y Z)(hk:k<ops.size)(hn:¬(E4 ops tr k/\level ops (before ops) k=2)):
  ∃Z',zu ops tr N F w0 h0 Z0 E a w (k+1) Y Z':=by
 obtain⟨o,ho⟩:=qQ (ops:=ops) hk
 have hE:E4 ops tr k->E k=false:=λhr=>by
  cases he:E k with
  |false=>rfl
  |true=>have:=D.lo k hr he;omega
 have zc:∀j,E4 ops tr j->E j=true->j<k+1:=λj h1 h2=>by have:=D.lo j h1 h2;omega
 have zd:∀j,E4 ops tr j->level ops (before ops) j=2->j<k+1->E j=true:=λj h1 h2 h3=>by
  by_cases hj:j=k
  subst hj;exact absurd ⟨h1,h2⟩ hn;exact D.hi j h1 h2 (by omega)
 have same:(tr (k+1)).s.h=(tr k).s.h->(tr (k+1)).L0=(tr k).L0->(tr (k+1)).own=(tr k).own->∃Z',zu ops tr N F w0 h0 Z0 E a w (k+1) Y Z':=λe1 e2 e3=>by
  have hK:Kh tr E (k+1)=Kh tr E k:=by unfold Kh;rw[e1,e2,e3]
  exact⟨Z,⟨hk,zc,zd,by rw[e2];exact D.base,by rw[hK];exact D.hr,by rw[hK];exact D.er,D.rh,by rw[hK];exact D.sp,D.df,D.sz⟩⟩
 cases L.view ho with
 |off _ hy=>exact same (by rw[hy]) (by rw[hy]) (by rw[hy])
 |plain r hx _ _ _ hy=>exact same (by rw[hy]) (by rw[hy]) (by rw[hy])
 |two r h' hw hh hl _ hy=>exact absurd ⟨⟨o,ho,hh,hw⟩,hl⟩ hn
 |one r ext hw hh _ _ _ _ _ hy=>
  obtain⟨w1,w2,_⟩:=L.wf k (by omega);have hek:=hE ⟨o,ho,hh,hw⟩
  have hK:Kh tr E (k+1)=Kh tr E k++List.zipWith (λo j=>if E j then o else ez o) ext (List.replicate ext.length k):=by
   unfold Kh;rw[hy];exact ub w1 w2
  have hzx:∀o∈List.zipWith (λo j=>if E j then o else ez o) ext (List.replicate ext.length k),o.mu=.x:=by
   intro o ho
   obtain⟨i,hi⟩:=ab6 ho;rw[acv]at hi
   cases h1:ext[i]? with
   |none=>rw[h1]at hi;simp at hi
   |some y=>
    have cL:=ag h1;rw[h1,show(List.replicate ext.length k)[i]?=some k by simp[cL]]at hi;simp[hek]at hi;subst hi
    rfl
  obtain⟨P1,P2⟩:=D.hr.pad (List.zipWith (λo j=>if E j then o else ez o) ext (List.replicate ext.length k)) (List.replicate ext.length (0,0)) (by simp) hzx;rw[<-hK]at P1 P2;refine⟨_,⟨hk,zc,zd,by rw[hy];exact D.base,P1,D.er.mono P2,D.rh,D.sp.trans P2,D.df,D.sz⟩⟩
theorem zu.PZ(L:Lex C run ops tr){Y:Nat->PV}:∀(d:Nat) {k:Nat} {Z:List (Nat×Nat)},zu ops tr N F w0 h0 Z0 E a w k Y Z->k+d<=ops.size->(∀j,k<=j->j<k+d->¬(E4 ops tr j/\level ops (before ops) j=2))->
  ∃Z',zu ops tr N F w0 h0 Z0 E a w (k+d) Y Z'
 |0,k,Z,D,_,_=>⟨Z,D⟩
 |d+1,k,Z,D,h1,h2=>by
  obtain⟨Z1,D1⟩:=D.ZQ L (by omega) (h2 k (aa5 _) (by omega));obtain⟨Z2,D2⟩:=zu.PZ L d D1 (by omega) (λj a b=>h2 j (by omega) (by omega));exact⟨Z2,by rw[show k+(d+1)=k+1+d by omega];exact D2⟩
end Go.Pm
namespace Go.Pm
variable[iD:Inhabited Prop]
variable{C:cG}{run:gW}{ops:Array Oper}{tr:Nat->vO}
variable{N:Nat}{F:Nat->Prop}{w0:World}{h0:ab}{Z0:List (Nat×Nat)}{E E':Nat->Bool}{a:Act}{w:World}
def BE(ops:Array Oper)(tr:Nat->vO)(N:Nat)(F:Nat->Prop)(w0:World)(h0:ab)(Z0:List (Nat×Nat))(E:Nat->Bool)(a:Act)(w:World):Prop:=∃k Y Z,zu ops tr N F w0 h0 Z0 E a w k Y Z
theorem mX{o o':Oper}{t:Nat}(h1:o'.dst=some t)(h2:t∈o.looksAt ops\/o.dst=some t):Jv ops o o'=true:=by
 unfold Jv;rw[h1];rcases h2 with h2 |h2;simp[h2];simp[h2]
structure CV(ops:Array Oper)(E E':Nat->Bool)(i:Nat)(o:Oper):Prop where
 at_:ops[i]?=some o
 out:E i=false
 Ua:∀j,zk ops i j->E j=true
 cl:∀i j,E i=true->zk ops i j->E j=true
 nL:∀j,E' j=true↔E j=true\/j=i
theorem CV.later{i j:Nat}{o:Oper}(R:CV ops E E' i o)(h:zk ops j i):E j=false:=by
 cases he:E j with
 |false=>rfl
 |true=>have:=R.cl j i he h;rw[R.out]at this;cases this
theorem zu.look(L:Lex C run ops tr){k:Nat}{Y:Nat->PV}{Z:List (Nat×Nat)}(D:zu ops tr N F w0 h0 Z0 E a w k Y Z){i:Nat}{o:Oper}(R:CV ops E E' i o){t:Nat}(ht:t∈o.looksAt ops):Y t=(tr i).s.Y t:=by
 have hi:i<ops.size:=(aby.1 R.at_).1;refine D.rh t i (by omega) (λj o' hj hd=>?_);rcases acE j i with h |h |h;exact⟨λ_=>h,λ_=>R.Ua j ((fm L.ok).2 i j o o' R.at_ hj h (.inl (mX hd (.inl ht))))⟩;subst h;rw[R.out];simp
 ·have:=R.later ((fm L.ok).2 j i o' o hj R.at_ h (.inr (mX hd (.inl ht))));rw[this]
  constructor
  intro hh;cases hh
  intro hh;omega
theorem zu.LM(L:Lex C run ops tr){k:Nat}{Y:Nat->PV}{Z:List (Nat×Nat)}(D:zu ops tr N F w0 h0 Z0 E a w k Y Z){i:Nat}{o:Oper}(R:CV ops E E' i o):∀x∈o.op.operands.toList,ev Y x=ev (tr i).s.Y x:=by
 intro x hx
 cases x with
 |tmp t=>exact D.look L R (List.mem_append_left _ (List.mem_filterMap.2 ⟨.tmp t,hx,rfl⟩))
 |_=>rfl
theorem zu.HA(L:Lex C run ops tr){k:Nat}{Y:Nat->PV}{Z:List (Nat×Nat)}(D:zu ops tr N F w0 h0 Z0 E a w k Y Z){i:Nat}{o:Oper}(R:CV ops E E' i o):bu ops o Y=bu ops o (tr i).s.Y:=by
 unfold bu
 cases hg:o.guard with
 |none=>rfl
 |some jw=>
  obtain⟨j,want⟩:=jw;simp only
  cases hd:(ops.toList[j]?).bind (·.dst)with
  |none=>rfl
  |some d=>
   have CW:(ops[j]?).bind (·.dst)=some d:=by simpa using hd
   have:Y d=(tr i).s.Y d:=D.look L R (List.mem_append_right _ (by simp[hg,CW]));simp only[this]
theorem zu.rh'(L:Lex C run ops tr){k:Nat}{Y:Nat->PV}{Z:List (Nat×Nat)}(D:zu ops tr N F w0 h0 Z0 E a w k Y Z){i:Nat}{o:Oper}(R:CV ops E E' i o){r:PV}(hr:(tr (i+1)).s.Y=bY (tr i).s.Y o.dst r):
  ∀t k',k'<=ops.size->(∀j o,ops[j]?=some o->o.dst=some t->(E' j=true↔j<k'))->bY Y o.dst r t=(tr k').s.Y t:=by
 intro t k' hk hw
 rw[nV]
 split
 ·rename_i ht
  have Ff:i<k':=(hw i o R.at_ ht).1 ((R.nL i).2 (.inr rfl));rw[L.mW (t:=t) (i:=i+1) k' Ff hk (λj o' h1 h2 h3 h4=>?_),hr,nV,if_pos ht];have he:=(hw j o' h3 h4).2 h2;rcases(R.nL j).1 he with he |he
  ·rw[R.later ((fm L.ok).2 j i o' o h3 R.at_ (by omega) (.inl (mX ht (.inr h4))))]at he
   cases he
  omega
 ·rename_i ht
  refine D.rh t k' hk (λj o' h1 h2=>?_)
  have zl:j≠i:=by
   rintro rfl;rw[R.at_]at h1;obtain rfl:=aa2 h1;exact ht h2
  rw[<-hw j o' h1 h2,R.nL];simp[zl]
theorem zu.still(L:Lex C run ops tr){k:Nat}{Y:Nat->PV}{Z:List (Nat×Nat)}(D:zu ops tr N F w0 h0 Z0 E a w k Y Z){i:Nat}{o:Oper}(R:CV ops E E' i o)(hd:jC N o=true)(hn:¬E4 ops tr i)
  {r:PV} (hr:(tr (i+1)).s.Y=bY (tr i).s.Y o.dst r) {v:Value} (hv:aE w (Av F (Kh tr E k) Z) Z (Kh tr E k) v r):BE ops tr N F w0 h0 Z0 E' (a.put o.dst v) w:=by
 have hK:Kh tr E' k=Kh tr E k:=by
  unfold Kh;refine uP (λj hj=>?_)
  have zl:j≠i:=by
   rintro rfl;exact hn ((L.wf k D.kn).2.2 j hj).2
  have:=R.nL j;simp only[zl,or_false]at this
  cases h1:E j <;>cases h2:E' j <;>simp_all
 refine⟨k,bY Y o.dst r,Z,D.kn,?_,?_,D.base,by rw[hK];exact D.hr,by rw[hK];exact D.er.put (il hd D.sz) hv,D.rh' L R hr,by rw[hK];exact D.sp,by rw[dY];exact D.df,by rw[gA];exact D.sz⟩
 ·intro j h1 h2
  rcases(R.nL j).1 h2 with h2 |rfl;exact D.lo j h1 h2;exact absurd h1 hn
 ·intro j h1 h2 h3
  exact(R.nL j).2 (.inl (D.hi j h1 h2 h3))
theorem aE.MD{A:Nat->Prop}{Z:List (Nat×Nat)}{M:ab}{v:Value}{p:PV}(f:Nat->Bool)(h:bw f p=true->aE w A Z M v p):aE w A Z M v (if bw f p then p else .any):=by
 split
 ·rename_i hv;exact h hv
 exact .any v
theorem BE.step(K:eY C)(S:gz C run)(L:Lex C run ops tr)(D:BE ops tr N F w0 h0 Z0 E a w){i:Nat}{o:Oper}(R:CV ops E E' i o)(hd:jC N o=true)
  {Q:Exit->Act->World->Prop} {next:Act->World->Prop} (hK:∀a' w',BE ops tr N F w0 h0 Z0 E' a' w'->next a' w'):wpOp C.P ops Q i next a w:=by
 obtain⟨k,Y,Z,D⟩:=D;have hi:i<ops.size:=(aby.1 R.at_).1;have kT:=D.HA L R;have vB:=D.LM L R;have jJ:∀lv h,ar C run lv o.op Y h=ar C run lv o.op (tr i).s.Y h:=λlv h=>l9 vB
 unfold wpOp;rw[R.at_];simp only;obtain⟨wf1,XO,wf3⟩:=L.wf i (by omega)
 cases L.view R.at_ with
 |off hw hy=>
  rw[cY D.er (by rw[kT];exact hw),if_neg (by simp)];refine hK _ _ (D.still L R hd ?_ (by rw[hy]) .undef);rintro⟨o',h1,h2,h3⟩;rw[R.at_]at h1;obtain rfl:=aa2 h1;rw[hw]at h3;cases h3
 |plain r hx hw hh hv hy=>
  rw[cY D.er (by rw[kT];exact hw),if_pos rfl];refine .inl ?_
  have hn:¬E4 ops tr i:=by
   rintro⟨o',h1,h2,h3⟩;rw[R.at_]at h1;obtain rfl:=aa2 h1;rw[hh]at h2;cases h2
  have e:ar C run 1 o.op Y (Kh tr E k)=some (r,Kh tr E k):=by
   rw[jJ];exact pn hh hv
  refine ji K S D.hr D.er e (λv w' Z' q1 q2 q3 q4=>?_);have G:=q4 (aa5 1);have D':zu ops tr N F w0 h0 Z0 E a w' k Y Z':=⟨D.kn,D.lo,D.hi,D.base,q2,D.er.mono q3,D.rh,D.sp.trans q3,D.df,D.sz⟩;exact hK _ _ (D'.still L R hd hn (by rw[hy]) q1)
 |two r h' hw hh hl hv hy=>
  rw[cY D.er (by rw[kT];exact hw),if_pos rfl];refine .inl ?_;have Fg:E4 ops tr i:=⟨o,R.at_,hh,hw⟩
  have SM:k<=i:=by
   rcases abJ i k with h |h;have:=D.hi i Fg hl h;rw[R.out]at this;cases this;exact h
  have anc_of:∀j,E4 ops tr j->j<i->E j=true:=λj hj cL=>by
   obtain⟨oj,g1,g2,_⟩:=hj;rcases rz hl g1 g2 with h |h |h;omega;exact R.Ua j h;have:=rj L.ok j i h;omega
  obtain⟨Z1,D1⟩:=D.PZ L (i - k) (by omega) (λj h1 h2 h3=>by
   have:=D.lo j h3.1 (anc_of j h3.1 (by omega));omega)
  rw[show k+(i - k)=i by omega]at D1;have hKi:Kh tr E i=(tr i).s.h:=qv XO (λj hj=>anc_of j (wf3 j hj).2 (wf3 j hj).1);have hr1:=D1.hr;have er1:=D1.er;have sp1:=D1.sp;rw[hKi]at hr1 er1 sp1;refine ji K S hr1 er1 (by rw[jJ];exact hv) (λv w' Z' q1 q2 q3 q4=>hK _ _ ?_)
  have Ub:Kh tr E' (i+1)=h':=by
   unfold Kh;rw[hy];exact qv (by simp) (λj hj=>by cases hj)
  refine⟨i+1,bY Y o.dst r,Z',by omega,?_,?_,?_,by rw[Ub];exact q2,by rw[Ub];exact(er1.mono q3).put (il hd D.sz) q1,D.rh' L R (by rw[hy]),by rw[Ub];exact sp1.trans q3,by rw[dY];exact D.df,by rw[gA];exact D.sz⟩
  ·intro j h1 h2
   rcases(R.nL j).1 h2 with h2 |rfl;have:=D1.lo j h1 h2;omega;omega
  ·intro j h1 h2 h3
   by_cases hj:j=i
   exact(R.nL j).2 (.inr hj);exact(R.nL j).2 (.inl (anc_of j h1 (by omega)))
  ·rw[hy];have:=(sp1.trans q3).len;exact this
 |one r ext hw hh hl dG Ja hv zU hy=>
  rw[cY D.er (by rw[kT];exact hw),if_pos rfl];refine .inl ?_;have Fg:E4 ops tr i:=⟨o,R.at_,hh,hw⟩
  obtain⟨k,Z,D,Ff⟩:∃k Z,zu ops tr N F w0 h0 Z0 E a w k Y Z/\i<k:=by
   rcases abJ i k with h |h;exact⟨k,Z,D,h⟩
   ·obtain⟨Z1,D1⟩:=D.PZ L (i+1 - k) (by omega) (λj h1 h2 h3=>by
     obtain⟨⟨oj,g1,g2,g3⟩,g4⟩:=h3
     by_cases hj:j=i
     subst hj;exact hl g4
     ·rcases rz g4 R.at_ hh with h5 |h5 |h5
      ·omega
      ·have:=rj L.ok j i h5;omega
      ·have:=D.lo j ⟨oj,g1,g2,g3⟩ (R.Ua j h5);omega)
    exact⟨i+1,Z1,by rw[show i+1=k+(i+1 - k) by omega];exact D1,by omega⟩
  have y9:∀j,i+1<=j->j<k->¬(E4 ops tr j/\level ops (before ops) j=2):=λj h1 h2 h3=>by
   have he:=D.hi j h3.1 h3.2 h2;rcases rz h3.2 R.at_ hh with h5 |h5 |h5;omega;rw[R.later h5]at he;cases he;have:=rj L.ok i j h5;omega
  obtain⟨MC,sx,p1,p2,p3,p4,p5⟩:=L.phase k Ff D.kn y9;rw[hy]at p1 p2 p3;simp only at p1 p2 p3
  have wfx:(tr i).L0<=((tr i).s.h++ext).length/\((tr i).own++List.replicate ext.length i).length=((tr i).s.h++ext).length - (tr i).L0:=by
   refine⟨by simp;omega,by simp;omega⟩
  have hKE:∀e:Nat->Bool,Kh tr e k=cB e (tr i).L0 (tr i).own (tr i).s.h++List.zipWith (λo j=>if e j then o else ez o) ext (List.replicate ext.length i)++List.zipWith (λo j=>if e j then o else ez o) MC sx:=λe=>by
   unfold Kh;rw[p1,p2,p3,ub wfx.1 wfx.2,ub wf1 XO]
  have UB:∀j∈(tr i).own,E j=E' j:=λj hj=>by
   have zl:j≠i:=by have:=(wf3 j hj).1;omega
   have:=R.nL j;simp only[zl,or_false]at this
   cases h1:E j <;>cases h2:E' j <;>simp_all
  have UC:∀j∈sx,E j=E' j:=λj hj=>by
   have zl:j≠i:=by have:=p5 j hj;omega
   have:=R.nL j;simp only[zl,or_false]at this
   cases h1:E j <;>cases h2:E' j <;>simp_all
  have hA:=hKE E;have hB:=hKE E';rw[<-uP UB,<-uc MC sx UC,BD (e:=E') ext (List.replicate ext.length i) (by simp) (λj hj=>by obtain⟨_,rfl⟩:=acV.1 hj;exact(R.nL j).2 (.inr rfl))]at hB;have Qs:(cB E (tr i).L0 (tr i).own (tr i).s.h).length=(tr i).s.h.length:=ua wf1 XO;have WG:(cB ((before ops).getD i 0).testBit (tr i).L0 (tr i).own (tr i).s.h).length=(tr i).s.h.length:=ua wf1 XO;have hlz:(List.zipWith (λo j=>if E j then o else ez o) ext (List.replicate ext.length i)).length=ext.length:=by simp
  have FZ:∀id,id<(tr i).s.h.length->(Kh tr E k)[id]?=(cB E (tr i).L0 (tr i).own (tr i).s.h)[id]?:=λid hid=>by
   rw[hA,abu,aa3 (by omega)]
  have hM:∀(id:Nat) (o:au),(cB ((before ops).getD i 0).testBit (tr i).L0 (tr i).own (tr i).s.h)[id]?=some o->o.mu≠.x->(Kh tr E k)[id]?=some o:=by
   intro id o e1 e2
   have hid:id<(tr i).s.h.length:=by have:=ag e1;omega
   rw[FZ id hid];rw[Jw wf1 XO]at e1 ⊢
   split at e1
   ·rename_i Hx;rw[if_pos Hx];exact e1
   ·rename_i Hx
    rw[if_neg Hx]
    cases ho:(tr i).s.h[id]? with
    |none=>rw[ho]at e1;cases e1
    |some o1=>
     rw[ho]at e1;simp only[abf,abw]at e1 ⊢
     split at e1
     ·rename_i hb
      rw[if_pos (R.Ua _ hb)];exact e1
     subst e1;exact absurd rfl e2
  obtain⟨HM,VM⟩:=D.hr.part (M:=cB ((before ops).getD i 0).testBit (tr i).L0 (tr i).own (tr i).s.h) (by rw[WG,hA];simp[Qs]) hM dG
  have erM:gZ w (Av (Fp F Z (Kh tr E k) (cB ((before ops).getD i 0).testBit (tr i).L0 (tr i).own (tr i).s.h)) (cB ((before ops).getD i 0).testBit (tr i).L0 (tr i).own (tr i).s.h) (Z.take (cB ((before ops).getD i 0).testBit (tr i).L0 (tr i).own (tr i).s.h).length))
    (Z.take (cB ((before ops).getD i 0).testBit (tr i).L0 (tr i).own (tr i).s.h).length) (cB ((before ops).getD i 0).testBit (tr i).L0 (tr i).own (tr i).s.h) a
    (λt=>if bw (aO (cB ((before ops).getD i 0).testBit (tr i).L0 (tr i).own (tr i).s.h)) (Y t)then Y t else .any):=λt=>aE.MD _ (λhv=>VM _ _ (D.er t) hv)
  have eM:ar C run 1 o.op (λt=>if bw (aO (cB ((before ops).getD i 0).testBit (tr i).L0 (tr i).own (tr i).s.h)) (Y t)then Y t else .any) (cB ((before ops).getD i 0).testBit (tr i).L0 (tr i).own (tr i).s.h)=
    some (r,cB ((before ops).getD i 0).testBit (tr i).L0 (tr i).own (tr i).s.h++ext):=by
   rw[<-hv];refine l9 (λx hx=>?_);have h1:=Ja x hx;have h2:=vB x hx
   cases x with
   |tmp t=>
    simp only[ev]at h1 h2 ⊢;rw[h2,if_pos h1]
   |_=>rfl
  refine ji K S HM erM eM (λv w' Z1 q1 q2 q3 q4=>hK _ _ ?_);have G:=q4 (aa5 1)
  have cL:∀id,(tr i).s.h.length<=id->id<(tr i).s.h.length+ext.length->(Kh tr E k)[id]?=(List.zipWith (λo j=>if E j then o else ez o) ext (List.replicate ext.length i))[id - (tr i).s.h.length]?/\(Kh tr E' k)[id]?=ext[id - (tr i).s.h.length]?:=λid h1 h2=>by
   constructor
   rw[hA,aa3 (by rw[aba,Qs,hlz];omega),abd (by omega),Qs];rw[hB,aa3 (by rw[aba,Qs];omega),abd (by omega),Qs]
  obtain⟨Z',m1,m2,m3,m4,m5,m6⟩:=D.hr.merge (h':=Kh tr E' k) (by rw[WG,hA];simp[Qs]) hM q2 q3 G zU (by rw[hA,hB];simp)
   (λid h1 h2=>by rw[WG]at h1 h2 ⊢;exact(cL id h1 h2).2)
   (λid h1=>by
    rw[WG]at h1;rcases h1 with h1 |h1;rw[FZ id h1,hB,abu,aa3 (by omega)]
    ·rw[hA,hB,abd (by rw[aba,Qs];omega),abd (by rw[aba,Qs,hlz];omega)];simp)
   (λid o h1 h2 h3=>by
    rw[WG]at h1 h2;rw[(cL id h1 h2).1,acv]at h3
    cases h4:ext[id - (tr i).s.h.length]? with
    |none=>rw[h4]at h3;simp at h3
    |some y=>
     have:=ag h4;rw[h4,show(List.replicate ext.length i)[id - (tr i).s.h.length]?=some i by simp[this]]at h3;simp[R.out]at h3;subst h3
     rfl)
  have ME:h0.length<=(tr i).s.h.length:=by
   have:=D.base;rw[p2]at this;omega
  refine⟨k,bY Y o.dst r,Z',D.kn,?_,?_,D.base,m1,?_,D.rh' L R (by rw[hy]),?_,by rw[dY];exact D.df,by rw[gA];exact D.sz⟩
  ·intro j h1 h2
   rcases(R.nL j).1 h2 with h2 |rfl;exact D.lo j h1 h2;exact Ff
  ·intro j h1 h2 h3
   exact(R.nL j).2 (.inl (D.hi j h1 h2 h3))
  exact gZ.put (λt=>(D.er t).UD m2 (λb hb _=>G.aR b hb) m3) (il hd D.sz) (m6 _ _ q1)
  ·refine⟨abQ D.sp.size G.size,?_,?_,?_,D.sp.refs.trans m2,?_,G.os.trans D.sp.os,G.tape.trans D.sp.tape,G.output.trans D.sp.output,λd=>abQ (D.sp.drawn d) (G.drawn d)⟩
   ·have h1:=D.sp.len;rw[hA]at h1;rw[hB];simp at h1 ⊢;omega
   ·intro b hb hm
    rw[G.aR b (abO hb D.sp.size)];exact D.sp.aR b hb hm
   ·intro b hb hm
    exact D.sp.shr b hb (m4 b (abO hb D.sp.size) hm)
   ·intro id o e1 e2
    obtain⟨f1,f2⟩:=D.sp.Lk id o e1 e2;have hid:id<(tr i).s.h.length:=by have:=ag e1;omega
    refine⟨?_,by rw[m5 id (by rw[WG];exact hid)];exact f2⟩;rw[<-f1,FZ id hid,hB,abu,aa3 (by omega)]
theorem Aj{p q:Nat->Bool}:∀(l:List Nat),(∀j∈l,q j=true->p j=true)->(∃i∈l,p i=true/\q i=false)->l.countP q<l.countP p
 |[],_,⟨i,h,_⟩=>by cases h
 |j::l,h1,⟨i,h2,h3,h4⟩=>by
  have le:l.countP q<=l.countP p:=List.countP_mono_left (λj hj=>h1 j (by simp[hj]));rcases abc.1 h2 with rfl |h2;rw[acQ,acQ,h3,h4];simp;omega
  ·have:=Aj l (λj hj=>h1 j (by simp[hj])) ⟨i,h2,h3,h4⟩;rw[acQ,acQ];have hj:=h1 j (by simp)
   cases hq:q j with
   |false=>simp;omega
   |true=>rw[hj hq];simp;omega
theorem BE.done(L:Lex C run ops tr)(D:BE ops tr N F w0 h0 Z0 E a w)(hE:∀j,j<ops.size->E j=true):∃Z,SR N w F Z (tr ops.size).s a/\dU w0 h0 Z0 w (tr ops.size).s.h Z:=by
 obtain⟨k,Y,Z,D⟩:=D
 obtain⟨Z1,D1⟩:=D.PZ L (ops.size - k) (by have:=D.kn;omega) (λj h1 h2 h3=>by
  have:=D.lo j h3.1 (hE j (by have:=D.kn;omega));omega)
 rw[show k+(ops.size - k)=ops.size by have:=D.kn;omega]at D1;obtain⟨w1,w2,w3⟩:=L.wf ops.size (aa5 _);have hK:Kh tr E ops.size=(tr ops.size).s.h:=qv w2 (λj hj=>hE j (w3 j hj).1)
 have hY:Y=(tr ops.size).s.Y:=by
  funext t
  refine D1.rh t ops.size (aa5 _) (λj o hj _=>?_);have:j<ops.size:=(aby.1 hj).1;simp[hE j this,this]
 have h1:=D1.hr;have h2:=D1.er;have h3:=D1.sp;rw[hK]at h1 h2 h3;rw[hY]at h2;exact⟨Z1,⟨h1,h2,D1.df,D1.sz⟩,h3⟩
theorem zV(ok:mD ops=true)(Inv:(Nat->Bool)->Act->World->Prop){Q:Exit->Act->World->Prop}
  (XP:∀(E E':Nat->Bool) (a:Act) (w:World) (i:Nat) (o:Oper),Inv E a w->CV ops E E' i o->∀next:Act->World->Prop,(∀a' w',Inv E' a' w'->next a' w')->wpOp C.P ops Q i next a w)
  (XQ:∀(E:Nat->Bool) (a:Act) (w:World),Inv E a w->(∀j,j<ops.size->E j=true)->Q .normal a w):
  ∀(fuel:Nat) (listed:Array Bool) (a:Act) (w:World),listed.size=ops.size->(∀(i:Nat) (o:Oper),ops[i]?=some o->listed.getD i false=true->∀e∈IW o,listed.getD e.on false=true)->
   (List.range ops.size).countP (λj=>!listed.getD j false)<=fuel->Inv (λj=>listed.getD j false) a w->wpAny C.P .any ops Q fuel listed a w:=by
 have all_of:∀(listed:Array Bool),listed.size=ops.size->Region.ready .any ops listed=[]->∀j,j<ops.size->listed.getD j false=true:=by
  intro listed hs hr j
  induction j using Nat.strongRecOn with
  |ind j ih=>
   intro hj
   obtain⟨o,ho⟩:=qQ (ops:=ops) hj
   cases hl:listed.getD j false with
   |true=>rfl
   |false=>
    have hm:j∈Region.ready .any ops listed:=mem_ready.2 ⟨by simp[hs,hj]at hl ⊢;exact hl,o,ho,λe he hb=>by
     have cL:=(fm ok).1 j o ho e (abV.2 ⟨by simpa using he,hb⟩);exact ih e.on cL (by omega)⟩
    rw[hr]at hm;cases hm
 have fin:∀(listed:Array Bool) (a:Act) (w:World),(∀j,j<ops.size->listed.getD j false=true)->Inv (λj=>listed.getD j false) a w->Q .normal a w:=λlisted a w ek D=>XQ _ a w D ek
 intro fuel
 induction fuel with
 |zero=>
  intro listed a w hs hc hn D
  have ek:∀j,j<ops.size->listed.getD j false=true:=λj hj=>by
   have h0:=List.countP_eq_zero.1 (Nat.le_zero.1 hn) j (adj.2 hj);simpa using h0
  refine⟨?_,fin listed a w ek D⟩;apply acB.2
  intro j hj
  obtain⟨h1,o,h2,_⟩:=mem_ready.1 hj;have hjs:j<ops.size:=(aby.1 h2).1;have:=ek j hjs;simp[hs,hjs]at h1 this;rw[h1]at this;cases this
 |succ fuel ih=>
  intro listed a w hs hc hn D
  refine⟨λhr=>fin listed a w (all_of listed hs hr) D,λi hi=>?_⟩;obtain⟨h1,o,h2,h3⟩:=mem_ready.1 hi;have his:i<ops.size:=(aby.1 h2).1;have qN:listed.getD i false=false:=by simp[hs,his]at h1 ⊢;exact h1
  have dG:=FY ok (E:=λj=>listed.getD j false) hc
  have MF:∀e∈IW o,listed.getD e.on false=true:=λe he=>by
   have:=abV.1 he;exact h3 e (by simpa using this.1) this.2
  have ZR:∀j,zk ops i j->listed.getD j false=true:=λj hj=>by
   obtain⟨o',g1,e,g2,g3⟩:=xn hj;rw[h2]at g1;obtain rfl:=aa2 g1;rcases g3 with rfl |g3;exact MF e g2;exact dG e.on j (MF e g2) g3
  have MH:∀j,(listed.setIfInBounds i true).getD j false=true↔listed.getD j false=true\/j=i:=λj=>by
   by_cases hj:i=j
   subst hj;simp[hs,his];rw[getD_set_ne false hj];simp[abW hj]
  refine XP _ (λj=>(listed.setIfInBounds i true).getD j false) a w i o D ⟨h2,qN,ZR,dG,MH⟩ _ (λa' w' D'=>?_);refine ih (listed.setIfInBounds i true) a' w' (by simp[hs]) (λj o' hj hl e he=>?_) ?_ D'
  ·refine(MH e.on).2 (.inl ?_);rcases(MH j).1 hl with hl |rfl;exact hc j o' hj hl e he
   ·rw[h2]at hj;obtain rfl:=aa2 hj;exact MF e he
  ·have:=Aj (p:=λj=>!listed.getD j false) (q:=λj=>!(listed.setIfInBounds i true).getD j false) (List.range ops.size) (λj _ hq=>by
    cases hl:listed.getD j false with
    |false=>rfl
    |true=>have:=(MH j).2 (.inl hl);simp[this]at hq) ⟨i,adj.2 his,by simp[qN],by simp[(MH i).2 (.inr rfl)]⟩
   omega
theorem Jx(K:eY C)(S:gz C run)(L:Lex C run ops tr)(hd:ops.toList.all (jC N)=true){Q:Exit->Act->World->Prop}
  (hQ:∀a w Z,SR N w F Z (tr ops.size).s a->dU w0 h0 Z0 w (tr ops.size).s.h Z->Q .normal a w):
  ∀(fuel:Nat) (listed:Array Bool) (a:Act) (w:World),listed.size=ops.size->(∀(i:Nat) (o:Oper),ops[i]?=some o->listed.getD i false=true->∀e∈IW o,listed.getD e.on false=true)->
   (List.range ops.size).countP (λj=>!listed.getD j false)<=fuel->BE ops tr N F w0 h0 Z0 (λj=>listed.getD j false) a w->wpAny C.P .any ops Q fuel listed a w:=
 zV L.ok (λE a w=>BE ops tr N F w0 h0 Z0 E a w)
  (λE E' a w i o D R next hK=>BE.step K S L D R (aa4.1 hd o (adw.2 (acZ R.at_))) hK)
  (λE a w D ek=>by obtain⟨Z,h1,h2⟩:=D.done L ek;exact hQ a w Z h1 h2)
theorem getD_none(n j:Nat):(Array.replicate n false).getD j false=false:=by
 simp only[acs,adg]
 split <;>rfl
theorem F0(K:eY C)(S:gz C run)(hm:C.P.follows .mixedOrders=true){id:Nat}{Q:Exit->Act->World->Prop}(hd:ops.toList.all (jC N)=true)(hk:mD ops=true){Z:List (Nat×Nat)}{s:St}{y:vO}(R:SR N w F Z s a)
  (e:dJ C run ops (before ops) 0 ops.toList ⟨s,s.h.length,[]⟩=some y) (hQ:∀a' w' Z',SR N w' F Z' y.s a'->dU w s.h Z w' y.s.h Z'->Q .normal a' w'):(Code.region id ops true).wp C.P Q a w:=by
 obtain⟨tr,t1,t2,t3⟩:=pJ ops.toList 0 _ _ e;have L:Lex C run ops tr:=⟨hk,λi o ho=>by simpa using t2 i o (by simpa using ho),by rw[t1];exact aa5 _,by rw[t1];exact⟨rfl,rfl⟩⟩;have t3':tr ops.size=y:=by simpa using t3
 refine wp_region_any hm (Jx (w0:=w) (h0:=s.h) (Z0:=Z) K S L hd (F:=F) (λa' w' Z' R' S'=>by rw[t3']at R' S';exact hQ a' w' Z' R' S') ops.size _ a _ (by simp) (λi o ho hl=>by rw[getD_none]at hl;cases hl) ?_ ?_);refine abQ (List.countP_le_length) (by simp)
 ·have hE:∀j,(Array.replicate ops.size false).getD j false=false:=λj=>getD_none _ j
  have hK:Kh tr (λj=>(Array.replicate ops.size false).getD j false) 0=s.h:=by
   unfold Kh;rw[t1];exact qv (by simp) (λj hj=>by cases hj)
  have G:dD w {w with drawn:=w.drawn+1}:=dD.drew w;refine⟨0,s.Y,Z,⟨acu _,λj _ h=>(by rw[hE]at h;cases h),λj _ _ h=>by omega,by rw[t1];exact aa5 _,by rw[hK];exact R.hr.I3 G,by rw[hK];exact R.er.mono (G.Cy s.h Z),?_,by rw[hK];exact G.Cy s.h Z,R.df,R.sz⟩⟩
  intro t k' gf hw
  rw[L.mW (t:=t) (i:=0) k' (acu _) gf (λj o h1 h2 h3 h4=>by
   have:=(hw j o h3 h4).2 h2;rw[hE]at this;cases this),t1]
end Go.Pm
namespace Go.Pm
variable[iD:Inhabited Prop]
theorem pw{C:cG}{run:gW}{ops:Array Oper}{h0:ab}:∀(l:List Oper) (k:Nat) (x y:St),ch C run ops (before ops) h0 k l x=some y->
  ∃tr:Nat->St,tr k=x/\(∀(i:Nat) (o:Oper),l[i]?=some o->cT C run ops (before ops) h0 (k+i) o (tr (k+i))=some (tr (k+i+1)))/\tr (k+l.length)=y
 |[],k,x,y,e=>by
  simp[ch]at e;exact⟨λ_=>x,rfl,λi o h=>by simp at h,by simpa using e⟩
 |o::l,k,x,y,e=>by
  simp only[ch]at e
  split at e
  ·rename_i x' hx
   obtain⟨tr,t1,t2,t3⟩:=pw l (k+1) x' y e;refine⟨λj=>if j<=k then x else tr j,by simp,?_,?_⟩
   ·intro i o' ho
    cases i with
    |zero=>
     simp at ho;subst ho;simp[t1,hx]
     intro hh;omega
    |succ i=>
     have:=t2 i o' (by simpa using ho);have e1:¬(k+(i+1)<=k):=by omega
     have e2:¬(k+(i+1)+1<=k):=by omega
     simp only[e1,e2,if_false];rw[show k+(i+1)=k+1+i by omega];exact this
   ·have e1:¬(k+(o::l).length<=k):=by simp
    simp only[e1,if_false];rw[<-t3];congr 1;simp;omega
  cases e
inductive wP(C:cG)(run:gW)(ops:Array Oper)(h0:ab)(i:Nat)(o:Oper)(x y:St):Prop
 |off:bu ops o x.Y=some false->y=⟨bY x.Y o.dst .undef,x.h⟩->wP C run ops h0 i o x y
 |plain (r:PV) (h1:ab):bu ops o x.Y=some true->c9 o.op=false->ar C run 1 o.op x.Y x.h=some (r,h1)->y=⟨bY x.Y o.dst r,x.h⟩->wP C run ops h0 i o x y
 |rd (r:PV) (h1:ab):bu ops o x.Y=some true->gU o.op=true->(∀id,qJ o.op x.Y=some id->nQ h0 id=true\/(ll ops (before ops) i=true/\Bn ops (before ops) i x.Y id=true))->aC C.P 1 o.op x.Y x.h=some (r,h1)->y=⟨bY x.Y o.dst r,x.h⟩->wP C run ops h0 i o x y
 |made (r:PV) (h':ab):bu ops o x.Y=some true->jF o.op=true->aC C.P 1 o.op x.Y x.h=some (r,h')->y=⟨bY x.Y o.dst r,x.h⟩->wP C run ops h0 i o x y
 |two (r:PV) (h':ab):bu ops o x.Y=some true->c9 o.op=true->gU o.op=false->(jF o.op=true->aC C.P 1 o.op x.Y x.h=none)->jf ops (before ops) i (jF o.op)=true->ar C run 2 o.op x.Y x.h=some (r,h')->x.h.length<=h'.length->y=⟨bY x.Y o.dst r,mP x.h h'⟩->wP C run ops h0 i o x y
theorem Xm{C:cG}{run:gW}{ops:Array Oper}{h0:ab}{i:Nat}{o:Oper}{x y:St}(e:cT C run ops (before ops) h0 i o x=some y):wP C run ops h0 i o x y:=by
 unfold cT at e
 split at e
 ·rename_i hw
  split at e
  ·rename_i hh
   split at e
   ·rename_i r hx hv;exact .plain r hx hw hh hv (aa2 e).symm
   cases e
  ·rename_i hh
   split at e
   ·rename_i hl
    split at e
    ·rename_i hc
     split at e
     ·rename_i r h1 hs
      refine .rd r h1 hw hl (λid hid=>?_) hs (aa2 e).symm;unfold kG at hc;rw[hid]at hc;simp only[abA,abb]at hc;exact hc
     cases e
    cases e
   ·rename_i hl
    split at e
    ·rename_i r h1 hs
     split at hs
     ·rename_i hb;exact .made r h1 hw hb hs (aa2 e).symm
     cases hs
    ·rename_i hs
     split at e
     ·rename_i hk
      split at e
      ·rename_i r h' hv
       split at e
       ·rename_i hle
        exact .two r h' hw (by simpa using hh) (by simpa using hl) (λhb=>by rw[if_pos hb]at hs;exact hs) hk hv hle (aa2 e).symm
       cases e
      cases e
     cases e
 ·rename_i hw;exact .off hw (aa2 e).symm
 cases e
theorem pz{ops:Array Oper}{i j:Nat}(h:q8 (before ops) i j=true):j=i\/zk ops i j\/zk ops j i:=by
 simp only[q8,abA,beq_iff_eq]at h;rcases h with(h1 |h1)|h1;exact .inl h1.symm;exact .inr (.inl h1);exact .inr (.inr h1)
theorem uJ{ops:Array Oper}{i:Nat}{bs:Bool}(h:jf ops (before ops) i bs=true){j:Nat}{o:Oper}(e:ops[j]?=some o)(hh:c9 o.op=true)(hl:gU o.op=false)(hb:bs=true\/jF o.op=false):
  (j=i\/zk ops i j\/zk ops j i)\/((sinks ops (before ops)).isSome=true/\ops.size<=i+2/\ops.size<=j+2):=by
 have:=aa4.1 h (o,j) (by rw[acI];exact⟨j,by simp[e]⟩);have tL:(bs || !jF o.op)=true:=by rcases hb with hb |hb <;>simp[hb]
 simp only[hh,hl,tL,adh,adp,ac4,acG,abA,abb,decide_eq_true_eq]at this;rcases this with h1 |h1;exact .inl (pz h1);exact .inr ⟨h1.1.1,h1.1.2,h1.2⟩
theorem CS{ops:Array Oper}{i:Nat}(h:ll ops (before ops) i=true){j:Nat}{o:Oper}(e:ops[j]?=some o)(hh:c9 o.op=true)(hl:gU o.op=false)(hb:jF o.op=false):
  (j=i\/zk ops i j\/zk ops j i)\/((sinks ops (before ops)).isSome=true/\ops.size<=j+2):=by
 have:=aa4.1 h (o,j) (by rw[acI];exact⟨j,by simp[e]⟩);simp only[hh,hl,hb,adh,adp,ac4,acG,abA,abb,decide_eq_true_eq]at this;rcases this with h1 |h1;exact .inl (pz h1);exact .inr h1
theorem zQ{P:Program}{op:Op}{Y Y':Nat->PV}{h1 PL h2:ab}{r:PV}(hb:jF op=true)(hv:∀h,aC P 1 op Y' h=aC P 1 op Y h)(e:aC P 1 op Y h1=some (r,PL)):aC P 1 op Y' h2=some (r,h2):=by
 rw[hv]
 cases op <;>simp[jF]at hb
 simp only[aC,dE]at e ⊢
 repeat' split at e
 all_goals first
  |(cases e;done)
  |(rename_i hh;exfalso;omega)
  |skip
 rename_i hz hc hi
 obtain⟨rfl,rfl⟩:=abe (aa2 e);simp only[*,if_true,and_self]
theorem LK{P:Program}{h1 h2:ab}{t:TypeId}{p q:PV}(h:∀id ep off len,p=.aj id ep off len->getM h2 id ep=getM h1 id ep):cF P h2 t p q=cF P h1 t p q:=by
 unfold cF
 split
 rfl
 simp only[h _ _ _ _ rfl]
 rfl
 rfl
 rfl
theorem PS{P:Program}{h1:ab}{t:TypeId}{id ep off len:Nat}{q r:PV}(e:cF P h1 t (.aj id ep off len) q=some r):∃o,getM h1 id ep=some o:=by
 cases hg:getM h1 id ep with
 |some o=>exact⟨o,rfl⟩
 |none=>
  unfold cF at e
  split at e <;>simp_all
  all_goals(split at e <;>simp_all)
theorem LL{P:Program}{h1 h2:ab}{t:TypeId}{p:PV}(h:∀id ep i off,p=.ptr id ep i off->getM h2 id ep=getM h1 id ep):iK P h2 t p=iK P h1 t p:=by
 have:cR h2 p=cR h1 p:=by
  unfold cR
  split
  rfl
  rw[h _ _ _ _ rfl]
  rfl
 unfold iK;rw[this]
theorem PT{P:Program}{h1:ab}{t:TypeId}{id ep i off:Nat}{r:PV}(e:iK P h1 t (.ptr id ep i off)=some r):∃o,getM h1 id ep=some o:=by
 cases hg:getM h1 id ep with
 |some o=>exact⟨o,rfl⟩
 |none=>
  simp only[iK,cR,hg]at e
  split at e <;>simp_all
theorem PU{h:ab}{id ep:Nat}{o:au}(h1:h[id]?=some o)(h2:o.ep=ep)(h3:o.mu≠.x):getM h id ep=some o:=by simp[getM,h1,h2,h3]
theorem Hz{h:ab}{id ep:Nat}{o:au}(e:getM h id ep=some o):id<h.length:=ag (getM_some e).1
theorem vR{P:Program}{op:Op}{Y:Nat->PV}{h1 PL h2:ab}{r:PV}(hr:gU op=true)(e:aC P 1 op Y h1=some (r,PL))(hs:∀id,qJ op Y=some id->h2[id]?=h1[id]?):aC P 1 op Y h2=some (r,h2)/\∀id,qJ op Y=some id->id<h1.length:=by
 cases op <;>simp[gU]at hr
 case load t x=>
  simp only[aC,qJ]at e hs ⊢;obtain⟨e1,_⟩:=dC e
  constructor
  ·rw[LL (h1:=h1) (λid ep i off hp=>?_),e1]
   ·rfl
   ·rw[hp]at hs;simp only[getM,hs id rfl]
  ·intro id hid
   split at hid
   ·rename_i hx
    obtain rfl:=aa2 hid;rw[hx]at e1;obtain⟨o,ho⟩:=PT e1;exact Hz ho
   cases hid
 case indexAddr t x ix=>
  simp only[aC,qJ]at e hs ⊢;obtain⟨e1,_⟩:=dC e
  constructor
  ·rw[LK (h1:=h1) (λid ep i off hp=>?_),e1]
   ·rfl
   ·rw[hp]at hs;simp only[getM,hs id rfl]
  ·intro id hid
   split at hid
   ·rename_i hx
    obtain rfl:=aa2 hid;rw[hx]at e1;obtain⟨o,ho⟩:=PS e1;exact Hz ho
   cases hid
theorem se{h h':ab}(hl:h.length<=h'.length){id:Nat}{o:au}(ho:h[id]?=some o):(mP h h')[id]?=if o.mu=.m then h'[id]? else some o:=by
 have hid:=ag ho;unfold mP;rw[aa3 (by simp;omega),acv,ho];obtain⟨o',PW⟩:=mV (l:=h') (i:=id) (by omega);rw[PW];simp only
 split <;>rfl
theorem CT{h h':ab}(hl:h.length<=h'.length){id:Nat}(hid:h.length<=id):(mP h h')[id]?=h'[id]?:=by
 unfold mP;rw[abd (by simp;omega),abI]
 congr 1
 simp;omega
theorem I4{h h':ab}(hl:h.length<=h'.length):(mP h h').length=h'.length:=by unfold mP;simp;omega
theorem I5{w w':World}{h h':ab}{Z Z':List (Nat×Nat)}(s:dU w h Z w' h' Z'):mP h h'=h':=by
 apply ab8
 intro id
 by_cases hid:id<h.length
 ·obtain⟨o,ho⟩:=mV (l:=h) (i:=id) hid;rw[se s.len ho]
  split
  rfl
  ·rename_i hm;exact(s.Lk id o ho hm).1.symm
 exact CT s.len (by omega)
theorem zR{h:ab}{id:Nat}{o o':au}(ho:h[id]?=some o)(hm:o.mu=.m):mP h (h.set id o')=h.set id o':=by
 have hl:h.length<=(h.set id o').length:=by simp
 apply ab8
 intro k
 by_cases hk:k<h.length
 ·obtain⟨a,ha⟩:=mV (l:=h) (i:=k) hk;rw[se hl ha]
  split
  rfl
  ·rename_i bN
   have:id≠k:=by rintro rfl;rw[ho]at ha;obtain rfl:=aa2 ha;exact bN hm
   rw[aa8 this,ha]
 exact CT hl (by omega)
theorem wQ{P:Program}{h h':ab}{t:TypeId}{p v:PV}(e:gV P h t p v=some h'):∃id ep i off o o',p=.ptr id ep i off/\h[id]?=some o/\o.mu=.m/\h'=h.set id o'/\∀h2:ab,h2[id]?=some o->gV P h2 t p v=some (h2.set id o'):=by
 unfold gV at e
 split at e
 ·rename_i id ep i off sz hs
  split at e
  ·rename_i o ho
   split at e
   ·rename_i el cz
    split at e
    ·rename_i hc
     obtain rfl:=aa2 e;obtain⟨g1,g2,g3⟩:=getM_some ho;refine⟨id,ep,i,off,o,_,rfl,g1,hc.1,rfl,λh2 h3=>?_⟩;have hg:getM h2 id ep=some o:=PU h3 g2 g3;unfold gV;rw[hs];simp only[hg,cz];rw[if_pos hc]
    cases e
   cases e
  cases e
 cases e
theorem T9{C:cG}{run:gW}{op:Op}{Y:Nat->PV}{h h':ab}{r:PV}(hb:jF op=true)(e:ar C run 2 op Y h=some (r,h')):Ext h h':=by
 cases op <;>simp[jF]at hb
 simp only[ar,aC,dE]at e
 repeat' split at e
 all_goals first
  |(cases e;done)
  |(obtain⟨rfl,rfl⟩:=abe (aa2 e);first |exact Ext.refl _ |exact⟨_,rfl⟩)
structure gO(C:cG)(run:gW)(ops:Array Oper)(h0:ab)(tr:Nat->St):Prop where
 ok:mD ops=true
 st:∀(i:Nat) (o:Oper),ops[i]?=some o->cT C run ops (before ops) h0 i o (tr i)=some (tr (i+1))
 h0:h0=(tr 0).h
 sk:ra ops (before ops) (tr ops.size).Y=true
def jh(P:Program)(ops:Array Oper)(tr:Nat->St)(j:Nat):Prop:=∃o,ops[j]?=some o/\c9 o.op=true/\gU o.op=false/\(jF o.op=true->aC P 1 o.op (tr j).Y (tr j).h=none)/\bu ops o (tr j).Y=some true
variable{C:cG}{run:gW}{ops:Array Oper}{h0:ab}{tr:Nat->St}
theorem gO.view(L:gO C run ops h0 tr){k:Nat}{o:Oper}(ho:ops[k]?=some o):wP C run ops h0 k o (tr k) (tr (k+1)):=Xm (L.st k o ho)
theorem gO.rho(L:gO C run ops h0 tr){k:Nat}{o:Oper}(ho:ops[k]?=some o):∃r,(tr (k+1)).Y=bY (tr k).Y o.dst r:=by
 cases L.view ho with
 |off _ hy=>exact⟨_,by rw[hy]⟩
 |plain r hx _ _ _ hy=>exact⟨_,by rw[hy]⟩
 |rd r hx _ _ _ _ hy=>exact⟨_,by rw[hy]⟩
 |made r hx _ _ _ hy=>exact⟨_,by rw[hy]⟩
 |two r h' _ _ _ _ _ _ _ hy=>exact⟨_,by rw[hy]⟩
theorem gO.mW(L:gO C run ops h0 tr){t:Nat}{i:Nat}:∀k,i<=k->k<=ops.size->(∀j o,i<=j->j<k->ops[j]?=some o->o.dst≠some t)->(tr k).Y t=(tr i).Y t:=by
 intro k
 induction k with
 |zero=>intro h1 _ _;obtain rfl:i=0:=(by omega);rfl
 |succ k ih=>
  intro h1 h2 h3
  by_cases hi:i=k+1
  subst hi;rfl
  ·obtain⟨o,ho⟩:=qQ (ops:=ops) (k:=k) (by omega);obtain⟨r,hr⟩:=L.rho ho;rw[hr,nV,if_neg (h3 k o (by omega) (by omega) ho)];exact ih (by omega) (by omega) (λj o' a b c=>h3 j o' a (by omega) c)
theorem gO.aR(L:gO C run ops h0 tr){k:Nat}(hk:k<ops.size)(hn:¬jh C.P ops tr k):(tr (k+1)).h=(tr k).h:=by
 obtain⟨o,ho⟩:=qQ (ops:=ops) hk
 cases L.view ho with
 |off _ hy=>rw[hy]
 |plain r hx _ _ _ hy=>rw[hy]
 |rd r hx _ _ _ _ hy=>rw[hy]
 |made r hx _ _ _ hy=>rw[hy]
 |two r h' hw hh hl hb _ _ _ hy=>exact absurd ⟨o,ho,hh,hl,hb,hw⟩ hn
theorem gO.wr(L:gO C run ops h0 tr){k:Nat}{o:Oper}(ho:ops[k]?=some o)(hr:jh C.P ops tr k):c9 o.op=true/\gU o.op=false/\jf ops (before ops) k (jF o.op)=true/\
  ∃r h',ar C run 2 o.op (tr k).Y (tr k).h=some (r,h')/\(tr k).h.length<=h'.length/\tr (k+1)=⟨bY (tr k).Y o.dst r,mP (tr k).h h'⟩:=by
 obtain⟨o',e,h1,h2,h3,h4⟩:=hr;rw[ho]at e;obtain rfl:=aa2 e
 cases L.view ho with
 |off Fe _=>rw[Fe]at h4;cases h4
 |plain r2 hx _ hh' _ _=>rw[hh']at h1;cases h1
 |rd r2 hx _ hl' _ _ _=>rw[hl']at h2;cases h2
 |made r2 hx _ ee Ll _=>rw[h3 ee]at Ll;cases Ll
 |two r h' _ _ _ _ hk hv hle hy=>exact⟨h1,h2,hk,r,h',hv,hle,hy⟩
theorem gO.grow(L:gO C run ops h0 tr){k:Nat}(hk:k<ops.size):(tr k).h.length<=(tr (k+1)).h.length:=by
 obtain⟨o,ho⟩:=qQ (ops:=ops) hk
 by_cases hr:jh C.P ops tr k
 ·obtain⟨_,_,_,r,h',_,hle,hy⟩:=L.wr ho hr;rw[hy,I4 hle];exact hle
 rw[L.aR hk hr];exact aa5 _
theorem gO.old(L:gO C run ops h0 tr){id:Nat}{o:au}(h1:h0[id]?=some o)(h2:o.mu≠.m):∀k,k<=ops.size->(tr k).h[id]?=some o:=by
 intro k
 induction k with
 |zero=>intro _;rw[<-L.h0];exact h1
 |succ k ih=>
  intro hk
  have ih:=ih (by omega);obtain⟨q,hq⟩:=qQ (ops:=ops) (k:=k) (by omega)
  by_cases hr:jh C.P ops tr k
  ·obtain⟨_,_,_,r,h',_,hle,hy⟩:=L.wr hq hr;rw[hy];rw[se hle ih,if_neg h2]
  rw[L.aR (by omega) hr];exact ih
theorem gO.ord(L:gO C run ops h0 tr){i j:Nat}(hi:jh C.P ops tr i)(hj:jh C.P ops tr j):(j=i\/zk ops i j\/zk ops j i)\/((sinks ops (before ops)).isSome=true/\ops.size<=i+2/\ops.size<=j+2):=by
 obtain⟨oi,ei,_⟩:=id hi;obtain⟨oj,ej,_⟩:=id hj;obtain⟨a1,a2,a3,_⟩:=L.wr ei hi;obtain⟨b1,b2,b3,_⟩:=L.wr ej hj
 by_cases hb:jF oj.op=true
 ·rcases uJ b3 ei a1 a2 (.inl hb)with h |h
  ·exact .inl (by rcases h with h |h |h;exact .inl h.symm;exact .inr (.inr h);exact .inr (.inl h))
  ·exact .inr ⟨h.1,h.2.2,h.2.1⟩
 exact uJ a3 ej b1 b2 (.inr (by simpa using hb))
structure SD(C:cG)(run:gW)(ops:Array Oper)(tr:Nat->St)(q1 q2:Oper)(id1 id2:Nat)(a1 a2 yZ qK:au)(x y:Operand):Prop where
 n2:2<=ops.size
 s:sinks ops (before ops)=some (x,y)
 e1:ops[ops.size - 2]?=some q1
 e2:ops[ops.size - 1]?=some q2
 d1:q1.dst=none
 d2:q2.dst=none
 r1:jh C.P ops tr (ops.size - 2)
 r2:jh C.P ops tr (ops.size - 1)
 ne:id1≠id2
 g1:(tr (ops.size - 2)).h[id1]?=some a1
 g2:(tr (ops.size - 2)).h[id2]?=some a2
 m2:a2.mu=.m
 x1:∃ep i off,ev (tr (ops.size - 2)).Y x=.ptr id1 ep i off
 x2:∃ep i off,ev (tr (ops.size - 2)).Y y=.ptr id2 ep i off
 h1:(tr (ops.size - 1)).h=(tr (ops.size - 2)).h.set id1 yZ
 h2:(tr ops.size).h=((tr (ops.size - 2)).h.set id1 yZ).set id2 qK
 p1:(tr (ops.size - 1)).Y=(tr (ops.size - 2)).Y
 p2:(tr ops.size).Y=(tr (ops.size - 2)).Y
 v1:∀(Y:Nat->PV) (h:ab),(∀z∈q1.op.operands.toList,ev Y z=ev (tr (ops.size - 2)).Y z)->h[id1]?=some a1->ar C run 2 q1.op Y h=some (.undef,h.set id1 yZ)
 v2:∀(Y:Nat->PV) (h:ab),(∀z∈q2.op.operands.toList,ev Y z=ev (tr (ops.size - 2)).Y z)->h[id2]?=some a2->ar C run 2 q2.op Y h=some (.undef,h.set id2 qK)
theorem zS{o:Oper}{a:Operand}(h:Hu o=some a):o.dst=none/\o.guard=none/\∃t v,o.op=.store t a v:=by
 unfold Hu at h
 split at h
 ·rename_i h1 h2 h3
  obtain rfl:=aa2 h;exact⟨h2,h3,_,_,h1⟩
 cases h
theorem gO.sd(L:gO C run ops h0 tr){x y:Operand}(hs:sinks ops (before ops)=some (x,y)):∃q1 q2 id1 id2 a1 a2 yZ qK,SD C run ops tr q1 q2 id1 id2 a1 a2 yZ qK x y:=by
 have Wt:=hs;unfold sinks at hs
 split at hs
 ·rename_i hc
  split at hs
  ·rename_i x' y' hx hy
   obtain⟨rfl,rfl⟩:=abe (aa2 hs);obtain⟨q1,e1,k1⟩:=Option.bind_eq_some_iff.1 hx;obtain⟨q2,e2,k2⟩:=Option.bind_eq_some_iff.1 hy;rw[abD]at e1 e2;obtain⟨d1,g1,t1,v1,o1⟩:=zS k1;obtain⟨d2,g2,t2,v2,o2⟩:=zS k2;have r1:jh C.P ops tr (ops.size - 2):=⟨q1,e1,by rw[o1];rfl,by rw[o1];rfl,(λh=>by rw[o1]at h;cases h),by simp[bu,g1]⟩;have r2:jh C.P ops tr (ops.size - 1):=⟨q2,e2,by rw[o2];rfl,by rw[o2];rfl,(λh=>by rw[o2]at h;cases h),by simp[bu,g2]⟩;obtain⟨_,_,_,w1,h1,f1,l1,y1⟩:=L.wr e1 r1;obtain⟨_,_,_,w2,h2,f2,l2,y2⟩:=L.wr e2 r2;have n12:ops.size - 2+1=ops.size - 1:=by omega
   have n2:ops.size - 1+1=ops.size:=by omega
   rw[n12]at y1;rw[n2]at y2;rw[o1]at f1;rw[o2]at f2;simp only[ar,aC,aa5,if_true]at f1 f2;obtain⟨s1,f3,f1'⟩:=abS.1 f1;obtain⟨s2,f4,f2'⟩:=abS.1 f2;obtain⟨rfl,rfl⟩:=abe f1';obtain⟨rfl,rfl⟩:=abe f2';obtain⟨id1,ep1,i1,PX,a1,yZ,p1,b1,m1,c1,z1⟩:=wQ f3;obtain⟨id2,ep2,i2,aaK,a2,qK,p2,b2,m2,c2,z2⟩:=wQ f4;have hY1:(tr (ops.size - 1)).Y=(tr (ops.size - 2)).Y:=by rw[y1,d1];rfl
   have hY2:(tr ops.size).Y=(tr (ops.size - 2)).Y:=by rw[y2,d2];exact hY1
   have hh1:(tr (ops.size - 1)).h=(tr (ops.size - 2)).h.set id1 yZ:=by rw[y1,c1];exact zR b1 m1
   have bN:id1≠id2:=by
    have:=L.sk;unfold ra at this;rw[Wt]at this;simp only[hY2]at this;rw[hY1]at p2;rw[p1,p2]at this;simpa using this
   have tL:(tr (ops.size - 2)).h[id2]?=some a2:=by
    rw[hh1,aa8 bN]at b2;exact b2
   have zT:(tr ops.size).h=((tr (ops.size - 2)).h.set id1 yZ).set id2 qK:=by
    rw[y2,c2];simp only;rw[zR b2 m2,hh1]
   refine⟨q1,q2,id1,id2,a1,a2,yZ,qK,⟨hc.1,Wt,e1,e2,d1,d2,r1,r2,bN,b1,tL,m2,⟨_,_,_,p1⟩,⟨_,_,_,by rw[<-hY1];exact p2⟩,hh1,zT,hY1,hY2,?_,?_⟩⟩
   ·intro Y h hz hb
    rw[o1]at hz ⊢;simp only[Op.operands]at hz;have za:=hz x' (by simp);have zv:=hz v1 (by simp);simp only[ar,aC,aa5,if_true,za,zv];rw[z1 h hb];rfl
   ·intro Y h hz hb
    rw[o2]at hz ⊢;simp only[Op.operands]at hz;have za:=hz y' (by simp);have zv:=hz v2 (by simp);simp only[ar,aC,aa5,if_true,za,zv];rw[<-hY1,z2 h hb];rfl
  cases hs
 cases hs
def RH(ops:Array Oper)(tr:Nat->St)(E:Nat->Bool)(Y:Nat->PV):Prop:=∀t k',k'<=ops.size->(∀j o,ops[j]?=some o->o.dst=some t->(E j=true↔j<k'))->Y t=(tr k').Y t
structure CU(C:cG)(ops:Array Oper)(tr:Nat->St)(N:Nat)(F:Nat->Prop)(w0:World)(h0:ab)(Z0:List (Nat×Nat))(E:Nat->Bool)(a:Act)(w:World)(k:Nat)(Y:Nat->PV)(Z:List (Nat×Nat)):Prop where
 kn:k<=ops.size
 lo:∀j,jh C.P ops tr j->E j=true->j<k
 hi:∀j,jh C.P ops tr j->j<k->E j=true
 hr:ba w F Z (tr k).h
 er:gZ w (Av F (tr k).h Z) Z (tr k).h a Y
 rh:RH ops tr E Y
 sp:dU w0 h0 Z0 w (tr k).h Z
 df:a.defers=[]
 sz:N<=a.tmps.size
structure T'(C:cG)(run:gW)(ops:Array Oper)(tr:Nat->St)(N:Nat)(F:Nat->Prop)(w0:World)(h0:ab)(Z0:List (Nat×Nat))(E:Nat->Bool)(a:Act)(w:World)(q1 q2:Oper)(id1 id2:Nat)(a1 a2 yZ qK:au)(x y:Operand)(Y:Nat->PV)(Z:List (Nat×Nat)):Prop where
 sd:SD C run ops tr q1 q2 id1 id2 a1 a2 yZ qK x y
 s1:E (ops.size - 2)=false
 al:∀j,jh C.P ops tr j->j≠ops.size - 2->E j=true
 hr:ba w F Z ((tr (ops.size - 2)).h.set id2 qK)
 er:gZ w (Av F ((tr (ops.size - 2)).h.set id2 qK) Z) Z ((tr (ops.size - 2)).h.set id2 qK) a Y
 rh:RH ops tr E Y
 sp:dU w0 h0 Z0 w ((tr (ops.size - 2)).h.set id2 qK) Z
 df:a.defers=[]
 sz:N<=a.tmps.size
variable{N:Nat}{F:Nat->Prop}{w0:World}{PY:ab}{Z0:List (Nat×Nat)}{E E':Nat->Bool}{a:Act}{w:World}
def wR(C:cG)(run:gW)(ops:Array Oper)(tr:Nat->St)(N:Nat)(F:Nat->Prop)(w0:World)(h0:ab)(Z0:List (Nat×Nat))(E:Nat->Bool)(a:Act)(w:World):Prop:=
 (∃k Y Z,CU C ops tr N F w0 h0 Z0 E a w k Y Z)\/(∃q1 q2 id1 id2 a1 a2 yZ qK x y Y Z,T' C run ops tr N F w0 h0 Z0 E a w q1 q2 id1 id2 a1 a2 yZ qK x y Y Z)
theorem CU.PZ(L:gO C run ops h0 tr){Y:Nat->PV}{Z:List (Nat×Nat)}:∀(d:Nat) {k:Nat},CU C ops tr N F w0 PY Z0 E a w k Y Z->k+d<=ops.size->(∀j,k<=j->j<k+d->¬jh C.P ops tr j)->CU C ops tr N F w0 PY Z0 E a w (k+d) Y Z
 |0,k,D,_,_=>D
 |d+1,k,D,h1,h2=>by
  have hk:=L.aR (k:=k) (by omega) (h2 k (aa5 _) (by omega))
  have D1:CU C ops tr N F w0 PY Z0 E a w (k+1) Y Z:=by
   refine⟨by omega,λj g1 g2=>by have:=D.lo j g1 g2;omega,λj g1 g2=>?_,by rw[hk];exact D.hr,by rw[hk];exact D.er,D.rh,by rw[hk];exact D.sp,D.df,D.sz⟩
   by_cases hj:j=k
   subst hj;exact absurd g1 (h2 j (aa5 _) (by omega));exact D.hi j g1 (by omega)
  have:=CU.PZ L d D1 (by omega) (λj g1 g2=>h2 j (by omega) (by omega));rw[show k+(d+1)=k+1+d by omega];exact this
theorem RH.look(L:gO C run ops h0 tr){Y:Nat->PV}(D:RH ops tr E Y){i:Nat}{o:Oper}(R:CV ops E E' i o){t:Nat}(ht:t∈o.looksAt ops):Y t=(tr i).Y t:=by
 have hi:i<ops.size:=(aby.1 R.at_).1;refine D t i (by omega) (λj o' hj hd=>?_);rcases acE j i with h |h |h;exact⟨λ_=>h,λ_=>R.Ua j ((fm L.ok).2 i j o o' R.at_ hj h (.inl (mX hd (.inl ht))))⟩;subst h;rw[R.out];simp
 ·have:=R.later ((fm L.ok).2 j i o' o hj R.at_ h (.inr (mX hd (.inl ht))));rw[this]
  constructor
  intro hh;cases hh
  intro hh;omega
theorem RH.LM(L:gO C run ops h0 tr){Y:Nat->PV}(D:RH ops tr E Y){i:Nat}{o:Oper}(R:CV ops E E' i o):∀x∈o.op.operands.toList,ev Y x=ev (tr i).Y x:=by
 intro x hx
 cases x with
 |tmp t=>exact D.look L R (List.mem_append_left _ (List.mem_filterMap.2 ⟨.tmp t,hx,rfl⟩))
 |_=>rfl
theorem RH.HA(L:gO C run ops h0 tr){Y:Nat->PV}(D:RH ops tr E Y){i:Nat}{o:Oper}(R:CV ops E E' i o):bu ops o Y=bu ops o (tr i).Y:=by
 unfold bu
 cases hg:o.guard with
 |none=>rfl
 |some jw=>
  obtain⟨j,want⟩:=jw;simp only
  cases hd:(ops.toList[j]?).bind (·.dst)with
  |none=>rfl
  |some d=>
   have CW:(ops[j]?).bind (·.dst)=some d:=by simpa using hd
   have:Y d=(tr i).Y d:=D.look L R (List.mem_append_right _ (by simp[hg,CW]));simp only[this]
theorem RH.on(L:gO C run ops h0 tr){Y:Nat->PV}(D:RH ops tr E Y){i:Nat}{o:Oper}(R:CV ops E E' i o){r:PV}(hr:(tr (i+1)).Y=bY (tr i).Y o.dst r):RH ops tr E' (bY Y o.dst r):=by
 intro t k' hk hw
 rw[nV]
 split
 ·rename_i ht
  have Ff:i<k':=(hw i o R.at_ ht).1 ((R.nL i).2 (.inr rfl));rw[L.mW (t:=t) (i:=i+1) k' Ff hk (λj o' h1 h2 h3 h4=>?_),hr,nV,if_pos ht];have he:=(hw j o' h3 h4).2 h2;rcases(R.nL j).1 he with he |he
  ·rw[R.later ((fm L.ok).2 j i o' o h3 R.at_ (by omega) (.inl (mX ht (.inr h4))))]at he
   cases he
  omega
 ·rename_i ht
  refine D t k' hk (λj o' h1 h2=>?_)
  have zl:j≠i:=by
   rintro rfl;rw[R.at_]at h1;obtain rfl:=aa2 h1;exact ht h2
  rw[<-hw j o' h1 h2,R.nL];simp[zl]
theorem gO.Xn(L:gO C run ops h0 tr){m id:Nat}{o:Oper}(ho:ops[m]?=some o)(hr:jh C.P ops tr m)(hb:jF o.op=true)(hid:id<(tr m).h.length):(tr (m+1)).h[id]?=(tr m).h[id]?:=by
 obtain⟨_,_,_,r,h',hv,hle,hy⟩:=L.wr ho hr;obtain⟨ext,rfl⟩:=T9 hb hv;rw[hy];obtain⟨ob,hob⟩:=mV (l:=(tr m).h) (i:=id) hid;simp only;rw[se hle hob]
 split
 rw[aa3 hid];exact hob.symm
theorem gO.target(L:gO C run ops h0 tr){i id j:Nat}{x:Operand}(ho:E8 ops (tr i).Y x id=true)(hi:i<=ops.size - 2)(hx:∃ep k off,ev (tr (ops.size - 2)).Y x=.ptr j ep k off):j≠id:=by
 obtain⟨ep,k,off,hx⟩:=hx;unfold E8 at ho;simp only[abb]at ho
 have he:ev (tr (ops.size - 2)).Y x=ev (tr i).Y x:=by
  cases x with
  |tmp t=>
   refine L.mW (t:=t) (i:=i) _ hi (by omega) (λm o _ _ hm hd=>?_);have h1:=ho.1;simp only[acD,ab9]at h1;exact h1 o (adw.2 (acZ hm)) (by simp[hd])
  |_=>rfl
 rw[<-he,hx]at ho;simpa using ho.2
theorem CX{h0:ab}{id:Nat}(h:nQ h0 id=true):∃o,h0[id]?=some o/\o.mu≠.m:=by
 unfold nQ at h
 split at h
 ·rename_i o ho;exact⟨o,ho,by simpa using h⟩
 cases h
theorem gO.PX(L:gO C run ops h0 tr){i m id:Nat}{o:Oper}(R:CV ops E E' i o)(Pr:gU o.op=true)(hl:ll ops (before ops) i=true)(gh:Bn ops (before ops) i (tr i).Y id=true)(hm:m<ops.size)(hid:id<(tr m).h.length)
  (hE:jh C.P ops tr m->(m<i/\E m=false)\/(i<=m/\E m=true)):(tr (m+1)).h[id]?=(tr m).h[id]?:=by
 by_cases hr:jh C.P ops tr m
 ·obtain⟨om,Xo⟩:=qQ (ops:=ops) hm
  by_cases hb:jF om.op=true
  exact L.Xn Xo hr hb hid
  ·obtain⟨w1,w2,_⟩:=L.wr Xo hr
   have no:¬(m=i\/zk ops i m\/zk ops m i):=by
    rintro(h |h |h)
    ·subst h;rw[R.at_]at Xo;obtain rfl:=aa2 Xo;rw[Pr]at w2;cases w2
    ·have h1:=R.Ua m h;have h2:=rj L.ok i m h;rcases hE hr with⟨_,h3⟩|⟨h3,_⟩;rw[h1]at h3;cases h3;omega
    ·have h1:=R.later h;have h2:=rj L.ok m i h;rcases hE hr with⟨h3,_⟩|⟨_,h3⟩;omega;rw[h1]at h3;cases h3
   rcases CS hl Xo w1 w2 (by simpa using hb)with h |⟨hs,hn⟩;exact absurd h no
   ·obtain⟨⟨x,y⟩,hs⟩:=adb.1 hs;obtain⟨q1,q2,id1,id2,a1,a2,yZ,qK,S⟩:=L.sd hs;have n2:=S.n2;unfold Bn at gh;rw[hs]at gh;simp only[abb,abA]at gh;have cL:=(aby.1 R.at_).1
    have Wu:i<=ops.size - 2:=by
     rcases abJ (ops.size - 2) i with h |h
     ·have:i=ops.size - 1:=by omega
      subst this;have h3:=R.at_;rw[S.e2]at h3;obtain rfl:=aa2 h3;have:=(L.wr S.e2 S.r2).2.1;rw[Pr]at this;cases this
     exact h
    have Ps:m=ops.size - 2\/m=ops.size - 1:=by omega
    rcases Ps with rfl |rfl
    ·have LN:=gh.1.resolve_left (λhc=>no (pz hc));have bN:=L.target LN Wu S.x1;rw[show ops.size - 2+1=ops.size - 1 by omega,S.h1,aa8 bN]
    ·have LN:=gh.2.resolve_left (λhc=>no (pz hc));have bN:=L.target LN Wu S.x2;rw[show ops.size - 1+1=ops.size by omega,S.h2,S.h1,aa8 bN]
 rw[L.aR hm hr]
theorem CU.agree(L:gO C run ops h0 tr){k:Nat}{Y:Nat->PV}{Z:List (Nat×Nat)}(D:CU C ops tr N F w0 PY Z0 E a w k Y Z){i id:Nat}{o:Oper}(R:CV ops E E' i o)(Pr:gU o.op=true)(h1:id<(tr k).h.length)(h2:id<(tr i).h.length)
  (hc:nQ h0 id=true\/(ll ops (before ops) i=true/\Bn ops (before ops) i (tr i).Y id=true)):(tr k).h[id]?=(tr i).h[id]?:=by
 have hi:i<ops.size:=(aby.1 R.at_).1;have hkn:=D.kn;rcases hc with hc |⟨hl,gh⟩
 ·obtain⟨ob,b1,b2⟩:=CX hc;rw[L.old b1 b2 k D.kn,L.old b1 b2 i (by omega)]
 ·rcases Nat.le_total k i with SM |Ff
  ·have key:∀m,k<=m->m<=i->id<(tr m).h.length/\(tr m).h[id]?=(tr k).h[id]?:=by
    intro m
    induction m with
    |zero=>intro a1 _;obtain rfl:k=0:=(by omega);exact⟨h1,rfl⟩
    |succ m ih=>
     intro a1 a2
     by_cases hk:k=m+1
     subst hk;exact⟨h1,rfl⟩
     ·obtain⟨i1,i2⟩:=ih (by omega) (by omega);refine⟨abO i1 (L.grow (by omega)),(L.PX R Pr hl gh (by omega) i1 (λhr=>.inl ⟨by omega,?_⟩)).trans i2⟩
      cases he:E m with
      |false=>rfl
      |true=>have:=D.lo m hr he;omega
   exact(key i SM (aa5 _)).2.symm
  ·have key:∀m,i<=m->m<=k->id<(tr m).h.length/\(tr m).h[id]?=(tr i).h[id]?:=by
    intro m
    induction m with
    |zero=>intro a1 _;obtain rfl:i=0:=(by omega);exact⟨h2,rfl⟩
    |succ m ih=>
     intro a1 a2
     by_cases hk:i=m+1
     subst hk;exact⟨h2,rfl⟩
     ·obtain⟨i1,i2⟩:=ih (by omega) (by omega);exact⟨abO i1 (L.grow (by omega)),(L.PX R Pr hl gh (by omega) i1 (λhr=>.inr ⟨by omega,D.hi m hr (by omega)⟩)).trans i2⟩
   exact(key k Ff (aa5 _)).2
theorem T'.agree(L:gO C run ops h0 tr){q1 q2:Oper}{id1 id2:Nat}{a1 a2 yZ qK:au}{x y:Operand}{Y:Nat->PV}{Z:List (Nat×Nat)}(D:T' C run ops tr N F w0 PY Z0 E a w q1 q2 id1 id2 a1 a2 yZ qK x y Y Z){i id:Nat}{o:Oper}(R:CV ops E E' i o)(Pr:gU o.op=true)(h2:id<(tr i).h.length)
  (hc:nQ h0 id=true\/(ll ops (before ops) i=true/\Bn ops (before ops) i (tr i).Y id=true)):((tr (ops.size - 2)).h.set id2 qK)[id]?=(tr i).h[id]?:=by
 have hi:i<ops.size:=(aby.1 R.at_).1;have S:=D.sd;have n2:=S.n2
 have rdNot:∀(j:Nat) (q:Oper),ops[j]?=some q->jh C.P ops tr j->i≠j:=by
  rintro j q hq hr rfl;have:=(L.wr hq hr).2.1;rw[R.at_]at hq;obtain rfl:=aa2 hq;rw[Pr]at this;cases this
 have g1:=rdNot _ _ S.e1 S.r1;have g2:=rdNot _ _ S.e2 S.r2;have kF:i<ops.size - 2:=by omega
 rcases hc with hc |⟨hl,gh⟩
 ·obtain⟨ob,b1,b2⟩:=CX hc;have e1:=L.old b1 b2 (ops.size - 2) (by omega)
  have bN:id2≠id:=by
   rintro rfl;rw[S.g2]at e1;obtain rfl:=aa2 e1;exact b2 S.m2
  rw[aa8 bN,e1,L.old b1 b2 i (by omega)]
 ·have key:∀m,i<=m->m<=ops.size - 2->id<(tr m).h.length/\(tr m).h[id]?=(tr i).h[id]?:=by
   intro m
   induction m with
   |zero=>intro a1 _;obtain rfl:i=0:=(by omega);exact⟨h2,rfl⟩
   |succ m ih=>
    intro a1 a2
    by_cases hk:i=m+1
    subst hk;exact⟨h2,rfl⟩
    ·obtain⟨i1,i2⟩:=ih (by omega) (by omega);exact⟨abO i1 (L.grow (by omega)),(L.PX R Pr hl gh (by omega) i1 (λhr=>.inr ⟨by omega,D.al m hr (by omega)⟩)).trans i2⟩
  have LN:E8 ops (tr i).Y y id=true:=by
   unfold Bn at gh;rw[S.s]at gh;simp only[abb,abA]at gh;refine gh.2.resolve_left (λrf=>?_);have hE2:=D.al _ S.r2 (by omega);rcases pz rf with h |h |h;omega;have:=rj L.ok _ _ h;omega;have:=R.later h;rw[hE2]at this;cases this
  have bN:=L.target LN (by omega) S.x2;rw[aa8 bN];exact(key (ops.size - 2) (by omega) (aa5 _)).2
theorem fN{C:cG}{run:gW}{lv:Nat}{op:Op}{Y:Nat->PV}{h:ab}(hb:gU op=true\/jF op=true):ar C run lv op Y h=aC C.P lv op Y h:=by
 cases op <;>first |rfl |(rcases hb with hb |hb <;>simp[gU,jF]at hb)
theorem wR.step(K:eY C)(S:gz C run)(L:gO C run ops h0 tr)(D:wR C run ops tr N F w0 PY Z0 E a w){i:Nat}{o:Oper}(R:CV ops E E' i o)(hd:jC N o=true)
  {Q:Exit->Act->World->Prop} {next:Act->World->Prop} (hK:∀a' w',wR C run ops tr N F w0 PY Z0 E' a' w'->next a' w'):wpOp C.P ops Q i next a w:=by
 have hi:i<ops.size:=(aby.1 R.at_).1;unfold wpOp;rw[R.at_];simp only
 have noRan:(c9 o.op=true->gU o.op=false->(jF o.op=true->aC C.P 1 o.op (tr i).Y (tr i).h=none)->bu ops o (tr i).Y=some true->False)->¬jh C.P ops tr i:=by
  rintro hh ⟨o',h1,h2,h3,h4,h5⟩;rw[R.at_]at h1;obtain rfl:=aa2 h1;exact hh h2 h3 h4 h5
 have eq':∀j,j≠i->E' j=E j:=λj hj=>by
  have:=R.nL j;simp only[hj,or_false]at this
  cases h1:E j <;>cases h2:E' j <;>simp_all
 rcases D with⟨k,Y,Z,D⟩|⟨q1,q2,id1,id2,a1,a2,yZ,qK,x,y,Y,Z,D⟩
 ·have kT:=D.rh.HA L R;have vB:=D.rh.LM L R;have jJ:∀lv h,ar C run lv o.op Y h=ar C run lv o.op (tr i).Y h:=λlv h=>l9 vB
  have stay:∀{r:PV} {v:Value} {w':World} {Z':List (Nat×Nat)},¬jh C.P ops tr i->(tr (i+1)).Y=bY (tr i).Y o.dst r->aE w' (Av F (tr k).h Z') Z' (tr k).h v r->ba w' F Z' (tr k).h->dU w (tr k).h Z w' (tr k).h Z'->next (a.put o.dst v) w':=by
   intro r v w' Z' hn hr q1 q2 q3
   refine hK _ _ (.inl ⟨k,bY Y o.dst r,Z',D.kn,?_,?_,q2,(D.er.mono q3).put (il hd D.sz) q1,D.rh.on L R hr,D.sp.trans q3,by rw[dY];exact D.df,by rw[gA];exact D.sz⟩)
   ·intro j h1 h2
    rcases(R.nL j).1 h2 with h2 |rfl;exact D.lo j h1 h2;exact absurd h1 hn
   ·intro j h1 h2
    exact(R.nL j).2 (.inl (D.hi j h1 h2))
  have quiet:∀{r:PV},bu ops o (tr i).Y=some true->¬jh C.P ops tr i->(tr (i+1)).Y=bY (tr i).Y o.dst r->ar C run 1 o.op Y (tr k).h=some (r,(tr k).h)->o.wp C.P a w next Q:=by
   intro r hw hn hr e
   exact ji K S D.hr D.er e (λv w' Z' q1 q2 q3 q4=>stay hn hr q1 q2 q3)
  cases L.view R.at_ with
  |off hw hy=>
   rw[cY D.er (by rw[kT];exact hw),if_neg (by simp)];exact stay (noRan λ_ _ _ h3=>by rw[hw]at h3;cases h3) (by rw[hy]) .undef D.hr (dU.refl _ _ _)
  |plain r hx hw hh hv hy=>
   rw[cY D.er (by rw[kT];exact hw),if_pos rfl];exact .inl (quiet hw (noRan λh2 _ _ _=>by rw[hh]at h2;cases h2) (by rw[hy]) (by rw[jJ];exact pn hh hv))
  |rd r hx hw hl hc hv hy=>
   rw[cY D.er (by rw[kT];exact hw),if_pos rfl];refine .inl (quiet hw (noRan λ_ h2 _ _=>by rw[hl]at h2;cases h2) (by rw[hy]) ?_);rw[jJ,fN (.inl hl)];refine(vR hl hv (λid hid=>?_)).1;have h2:=(vR hl hv (λ_ _=>rfl)).2 id hid
   have h1:id<(tr k).h.length:=by
    cases lz:o.op with
    |load t z=>
     rw[lz]at hid vB;simp only[qJ]at hid;have hz:=vB z (by simp[Op.operands]);have hr:=D.er.ev D.hr.fA z;rw[hz]at hr
     cases hq:ev (tr i).Y z with
     |ptr j ep k2 off=>rw[hq]at hid hr;obtain rfl:=aa2 hid;exact hr.Bt.1
     |_=>rw[hq]at hid;cases hid
    |indexAddr t z u=>
     rw[lz]at hid vB;simp only[qJ]at hid;have hz:=vB z (by simp[Op.operands]);have hr:=D.er.ev D.hr.fA z;rw[hz]at hr
     cases hq:ev (tr i).Y z with
     |aj j ep off len=>rw[hq]at hid hr;obtain rfl:=aa2 hid;exact hr.dL.1
     |_=>rw[hq]at hid;cases hid
    |_=>rw[lz]at hl;cases hl
   exact D.agree L R hl h1 h2 (hc id hid)
  |made r hx hw hb hv hy=>
   rw[cY D.er (by rw[kT];exact hw),if_pos rfl];refine .inl (quiet hw (noRan λ_ _ h3 _=>by rw[h3 hb]at hv;cases hv) (by rw[hy]) ?_);rw[fN (.inr hb)];exact zQ hb (λh=>by rw[<-fN (C:=C) (run:=run) (.inr hb),<-fN (C:=C) (run:=run) (.inr hb)];exact jJ 1 h) hv
  |two r h' hw hh zU P0 hl hv hle hy=>
   rw[cY D.er (by rw[kT];exact hw),if_pos rfl];refine .inl ?_;have Fg:jh C.P ops tr i:=⟨o,R.at_,hh,zU,P0,hw⟩
   have SM:k<=i:=by
    rcases abJ i k with h |h;have:=D.hi i Fg h;rw[R.out]at this;cases this;exact h
   have main:(∀j,jh C.P ops tr j->j<i->E j=true)->o.wp C.P a w next Q:=by
    intro anc_of
    have D1:=D.PZ L (i - k) (by omega) (λj h1 h2 h3=>by
     have:=D.lo j h3 (anc_of j h3 (by omega));omega)
    rw[show k+(i - k)=i by omega]at D1;refine ji K S D1.hr D1.er (by rw[jJ];exact hv) (λv w' Z' q1 q2 q3 q4=>hK _ _ (.inl ?_));have Ub:(tr (i+1)).h=h':=by rw[hy];exact I5 q3
    refine⟨i+1,bY Y o.dst r,Z',by omega,?_,?_,by rw[Ub];exact q2,by rw[Ub];exact(D1.er.mono q3).put (il hd D.sz) q1,D.rh.on L R (by rw[hy]),by rw[Ub];exact D1.sp.trans q3,by rw[dY];exact D.df,by rw[gA];exact D.sz⟩
    ·intro j h1 h2
     rcases(R.nL j).1 h2 with h2 |rfl;have:=D1.lo j h1 h2;omega;omega
    ·intro j h1 h3
     by_cases hj:j=i
     exact(R.nL j).2 (.inr hj);exact(R.nL j).2 (.inl (anc_of j h1 (by omega)))
   have ordE:∀j,jh C.P ops tr j->j<i->¬((sinks ops (before ops)).isSome=true/\ops.size<=i+2/\ops.size<=j+2)->E j=true:=by
    intro j hj cL hns
    rcases(L.ord Fg hj).resolve_right hns with h |h |h;omega;exact R.Ua j h;have:=rj L.ok j i h;omega
   by_cases hb:(sinks ops (before ops)).isSome=true/\i=ops.size - 1/\E (ops.size - 2)=false
   ·obtain⟨hs,kF,HB⟩:=hb;obtain⟨⟨x,y⟩,hs⟩:=adb.1 hs;obtain⟨q1,q2,id1,id2,a1,a2,yZ,qK,SS⟩:=L.sd hs;have n2:=SS.n2;have before2:∀j,jh C.P ops tr j->j<ops.size - 2->E j=true:=λj hj cL=>ordE j hj (by omega) (λhh=>by omega)
    have hk2:k<=ops.size - 2:=by
     rcases abJ (ops.size - 2) k with h |h;have:=D.hi _ SS.r1 h;rw[HB]at this;cases this;exact h
    have D1:=D.PZ L (ops.size - 2 - k) (by omega) (λj h1 h2 h3=>by
     have:=D.lo j h3 (before2 j h3 (by omega));omega)
    rw[show k+(ops.size - 2 - k)=ops.size - 2 by omega]at D1
    have hoq:o=q2:=by
     have h3:=R.at_;rw[kF,SS.e2]at h3;exact(aa2 h3).symm
    subst hoq
    have lz:∀z∈o.op.operands.toList,ev Y z=ev (tr (ops.size - 2)).Y z:=λz hz=>by
     rw[vB z hz,kF]
     cases z with
     |tmp t=>exact congrFun SS.p1 t
     |_=>rfl
    refine ji K S D1.hr D1.er (SS.v2 Y _ lz SS.g2) (λv w' Z' r1 r2 r3 r4=>hK _ _ (.inr ?_));refine⟨q1,o,id1,id2,a1,a2,yZ,qK,x,y,bY Y o.dst .undef,Z',SS,?_,?_,r2,(D1.er.mono r3).put (il hd D.sz) r1,D.rh.on L R (by rw[SS.d2,kF,show ops.size - 1+1=ops.size by omega,SS.p2,SS.p1];rfl),D1.sp.trans r3,by rw[dY];exact D.df,by rw[gA];exact D.sz⟩;rw[eq' _ (by omega)];exact HB
    ·intro j hj bN
     by_cases zl:j=i
     exact(R.nL j).2 (.inr zl)
     ·obtain⟨oj,ej,_⟩:=id hj;have:=(aby.1 ej).1;exact(R.nL j).2 (.inl (before2 j hj (by omega)))
   ·refine main (λj hj cL=>?_)
    by_cases hns:(sinks ops (before ops)).isSome=true/\ops.size<=i+2/\ops.size<=j+2
    ·have kF:i=ops.size - 1:=by omega
     have hjn:j=ops.size - 2:=by omega
     cases he:E j with
     |true=>rfl
     |false=>exact absurd ⟨hns.1,kF,by rw[<-hjn];exact he⟩ hb
    exact ordE j hj cL hns
 ·have kT:=D.rh.HA L R;have vB:=D.rh.LM L R;have jJ:∀lv h,ar C run lv o.op Y h=ar C run lv o.op (tr i).Y h:=λlv h=>l9 vB
  have SS:=D.sd;have n2:=SS.n2
  have stay:∀{r:PV} {v:Value} {w':World} {Z':List (Nat×Nat)},¬jh C.P ops tr i->(tr (i+1)).Y=bY (tr i).Y o.dst r->aE w' (Av F ((tr (ops.size - 2)).h.set id2 qK) Z') Z' ((tr (ops.size - 2)).h.set id2 qK) v r->ba w' F Z' ((tr (ops.size - 2)).h.set id2 qK)->dU w ((tr (ops.size - 2)).h.set id2 qK) Z w' ((tr (ops.size - 2)).h.set id2 qK) Z'->next (a.put o.dst v) w':=by
   intro r v w' Z' hn hr r1 r2 r3
   refine hK _ _ (.inr ⟨q1,q2,id1,id2,a1,a2,yZ,qK,x,y,bY Y o.dst r,Z',SS,?_,?_,r2,(D.er.mono r3).put (il hd D.sz) r1,D.rh.on L R hr,D.sp.trans r3,by rw[dY];exact D.df,by rw[gA];exact D.sz⟩);rw[eq' _ (by rintro h;rw[<-h]at hn;exact hn SS.r1)];exact D.s1
   ·intro j hj bN
    exact(R.nL j).2 (.inl (D.al j hj bN))
  have quiet:∀{r:PV},bu ops o (tr i).Y=some true->¬jh C.P ops tr i->(tr (i+1)).Y=bY (tr i).Y o.dst r->ar C run 1 o.op Y ((tr (ops.size - 2)).h.set id2 qK)=some (r,(tr (ops.size - 2)).h.set id2 qK)->o.wp C.P a w next Q:=by
   intro r hw hn hr e
   exact ji K S D.hr D.er e (λv w' Z' r1 r2 r3 r4=>stay hn hr r1 r2 r3)
  cases L.view R.at_ with
  |off hw hy=>
   rw[cY D.er (by rw[kT];exact hw),if_neg (by simp)];exact stay (noRan λ_ _ _ h3=>by rw[hw]at h3;cases h3) (by rw[hy]) .undef D.hr (dU.refl _ _ _)
  |plain r hx hw hh hv hy=>
   rw[cY D.er (by rw[kT];exact hw),if_pos rfl];exact .inl (quiet hw (noRan λh2 _ _ _=>by rw[hh]at h2;cases h2) (by rw[hy]) (by rw[jJ];exact pn hh hv))
  |rd r hx hw hl hc hv hy=>
   rw[cY D.er (by rw[kT];exact hw),if_pos rfl];refine .inl (quiet hw (noRan λ_ h2 _ _=>by rw[hl]at h2;cases h2) (by rw[hy]) ?_);rw[jJ,fN (.inl hl)];refine(vR hl hv (λid hid=>?_)).1;exact D.agree L R hl ((vR hl hv (λ_ _=>rfl)).2 id hid) (hc id hid)
  |made r hx hw hb hv hy=>
   rw[cY D.er (by rw[kT];exact hw),if_pos rfl];refine .inl (quiet hw (noRan λ_ _ h3 _=>by rw[h3 hb]at hv;cases hv) (by rw[hy]) ?_);rw[fN (.inr hb)];exact zQ hb (λh=>by rw[<-fN (C:=C) (run:=run) (.inr hb),<-fN (C:=C) (run:=run) (.inr hb)];exact jJ 1 h) hv
  |two r h' hw hh zU P0 hl hv hle hy=>
   rw[cY D.er (by rw[kT];exact hw),if_pos rfl];refine .inl ?_;have Fg:jh C.P ops tr i:=⟨o,R.at_,hh,zU,P0,hw⟩
   have kF:i=ops.size - 2:=ac8 λbN=>by
    have:=D.al i Fg bN;rw[R.out]at this;cases this
   have hoq:o=q1:=by
    have h3:=R.at_;rw[kF,SS.e1]at h3;exact(aa2 h3).symm
   subst hoq;have lz:∀z∈o.op.operands.toList,ev Y z=ev (tr (ops.size - 2)).Y z:=λz hz=>by rw[vB z hz,kF]
   have hg:((tr (ops.size - 2)).h.set id2 qK)[id1]?=some a1:=by rw[aa8 (abW SS.ne)];exact SS.g1
   refine ji K S D.hr D.er (SS.v1 Y _ lz hg) (λv w' Z' r1 r2 r3 r4=>hK _ _ (.inl ?_));have zT:(tr ops.size).h=((tr (ops.size - 2)).h.set id2 qK).set id1 yZ:=by rw[SS.h2,List.set_comm _ _ SS.ne]
   have E'all:∀j,jh C.P ops tr j->E' j=true:=λj hj=>by
    by_cases zl:j=i
    exact(R.nL j).2 (.inr zl);exact(R.nL j).2 (.inl (D.al j hj (by rw[<-kF];exact zl)))
   refine⟨ops.size,bY Y o.dst .undef,Z',aa5 _,?_,λj hj _=>E'all j hj,by rw[zT];exact r2,by rw[zT];exact(D.er.mono r3).put (il hd D.sz) r1,D.rh.on L R (by rw[SS.d1,kF,show ops.size - 2+1=ops.size - 1 by omega,SS.p1];rfl),by rw[zT];exact D.sp.trans r3,by rw[dY];exact D.df,by rw[gA];exact D.sz⟩
   intro j hj _
   obtain⟨oj,ej,_⟩:=hj;exact(aby.1 ej).1
theorem wR.done(L:gO C run ops h0 tr)(D:wR C run ops tr N F w0 PY Z0 E a w)(hE:∀j,j<ops.size->E j=true):∃Z,SR N w F Z (tr ops.size) a/\dU w0 PY Z0 w (tr ops.size).h Z:=by
 rcases D with⟨k,Y,Z,D⟩|⟨q1,q2,id1,id2,a1,a2,yZ,qK,x,y,Y,Z,D⟩
 ·have D1:=D.PZ L (ops.size - k) (by have:=D.kn;omega) (λj h1 h2 h3=>by
   have:=D.lo j h3 (hE j (by have:=D.kn;omega));omega)
  rw[show k+(ops.size - k)=ops.size by have:=D.kn;omega]at D1
  have hY:Y=(tr ops.size).Y:=by
   funext t
   refine D1.rh t ops.size (aa5 _) (λj o hj _=>?_);have:j<ops.size:=(aby.1 hj).1;simp[hE j this,this]
  have h2:=D1.er;rw[hY]at h2;exact⟨Z,⟨D1.hr,h2,D1.df,D1.sz⟩,D1.sp⟩
 ·have:=D.s1;rw[hE _ (by have:=D.sd.n2;omega)]at this;cases this
def FL(ids:List Nat)(F:Nat->Prop)(h:ab)(Z:List (Nat×Nat))(b:Nat):Prop:=F b\/∃id o bc,ids.contains id=true/\h[id]?=some o/\Z[id]?=some bc/\o.mu=.m/\bc.1=b
theorem lA(ids:List Nat)(h:ab)(id:Nat):(cE ids h)[id]?=(h[id]?).map λo=>if ids.contains id then bI o else o:=by
 unfold cE;rw[abm,ac2,adF]
 cases h[id]? <;>simp
theorem CY(ids:List Nat)(h h':ab)(id:Nat):(dW ids h h')[id]?=(h'[id]?).map λo=>if ids.contains id then(match h[id]? with |some o'=>o'|none=>o)else o:=by
 unfold dW;rw[abm,ac2,adF]
 cases h'[id]? with
 |none=>rfl
 |some o=>
  simp only[abf,Function.comp_apply,abp]
  split <;>rfl
theorem tM(ids:List Nat)(h:ab):(cE ids h).length=h.length:=by unfold cE;simp
variable{Z:List (Nat×Nat)}{h:ab}
theorem pA(ids:List Nat)(h:ab):Alike h (cE ids h):=by
 refine⟨(tM ids h).symm,λid o o' e1 e2=>?_⟩;rw[lA,e1]at e2;obtain rfl:=aa2 e2;obtain⟨p1,p2,p3,p4,_⟩:=bM o
 split
 exact⟨p1.symm,p2.symm,p3.symm,p4.symm⟩;exact⟨rfl,rfl,rfl,Iff.rfl⟩
theorem wS{ids:List Nat}{b:Nat}(hb:Mb (cE ids h) Z b):∃id o bc,ids.contains id=false/\h[id]?=some o/\Z[id]?=some bc/\o.mu=.m/\bc.1=b:=by
 obtain⟨id,o,bc,e1,e2,e3,e4⟩:=hb;rw[lA]at e1
 cases ho:h[id]? with
 |none=>rw[ho]at e1;cases e1
 |some o2=>
  rw[ho]at e1;simp only[abf,abw]at e1
  split at e1
  subst e1;exact absurd e3 (bM o2).2.2.2.2.1
  ·rename_i hc;subst e1;exact⟨id,o2,bc,by simpa using hc,ho,e2,e3,e4⟩
theorem sf{ids:List Nat}{b:Nat}(hb:Av (FL ids F h Z) (cE ids h) Z b):Av F h Z b:=by
 rcases hb with(hb |⟨id,o,bc,_,e1,e2,e3,e4⟩)|hb;exact .inl hb;exact .inr ⟨id,o,bc,e1,e2,e3,e4⟩
 ·obtain⟨id,o,bc,_,e1,e2,e3,e4⟩:=wS hb;exact .inr ⟨id,o,bc,e1,e2,e3,e4⟩
theorem ba.cE(H:ba w F Z h)(ids:List Nat):ba w (FL ids F h Z) Z (Pm.cE ids h):=by
 have at_:∀(id:Nat) (o:au),(Pm.cE ids h)[id]?=some o->∃o2,h[id]?=some o2/\((ids.contains id=true/\o=bI o2)\/(ids.contains id=false/\o=o2)):=by
  intro id o e
  rw[lA]at e
  cases ho:h[id]? with
  |none=>rw[ho]at e;cases e
  |some o2=>
   rw[ho]at e;simp only[abf,abw]at e
   split at e
   ·rename_i hc;exact⟨o2,rfl,.inl ⟨hc,e.symm⟩⟩
   ·rename_i hc;exact⟨o2,rfl,.inr ⟨by simpa using hc,e.symm⟩⟩
 refine⟨by rw[tM];exact H.len,λb hb=>?_,?_,?_,?_,H.fA.kL λb=>sf⟩
 ·rcases hb with hb |⟨id,o,bc,_,e1,e2,e3,e4⟩
  ·exact H.fin b hb
  ·exact Av.lt H (.inr ⟨id,o,bc,e1,e2,e3,e4⟩)
 ·intro id o bc e1 e2 e3
  obtain⟨o2,f1,f2⟩:=at_ id o e1;obtain⟨p1,p2,p3,p4,_⟩:=bM o2;rcases f2 with⟨_,rfl⟩|⟨_,rfl⟩;exact(H.obj id o2 bc f1 e2 (λhh=>e3 (p4.2 hh))).alike (pA ids h) (λb=>sf) p2.symm p3.symm;exact(H.obj id o bc f1 e2 e3).alike (pA ids h) (λb=>sf) rfl rfl
 ·intro id dF o o' bc cK bN e1 e2 e3 e4 m1 m2
  obtain⟨o2,f1,f2⟩:=at_ id o e1;obtain⟨o2',g1,g2⟩:=at_ dF o' e2;rcases f2 with⟨_,rfl⟩|⟨_,rfl⟩;exact absurd m1 (bM o2).2.2.2.2.1
  ·rcases g2 with⟨_,rfl⟩|⟨_,rfl⟩
   ·exact H.gY id dF o o2' bc cK bN f1 g1 e3 e4 m1 (λhh=>m2 ((bM o2').2.2.2.1.2 hh))
   ·exact H.gY id dF o o' bc cK bN f1 g1 e3 e4 m1 m2
 ·intro id o bc e1 e2 e3 hf
  obtain⟨o2,f1,f2⟩:=at_ id o e1;obtain⟨p1,p2,p3,p4,p5,p6⟩:=bM o2
  have EY:(ids.contains id=false/\o2.mu=.m)\/o2.mu=.f:=by
   rcases f2 with⟨_,rfl⟩|⟨hc,rfl⟩
   ·rcases e3 with e3 |e3
    ·exact absurd e3 p5
    ·exact .inr (p6.1 e3)
   exact e3.imp (λh=>⟨hc,h⟩) (λh=>h)
  rcases hf with hf |⟨dF,o',cK,k1,k2,k3,k4,k5⟩;exact H.out id o2 bc f1 e2 (EY.imp (λh=>h.2) (λh=>h)) hf
  ·have bN:dF≠id:=by
    rintro rfl;rw[f1]at k2;obtain rfl:=aa2 k2;rcases EY with h |h;rw[k1]at h;cases h.1;rw[k4]at h;cases h
   exact H.gY dF id o' o2 cK bc bN k2 f1 k3 e2 k4 (by rcases EY with h |h;rw[h.2];simp;rw[h];simp) k5
theorem ba.dW(H:ba w F Z h){ids:List Nat}{w':World}{h1:ab}{Z1:List (Nat×Nat)}(q2:ba w' (FL ids F h Z) Z1 h1)(q3:dU w (Pm.cE ids h) Z w' h1 Z1)(zU:q9 ids h h1=true):
  (∀(v:Value) (p:PV),aE w' (Av (FL ids F h Z) h1 Z1) Z1 h1 v p->aE w' (Av F (Pm.dW ids h h1) Z1) Z1 (Pm.dW ids h h1) v p)/\ba w' F Z1 (Pm.dW ids h h1)/\dU w h Z w' (Pm.dW ids h h1) Z1:=by
 have hn:h.length<=h1.length:=by have:=q3.len;rwa[tM]at this
 have zm:(Pm.dW ids h h1).length=h1.length:=by unfold Pm.dW;simp
 have lk:∀(id:Nat) (o:au),h[id]?=some o->ids.contains id=true->h1[id]?=some (bI o)/\Z1[id]?=Z[id]?/\(Pm.dW ids h h1)[id]?=some o:=λid o ho hc=>by
  have e1:(Pm.cE ids h)[id]?=some (bI o):=by rw[lA,ho];simp only[abf,hc,if_true]
  obtain⟨g1,g2⟩:=q3.Lk id (bI o) e1 (bM o).2.2.2.2.1;exact⟨g1,g2,by rw[CY,g1];simp only[abf,hc,if_true,ho]⟩
 have ul:∀(id:Nat),(ids.contains id=false\/h.length<=id)->(Pm.dW ids h h1)[id]?=h1[id]?:=λid hc=>by
  rw[CY]
  cases h1[id]? with
  |none=>rfl
  |some o=>
   rcases hc with hc |hc;simp only[abf,hc,abi,if_false];simp only[abf,abl hc];split <;>rfl
 have cs:∀(id:Nat) (o:au),(Pm.dW ids h h1)[id]?=some o->(ids.contains id=true/\h[id]?=some o/\h1[id]?=some (bI o)/\Z1[id]?=Z[id]?)\/((ids.contains id=false\/h.length<=id)/\h1[id]?=some o):=λid o e=>by
  by_cases hc:ids.contains id=true/\id<h.length
  ·obtain⟨o2,ho⟩:=mV (l:=h) (i:=id) hc.2;obtain⟨g1,g2,g3⟩:=lk id o2 ho hc.1;rw[g3]at e;obtain rfl:=aa2 e;exact .inl ⟨hc.1,ho,g1,g2⟩
  ·have tF:ids.contains id=false\/h.length<=id:=by
    by_cases h1:ids.contains id=true
    exact .inr (Nat.le_of_not_lt λh2=>hc ⟨h1,h2⟩);exact .inl (by simpa using h1)
   exact .inr ⟨tF,by rw[<-ul id tF];exact e⟩
 have al:Alike h1 (Pm.dW ids h h1):=by
  refine⟨zm.symm,λid o o' e1 e2=>?_⟩;rcases cs id o' e2 with⟨_,_,g1,_⟩|⟨_,g1⟩
  ·rw[g1]at e1;obtain rfl:=aa2 e1;obtain⟨p1,p2,p3,p4,_⟩:=bM o';exact⟨p1,p2,p3,p4⟩
  ·rw[g1]at e1;obtain rfl:=aa2 e1;exact⟨rfl,rfl,rfl,Iff.rfl⟩
 have Bu:∀b,Av F (Pm.dW ids h h1) Z1 b->Av (FL ids F h Z) h1 Z1 b:=by
  rintro b (hb |⟨id,o,bc,e1,e2,e3,e4⟩);exact .inl (.inl hb)
  ·rcases cs id o e1 with⟨hc,g0,g1,g2⟩|⟨_,g1⟩
   ·rw[g2]at e2;exact .inl (.inr ⟨id,o,bc,hc,g0,e2,e3,e4⟩)
   ·exact .inr ⟨id,o,bc,g1,e2,e3,e4⟩
 have lmu:∀(id:Nat) (o:au),(ids.contains id=false\/h.length<=id)->h1[id]?=some o->o.mu=.l->∃o',h[id]?=some o'/\o'.mu=.l:=λid o hc e hm=>by
  have:=aa4.1 zU (o,id) (by rw[acI];exact⟨id,by simp[e]⟩);simp only[hm,ne_eq,not_true_eq_false,decide_false,acG,abA,abb,decide_eq_true_eq]at this;rcases this with h2 |h2
  ·rcases hc with hc |hc
   ·rw[hc]at h2;cases h2.1
   ·omega
  ·split at h2
   ·rename_i o' PW;exact⟨o',PW,by simpa using h2⟩
   ·cases h2
 have hMb:∀b,b<w.heap.size->Mb (Pm.dW ids h h1) Z1 b->Mb h Z b:=by
  rintro b hb ⟨id,o,bc,e1,e2,e3,e4⟩;rcases cs id o e1 with⟨hc,g0,g1,g2⟩|⟨_,g1⟩;rw[g2]at e2;exact⟨id,o,bc,g0,e2,e3,e4⟩
  ·obtain⟨dF,o',cK,_,f1,f2,f3,f4⟩:=wS (q3.shr b hb ⟨id,o,bc,g1,e2,e3,e4⟩);exact⟨dF,o',cK,f1,f2,f3,f4⟩
 refine⟨λv p q1=>q1.alike al Bu,⟨by rw[zm];exact q2.len,λb hb=>abO (H.fin b hb) q3.size,?_,?_,?_,q2.fA.kL Bu⟩,⟨q3.size,by rw[zm];exact hn,λb hb hm=>q3.aR b hb (λPs=>hm ?_),hMb,?_,?_,q3.os,q3.tape,q3.output,q3.drawn⟩⟩
 ·intro id o bc e1 e2 e3
  rcases cs id o e1 with⟨hc,g0,g1,g2⟩|⟨_,g1⟩
  ·obtain⟨p1,p2,p3,p4,_⟩:=bM o;exact(q2.obj id (bI o) bc g1 e2 (λhh=>e3 (p4.1 hh))).alike al Bu p2 p3
  exact(q2.obj id o bc g1 e2 e3).alike al Bu rfl rfl
 ·intro id dF o o' bc cK bN e1 e2 e3 e4 m1 m2
  rcases cs id o e1 with⟨hc,g0,g1,g2⟩|⟨hc,g1⟩
  ·rcases cs dF o' e2 with⟨tF,g0',SN,Xp⟩|⟨tF,SN⟩
   ·rw[g2]at e3;rw[Xp]at e4;exact H.gY id dF o o' bc cK bN g0 g0' e3 e4 m1 m2
   ·rw[g2]at e3;have inF:FL ids F h Z bc.1:=.inr ⟨id,o,bc,hc,g0,e3,m1,rfl⟩
    cases hm:o'.mu with
    |m=>exact λheq=>q2.out dF o' cK SN e4 (.inl hm) (heq▸inF)
    |f=>exact λheq=>q2.out dF o' cK SN e4 (.inr hm) (heq▸inF)
    |l=>
     obtain⟨o2,k1,k2⟩:=lmu dF o' tF SN hm;have EX:ids.contains dF=false:=tF.resolve_right (λhh=>by rw[abl hh]at k1;cases k1);have e5:(Pm.cE ids h)[dF]?=some o2:=by rw[lA,k1];simp only[abf,EX,abi,if_false]
     obtain⟨_,k4⟩:=q3.Lk dF o2 e5 (by rw[k2];simp);rw[k4]at e4;exact H.gY id dF o o2 bc cK bN g0 k1 e3 e4 m1 (by rw[k2];simp)
    |x=>exact absurd hm m2
  ·rcases cs dF o' e2 with⟨tF,g0',SN,Xp⟩|⟨tF,SN⟩
   ·exact q2.gY id dF o (bI o') bc cK bN g1 SN e3 e4 m1 (λhh=>m2 ((bM o').2.2.2.1.1 hh))
   ·exact q2.gY id dF o o' bc cK bN g1 SN e3 e4 m1 m2
 ·intro id o bc e1 e2 e3
  rcases cs id o e1 with⟨hc,g0,g1,g2⟩|⟨hc,g1⟩;rw[g2]at e2;exact H.out id o bc g0 e2 e3;exact λhf=>q2.out id o bc g1 e2 e3 (.inl hf)
 ·obtain⟨dF,o',cK,_,f1,f2,f3,f4⟩:=wS Ps;exact⟨dF,o',cK,f1,f2,f3,f4⟩
 ·intro id o bc e1 e2 e3
  by_cases hc:ids.contains id=true
  ·obtain⟨g1,g2,g3⟩:=lk id o e1 hc;exact⟨o,bc,g3,by rw[g2];exact e2,e3,⟨aa5 _,λh=>h⟩,λ_=>⟨rfl,λ_=>rfl,rfl⟩⟩
  ·have EX:ids.contains id=false:=by simpa using hc
   have e5:(Pm.cE ids h)[id]?=some o:=by rw[lA,e1];simp only[abf,EX,abi,if_false]
   obtain⟨o',cK,f1,f2,f3,f4,f5⟩:=q3.refs id o bc e5 e2 e3;exact⟨o',cK,by rw[ul id (.inl EX)];exact f1,f2,f3,f4,f5⟩
 ·intro id o e1 e2
  by_cases hc:ids.contains id=true
  ·obtain⟨g1,g2,g3⟩:=lk id o e1 hc;exact⟨g3,g2⟩
  ·have EX:ids.contains id=false:=by simpa using hc
   have e5:(Pm.cE ids h)[id]?=some o:=by rw[lA,e1];simp only[abf,EX,abi,if_false]
   obtain⟨f1,f2⟩:=q3.Lk id o e5 e2;exact⟨by rw[ul id (.inl EX)];exact f1,f2⟩
theorem P3(K:eY C)(S:gz C run)(hm:C.P.follows .mixedOrders=true){id:Nat}{Q:Exit->Act->World->Prop}(hd:ops.toList.all (jC N)=true)(hk:mD ops=true){Z:List (Nat×Nat)}{s s':St}(R:SR N w F Z s a)
  (e:jg C run ops s=some s') (hQ:∀a' w' Z',SR N w' F Z' s' a'->dU w s.h Z w' s'.h Z'->Q .normal a' w'):(Code.region id ops true).wp C.P Q a w:=by
 unfold jg at e;generalize Fh:gM ops (before ops) s.Y=ids at e
 split at e
 ·rename_i y he
  split at e
  ·rename_i zU
   obtain rfl:=aa2 e;obtain⟨tr,t1,t2,t3⟩:=pw ops.toList 0 _ _ he;have t3':tr ops.size=y:=by simpa using t3
   have L:gO C run ops (cE ids s.h) tr:=⟨hk,λi o ho=>by simpa using t2 i o (by simpa using ho),by rw[t1],by rw[t3'];exact zU.2⟩
   refine wp_region_any hm (zV (C:=C) hk (λE a' w'=>wR C run ops tr N (FL ids F s.h Z) w (cE ids s.h) Z E a' w')
    (λE E' a' w' i o D R' next hK=>wR.step K S L D R' (aa4.1 hd o (adw.2 (acZ R'.at_))) hK)
    (λE a' w' D ek=>?_) ops.size _ a _ (by simp) (λi o ho hl=>by rw[getD_none]at hl;cases hl) ?_ ?_)
   ·obtain⟨Z1,h1,h2⟩:=D.done L ek;rw[t3']at h1 h2;obtain⟨u1,u2,u3⟩:=R.hr.dW h1.hr h2 zU.1;exact hQ a' w' Z1 ⟨u2,λt=>u1 _ _ (h1.er t),h1.df,h1.sz⟩ u3
   refine abQ (List.countP_le_length) (by simp)
   ·have hE:∀j,(Array.replicate ops.size false).getD j false=false:=λj=>getD_none _ j
    have G:dD w {w with drawn:=w.drawn+1}:=dD.drew w;have HL:=R.hr.cE ids;have ER:gZ w (Av (FL ids F s.h Z) (cE ids s.h) Z) Z (cE ids s.h) a s.Y:=λt=>(R.er t).alike (pA ids s.h) (λb=>sf)
    refine .inl ⟨0,s.Y,Z,⟨acu _,λj _ h=>(by rw[hE]at h;cases h),λj _ h=>by omega,by rw[t1];exact HL.I3 G,by rw[t1];exact ER.mono (G.Cy _ Z),?_,by rw[t1];exact G.Cy _ Z,R.df,R.sz⟩⟩
    intro t k' gf hw
    rw[L.mW (t:=t) (i:=0) k' (acu _) gf (λj o h1 h2 h3 h4=>by
     have h5:(Array.replicate ops.size false).getD j false=true:=(hw j o h3 h4).2 h2;rw[hE]at h5;cases h5),t1]
  cases e
 cases e
end Go.Pm
namespace Go.Pm
variable[iD:Inhabited Prop]
def codeOk(N:Nat):Code->Bool
 | .region _ ops draw=>ops.toList.all (jC N)&& (!draw ||mD ops)
 | .seq a b=>codeOk N a&&codeOk N b
 | .cond _ a b=>codeOk N a&&codeOk N b
 | .block _ c=>codeOk N c
 | .loop c=>codeOk N c
 | .scope c=>codeOk N c
 |_=>true
def RU:Ex->Exit
 | .normal=>.normal
 | .exit id=>.exit id
 | .ret=>.ret
theorem Ey{C:cG}(K:eY C)(hm:C.P.follows .mixedOrders=true){run:gW}(S:gz C run){N:Nat}{F:Nat->Prop}{n:Nat}:∀(c:Code) {s s':St} {ex:Ex} {a:Act} {w:World} {Z:List (Nat×Nat)} {Q:Exit->Act->World->Prop},
  codeOk N c=true->bS C run n c s=some (ex,s')->SR N w F Z s a->(∀a' w' Z',SR N w' F Z' s' a'->dU w s.h Z w' s'.h Z'->Q (RU ex) a' w')->c.wp C.P Q a w:=by
 intro c
 induction c with
 |skip=>
  intro s s' ex a w Z Q hc e R hQ
  simp only[bS,abw,adr]at e;obtain⟨rfl,rfl⟩:=e;exact wp_skip (hQ a w Z R (dU.refl _ _ _))
 |label l=>
  intro s s' ex a w Z Q hc e R hQ
  simp only[bS,abw,adr]at e;obtain⟨rfl,rfl⟩:=e;exact wp_label (hQ a w Z R (dU.refl _ _ _))
 |exit id=>
  intro s s' ex a w Z Q hc e R hQ
  simp only[bS,abw,adr]at e;obtain⟨rfl,rfl⟩:=e;exact wp_exit (hQ a w Z R (dU.refl _ _ _))
 |ret=>
  intro s s' ex a w Z Q hc e R hQ
  simp only[bS,abw,adr]at e;obtain⟨rfl,rfl⟩:=e;exact wp_ret (hQ a w Z R (dU.refl _ _ _))
 |region id ops draw=>
  intro s s' ex a w Z Q hc e R hQ
  simp only[codeOk,abb,abA,acD]at hc;simp only[bS]at e
  cases draw with
  |false=>
   simp only[abi,if_false]at e
   split at e
   ·rename_i s1 he
    obtain⟨rfl,rfl⟩:=abe (aa2 e);exact Je K S hc.1 R he hQ
   cases e
  |true=>
   simp only[if_true]at e
   by_cases hk:rY ops=true
   ·simp only[hk,if_true]at e
    cases he:jg C run ops s with
    |none=>rw[he]at e;simp at e
    |some y=>
     rw[he]at e;obtain⟨rfl,rfl⟩:=abe (aa2 e);exact P3 K S hm hc.1 (by simpa using hc.2) R he hQ
   ·simp only[hk,if_false]at e
    cases he:dJ C run ops (before ops) 0 ops.toList ⟨s,s.h.length,[]⟩with
    |none=>rw[he]at e;simp at e
    |some y=>
     rw[he]at e;simp only[abf]at e;obtain⟨rfl,rfl⟩:=abe (aa2 e);exact F0 K S hm hc.1 (by simpa using hc.2) R he hQ
 |seq x y ihx ihy=>
  intro s s' ex a w Z Q hc e R hQ
  simp only[codeOk,abb]at hc;simp only[bS]at e;refine wp_seq ?_
  cases hx:bS C run n x s with
  |none=>rw[hx]at e;cases e
  |some r=>
   obtain⟨ex1,s1⟩:=r;rw[hx]at e;refine ihx hc.1 hx R (λa1 w1 Z1 R1 S1=>?_)
   cases ex1 with
   |normal=>exact ihy hc.2 e R1 (λa2 w2 Z2 R2 S2=>hQ a2 w2 Z2 R2 (S1.trans S2))
   |exit id=>
    obtain⟨rfl,rfl⟩:=abe (aa2 e);exact hQ a1 w1 Z1 R1 S1
   |ret=>
    obtain⟨rfl,rfl⟩:=abe (aa2 e);exact hQ a1 w1 Z1 R1 S1
 |cond c x y ihx ihy=>
  intro s s' ex a w Z Q hc e R hQ
  simp only[codeOk,abb]at hc;simp only[bS]at e
  split at e
  ·rename_i hb
   have:=R.er.ev R.hr.fA c;rw[hb]at this;exact wp_cond_true this.gF (ihx hc.1 e R hQ)
  ·rename_i hb
   have:=R.er.ev R.hr.fA c;rw[hb]at this;exact wp_cond_false this.gF (ihy hc.2 e R hQ)
  cases e
 |block id c ih=>
  intro s s' ex a w Z Q hc e R hQ
  simp only[codeOk]at hc;simp only[bS]at e;refine wp_block ?_
  cases hx:bS C run n c s with
  |none=>rw[hx]at e;cases e
  |some r=>
   obtain⟨ex1,s1⟩:=r;rw[hx]at e;refine ih hc hx R (λa1 w1 Z1 R1 S1=>?_)
   cases ex1 with
   |normal=>
    obtain⟨rfl,rfl⟩:=abe (aa2 e);exact hQ a1 w1 Z1 R1 S1
   |exit dF=>
    simp only at e;simp only[RU,Exit.inBlock]
    split at e
    ·rename_i hid
     obtain⟨rfl,rfl⟩:=abe (aa2 e);rw[if_pos hid];exact hQ a1 w1 Z1 R1 S1
    ·rename_i hid
     obtain⟨rfl,rfl⟩:=abe (aa2 e);rw[if_neg hid];exact hQ a1 w1 Z1 R1 S1
   |ret=>
    obtain⟨rfl,rfl⟩:=abe (aa2 e);exact hQ a1 w1 Z1 R1 S1
 |loop c ih=>
  intro s s' ex a w Z Q hc e R hQ
  simp only[codeOk]at hc;simp only[bS]at e
  have key:∀(m:Nat) {s:St} {a:Act} {w:World} {Z:List (Nat×Nat)},iter (bS C run n c) m s=some (ex,s')->SR N w F Z s a->(∀a' w' Z',SR N w' F Z' s' a'->dU w s.h Z w' s'.h Z'->Q (RU ex) a' w')->Code.rounds C.P c Q m a w:=by
   intro m
   induction m with
   |zero=>intro s a w Z e;simp[iter]at e
   |succ m ihm=>
    intro s a w Z e R hQ
    simp only[iter]at e;rw[rounds_succ]
    cases hx:bS C run n c s with
    |none=>rw[hx]at e;cases e
    |some r=>
     obtain⟨ex1,s1⟩:=r;rw[hx]at e;refine ih hc hx R (λa1 w1 Z1 R1 S1=>?_)
     cases ex1 with
     |normal=>exact ihm e R1 (λa2 w2 Z2 R2 S2=>hQ a2 w2 Z2 R2 (S1.trans S2))
     |exit id=>
      obtain⟨rfl,rfl⟩:=abe (aa2 e);exact hQ a1 w1 Z1 R1 S1
     |ret=>
      obtain⟨rfl,rfl⟩:=abe (aa2 e);exact hQ a1 w1 Z1 R1 S1
  exact wp_loop_rounds n (key n e R hQ)
 |scope c ih=>
  intro s s' ex a w Z Q hc e R hQ
  simp only[codeOk]at hc;simp only[bS]at e;refine wp_scope_straight (ih hc e R (λa1 w1 Z1 R1 S1=>?_))
  cases ex <;>exact hQ a1 w1 Z1 R1 S1
 |_=>
  intro s s' ex a w Z Q hc e R hQ
  simp[bS]at e
def uA(r:ResultVar)(tmps:Array Value):Sem Value:=
 match r with
 | .tmp t=>pure (tmps.getD t undef)
 | .cell a t=>do loadVar t (<-asAddr (tmps.getD a undef))
theorem tv{P:Program}{w:World}{F:Nat->Prop}{Z:List (Nat×Nat)}{h:ab}{a:Act}{Y:Nat->PV}(H:ba w F Z h)(R:gZ w (Av F h Z) Z h a Y):∀(l:List ResultVar) (vs:List PV),dz P h Y l=some vs->
  ∃us:List Value,(l.mapM (λr=>uA r a.tmps)).run P w=.ok us w/\L2 (aE w (Av F h Z) Z h) us vs
 |[],vs,e=>by
  simp[dz]at e;subst e;exact⟨[],by simp,rfl,λj hj=>by simp at hj⟩
 |r::l,vs,e=>by
  simp only[dz]at e
  split at e
  ·rename_i v GS h1 h2
   obtain rfl:=aa2 e;obtain⟨us,u1,u2,u3⟩:=tv H R l GS h2
   have one:∃u,(uA r a.tmps).run P w=.ok u w/\aE w (Av F h Z) Z h u v:=by
    cases r with
    |tmp t=>
     obtain rfl:=aa2 h1;exact⟨_,rfl,R t⟩
    |cell x t=>
     obtain⟨u,k1,k2⟩:=Ek (P:=P) H (R x) h1;refine⟨u,?_,k2⟩;rw[<-k1];unfold uA Instr.loadAt;simp only[Sem.run_bind];unfold Instr.loadAt at k1;simp only[Sem.run_bind]at k1;generalize a.tmps.getD x undef=y at k1 ⊢
     cases y with
     |pointer p=>
      cases p with
      |some ad=>simp[Instr.sureAddr,asAddr]
      |none=>simp[Instr.sureAddr]at k1
     |_=>simp[Instr.sureAddr]at k1
   obtain⟨u,o1,o2⟩:=one;refine⟨u::us,?_,by simp[u2],λj hj=>?_⟩;simp only[List.mapM_cons,Sem.run_bind,o1,u1,Result.andThen_ok,Sem.run_pure]
   ·cases j with
    |zero=>simpa using o2
    |succ j=>simpa using u3 j (by simpa using hj)
  cases e
theorem vn{P:Program}{w:World}{F:Nat->Prop}{Z:List (Nat×Nat)}{h:ab}{a:Act}{Y:Nat->PV}(H:ba w F Z h)(R:gZ w (Av F h Z) Z h a Y)(fn:Func){vs:List PV}(e:dz P h Y fn.results.toList=some vs):
  ∃u,(results fn a.tmps).run P w=.ok u w/\aE w (Av F h Z) Z h u (aT vs):=by
 obtain⟨us,u1,u2,u3⟩:=tv (P:=P) H R _ _ e
 have gm:(fn.results.mapM (λr=>uA r a.tmps)).run P w=.ok us.toArray w:=by
  rw[<-Array.toArray_toList (xs:=fn.results),List.mapM_toArray];simp only[Sem.run_map,u1,Result.andThen_ok]
 refine⟨if h:us.toArray.size=1 then us.toArray[0]else .tuple us.toArray,?_,?_⟩
 ·have:results fn a.tmps=(do let vs<-fn.results.mapM (λr=>uA r a.tmps);pure (if h:vs.size=1 then vs[0]else .tuple vs)):=by
   unfold results uA
   rfl
  rw[this];simp only[Sem.run_bind,gm,Result.andThen_ok,Sem.run_pure]
 ·match us,vs,u2 with
  |[],[],_=>exact .cy [] [] rfl (λj hj=>by simp at hj)
  |[u],[v],_=>simpa[aT]using u3 0 (by simp)
  |u1::u2::us,v1::v2::vs,hl=>
   have:¬((u1::u2::us).toArray.size=1):=by simp
   rw[dif_neg this];exact .cy _ _ hl u3
structure iB(C:cG):Prop where
 sa:∀(f:FuncId) (fn:Func) (c:Code),(C.mode f=.pure\/C.mode f=.opened)->C.P.funcs[f]?=some fn->fn.body=some c->codeOk fn.ntmps c=true
 mixed:C.P.follows .mixedOrders=true
theorem rA{C:cG}(K:eY C)(KC:iB C){run:gW}(S:gz C run){n:Nat}{f:FuncId}(hk:∀(fn:Func) (c:Code),C.P.funcs[f]?=some fn->fn.body=some c->codeOk fn.ntmps c=true):eE C.P f (oF C run n f):=by
 intro args h r h' e w F Z vs H ha
 unfold oF at e
 split at e
 ·rename_i fn Pq
  split at e
  ·rename_i c hc
   have main:∀(ex:Ex) (s:St),bS C run n c ⟨mQ args,h⟩=some (ex,s)->(ex=.normal\/ex=.ret)->(∃vs,dz C.P s.h s.Y fn.results.toList=some vs/\r=aT vs/\h'=s.h)->kM C.P 2 w F Z h f vs r h':=by
    rintro ex s qn hex ⟨rs,hrs,rfl,rfl⟩;refine calls_of_wp Pq hc ?_;have hlen:=ha.1
    have R:SR fn.ntmps w F Z ⟨mQ args,h⟩ {tmps:=vs.toArray++Array.replicate (fn.ntmps - vs.toArray.size) undef,defers:=[]}:=by
     refine⟨H,λt=>?_,rfl,by simp;omega⟩;show aE w (Av F h Z) Z h ((vs.toArray++Array.replicate (fn.ntmps - vs.toArray.size) undef).getD t Go.undef) (args.getD t .undef)
     by_cases ht:t<args.length
     ·have e1:(vs.toArray++Array.replicate (fn.ntmps - vs.toArray.size) undef).getD t Go.undef=vs.getD t Go.undef:=by
       rw[acs,ac1,if_pos (by simp;omega)];simp[List.getD]
      have e2:args.getD t .undef=args.getD t .any:=by simp[List.getD,ht]
      rw[e1,e2];exact ha.2 t ht
     ·have e1:(vs.toArray++Array.replicate (fn.ntmps - vs.toArray.size) undef).getD t Go.undef=Go.undef:=by
       rw[acs,ac1];rw[if_neg (by simp;omega)];rw[adg]
       split <;>rfl
      have e2:args.getD t .undef=.undef:=by simp[List.getD,abl (show args.length<=t by omega)]
      rw[e1,e2];exact .undef
    refine Ey K KC.mixed S c (hk fn c Pq hc) qn R (λa' w' Z' R' S'=>?_);obtain⟨u,r1,r2⟩:=vn (P:=C.P) R'.hr R'.er fn hrs;rcases hex with rfl |rfl;exact⟨R'.df,u,r1,u,Z',rfl,r2,R'.hr,S',λhh=>by omega⟩;exact⟨R'.df,u,r1,u,Z',rfl,r2,R'.hr,S',λhh=>by omega⟩
   cases qn:bS C run n c ⟨mQ args,h⟩with
   |none=>rw[qn]at e;cases e
   |some x=>
    obtain⟨ex,s⟩:=x;rw[qn]at e
    have fin:(match dz C.P s.h s.Y fn.results.toList with |some vs=>some (aT vs,s.h)|none=>none)=some (r,h')->∃vs,dz C.P s.h s.Y fn.results.toList=some vs/\r=aT vs/\h'=s.h:=by
     intro e
     split at e
     ·rename_i rs hrs
      obtain⟨rfl,rfl⟩:=abe (aa2 e);exact⟨rs,hrs,rfl,rfl⟩
     cases e
    cases ex with
    |normal=>exact main .normal s qn (.inl rfl) (fin e)
    |ret=>exact main .ret s qn (.inr rfl) (fin e)
    |exit id=>cases e
  cases e
 cases e
theorem KL{C:cG}(K:eY C)(KC:iB C){run:gW}(S:gz C run){n:Nat}{f:FuncId}(hf:C.mode f=.pure\/C.mode f=.opened):eE C.P f (oF C run n f):=
 rA K KC S λfn c h1 h2=>KC.sa f fn c hf h1 h2
theorem pu{C:cG}(K:eY C)(KC:iB C):∀n,gz C (fa C n)
 |0=>λf _ args h r h' e=>by cases e
 |n+1=>λf hf=>KL K KC (pu K KC n) hf
theorem AO{C:cG}(K:eY C)(KC:iB C){n:Nat}{f:FuncId}(hf:C.mode f=.pure\/C.mode f=.opened){args:List PV}{r:PV}(e:pg C n f args=some r)
  {w:World} {A:Nat->Prop} (hA:∀b,A b->b<w.heap.size) {vs:List Value} (ha:L2 (bZ w A) vs args) (hG:fS w A:=by intro g p e;cases e):
  Calls C.P f vs.toArray w λen w'=>∃v,en=.returned v/\bZ w' A v r/\dD w w':=by
 unfold pg at e
 split at e
 ·rename_i r0 hc h1
  cases h2:Bm hc r0 with
  |none=>rw[h2]at e;cases e
  |some r1=>
   rw[h2]at e;obtain rfl:=aa2 e;have T8:∀b,Av A [] [] b↔A b:=λb=>⟨λh=>h.elim id (λh=>absurd h (mS b)),.inl⟩
   have kF:L2 (aE w (Av A [] []) [] []) vs args:=⟨ha.1,λj hj=>.val ((ha.2 j hj).kL (λb hb=>(T8 b).1 hb))⟩;refine(pu K KC n f hf args [] r0 hc h1 w A [] vs (ba.empty w A hA hG) kF).mono ?_;rintro en w' ⟨v,Z',rfl,q1,q2,q3,_⟩;refine⟨v,rfl,?_,mi q3⟩;refine(Br q2 (λb _ hb ha=>hb (.inl ha)) q1 h2 (λid o bc m1 m2 m3=>?_)).bW;rcases m3 with m3 |m3;exact q2.out id o bc m1 m2 (.inl m3);exact q2.out id o bc m1 m2 (.inr m3)
 cases e
end Go.Pm
