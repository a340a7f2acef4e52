/-
  A part of the library Pm (joined by program). Conditions: none.
-/
import Derived.Test.YtimogkojklpdnaaGreatDoorPyAA
import Derived.Test.YtimogkojklpdnaaGreatDoorPyAE
import Derived.LoopN
import Derived.Scope
set_option linter.unusedVariables false
set_option linter.unusedSimpArgs false
set_option linter.unnecessarySimpa false
namespace Go.Pm
variable{w:World}{F:Nat->Prop}{β:List (Nat×Nat)}{h:ab}
theorem pC{h:ab}{id:Nat}:aL h id=true↔∃o,h[id]?=some o/\o.mu≠.x:=by
 unfold aL
 cases h[id]? with
 |none=>simp
 |some o=>simp
theorem mY(f:Nat->Bool)(cs:List PV):bz f cs=cs.all (bt f):=by
 induction cs with
 |nil=>rfl
 |cons c r ih=>simp[bz,ih]
theorem aD.restrict{A A':Nat->Prop}{M:ab}{β':List (Nat×Nat)}(hM:∀(id:Nat) (o:au),M[id]?=some o->o.mu≠.x->h[id]?=some o/\β'[id]?=β[id]?)(hA:∀b,A' b->A b)
  {v:Value} {p:PV} (r:aD w A β h v p) (hv:bt (aL M) p=true):aD w A' β' M v p:=by
 induction r with
 |val hs=>exact .val (hs.uK hA)
 |undef=>exact .undef
 |any v=>exact .any v
 |ak v id ep off len o bc h0 h1 h2 h3 h4 h5=>
  obtain⟨o',e1,e2⟩:=pC.1 (by simpa[bt]using hv);obtain⟨f1,f2⟩:=hM id o' e1 e2;rw[h1]at f1;obtain rfl:=ZZ f1;exact .ak v id ep off len o bc h0 e1 (by rw[f2];exact h2) h3 h4 h5
 |ptr v id ep i off o bc h0 h1 h2 h3 h4 h5=>
  obtain⟨o',e1,e2⟩:=pC.1 (by simpa[bt]using hv);obtain⟨f1,f2⟩:=hM id o' e1 e2;rw[h1]at f1;obtain rfl:=ZZ f1;exact .ptr v id ep i off o bc h0 e1 (by rw[f2];exact h2) h3 h4 h5
 |cB v id o bc h0 h1 h2 h3 h5=>
  obtain⟨o',e1,e2⟩:=pC.1 (by simpa[bt]using hv);obtain⟨f1,f2⟩:=hM id o' e1 e2;rw[h1]at f1;obtain rfl:=ZZ f1;exact .cB v id o bc h0 e1 (by rw[f2];exact h2) h3 h5
 |agg vs cs hl _ ih=>exact .agg vs cs hl (λj hj=>ih j hj (by simp only[bt,mY]at hv;exact fp hv hj))
 |cx vs cs hl _ ih=>exact .cx vs cs hl (λj hj=>ih j hj (by simp only[bt,mY]at hv;exact fp hv hj))
 |fn f vs cs hl _ ih=>exact .fn f vs cs hl (λj hj=>ih j hj (by simp only[bt,mY]at hv;exact fp hv hj))
 |ni f k vs cs hl _ ih=>exact .ni f k vs cs hl (λj hj=>ih j hj (by simp only[bt,mY]at hv;exact fp hv hj))
theorem Fq{f:Nat->Bool}{e q:PV}(hv:bt f e=true)(hq:q∈Pm.cells e):bt f q=true:=by
 cases e <;>first
  |(simp only[Pm.cells,aav]at hq;subst hq;exact hv)
  |(simp only[bt,mY]at hv;exact Z1.1 hv q hq)
theorem ke.to{w':World}{h':ab}{β':List (Nat×Nat)}{A A':Nat->Prop}{o:au}{bc:Nat×Nat}(hb:w'.heap[bc.1]?=w.heap[bc.1]?)
  (r:ke w A β h o bc) (hv:∀(v:Value) (e p:PV),e∈o.es->p∈Pm.cells e->aD w A β h v p->aD w' A' β' h' v p):ke w' A' β' h' o bc:=by
 rcases r with⟨T,cs,h1,h2,h3,h4,h5⟩|⟨h0,es,clock,h1,h2,h3⟩
 ·refine .inl ⟨T,cs,hb.trans h1,h2,h3,h4,λi e he=>⟨(h5 i e he).1,λj p hp=>?_⟩⟩;obtain⟨v,k1,k2⟩:=(h5 i e he).2 j p hp;exact⟨v,k1,hv v e p (aae he) (aae hp) k2⟩
 ·refine .inr ⟨h0,es,clock,hb.trans h1,h2,λi e he=>?_⟩;obtain⟨k,v,m,q1,q2,q3,q4⟩:=h3 i e he;subst q1;exact⟨k,v,m,rfl,q2,hv _ _ _ (aae he) (by simp[Pm.cells]) q3,hv _ _ _ (aae he) (by simp[Pm.cells]) q4⟩
theorem aZ.pad(H:aZ w F β h)(ext:ab)(γ:List (Nat×Nat))(hl:γ.length=ext.length)(hx:∀o∈ext,o.mu=.x):
  aZ w F (β++γ) (h++ext)/\dS w h β w (h++ext) (β++γ):=by
 have hlen:=H.len
 have back:∀(id:Nat) (o:au) (bc:Nat×Nat),(h++ext)[id]?=some o->(β++γ)[id]?=some bc->o.mu≠.x->h[id]?=some o/\β[id]?=some bc:=by
  intro id o bc e1 e2 e3
  by_cases bU:id<h.length
  ·rw[Z0 bU]at e1;rw[Z0 (by omega)]at e2;exact⟨e1,e2⟩
  ·rw[aac (by omega)]at e1;exact absurd (hx o (aae e1)) e3
 have forth:∀(id:Nat),id<h.length->(h++ext)[id]?=h[id]?/\(β++γ)[id]?=β[id]?:=λid bU=>
  ⟨Z0 bU,Z0 (by omega)⟩
 have hm:∀b,Mb (h++ext) (β++γ) b->Mb h β b:=by
  rintro b ⟨id,o,bc,e1,e2,e3,e4⟩;obtain⟨f1,f2⟩:=back id o bc e1 e2 (by rw[e3];simp);exact⟨id,o,bc,f1,f2,e3,e4⟩
 have hs:dS w h β w (h++ext) (β++γ):=by
  refine⟨Z5 _,by simp,λ_ _ _=>rfl,λb _ m=>hm b m,?_,?_,rfl,rfl,rfl,Z5 _⟩
  ·intro id o bc e1 e2 e3
   obtain⟨f1,f2⟩:=forth id (ag e1);exact⟨o,bc,by rw[f1];exact e1,by rw[f2];exact e2,e3,⟨Z5 _,λh=>h⟩,λ_=>⟨rfl,λ_=>rfl,rfl⟩⟩
  ·intro id o e1 _
   obtain⟨f1,f2⟩:=forth id (ag e1);exact⟨by rw[f1];exact e1,f2⟩
 refine⟨⟨by simp[hlen,hl],H.fin,?_,?_,?_⟩,hs⟩
 ·intro id o bc e1 e2 e3
  obtain⟨f1,f2⟩:=back id o bc e1 e2 e3;exact ke.mono hs rfl (H.obj id o bc f1 f2 e3)
 ·intro id dY o o' bc de bJ e1 e2 e3 e4 m1 m2
  obtain⟨f1,f2⟩:=back id o bc e1 e3 (by rw[m1];simp);obtain⟨g1,g2⟩:=back dY o' de e2 e4 m2;exact H.ig id dY o o' bc de bJ f1 g1 f2 g2 m1 m2
 ·intro id o bc e1 e2 e3
  obtain⟨f1,f2⟩:=back id o bc e1 e2 (by rcases e3 with e3 |e3 <;>rw[e3] <;>simp);exact H.out id o bc f1 f2 e3
def Fp(F:Nat->Prop)(β:List (Nat×Nat))(h M:ab)(b:Nat):Prop:=F b\/∃(id:Nat) (o:au) (bc:Nat×Nat),h[id]?=some o/\β[id]?=some bc/\o.mu=.m/\bc.1=b/\M[id]?≠some o
theorem Fp.av{M:ab}{b:Nat}(hf:Fp F β h M b):Av F h β b:=by
 rcases hf with hf |⟨id,o,bc,e1,e2,e3,e4,_⟩
 ·exact .inl hf
 ·exact .inr ⟨id,o,bc,e1,e2,e3,e4⟩
theorem aZ.part(H:aZ w F β h){M:ab}(hl:M.length<=h.length)(hM:∀(id:Nat) (o:au),M[id]?=some o->o.mu≠.x->h[id]?=some o)(hc:aT M=true):
  aZ w (Fp F β h M) (β.take M.length) M/\(∀(v:Value) (p:PV),aD w (Av F h β) β h v p->bt (aL M) p=true->aD w (Av (Fp F β h M) M (β.take M.length)) (β.take M.length) M v p):=by
 have hlen:=H.len;have hb:∀id,id<M.length->(β.take M.length)[id]?=β[id]?:=λid bU=>by rw[aai,if_pos bU]
 have US:∀(id:Nat) (o:au),M[id]?=some o->o.mu≠.x->h[id]?=some o/\(β.take M.length)[id]?=β[id]?:=λid o e1 e2=>⟨hM id o e1 e2,hb id (ag e1)⟩
 have hA:∀b,Av (Fp F β h M) M (β.take M.length) b->Av F h β b:=by
  rintro b (hf |⟨id,o,bc,e1,e2,e3,e4⟩)
  ·exact hf.av
  ·obtain⟨f1,f2⟩:=US id o e1 (by rw[e3];simp);exact .inr ⟨id,o,bc,f1,by rw[<-f2];exact e2,e3,e4⟩
 have hv:∀(v:Value) (p:PV),aD w (Av F h β) β h v p->bt (aL M) p=true->aD w (Av (Fp F β h M) M (β.take M.length)) (β.take M.length) M v p:=λv p r hv=>r.restrict US hA hv
 refine⟨⟨by simp;omega,λb hb=>Av.lt H (Fp.av hb),?_,?_,?_⟩,hv⟩
 ·intro id o bc e1 e2 e3
  obtain⟨f1,f2⟩:=US id o e1 e3;rw[f2]at e2;refine(H.obj id o bc f1 e2 e3).to rfl (λv e p he hp r=>hv v p r ?_);have:=Z1.1 hc o (aae e1);simp only[aaq,decide_eq_true_eq,mY]at this;exact Fq (Z1.1 (this.resolve_left e3) e he) hp
 ·intro id dY o o' bc de bJ e1 e2 e3 e4 m1 m2
  obtain⟨f1,f2⟩:=US id o e1 (by rw[m1];simp);obtain⟨g1,g2⟩:=US dY o' e2 m2;exact H.ig id dY o o' bc de bJ f1 g1 (by rw[<-f2];exact e3) (by rw[<-g2];exact e4) m1 m2
 ·intro id o bc e1 e2 e3
  have UM:o.mu≠.x:=by rcases e3 with e3 |e3 <;>rw[e3] <;>simp
  obtain⟨f1,f2⟩:=US id o e1 UM;rw[f2]at e2;rintro(hf |⟨id2,o2,EQ,g1,g2,g3,g4,g5⟩)
  ·exact H.out id o bc f1 e2 e3 hf
  ·have bJ:id2≠id:=by
    rintro rfl;rw[f1]at g1;obtain rfl:=ZZ g1;exact g5 e1
   exact H.ig id2 id o2 o EQ bc bJ g1 f1 g2 e2 g3 UM g4
theorem aZ.merge(H:aZ w F β h){M ext h':ab}{β1:List (Nat×Nat)}{w':World}(hl:M.length+ext.length<=h.length)(hM:∀(id:Nat) (o:au),M[id]?=some o->o.mu≠.x->h[id]?=some o)
  (H1:aZ w' (Fp F β h M) β1 (M++ext)) (S1:dS w M (β.take M.length) w' (M++ext) β1) (G:dF w w') (yA:∀o∈ext,o.mu≠.l)
  (WQ:h'.length=h.length) (jr:∀id:Nat,M.length<=id->id<M.length+ext.length->h'[id]?=ext[id - M.length]?) (tc:∀id:Nat,(id<M.length\/M.length+ext.length<=id)->h'[id]?=h[id]?)
  (Zk:∀(id:Nat) (o:au),M.length<=id->id<M.length+ext.length->h[id]?=some o->o.mu=.x):
  ∃β',aZ w' F β' h'/\Gu h β h' β'/\(∀b,b<w.heap.size->¬Av F h β b->¬Av F h' β' b)/\(∀b,b<w.heap.size->Mb h' β' b->Mb h β b)/\(∀id:Nat,id<M.length->β'[id]?=β[id]?)/\
   (∀(v:Value) (p:PV),aD w' (Av (Fp F β h M) (M++ext) β1) β1 (M++ext) v p->aD w' (Av F h' β') β' h' v p):=by
 have hlen:=H.len;have yg:=H1.len;simp only[Z2]at yg;have hml:(β1.drop M.length).length=ext.length:=by simp;omega
 have hβ:∀k,(β.take M.length++β1.drop M.length++β.drop (M.length+(β1.drop M.length).length))[k]?=if k<M.length then β[k]? else if k<M.length+ext.length then β1[k]? else β[k]?:=by
  intro k
  rw[gk _ _ _ _ (by omega),hml]
  split
  ·rfl
  ·split
   ·rw[aaB];congr 1;omega
   ·rfl
 refine⟨β.take M.length++β1.drop M.length++β.drop (M.length+(β1.drop M.length).length),?_⟩;generalize hβ':β.take M.length++β1.drop M.length++β.drop (M.length+(β1.drop M.length).length)=β' at hβ ⊢
 have Ny:β'.length=h'.length:=by
  rw[<-hβ',WQ];simp;omega
 have bin:∀id,M.length<=id->id<M.length+ext.length->β'[id]?=β1[id]?:=λid h1 h2=>by rw[hβ,if_neg (by omega),if_pos h2]
 have bout:∀id,(id<M.length\/M.length+ext.length<=id)->β'[id]?=β[id]?:=λid h1=>by
  rw[hβ]
  by_cases h2:id<M.length
  ·rw[if_pos h2]
  ·rw[if_neg h2,if_neg (by omega)]
 have pin:∀id,M.length<=id->id<M.length+ext.length->(M++ext)[id]?=ext[id - M.length]?:=λid h1 _=>aac h1
 have pold:∀id,id<M.length->(M++ext)[id]?=M[id]?:=λid h1=>Z0 h1
 have both:∀(id:Nat) (o:au) (bc:Nat×Nat),M[id]?=some o->o.mu≠.x->β[id]?=some bc->β1[id]?=some bc:=by
  intro id o bc e1 e2 e3
  have bU:=ag e1;obtain⟨o',de,f1,f2,f3,f4,f5⟩:=S1.refs id o bc e1 (by rw[aai,if_pos bU];exact e3) e2;rw[pold id bU,e1]at f1;obtain rfl:=ZZ f1;rw[(f5 rfl).2.2]at f2;exact f2
 have ri:∀id:Nat,(M.length<=id/\id<M.length+ext.length)\/(id<M.length\/M.length+ext.length<=id):=λid=>by omega
 have newb:∀(id:Nat) (o:au) (bc:Nat×Nat),M.length<=id->id<M.length+ext.length->h'[id]?=some o->β'[id]?=some bc->o.mu=.m->w.heap.size<=bc.1:=by
  intro id o bc a1 a2 e1 e2 e3
  rw[jr id a1 a2,<-pin id a1 a2]at e1;rw[bin id a1 a2]at e2;rcases aaD bc.1 w.heap.size with cI |BZ
  ·obtain⟨id2,o2,EQ,f1,f2,f3,f4⟩:=S1.shr bc.1 cI ⟨id,o,bc,e1,e2,e3,rfl⟩;have uM:=ag f1;rw[aai,if_pos uM]at f2;exact absurd f4.symm (H1.ig id id2 o o2 bc EQ (by omega) e1 (by rw[pold id2 uM];exact f1) e2 (both id2 o2 EQ f1 (by rw[f3];simp) f2) e3 (by rw[f3];simp))
  ·exact BZ
 have WR:Gu h β h' β':=by
  intro id o bc e1 e2 e3
  rcases ri id with⟨a1,a2⟩|a
  ·exact absurd (Zk id o a1 a2 e1) e3
  ·exact⟨o,bc,by rw[tc id a];exact e1,by rw[bout id a];exact e2,e3,⟨Z5 _,λh=>h⟩,λ_=>⟨rfl,λ_=>rfl,rfl⟩⟩
 have shr:∀b,b<w.heap.size->Mb h' β' b->Mb h β b:=by
  rintro b hb ⟨id,o,bc,e1,e2,e3,rfl⟩;rcases ri id with⟨a1,a2⟩|a
  ·have:=newb id o bc a1 a2 e1 e2 e3;omega
  ·exact⟨id,o,bc,by rw[<-tc id a];exact e1,by rw[<-bout id a];exact e2,e3,rfl⟩
 have X8:∀b,b<w.heap.size->¬Av F h β b->¬Av F h' β' b:=by
  rintro b hb hn (hf |hm)
  ·exact hn (.inl hf)
  ·exact hn (.inr (shr b hb hm))
 have Zl:Gu (M++ext) β1 h' β':=by
  intro id o bc e1 e2 e3
  have bU:=ag e1;simp at bU
  by_cases uM:id<M.length
  ·rw[pold id uM]at e1;have e4:=hM id o e1 e3;obtain⟨bc0,e5⟩:=dn H.len e4;have:=both id o bc0 e1 e3 e5;rw[this]at e2;obtain rfl:=ZZ e2;exact⟨o,bc0,by rw[tc id (.inl uM)];exact e4,by rw[bout id (.inl uM)];exact e5,e3,⟨Z5 _,λh=>h⟩,λ_=>⟨rfl,λ_=>rfl,rfl⟩⟩
  ·exact⟨o,bc,by rw[jr id (by omega) bU,<-pin id (by omega) bU];exact e1,by rw[bin id (by omega) bU];exact e2,e3,⟨Z5 _,λh=>h⟩,λ_=>⟨rfl,λ_=>rfl,rfl⟩⟩
 have BR:∀b,Av F h' β' b->Av (Fp F β h M) (M++ext) β1 b:=by
  rintro b (hf |⟨id,o,bc,e1,e2,e3,e4⟩)
  ·exact .inl (.inl hf)
  ·rcases ri id with⟨a1,a2⟩|a
   ·rw[jr id a1 a2,<-pin id a1 a2]at e1;rw[bin id a1 a2]at e2;exact .inr ⟨id,o,bc,e1,e2,e3,e4⟩
   ·rw[tc id a]at e1;rw[bout id a]at e2
    by_cases hm:M[id]?=some o
    ·have bU:=ag hm;exact .inr ⟨id,o,bc,by rw[pold id bU];exact hm,both id o bc hm (by rw[e3];simp) e2,e3,e4⟩
    ·exact .inl (.inr ⟨id,o,bc,e1,e2,e3,e4,hm⟩)
 have v0:∀(v:Value) (p:PV),aD w (Av F h β) β h v p->aD w' (Av F h' β') β' h' v p:=λv p r=>r.RX WR (λb hb _=>G.aR b hb) X8
 have v1:∀(v:Value) (p:PV),aD w' (Av (Fp F β h M) (M++ext) β1) β1 (M++ext) v p->aD w' (Av F h' β') β' h' v p:=λv p r=>r.RX Zl (λ_ _ _=>rfl) (λb _ hn ha=>hn (BR b ha))
 refine⟨⟨Ny,λb hb=>aaK (H.fin b hb) G.size,?_,?_,?_⟩,WR,X8,shr,λid bU=>bout id (.inl bU),v1⟩
 ·intro id o bc e1 e2 e3
  rcases ri id with⟨a1,a2⟩|a
  ·rw[jr id a1 a2,<-pin id a1 a2]at e1;rw[bin id a1 a2]at e2;exact(H1.obj id o bc e1 e2 e3).to rfl (λv e p _ _ r=>v1 v p r)
  ·rw[tc id a]at e1;rw[bout id a]at e2;have r:=H.obj id o bc e1 e2 e3;exact r.to (G.aR _ r.lt) (λv e p _ _ r=>v0 v p r)
 ·intro id dY o o' bc de bJ e1 e2 e3 e4 m1 m2
  rcases ri id with⟨a1,a2⟩|a <;>rcases ri dY with⟨b1,b2⟩|b
  ·rw[jr id a1 a2,<-pin id a1 a2]at e1;rw[bin id a1 a2]at e3;rw[jr dY b1 b2,<-pin dY b1 b2]at e2;rw[bin dY b1 b2]at e4;exact H1.ig id dY o o' bc de bJ e1 e2 e3 e4 m1 m2
  ·have h1:=newb id o bc a1 a2 e1 e3 m1;rw[tc dY b]at e2;rw[bout dY b]at e4;have:=(H.obj dY o' de e2 e4 m2).lt;omega
  ·rw[tc id a]at e1;rw[bout id a]at e3;rw[jr dY b1 b2,<-pin dY b1 b2]at e2;rw[bin dY b1 b2]at e4
   by_cases hm:M[id]?=some o
   ·have bU:=ag hm;exact H1.ig id dY o o' bc de bJ (by rw[pold id bU];exact hm) e2 (both id o bc hm (by rw[m1];simp) e3) e4 m1 m2
   ·have nl:o'.mu≠.l:=by
     rw[pin dY b1 b2]at e2;exact yA o' (aae e2)
    have Hs:o'.mu=.m\/o'.mu=.f:=by
     cases hh:o'.mu with
     |m=>exact .inl rfl
     |l=>exact absurd hh nl
     |f=>exact .inr rfl
     |x=>exact absurd hh m2
    intro heq
    exact H1.out dY o' de e2 e4 Hs (.inr ⟨id,o,bc,e1,e3,m1,heq,hm⟩)
  ·rw[tc id a]at e1;rw[bout id a]at e3;rw[tc dY b]at e2;rw[bout dY b]at e4;exact H.ig id dY o o' bc de bJ e1 e2 e3 e4 m1 m2
 ·intro id o bc e1 e2 e3
  rcases ri id with⟨a1,a2⟩|a
  ·rw[jr id a1 a2,<-pin id a1 a2]at e1;rw[bin id a1 a2]at e2;exact λhf=>H1.out id o bc e1 e2 e3 (.inl hf)
  ·rw[tc id a]at e1;rw[bout id a]at e2;exact H.out id o bc e1 e2 e3
end Go.Pm
namespace Go.Pm
theorem nq{ρ ρ':Nat->PV}{xs:List Operand}(h:∀x∈xs,ev ρ x=ev ρ' x):xs.map (ev ρ)=xs.map (ev ρ'):=aba h
theorem oD{ρ ρ':Nat->PV}{xs:List (Nat×Operand)}(h:∀x∈xs.map (·.2),ev ρ x=ev ρ' x):(xs.map λ(i,x)=>(i,ev ρ x))=xs.map λ(i,x)=>(i,ev ρ' x):=
 aba λp hp=>by
  obtain⟨i,x⟩:=p;simp only[h x (aak.2 ⟨(i,x),hp,rfl⟩)]
theorem lS{C:cP}{run:hZ}{lv:Nat}{op:Op}{ρ ρ':Nat->PV}{hp:ab}(h:∀x∈op.operands.toList,ev ρ x=ev ρ' x):ar C run lv op ρ hp=ar C run lv op ρ' hp:=by
 cases op
 case call c=>
  have ha:c.args.toList.map (ev ρ)=c.args.toList.map (ev ρ'):=nq λx hx=>h x (by simp[Op.operands,Call.operands];exact .inr (by simpa using hx))
  simp only[ar,ha]
  cases hc:c.callee with
  |value f=>simp only[h f (by simp[Op.operands,Call.operands,hc])]
  |invoke r m=>rfl
  |builtin b=>rfl
 case build t ps=>simp only[ar,aC,oD (ρ:=ρ) (ρ':=ρ') (xs:=ps.toList) λx hx=>h x (by simpa[Op.operands]using hx)]
 case buildSlice t n ps=>simp only[ar,aC,oD (ρ:=ρ) (ρ':=ρ') (xs:=ps.toList) λx hx=>h x (by simpa[Op.operands]using hx)]
 case makeFunc fn first di=>
  have ha:di.toList.map (ev ρ)=di.toList.map (ev ρ'):=nq λx hx=>h x (by simp[Op.operands];exact .inr (by simpa using hx))
  have hb:(first.toList++di.toList).map (ev ρ)=(first.toList++di.toList).map (ev ρ'):=nq λx hx=>h x (by simp only[Op.operands,Array.toList_append];exact hx)
  simp only[ar,aC]
  cases fn <;>simp only[ha,hb]
 case makeMap t r=>
  simp only[Op.operands]at h;have h2:r.map (ev ρ)=r.map (ev ρ'):=by cases r with |none=>rfl |some y=>simp[h y (by simp)]
  simp only[ar,aC,h2]
 case slice t x lo hi mx=>
  simp only[Op.operands]at h;have h1:=h x (by simp);have h2:lo.map (ev ρ)=lo.map (ev ρ'):=by cases lo with |none=>rfl |some y=>simp[h y (by simp)]
  have h3:hi.map (ev ρ)=hi.map (ev ρ'):=by cases hi with |none=>rfl |some y=>simp[h y (by simp)]
  have h4:mx.map (ev ρ)=mx.map (ev ρ'):=by cases mx with |none=>rfl |some y=>simp[h y (by simp)]
  simp only[ar,aC,h1,h2,h3,h4]
 all_goals(simp only[Op.operands]at h;simp only[ar,aC];try simp_all)
theorem dw{α:Type}{x:Option α}{h:ab}{p:α}{h':ab}(e:x.map (·,h)=some (p,h')):x=some p/\h'=h:=by
 cases x with
 |none=>cases e
 |some y=>simp at e;exact⟨by rw[e.1],e.2.symm⟩
theorem oE{C:cP}{run:hZ}{lv lv2:Nat}{op:Op}{ρ:Nat->PV}{h1 NT h2:ab}{r:PV}(hn:cV op=false)(e:ar C run lv op ρ h1=some (r,NT)):ar C run lv2 op ρ h2=some (r,h2):=by
 cases op <;>simp[cV]at hn <;>simp only[ar,aC]at e ⊢
 case move x=>simp at e;simp[e.1]
 case assign x=>simp at e;simp[e.1]
 case pick c x y=>split at e <;>simp_all
 case build t ps=>obtain⟨e1,_⟩:=dw e;rw[e1];rfl
 case nilCheck x=>split at e <;>simp_all
 case binOp=>obtain⟨e1,_⟩:=dw e;rw[e1];rfl
 case unOp=>obtain⟨e1,_⟩:=dw e;rw[e1];rfl
 case convert=>obtain⟨e1,_⟩:=dw e;rw[e1];rfl
 case makeFunc fn first di=>
  cases fn <;>simp only at e ⊢ <;>try(cases e;done)
  split at e
  ·rename_i hf;simp at e;simp[hf,e.1]
  ·rename_i hf;obtain⟨rfl,rfl⟩:=aaa (ZZ e);rw[if_neg hf]
 case fieldAddr=>obtain⟨e1,_⟩:=dw e;rw[e1];rfl
 case field=>obtain⟨e1,_⟩:=dw e;rw[e1];rfl
 case index=>obtain⟨e1,_⟩:=dw e;rw[e1];rfl
 case extract x i=>
  split at e
  ·split at e <;>simp_all
  ·cases e
def Ext(h h':ab):Prop:=∃ext,h'=h++ext
theorem Ext.refl(h:ab):Ext h h:=⟨[],by simp⟩
theorem rD{g:List PV->ab->Option (PV×ab)}{lv:Nat}(hl:lv<=1){args:List PV}{h h':ab}{r:PV}(e:dV g lv args h=some (r,h')):Ext h h':=by
 unfold dV at e;rw[if_neg (by omega)]at e
 split at e
 ·split at e
  ·split at e
   ·obtain⟨rfl,rfl⟩:=aaa (ZZ e);exact⟨_,rfl⟩
   ·cases e
  ·cases e
 ·cases e
theorem yV{C:cP}{run:hZ}{lv:Nat}(hl:lv<=1){f:FuncId}{args:List PV}{h h':ab}{r:PV}(e:dg C run lv f args h=some (r,h')):Ext h h':=by
 unfold dg at e
 split at e
 ·cases e
 ·unfold dD at e
  split at e
  ·split at e
   ·split at e
    ·obtain⟨rfl,rfl⟩:=aaa (ZZ e);exact Ext.refl _
    ·cases e
   ·cases e
  ·split at e
   ·split at e
    ·split at e
     ·split at e
      ·obtain⟨rfl,rfl⟩:=aaa (ZZ e);exact Ext.refl _
      ·rw[if_neg (by omega)]at e;cases e
     ·cases e
    ·cases e
   ·split at e
    ·split at e
     ·split at e
      ·split at e
       ·obtain⟨rfl,rfl⟩:=aaa (ZZ e);exact Ext.refl _
       ·cases e
      ·cases e
     ·cases e
    ·cases e
 ·unfold gP at e
  split at e
  ·rename_i r0 h1 he
   obtain⟨ext,rfl⟩:=rD hl he
   split at e
   ·obtain⟨rfl,rfl⟩:=aaa (ZZ e);simp;exact Ext.refl _
   ·obtain⟨rfl,rfl⟩:=aaa (ZZ e);exact⟨_,rfl⟩
  ·cases e
 ·split at e
  ·obtain⟨_,rfl⟩:=dw e;exact Ext.refl _
  ·cases e
 ·exact rD hl e
 ·split at e
  ·obtain⟨_,rfl⟩:=dw e;exact Ext.refl _
  ·cases e
theorem BD{P:Program}{lv:Nat}(hl:lv<=1){b:Builtin}{ts:List TypeId}{args:List PV}{h h':ab}{r:PV}(e:bo P lv h b ts args=some (r,h')):Ext h h':=by
 unfold bo at e
 split at e
 ·obtain⟨_,rfl⟩:=dw e;exact Ext.refl _
 ·unfold bQ at e
  repeat' split at e
  all_goals first
   |(cases e;done)
   |(obtain⟨rfl,rfl⟩:=aaa (ZZ e);first |exact Ext.refl _ |exact⟨_,rfl⟩)
   |(exfalso;omega)
   |(rename_i hh;exfalso;obtain⟨a1,a2,a3⟩:=hh;omega)
 ·unfold yT at e
  repeat' split at e
  all_goals first
   |(cases e;done)
   |(rename_i hh;exfalso;omega)
 ·unfold mf at e
  repeat' split at e
  all_goals first
   |(cases e;done)
   |(obtain⟨rfl,rfl⟩:=aaa (ZZ e);exact Ext.refl _)
   |(rename_i hh;exfalso;omega)
 ·obtain⟨_,rfl⟩:=dw e;exact Ext.refl _
 ·obtain⟨_,rfl⟩:=dw e;exact Ext.refl _
 ·obtain⟨_,rfl⟩:=dw e;exact Ext.refl _
 ·cases e
theorem DZ{P:Program}{lv:Nat}(hl:lv<=1){op:Op}{ρ:Nat->PV}{h h':ab}{r:PV}(e:aC P lv op ρ h=some (r,h')):Ext h h':=by
 cases op <;>simp only[aC]at e
 case alloc t=>
  split at e
  ·split at e
   ·obtain⟨rfl,rfl⟩:=aaa (ZZ e);exact⟨_,rfl⟩
   ·cases e
  ·cases e
 case box t x=>
  split at e
  ·obtain⟨rfl,rfl⟩:=aaa (ZZ e);exact⟨_,rfl⟩
  ·cases e
 case buildSlice t n ps=>
  unfold dy at e
  repeat' split at e
  all_goals first
   |(cases e;done)
   |(obtain⟨rfl,rfl⟩:=aaa (ZZ e);first |exact Ext.refl _ |exact⟨_,rfl⟩)
 case store t x y=>rw[if_neg (by omega)]at e;cases e
 case mapUpdate t m k x=>rw[if_neg (by omega)]at e;cases e
 case insert t m k x=>rw[if_neg (by omega)]at e;cases e
 case makeMap t r=>
  unfold ms at e
  repeat' split at e
  all_goals first
   |(cases e;done)
   |(obtain⟨rfl,rfl⟩:=aaa (ZZ e);exact⟨_,rfl⟩)
 case makeSlice t l c=>
  unfold jy at e
  repeat' split at e
  all_goals first
   |(cases e;done)
   |(obtain⟨rfl,rfl⟩:=aaa (ZZ e);exact⟨_,rfl⟩)
 case makeFunc fn first di=>
  cases fn <;>simp only at e <;>try(cases e;done)
  split at e
  ·obtain⟨rfl,rfl⟩:=aaa (ZZ e);exact Ext.refl _
  ·obtain⟨rfl,rfl⟩:=aaa (ZZ e);exact Ext.refl _
 all_goals first
  |(cases e;done)
  |(obtain⟨rfl,rfl⟩:=aaa (ZZ e);exact Ext.refl _)
  |(obtain⟨_,rfl⟩:=dw e;exact Ext.refl _)
  |repeat' split at e
   all_goals first
    |(cases e;done)
    |(obtain⟨rfl,rfl⟩:=aaa (ZZ e);exact Ext.refl _)
theorem Ho{C:cP}{run:hZ}{lv:Nat}(hl:lv<=1){op:Op}{ρ:Nat->PV}{h h':ab}{r:PV}(e:ar C run lv op ρ h=some (r,h')):Ext h h':=by
 unfold ar at e
 split at e
 ·split at e
  ·unfold fS at e
   split at e
   ·exact yV hl e
   ·exact yV hl e
   ·cases e
  ·exact BD hl e
  ·cases e
 ·exact DZ hl e
def yx(ops:Array Oper)(i j:Nat):Prop:=((before ops).getD i 0).testBit j=true
theorem zq(f:Edge->Nat)(j:Nat):∀(l:List Edge) (s0:Nat),(l.foldl (λs e=>s |||2^e.on |||f e) s0).testBit j=true->s0.testBit j=true\/∃e∈l,j=e.on\/(f e).testBit j=true
 |[],s0,h=>.inl h
 |e::l,s0,h=>by
  rcases zq f j l _ h with h |⟨e',h1,h2⟩
  ·simp only[Nat.testBit_or,aaq,Nat.testBit_two_pow,decide_eq_true_eq]at h;rcases h with(h |h)|h
   ·exact .inl h
   ·exact .inr ⟨e,by simp,.inl h.symm⟩
   ·exact .inr ⟨e,by simp,.inr h⟩
  ·exact .inr ⟨e',by simp[h1],h2⟩
theorem zr(all:List Oper):∀(l pre:List Oper) (acc:List Nat),all=pre++l->acc.length=pre.length->
  (∀i j,(acc.getD i 0).testBit j=true->∃o,all[i]?=some o/\∃e∈Hm o,j=e.on\/(acc.getD e.on 0).testBit j=true)->
  ∀i j,((l.foldl (λacc o=>acc++[(Hm o).foldl (λs e=>s |||2^e.on |||acc.getD e.on 0) 0]) acc).getD i 0).testBit j=true->
   ∃o,all[i]?=some o/\∃e∈Hm o,j=e.on\/((l.foldl (λacc o=>acc++[(Hm o).foldl (λs e=>s |||2^e.on |||acc.getD e.on 0) 0]) acc).getD e.on 0).testBit j=true
 |[],pre,acc,h1,h2,h3=>h3
 |o::l,pre,acc,h1,h2,h3=>by
  have aR:∀k x (v:Nat),(acc.getD k 0).testBit x=true->((acc++[v]).getD k 0).testBit x=true:=λk x v h=>by
   rcases aaD k acc.length with hk |hk
   ·simpa[List.getD,Z0 hk]using h
   ·simp[List.getD,aag hk]at h
  refine zr all l (pre++[o]) _ (by simp[h1]) (by simp[h2]) ?_
  intro i j Kz
  by_cases hi:i<acc.length
  ·have RU:(acc.getD i 0).testBit j=true:=by simpa[List.getD,Z0 hi]using Kz
   obtain⟨o',e1,e,e2,e3⟩:=h3 i j RU;exact⟨o',e1,e,e2,e3.imp id (aR _ _ _)⟩
  ·by_cases Um:i=acc.length
   ·subst Um;have RU:(((Hm o).foldl (λs e=>s |||2^e.on |||acc.getD e.on 0) 0)).testBit j=true:=by simpa[List.getD]using Kz
    rcases zq (λe=>acc.getD e.on 0) j _ _ RU with h |⟨e,h4,h5⟩
    ·simp at h
    ·exact⟨o,by rw[h1,h2,aac (Z5 _)];simp,e,h4,h5.imp id (aR _ _ _)⟩
   ·rw[aam,aag (by simp;omega)]at Kz;simp at Kz
theorem wz{ops:Array Oper}{i j:Nat}(h:yx ops i j):∃o,ops[i]?=some o/\∃e∈Hm o,j=e.on\/yx ops e.on j:=by
 obtain⟨o,h1,e,h2,h3⟩:=zr ops.toList ops.toList [] [] rfl rfl (λi j h=>by simp at h) i j h;exact⟨o,by simpa using h1,e,h2,h3⟩
def HW(ops:Array Oper)(o o':Oper):Bool:=
 match o'.dst with
 |some d=>(o.looksAt ops).contains d ||o.dst==some d
 |none=>false
def mi(ops:Array Oper):Bool:=
 ops.toList.zipIdx.all λ(o,i)=>(Hm o).all (λe=>decide (e.on<i))&&
  ops.toList.zipIdx.all λ(o',j)=>decide (i<=j)|| !(HW ops o o'||HW ops o' o)||((before ops).getD i 0).testBit j
theorem eY{ops:Array Oper}(h:mi ops=true):
  (∀(i:Nat) (o:Oper),ops[i]?=some o->∀e∈Hm o,e.on<i)/\
  (∀(i j:Nat) (o o':Oper),ops[i]?=some o->ops[j]?=some o'->j<i->(HW ops o o'=true\/HW ops o' o=true)->yx ops i j):=by
 have mem:∀(i:Nat) (o:Oper),ops[i]?=some o->(o,i)∈ops.toList.zipIdx:=λi o e=>by
  rw[aby];exact⟨i,by simp[e]⟩
 unfold mi at h;rw[Z1]at h
 constructor
 ·intro i o e ed he
  have:=h _ (mem i o e);simp only[Z9]at this;have:=Z1.1 this.1 ed he;simpa using this
 ·intro i j o o' e e' yz hh
  have:=h _ (mem i o e);simp only[Z9]at this;have:=Z1.1 this.2 _ (mem j o' e');simp only[aaq,decide_eq_true_eq,abh,aci]at this;rcases this with(h1 |h1)|h1
  ·omega
  ·rw[h1.1,h1.2]at hh;simp at hh
  ·exact h1
theorem qW{ops:Array Oper}{i:Nat}(h:level ops (before ops) i=2){j:Nat}{o:Oper}(e:ops[j]?=some o)(hh:cV o.op=true):j=i\/yx ops i j\/yx ops j i:=by
 unfold level at h
 split at h
 ·rename_i eF
  have:=Z1.1 eF (o,j) (by rw[aby];exact⟨j,by simp[e]⟩);simp only[hh,abU,abA,qG,aaq,beq_iff_eq]at this;rcases this with(h1 |h1)|h1
  ·exact .inl h1.symm
  ·exact .inr (.inl h1)
  ·exact .inr (.inr h1)
 ·cases h
theorem qN{ops:Array Oper}(hd:mi ops=true):∀(i j:Nat),yx ops i j->j<i:=by
 intro i
 induction i using Nat.strongRecOn with
 |ind i ih=>
  intro j h
  obtain⟨o,h1,e,h2,h3⟩:=wz h;have:=(eY hd).1 i o h1 e h2;rcases h3 with rfl |h3
  ·exact this
  ·have:=ih e.on this j h3;omega
theorem ED{ops:Array Oper}(hd:mi ops=true){E:Nat->Bool}(hE:∀(i:Nat) (o:Oper),ops[i]?=some o->E i=true->∀e∈Hm o,E e.on=true):∀(i j:Nat),E i=true->yx ops i j->E j=true:=by
 intro i
 induction i using Nat.strongRecOn with
 |ind i ih=>
  intro j hi h
  obtain⟨o,h1,e,h2,h3⟩:=wz h;have hl:=(eY hd).1 i o h1 e h2;have he:=hE i o h1 hi e h2;rcases h3 with rfl |h3
  ·exact he
  ·exact ih e.on hl j he h3
theorem sY{e:Nat->Bool}{L0:Nat}{own:List Nat}{h:ab}(h1:L0<=h.length)(h2:own.length=h.length - L0):(cr e L0 own h).length=h.length:=by
 unfold cr;simp;omega
theorem sZ{e:Nat->Bool}{L0:Nat}{own rR:List Nat}{h ext:ab}(h1:L0<=h.length)(h2:own.length=h.length - L0):
  cr e L0 (own++rR) (h++ext)=cr e L0 own h++List.zipWith (λo j=>if e j then o else eJ o) ext rR:=by
 unfold cr;rw[aaA h1,aa1 h1,List.zipWith_append (by simp;omega),aat]
theorem s9{e e':Nat->Bool}:∀(h:ab) (own:List Nat),(∀j∈own,e j=e' j)->List.zipWith (λo j=>if e j then o else eJ o) h own=List.zipWith (λo j=>if e' j then o else eJ o) h own
 |[],own,_=>by simp
 |_::_,[],_=>by simp
 |o::h,j::own,hh=>by
  simp only[List.zipWith_cons_cons,hh j (by simp)];rw[s9 h own (λk hk=>hh k (by simp[hk]))]
theorem uc{e e':Nat->Bool}{L0:Nat}{own:List Nat}{h:ab}(hh:∀j∈own,e j=e' j):cr e L0 own h=cr e' L0 own h:=by
 unfold cr;rw[s9 _ _ hh]
theorem AH{e:Nat->Bool}:∀(h:ab) (own:List Nat),own.length=h.length->(∀j∈own,e j=true)->List.zipWith (λo j=>if e j then o else eJ o) h own=h
 |[],own,_,_=>by simp
 |o::h,[],hl,_=>by simp at hl
 |o::h,j::own,hl,hh=>by
  simp only[List.zipWith_cons_cons,hh j (by simp),if_true];rw[AH h own (by simpa using hl) (λk hk=>hh k (by simp[hk]))]
theorem pX{e:Nat->Bool}{L0:Nat}{own:List Nat}{h:ab}(h2:own.length=h.length - L0)(hh:∀j∈own,e j=true):cr e L0 own h=h:=by
 unfold cr;rw[AH _ _ (by simp[h2]) hh,abM]
theorem HX{e:Nat->Bool}{L0:Nat}{own:List Nat}{h:ab}(h1:L0<=h.length)(h2:own.length=h.length - L0)(id:Nat):
  (cr e L0 own h)[id]?=if id<L0 then h[id]? else(h[id]?).map λo=>if e (own.getD (id - L0) 0)then o else eJ o:=by
 unfold cr
 by_cases bU:id<L0
 ·rw[if_pos bU,Z0 (by simp;omega),aai,if_pos bU]
 ·rw[if_neg bU,aac (by simp;omega)];have hl:(List.take L0 h).length=L0:=by simp;omega
  rw[hl,abn,aaB,show L0+(id - L0)=id by omega]
  cases ho:h[id]? with
  |none=>simp
  |some o=>
   have:=ag ho;have hw:own[id - L0]?=some (own[id - L0]'(by omega)):=Z3 (by omega);simp[hw]
section
variable{C:cP}{run:hZ}{ops:Array Oper}
theorem oZ:∀(l:List Oper) (k:Nat) (x y:uZ),dE C run ops (before ops) k l x=some y->
  ∃tr:Nat->uZ,tr k=x/\(∀(i:Nat) (o:Oper),l[i]?=some o->ct C run ops (before ops) (k+i) o (tr (k+i))=some (tr (k+i+1)))/\tr (k+l.length)=y
 |[],k,x,y,e=>by
  simp[dE]at e;exact⟨λ_=>x,rfl,λi o h=>by simp at h,by simpa using e⟩
 |o::l,k,x,y,e=>by
  simp only[dE]at e
  split at e
  ·rename_i x' hx
   obtain⟨tr,t1,t2,t3⟩:=oZ l (k+1) x' y e;refine⟨λj=>if j<=k then x else tr j,by simp,?_,?_⟩
   ·intro i o' ho
    cases i with
    |zero=>
     simp at ho;subst ho;simp[t1,hx]
     intro hh;omega
    |succ i=>
     have:=t2 i o' (by simpa using ho);have e1:¬(k+(i+1)<=k):=by omega
     have e2:¬(k+(i+1)+1<=k):=by omega
     simp only[e1,e2,if_false];rw[show k+(i+1)=k+1+i by omega];exact this
   ·have e1:¬(k+(o::l).length<=k):=by simp
    simp only[e1,if_false];rw[<-t3];congr 1;simp;omega
  ·cases e
inductive zt(C:cP)(run:hZ)(ops:Array Oper)(i:Nat)(o:Oper)(x y:uZ):Prop
 |off:bm ops o x.s.ρ=some false->y=⟨⟨b9 x.s.ρ o.dst .undef,x.s.h⟩,x.L0,x.own⟩->zt C run ops i o x y
 |plain (r:PV) (h1:ab):bm ops o x.s.ρ=some true->cV o.op=false->ar C run 1 o.op x.s.ρ x.s.h=some (r,h1)->y=⟨⟨b9 x.s.ρ o.dst r,x.s.h⟩,x.L0,x.own⟩->zt C run ops i o x y
 |two (r:PV) (h':ab):bm ops o x.s.ρ=some true->cV o.op=true->level ops (before ops) i=2->ar C run 2 o.op x.s.ρ x.s.h=some (r,h')->y=⟨⟨b9 x.s.ρ o.dst r,h'⟩,h'.length,[]⟩->zt C run ops i o x y
 |one (r:PV) (ext:ab):bm ops o x.s.ρ=some true->cV o.op=true->level ops (before ops) i≠2->aT (cr ((before ops).getD i 0).testBit x.L0 x.own x.s.h)=true->
   (∀z∈o.op.operands.toList,bt (aL (cr ((before ops).getD i 0).testBit x.L0 x.own x.s.h)) (ev x.s.ρ z)=true)->
   ar C run 1 o.op x.s.ρ (cr ((before ops).getD i 0).testBit x.L0 x.own x.s.h)=some (r,cr ((before ops).getD i 0).testBit x.L0 x.own x.s.h++ext)->
   (∀o∈ext,o.mu≠.l)->y=⟨⟨b9 x.s.ρ o.dst r,x.s.h++ext⟩,x.L0,x.own++List.replicate ext.length i⟩->zt C run ops i o x y
theorem Qs{i:Nat}{o:Oper}{x y:uZ}(h1:x.L0<=x.s.h.length)(h2:x.own.length=x.s.h.length - x.L0)(e:ct C run ops (before ops) i o x=some y):zt C run ops i o x y:=by
 unfold ct at e
 split at e
 ·rename_i hw
  split at e
  ·rename_i hh
   split at e
   ·rename_i r hx hv;exact .plain r hx hw hh hv (ZZ e).symm
   ·cases e
  ·rename_i hh
   have Xr:cV o.op=true:=by simpa using hh
   split at e
   ·rename_i hl
    split at e
    ·rename_i r h' hv;exact .two r h' hw Xr hl hv (ZZ e).symm
    ·cases e
   ·rename_i hl
    simp only at e
    split at e
    ·rename_i hc
     split at e
     ·rename_i r h' hv
      obtain⟨ext,rfl⟩:=Ho (Z5 1) hv
      have hd:(cr ((before ops).getD i 0).testBit x.L0 x.own x.s.h++ext).drop x.s.h.length=ext:=by
       rw[<-sY (e:=((before ops).getD i 0).testBit) h1 h2,List.drop_left]
      rw[hd]at e
      split at e
      ·rename_i yA
       exact .one r ext hw Xr hl hc.1 (λz hz=>Z1.1 hc.2 z hz) hv (λo ho=>by simpa using Z1.1 yA o ho) (ZZ e).symm
      ·cases e
     ·cases e
    ·cases e
 ·rename_i hw;exact .off hw (ZZ e).symm
 ·cases e
end
structure Lex(C:cP)(run:hZ)(ops:Array Oper)(tr:Nat->uZ):Prop where
 ok:mi ops=true
 st:∀(i:Nat) (o:Oper),ops[i]?=some o->ct C run ops (before ops) i o (tr i)=some (tr (i+1))
 h0:(tr 0).L0<=(tr 0).s.h.length
 o0:(tr 0).own=[]/\(tr 0).L0=(tr 0).s.h.length
def DU(ops:Array Oper)(tr:Nat->uZ)(j:Nat):Prop:=∃o,ops[j]?=some o/\cV o.op=true/\bm ops o (tr j).s.ρ=some true
variable{C:cP}{run:hZ}{ops:Array Oper}{tr:Nat->uZ}
theorem qt{k:Nat}(h:k<ops.size):∃o,ops[k]?=some o:=⟨ops[k],abb h⟩
theorem Lex.wf(L:Lex C run ops tr):∀k,k<=ops.size->(tr k).L0<=(tr k).s.h.length/\(tr k).own.length=(tr k).s.h.length - (tr k).L0/\∀j∈(tr k).own,j<k/\DU ops tr j:=by
 intro k
 induction k with
 |zero=>
  intro _
  obtain⟨h1,h2⟩:=L.o0;rw[h1,h2];exact⟨Z5 _,by simp,λj hj=>by cases hj⟩
 |succ k ih=>
  intro hk
  obtain⟨h1,h2,h3⟩:=ih (by omega);obtain⟨o,ho⟩:=qt (ops:=ops) (k:=k) (by omega);have aR:∀j∈(tr k).own,j<k+1/\DU ops tr j:=λj hj=>⟨by have:=(h3 j hj).1;omega,(h3 j hj).2⟩
  cases Qs h1 h2 (L.st k o ho)with
  |off _ hy=>rw[hy];exact⟨h1,h2,aR⟩
  |plain r hx _ _ _ hy=>rw[hy];exact⟨h1,h2,aR⟩
  |two r h' _ _ _ _ hy=>rw[hy];exact⟨Z5 _,by simp,λj hj=>by cases hj⟩
  |one r ext hw hh _ _ _ _ _ hy=>
   rw[hy];refine⟨by simp;omega,by simp;omega,λj hj=>?_⟩;rcases Z8.1 hj with hj |hj
   ·exact aR j hj
   ·obtain⟨_,rfl⟩:=abF.1 hj;exact⟨by omega,o,ho,hh,hw⟩
theorem Lex.view(L:Lex C run ops tr){k:Nat}{o:Oper}(ho:ops[k]?=some o):zt C run ops k o (tr k) (tr (k+1)):=by
 have hk:k<ops.size:=(aap.1 ho).1;obtain⟨h1,h2,_⟩:=L.wf k (by omega);exact Qs h1 h2 (L.st k o ho)
theorem Lex.Ys(L:Lex C run ops tr){k:Nat}{o:Oper}(ho:ops[k]?=some o):∃r,(tr (k+1)).s.ρ=b9 (tr k).s.ρ o.dst r:=by
 cases L.view ho with
 |off _ hy=>exact⟨_,by rw[hy]⟩
 |plain r hx _ _ _ hy=>exact⟨_,by rw[hy]⟩
 |two r h' _ _ _ _ hy=>exact⟨_,by rw[hy]⟩
 |one r ext hw hh _ _ _ _ _ hy=>exact⟨_,by rw[hy]⟩
theorem Lex.mC(L:Lex C run ops tr){t:Nat}{i:Nat}:∀k,i<=k->k<=ops.size->(∀j o,i<=j->j<k->ops[j]?=some o->o.dst≠some t)->(tr k).s.ρ t=(tr i).s.ρ t:=by
 intro k
 induction k with
 |zero=>intro h1 _ _;obtain rfl:i=0:=(by omega);rfl
 |succ k ih=>
  intro h1 h2 h3
  by_cases hi:i=k+1
  ·subst hi;rfl
  ·obtain⟨o,ho⟩:=qt (ops:=ops) (k:=k) (by omega);obtain⟨r,hr⟩:=L.Ys ho;rw[hr,nA,if_neg (h3 k o (by omega) (by omega) ho)];exact ih (by omega) (by omega) (λj o' a b c=>h3 j o' a (by omega) c)
theorem Lex.phase(L:Lex C run ops tr){i:Nat}:∀k,i<=k->k<=ops.size->(∀j,i<=j->j<k->¬(DU ops tr j/\level ops (before ops) j=2))->
  ∃ext rR,(tr k).s.h=(tr i).s.h++ext/\(tr k).L0=(tr i).L0/\(tr k).own=(tr i).own++rR/\rR.length=ext.length/\∀j∈rR,i<=j:=by
 intro k
 induction k with
 |zero=>intro h1 _ _;obtain rfl:i=0:=(by omega);exact⟨[],[],by simp,rfl,by simp,rfl,λj hj=>by cases hj⟩
 |succ k ih=>
  intro h1 h2 h3
  by_cases hi:i=k+1
  ·subst hi;exact⟨[],[],by simp,rfl,by simp,rfl,λj hj=>by cases hj⟩
  ·obtain⟨ext,rR,e1,e2,e3,e4,e5⟩:=ih (by omega) (by omega) (λj a b=>h3 j a (by omega));obtain⟨o,ho⟩:=qt (ops:=ops) (k:=k) (by omega)
   cases L.view ho with
   |off _ hy=>rw[hy];exact⟨ext,rR,e1,e2,e3,e4,e5⟩
   |plain r hx _ _ _ hy=>rw[hy];exact⟨ext,rR,e1,e2,e3,e4,e5⟩
   |two r h' hw hh hl _ hy=>exact absurd ⟨⟨o,ho,hh,hw⟩,hl⟩ (h3 k (by omega) (by omega))
   |one r KA hw hh _ _ _ _ _ hy=>
    rw[hy];refine⟨ext++KA,rR++List.replicate KA.length k,by simp[e1],e2,by simp[e3],by simp[e4],λj hj=>?_⟩;rcases Z8.1 hj with hj |hj
    ·exact e5 j hj
    ·obtain⟨_,rfl⟩:=abF.1 hj;omega
def Kh(tr:Nat->uZ)(E:Nat->Bool)(k:Nat):ab:=cr E (tr k).L0 (tr k).own (tr k).s.h
structure yF(ops:Array Oper)(tr:Nat->uZ)(N:Nat)(F:Nat->Prop)(w0:World)(h0:ab)(β0:List (Nat×Nat))(E:Nat->Bool)(a:Act)(w:World)(k:Nat)(ρ:Nat->PV)(β:List (Nat×Nat)):Prop where
 kn:k<=ops.size
 lo:∀j,DU ops tr j->E j=true->j<k
 hi:∀j,DU ops tr j->level ops (before ops) j=2->j<k->E j=true
 base:h0.length<=(tr k).L0
 hr:aZ w F β (Kh tr E k)
 er:gR w (Av F (Kh tr E k) β) β (Kh tr E k) a ρ
 rh:∀t k',k'<=ops.size->(∀j o,ops[j]?=some o->o.dst=some t->(E j=true↔j<k'))->ρ t=(tr k').s.ρ t
 sp:dS w0 h0 β0 w (Kh tr E k) β
 df:a.defers=[]
 sz:N<=a.tmps.size
variable{N:Nat}{F:Nat->Prop}{w0:World}{h0:ab}{β0:List (Nat×Nat)}{E:Nat->Bool}{a:Act}{w:World}
theorem yF.YN(L:Lex C run ops tr){k:Nat}{ρ:Nat->PV}{β:List (Nat×Nat)}(D:yF ops tr N F w0 h0 β0 E a w k ρ β)(hk:k<ops.size)(hn:¬(DU ops tr k/\level ops (before ops) k=2)):
  ∃β',yF ops tr N F w0 h0 β0 E a w (k+1) ρ β':=by
 obtain⟨o,ho⟩:=qt (ops:=ops) hk
 have hE:DU ops tr k->E k=false:=λhr=>by
  cases he:E k with
  |false=>rfl
  |true=>have:=D.lo k hr he;omega
 have yn:∀j,DU ops tr j->E j=true->j<k+1:=λj h1 h2=>by have:=D.lo j h1 h2;omega
 have yo:∀j,DU ops tr j->level ops (before ops) j=2->j<k+1->E j=true:=λj h1 h2 h3=>by
  by_cases hj:j=k
  ·subst hj;exact absurd ⟨h1,h2⟩ hn
  ·exact D.hi j h1 h2 (by omega)
 have same:(tr (k+1)).s.h=(tr k).s.h->(tr (k+1)).L0=(tr k).L0->(tr (k+1)).own=(tr k).own->∃β',yF ops tr N F w0 h0 β0 E a w (k+1) ρ β':=λe1 e2 e3=>by
  have hK:Kh tr E (k+1)=Kh tr E k:=by unfold Kh;rw[e1,e2,e3]
  exact⟨β,⟨hk,yn,yo,by rw[e2];exact D.base,by rw[hK];exact D.hr,by rw[hK];exact D.er,D.rh,by rw[hK];exact D.sp,D.df,D.sz⟩⟩
 cases L.view ho with
 |off _ hy=>exact same (by rw[hy]) (by rw[hy]) (by rw[hy])
 |plain r hx _ _ _ hy=>exact same (by rw[hy]) (by rw[hy]) (by rw[hy])
 |two r h' hw hh hl _ hy=>exact absurd ⟨⟨o,ho,hh,hw⟩,hl⟩ hn
 |one r ext hw hh _ _ _ _ _ hy=>
  obtain⟨w1,w2,_⟩:=L.wf k (by omega);have hek:=hE ⟨o,ho,hh,hw⟩
  have hK:Kh tr E (k+1)=Kh tr E k++List.zipWith (λo j=>if E j then o else eJ o) ext (List.replicate ext.length k):=by
   unfold Kh;rw[hy];exact sZ w1 w2
  have hzx:∀o∈List.zipWith (λo j=>if E j then o else eJ o) ext (List.replicate ext.length k),o.mu=.x:=by
   intro o ho
   obtain⟨i,hi⟩:=aaZ ho;rw[abn]at hi
   cases h1:ext[i]? with
   |none=>rw[h1]at hi;simp at hi
   |some y=>
    have cI:=ag h1;rw[h1,show(List.replicate ext.length k)[i]?=some k by simp[cI]]at hi;simp[hek]at hi;subst hi
    rfl
  obtain⟨P1,P2⟩:=D.hr.pad (List.zipWith (λo j=>if E j then o else eJ o) ext (List.replicate ext.length k)) (List.replicate ext.length (0,0)) (by simp) hzx;rw[<-hK]at P1 P2;refine⟨_,⟨hk,yn,yo,by rw[hy];exact D.base,P1,D.er.mono P2,D.rh,D.sp.trans P2,D.df,D.sz⟩⟩
theorem yF.N6(L:Lex C run ops tr){ρ:Nat->PV}:∀(d:Nat) {k:Nat} {β:List (Nat×Nat)},yF ops tr N F w0 h0 β0 E a w k ρ β->k+d<=ops.size->(∀j,k<=j->j<k+d->¬(DU ops tr j/\level ops (before ops) j=2))->
  ∃β',yF ops tr N F w0 h0 β0 E a w (k+d) ρ β'
 |0,k,β,D,_,_=>⟨β,D⟩
 |d+1,k,β,D,h1,h2=>by
  obtain⟨β1,D1⟩:=D.YN L (by omega) (h2 k (Z5 _) (by omega));obtain⟨β2,D2⟩:=yF.N6 L d D1 (by omega) (λj a b=>h2 j (by omega) (by omega));exact⟨β2,by rw[show k+(d+1)=k+1+d by omega];exact D2⟩
end Go.Pm
namespace Go.Pm
variable{C:cP}{run:hZ}{ops:Array Oper}{tr:Nat->uZ}
variable{N:Nat}{F:Nat->Prop}{w0:World}{h0:ab}{β0:List (Nat×Nat)}{E E':Nat->Bool}{a:Act}{w:World}
def AI(ops:Array Oper)(tr:Nat->uZ)(N:Nat)(F:Nat->Prop)(w0:World)(h0:ab)(β0:List (Nat×Nat))(E:Nat->Bool)(a:Act)(w:World):Prop:=∃k ρ β,yF ops tr N F w0 h0 β0 E a w k ρ β
theorem mD{o o':Oper}{t:Nat}(h1:o'.dst=some t)(h2:t∈o.looksAt ops\/o.dst=some t):HW ops o o'=true:=by
 unfold HW;rw[h1];rcases h2 with h2 |h2
 ·simp[h2]
 ·simp[h2]
structure BO(ops:Array Oper)(E E':Nat->Bool)(i:Nat)(o:Oper):Prop where
 at_:ops[i]?=some o
 out:E i=false
 Rp:∀j,yx ops i j->E j=true
 cl:∀i j,E i=true->yx ops i j->E j=true
 nj:∀j,E' j=true↔E j=true\/j=i
theorem BO.later{i j:Nat}{o:Oper}(R:BO ops E E' i o)(h:yx ops j i):E j=false:=by
 cases he:E j with
 |false=>rfl
 |true=>have:=R.cl j i he h;rw[R.out]at this;cases this
theorem yF.look(L:Lex C run ops tr){k:Nat}{ρ:Nat->PV}{β:List (Nat×Nat)}(D:yF ops tr N F w0 h0 β0 E a w k ρ β){i:Nat}{o:Oper}(R:BO ops E E' i o){t:Nat}(ht:t∈o.looksAt ops):ρ t=(tr i).s.ρ t:=by
 have hi:i<ops.size:=(aap.1 R.at_).1;refine D.rh t i (by omega) (λj o' hj hd=>?_);rcases abr j i with h |h |h
 ·exact⟨λ_=>h,λ_=>R.Rp j ((eY L.ok).2 i j o o' R.at_ hj h (.inl (mD hd (.inl ht))))⟩
 ·subst h;rw[R.out];simp
 ·have:=R.later ((eY L.ok).2 j i o' o hj R.at_ h (.inr (mD hd (.inl ht))));rw[this]
  constructor
  ·intro hh;cases hh
  ·intro hh;omega
theorem yF.J3(L:Lex C run ops tr){k:Nat}{ρ:Nat->PV}{β:List (Nat×Nat)}(D:yF ops tr N F w0 h0 β0 E a w k ρ β){i:Nat}{o:Oper}(R:BO ops E E' i o):∀x∈o.op.operands.toList,ev ρ x=ev (tr i).s.ρ x:=by
 intro x hx
 cases x with
 |tmp t=>exact D.look L R (aaH _ (List.mem_filterMap.2 ⟨.tmp t,hx,rfl⟩))
 |_=>rfl
theorem yF.F9(L:Lex C run ops tr){k:Nat}{ρ:Nat->PV}{β:List (Nat×Nat)}(D:yF ops tr N F w0 h0 β0 E a w k ρ β){i:Nat}{o:Oper}(R:BO ops E E' i o):bm ops o ρ=bm ops o (tr i).s.ρ:=by
 unfold bm
 cases hg:o.guard with
 |none=>rfl
 |some jw=>
  obtain⟨j,want⟩:=jw;simp only
  cases hd:(ops.toList[j]?).bind (·.dst)with
  |none=>rfl
  |some d=>
   have JE:(ops[j]?).bind (·.dst)=some d:=by simpa using hd
   have:ρ d=(tr i).s.ρ d:=D.look L R (abK _ (by simp[hg,JE]));simp only[this]
theorem yF.rh'(L:Lex C run ops tr){k:Nat}{ρ:Nat->PV}{β:List (Nat×Nat)}(D:yF ops tr N F w0 h0 β0 E a w k ρ β){i:Nat}{o:Oper}(R:BO ops E E' i o){r:PV}(hr:(tr (i+1)).s.ρ=b9 (tr i).s.ρ o.dst r):
  ∀t k',k'<=ops.size->(∀j o,ops[j]?=some o->o.dst=some t->(E' j=true↔j<k'))->b9 ρ o.dst r t=(tr k').s.ρ t:=by
 intro t k' hk hw
 rw[nA]
 split
 ·rename_i ht
  have D5:i<k':=(hw i o R.at_ ht).1 ((R.nj i).2 (.inr rfl));rw[L.mC (t:=t) (i:=i+1) k' D5 hk (λj o' h1 h2 h3 h4=>?_),hr,nA,if_pos ht];have he:=(hw j o' h3 h4).2 h2;rcases(R.nj j).1 he with he |he
  ·rw[R.later ((eY L.ok).2 j i o' o h3 R.at_ (by omega) (.inl (mD ht (.inr h4))))]at he
   cases he
  ·omega
 ·rename_i ht
  refine D.rh t k' hk (λj o' h1 h2=>?_)
  have yz:j≠i:=by
   rintro rfl;rw[R.at_]at h1;obtain rfl:=ZZ h1;exact ht h2
  rw[<-hw j o' h1 h2,R.nj];simp[yz]
theorem yF.still(L:Lex C run ops tr){k:Nat}{ρ:Nat->PV}{β:List (Nat×Nat)}(D:yF ops tr N F w0 h0 β0 E a w k ρ β){i:Nat}{o:Oper}(R:BO ops E E' i o)(hd:jv N o=true)(hn:¬DU ops tr i)
  {r:PV} (hr:(tr (i+1)).s.ρ=b9 (tr i).s.ρ o.dst r) {v:Value} (hv:aD w (Av F (Kh tr E k) β) β (Kh tr E k) v r):AI ops tr N F w0 h0 β0 E' (a.put o.dst v) w:=by
 have hK:Kh tr E' k=Kh tr E k:=by
  unfold Kh;refine uc (λj hj=>?_)
  have yz:j≠i:=by
   rintro rfl;exact hn ((L.wf k D.kn).2.2 j hj).2
  have:=R.nj j;simp only[yz,or_false]at this
  cases h1:E j <;>cases h2:E' j <;>simp_all
 refine⟨k,b9 ρ o.dst r,β,D.kn,?_,?_,D.base,by rw[hK];exact D.hr,by rw[hK];exact D.er.put (gS hd D.sz) hv,D.rh' L R hr,by rw[hK];exact D.sp,by rw[dM];exact D.df,by rw[fY];exact D.sz⟩
 ·intro j h1 h2
  rcases(R.nj j).1 h2 with h2 |rfl
  ·exact D.lo j h1 h2
  ·exact absurd h1 hn
 ·intro j h1 h2 h3
  exact(R.nj j).2 (.inl (D.hi j h1 h2 h3))
theorem aD.KB{A:Nat->Prop}{β:List (Nat×Nat)}{M:ab}{v:Value}{p:PV}(f:Nat->Bool)(h:bt f p=true->aD w A β M v p):aD w A β M v (if bt f p then p else .any):=by
 split
 ·rename_i hv;exact h hv
 ·exact .any v
theorem AI.step(K:fT C)(S:gL C run)(L:Lex C run ops tr)(D:AI ops tr N F w0 h0 β0 E a w){i:Nat}{o:Oper}(R:BO ops E E' i o)(hd:jv N o=true)
  {Q:Exit->Act->World->Prop} {next:Act->World->Prop} (hK:∀a' w',AI ops tr N F w0 h0 β0 E' a' w'->next a' w'):wpOp C.P ops Q i next a w:=by
 obtain⟨k,ρ,β,D⟩:=D;have hi:i<ops.size:=(aap.1 R.at_).1;have ku:=D.F9 L R;have uL:=D.J3 L R;have jC:∀lv h,ar C run lv o.op ρ h=ar C run lv o.op (tr i).s.ρ h:=λlv h=>lS uL
 unfold wpOp;rw[R.at_];simp only;obtain⟨XH,VD,wf3⟩:=L.wf i (by omega)
 cases L.view R.at_ with
 |off hw hy=>
  rw[cQ D.er (by rw[ku];exact hw),if_neg (by simp)];refine hK _ _ (D.still L R hd ?_ (by rw[hy]) .undef);rintro⟨o',h1,h2,h3⟩;rw[R.at_]at h1;obtain rfl:=ZZ h1;rw[hw]at h3;cases h3
 |plain r hx hw hh hv hy=>
  rw[cQ D.er (by rw[ku];exact hw),if_pos rfl];refine .inl ?_
  have hn:¬DU ops tr i:=by
   rintro⟨o',h1,h2,h3⟩;rw[R.at_]at h1;obtain rfl:=ZZ h1;rw[hh]at h2;cases h2
  have e:ar C run 1 o.op ρ (Kh tr E k)=some (r,Kh tr E k):=by
   rw[jC];exact oE hh hv
  refine iW K S D.hr D.er e (λv w' β' q1 q2 q3 q4=>?_);have G:=q4 (Z5 1);have D':yF ops tr N F w0 h0 β0 E a w' k ρ β':=⟨D.kn,D.lo,D.hi,D.base,q2,D.er.mono q3,D.rh,D.sp.trans q3,D.df,D.sz⟩;exact hK _ _ (D'.still L R hd hn (by rw[hy]) q1)
 |two r h' hw hh hl hv hy=>
  rw[cQ D.er (by rw[ku];exact hw),if_pos rfl];refine .inl ?_;have D6:DU ops tr i:=⟨o,R.at_,hh,hw⟩
  have Qf:k<=i:=by
   rcases aaD i k with h |h
   ·have:=D.hi i D6 hl h;rw[R.out]at this;cases this
   ·exact h
  have anc_of:∀j,DU ops tr j->j<i->E j=true:=λj hj cI=>by
   obtain⟨oj,g1,g2,_⟩:=hj;rcases qW hl g1 g2 with h |h |h
   ·omega
   ·exact R.Rp j h
   ·have:=qN L.ok j i h;omega
  obtain⟨β1,D1⟩:=D.N6 L (i - k) (by omega) (λj h1 h2 h3=>by
   have:=D.lo j h3.1 (anc_of j h3.1 (by omega));omega)
  rw[show k+(i - k)=i by omega]at D1;have hKi:Kh tr E i=(tr i).s.h:=pX VD (λj hj=>anc_of j (wf3 j hj).2 (wf3 j hj).1);have hr1:=D1.hr;have er1:=D1.er;have sp1:=D1.sp;rw[hKi]at hr1 er1 sp1;refine iW K S hr1 er1 (by rw[jC];exact hv) (λv w' β' q1 q2 q3 q4=>hK _ _ ?_)
  have Rr:Kh tr E' (i+1)=h':=by
   unfold Kh;rw[hy];exact pX (by simp) (λj hj=>by cases hj)
  refine⟨i+1,b9 ρ o.dst r,β',by omega,?_,?_,?_,by rw[Rr];exact q2,by rw[Rr];exact(er1.mono q3).put (gS hd D.sz) q1,D.rh' L R (by rw[hy]),by rw[Rr];exact sp1.trans q3,by rw[dM];exact D.df,by rw[fY];exact D.sz⟩
  ·intro j h1 h2
   rcases(R.nj j).1 h2 with h2 |rfl
   ·have:=D1.lo j h1 h2;omega
   ·omega
  ·intro j h1 h2 h3
   by_cases hj:j=i
   ·exact(R.nj j).2 (.inr hj)
   ·exact(R.nj j).2 (.inl (anc_of j h1 (by omega)))
  ·rw[hy];have:=(sp1.trans q3).len;exact this
 |one r ext hw hh hl dp HF hv yA hy=>
  rw[cQ D.er (by rw[ku];exact hw),if_pos rfl];refine .inl ?_;have D6:DU ops tr i:=⟨o,R.at_,hh,hw⟩
  obtain⟨k,β,D,D5⟩:∃k β,yF ops tr N F w0 h0 β0 E a w k ρ β/\i<k:=by
   rcases aaD i k with h |h
   ·exact⟨k,β,D,h⟩
   ·obtain⟨β1,D1⟩:=D.N6 L (i+1 - k) (by omega) (λj h1 h2 h3=>by
     obtain⟨⟨oj,g1,g2,g3⟩,g4⟩:=h3
     by_cases hj:j=i
     ·subst hj;exact hl g4
     ·rcases qW g4 R.at_ hh with h5 |h5 |h5
      ·omega
      ·have:=qN L.ok j i h5;omega
      ·have:=D.lo j ⟨oj,g1,g2,g3⟩ (R.Rp j h5);omega)
    exact⟨i+1,β1,by rw[show i+1=k+(i+1 - k) by omega];exact D1,by omega⟩
  have Az:∀j,i+1<=j->j<k->¬(DU ops tr j/\level ops (before ops) j=2):=λj h1 h2 h3=>by
   have he:=D.hi j h3.1 h3.2 h2;rcases qW h3.2 R.at_ hh with h5 |h5 |h5
   ·omega
   ·rw[R.later h5]at he;cases he
   ·have:=qN L.ok i j h5;omega
  obtain⟨KA,rR,p1,p2,p3,p4,p5⟩:=L.phase k D5 D.kn Az;rw[hy]at p1 p2 p3;simp only at p1 p2 p3
  have wfx:(tr i).L0<=((tr i).s.h++ext).length/\((tr i).own++List.replicate ext.length i).length=((tr i).s.h++ext).length - (tr i).L0:=by
   refine⟨by simp;omega,by simp;omega⟩
  have hKE:∀e:Nat->Bool,Kh tr e k=cr e (tr i).L0 (tr i).own (tr i).s.h++List.zipWith (λo j=>if e j then o else eJ o) ext (List.replicate ext.length i)++List.zipWith (λo j=>if e j then o else eJ o) KA rR:=λe=>by
   unfold Kh;rw[p1,p2,p3,sZ wfx.1 wfx.2,sZ XH VD]
  have RV:∀j∈(tr i).own,E j=E' j:=λj hj=>by
   have yz:j≠i:=by have:=(wf3 j hj).1;omega
   have:=R.nj j;simp only[yz,or_false]at this
   cases h1:E j <;>cases h2:E' j <;>simp_all
  have RW:∀j∈rR,E j=E' j:=λj hj=>by
   have yz:j≠i:=by have:=p5 j hj;omega
   have:=R.nj j;simp only[yz,or_false]at this
   cases h1:E j <;>cases h2:E' j <;>simp_all
  have hA:=hKE E;have hB:=hKE E';rw[<-uc RV,<-s9 KA rR RW,AH (e:=E') ext (List.replicate ext.length i) (by simp) (λj hj=>by obtain⟨_,rfl⟩:=abF.1 hj;exact(R.nj j).2 (.inr rfl))]at hB;have On:(cr E (tr i).L0 (tr i).own (tr i).s.h).length=(tr i).s.h.length:=sY XH VD;have Uv:(cr ((before ops).getD i 0).testBit (tr i).L0 (tr i).own (tr i).s.h).length=(tr i).s.h.length:=sY XH VD;have Uw:(List.zipWith (λo j=>if E j then o else eJ o) ext (List.replicate ext.length i)).length=ext.length:=by simp
  have EE:∀id,id<(tr i).s.h.length->(Kh tr E k)[id]?=(cr E (tr i).L0 (tr i).own (tr i).s.h)[id]?:=λid bU=>by
   rw[hA,aat,Z0 (by omega)]
  have hM:∀(id:Nat) (o:au),(cr ((before ops).getD i 0).testBit (tr i).L0 (tr i).own (tr i).s.h)[id]?=some o->o.mu≠.x->(Kh tr E k)[id]?=some o:=by
   intro id o e1 e2
   have bU:id<(tr i).s.h.length:=by have:=ag e1;omega
   rw[EE id bU];rw[HX XH VD]at e1 ⊢
   split at e1
   ·rename_i F5;rw[if_pos F5];exact e1
   ·rename_i F5
    rw[if_neg F5]
    cases ho:(tr i).s.h[id]? with
    |none=>rw[ho]at e1;cases e1
    |some o1=>
     rw[ho]at e1;simp only[aab,aax]at e1 ⊢
     split at e1
     ·rename_i hb
      rw[if_pos (R.Rp _ hb)];exact e1
     ·subst e1;exact absurd rfl e2
  obtain⟨HM,VM⟩:=D.hr.part (M:=cr ((before ops).getD i 0).testBit (tr i).L0 (tr i).own (tr i).s.h) (by rw[Uv,hA];simp[On]) hM dp
  have erM:gR w (Av (Fp F β (Kh tr E k) (cr ((before ops).getD i 0).testBit (tr i).L0 (tr i).own (tr i).s.h)) (cr ((before ops).getD i 0).testBit (tr i).L0 (tr i).own (tr i).s.h) (β.take (cr ((before ops).getD i 0).testBit (tr i).L0 (tr i).own (tr i).s.h).length))
    (β.take (cr ((before ops).getD i 0).testBit (tr i).L0 (tr i).own (tr i).s.h).length) (cr ((before ops).getD i 0).testBit (tr i).L0 (tr i).own (tr i).s.h) a
    (λt=>if bt (aL (cr ((before ops).getD i 0).testBit (tr i).L0 (tr i).own (tr i).s.h)) (ρ t)then ρ t else .any):=λt=>aD.KB _ (λhv=>VM _ _ (D.er t) hv)
  have eM:ar C run 1 o.op (λt=>if bt (aL (cr ((before ops).getD i 0).testBit (tr i).L0 (tr i).own (tr i).s.h)) (ρ t)then ρ t else .any) (cr ((before ops).getD i 0).testBit (tr i).L0 (tr i).own (tr i).s.h)=
    some (r,cr ((before ops).getD i 0).testBit (tr i).L0 (tr i).own (tr i).s.h++ext):=by
   rw[<-hv];refine lS (λx hx=>?_);have h1:=HF x hx;have h2:=uL x hx
   cases x with
   |tmp t=>
    simp only[ev]at h1 h2 ⊢;rw[h2,if_pos h1]
   |_=>rfl
  refine iW K S HM erM eM (λv w' β1 q1 q2 q3 q4=>hK _ _ ?_);have G:=q4 (Z5 1)
  have cI:∀id,(tr i).s.h.length<=id->id<(tr i).s.h.length+ext.length->(Kh tr E k)[id]?=(List.zipWith (λo j=>if E j then o else eJ o) ext (List.replicate ext.length i))[id - (tr i).s.h.length]?/\(Kh tr E' k)[id]?=ext[id - (tr i).s.h.length]?:=λid h1 h2=>by
   constructor
   ·rw[hA,Z0 (by rw[Z2,On,Uw];omega),aac (by omega),On]
   ·rw[hB,Z0 (by rw[Z2,On];omega),aac (by omega),On]
  obtain⟨β',m1,m2,m3,m4,m5,m6⟩:=D.hr.merge (h':=Kh tr E' k) (by rw[Uv,hA];simp[On]) hM q2 q3 G yA (by rw[hA,hB];simp)
   (λid h1 h2=>by rw[Uv]at h1 h2 ⊢;exact(cI id h1 h2).2)
   (λid h1=>by
    rw[Uv]at h1;rcases h1 with h1 |h1
    ·rw[EE id h1,hB,aat,Z0 (by omega)]
    ·rw[hA,hB,aac (by rw[Z2,On];omega),aac (by rw[Z2,On,Uw];omega)];simp)
   (λid o h1 h2 h3=>by
    rw[Uv]at h1 h2;rw[(cI id h1 h2).1,abn]at h3
    cases h4:ext[id - (tr i).s.h.length]? with
    |none=>rw[h4]at h3;simp at h3
    |some y=>
     have:=ag h4;rw[h4,show(List.replicate ext.length i)[id - (tr i).s.h.length]?=some i by simp[this]]at h3;simp[R.out]at h3;subst h3
     rfl)
  have Oo:h0.length<=(tr i).s.h.length:=by
   have:=D.base;rw[p2]at this;omega
  refine⟨k,b9 ρ o.dst r,β',D.kn,?_,?_,D.base,m1,?_,D.rh' L R (by rw[hy]),?_,by rw[dM];exact D.df,by rw[fY];exact D.sz⟩
  ·intro j h1 h2
   rcases(R.nj j).1 h2 with h2 |rfl
   ·exact D.lo j h1 h2
   ·exact D5
  ·intro j h1 h2 h3
   exact(R.nj j).2 (.inl (D.hi j h1 h2 h3))
  ·exact gR.put (λt=>(D.er t).RX m2 (λb hb _=>G.aR b hb) m3) (gS hd D.sz) (m6 _ _ q1)
  ·refine⟨aaQ D.sp.size G.size,?_,?_,?_,D.sp.refs.trans m2,?_,G.os.trans D.sp.os,G.tape.trans D.sp.tape,G.output.trans D.sp.output,aaQ D.sp.drawn G.drawn⟩
   ·have h1:=D.sp.len;rw[hA]at h1;rw[hB];simp at h1 ⊢;omega
   ·intro b hb hm
    rw[G.aR b (aaK hb D.sp.size)];exact D.sp.aR b hb hm
   ·intro b hb hm
    exact D.sp.shr b hb (m4 b (aaK hb D.sp.size) hm)
   ·intro id o e1 e2
    obtain⟨f1,f2⟩:=D.sp.JD id o e1 e2;have bU:id<(tr i).s.h.length:=by have:=ag e1;omega
    refine⟨?_,by rw[m5 id (by rw[Uv];exact bU)];exact f2⟩;rw[<-f1,EE id bU,hB,aat,Z0 (by omega)]
theorem zu{p q:Nat->Bool}:∀(l:List Nat),(∀j∈l,q j=true->p j=true)->(∃i∈l,p i=true/\q i=false)->l.countP q<l.countP p
 |[],_,⟨i,h,_⟩=>by cases h
 |j::l,h1,⟨i,h2,h3,h4⟩=>by
  have le:l.countP q<=l.countP p:=List.countP_mono_left (λj hj=>h1 j (by simp[hj]));rcases Z'.1 h2 with rfl |h2
  ·rw[abC,abC,h3,h4];simp;omega
  ·have:=zu l (λj hj=>h1 j (by simp[hj])) ⟨i,h2,h3,h4⟩;rw[abC,abC];have hj:=h1 j (by simp)
   cases hq:q j with
   |false=>simp;omega
   |true=>rw[hj hq];simp;omega
theorem AI.done(L:Lex C run ops tr)(D:AI ops tr N F w0 h0 β0 E a w)(hE:∀j,j<ops.size->E j=true):∃β,SR N w F β (tr ops.size).s a/\dS w0 h0 β0 w (tr ops.size).s.h β:=by
 obtain⟨k,ρ,β,D⟩:=D
 obtain⟨β1,D1⟩:=D.N6 L (ops.size - k) (by have:=D.kn;omega) (λj h1 h2 h3=>by
  have:=D.lo j h3.1 (hE j (by have:=D.kn;omega));omega)
 rw[show k+(ops.size - k)=ops.size by have:=D.kn;omega]at D1;obtain⟨w1,w2,w3⟩:=L.wf ops.size (Z5 _);have hK:Kh tr E ops.size=(tr ops.size).s.h:=pX w2 (λj hj=>hE j (w3 j hj).1)
 have hρ:ρ=(tr ops.size).s.ρ:=by
  funext t
  refine D1.rh t ops.size (Z5 _) (λj o hj _=>?_);have:j<ops.size:=(aap.1 hj).1;simp[hE j this,this]
 have h1:=D1.hr;have h2:=D1.er;have h3:=D1.sp;rw[hK]at h1 h2 h3;rw[hρ]at h2;exact⟨β1,⟨h1,h2,D1.df,D1.sz⟩,h3⟩
theorem ze(ok:mi ops=true)(Inv:(Nat->Bool)->Act->World->Prop){Q:Exit->Act->World->Prop}
  (VE:∀(E E':Nat->Bool) (a:Act) (w:World) (i:Nat) (o:Oper),Inv E a w->BO ops E E' i o->∀next:Act->World->Prop,(∀a' w',Inv E' a' w'->next a' w')->wpOp C.P ops Q i next a w)
  (VF:∀(E:Nat->Bool) (a:Act) (w:World),Inv E a w->(∀j,j<ops.size->E j=true)->Q .normal a w):
  ∀(fuel:Nat) (listed:Array Bool) (a:Act) (w:World),listed.size=ops.size->(∀(i:Nat) (o:Oper),ops[i]?=some o->listed.getD i false=true->∀e∈Hm o,listed.getD e.on false=true)->
   (List.range ops.size).countP (λj=>!listed.getD j false)<=fuel->Inv (λj=>listed.getD j false) a w->wpAny C.P .any ops Q fuel listed a w:=by
 have all_of:∀(listed:Array Bool),listed.size=ops.size->Region.ready .any ops listed=[]->∀j,j<ops.size->listed.getD j false=true:=by
  intro listed hs hr j
  induction j using Nat.strongRecOn with
  |ind j ih=>
   intro hj
   obtain⟨o,ho⟩:=qt (ops:=ops) hj
   cases hl:listed.getD j false with
   |true=>rfl
   |false=>
    have hm:j∈Region.ready .any ops listed:=mem_ready.2 ⟨by simp[hs,hj]at hl ⊢;exact hl,o,ho,λe he hb=>by
     have cI:=(eY ok).1 j o ho e (aaM.2 ⟨by simpa using he,hb⟩);exact ih e.on cI (by omega)⟩
    rw[hr]at hm;cases hm
 have fin:∀(listed:Array Bool) (a:Act) (w:World),(∀j,j<ops.size->listed.getD j false=true)->Inv (λj=>listed.getD j false) a w->Q .normal a w:=λlisted a w eF D=>VF _ a w D eF
 intro fuel
 induction fuel with
 |zero=>
  intro listed a w hs hc hn D
  have eF:∀j,j<ops.size->listed.getD j false=true:=λj hj=>by
   have h0:=List.countP_eq_zero.1 (Nat.le_zero.1 hn) j (abN.2 hj);simpa using h0
  refine⟨?_,fin listed a w eF D⟩;apply List.eq_nil_iff_forall_not_mem.2
  intro j hj
  obtain⟨h1,o,h2,_⟩:=mem_ready.1 hj;have hjs:j<ops.size:=(aap.1 h2).1;have:=eF j hjs;simp[hs,hjs]at h1 this;rw[h1]at this;cases this
 |succ fuel ih=>
  intro listed a w hs hc hn D
  refine⟨λhr=>fin listed a w (all_of listed hs hr) D,λi hi=>?_⟩;obtain⟨h1,o,h2,h3⟩:=mem_ready.1 hi;have his:i<ops.size:=(aap.1 h2).1;have tc:listed.getD i false=false:=by simp[hs,his]at h1 ⊢;exact h1
  have dp:=ED ok (E:=λj=>listed.getD j false) hc
  have KD:∀e∈Hm o,listed.getD e.on false=true:=λe he=>by
   have:=aaM.1 he;exact h3 e (by simpa using this.1) this.2
  have YO:∀j,yx ops i j->listed.getD j false=true:=λj hj=>by
   obtain⟨o',g1,e,g2,g3⟩:=wz hj;rw[h2]at g1;obtain rfl:=ZZ g1;rcases g3 with rfl |g3
   ·exact KD e g2
   ·exact dp e.on j (KD e g2) g3
  have KE:∀j,(listed.setIfInBounds i true).getD j false=true↔listed.getD j false=true\/j=i:=λj=>by
   by_cases hj:i=j
   ·subst hj;simp[hs,his]
   ·rw[getD_set_ne false hj];simp[aaR hj]
  refine VE _ (λj=>(listed.setIfInBounds i true).getD j false) a w i o D ⟨h2,tc,YO,dp,KE⟩ _ (λa' w' D'=>?_);refine ih (listed.setIfInBounds i true) a' w' (by simp[hs]) (λj o' hj hl e he=>?_) ?_ D'
  ·refine(KE e.on).2 (.inl ?_);rcases(KE j).1 hl with hl |rfl
   ·exact hc j o' hj hl e he
   ·rw[h2]at hj;obtain rfl:=ZZ hj;exact KD e he
  ·have:=zu (p:=λj=>!listed.getD j false) (q:=λj=>!(listed.setIfInBounds i true).getD j false) (List.range ops.size) (λj _ hq=>by
    cases hl:listed.getD j false with
    |false=>rfl
    |true=>have:=(KE j).2 (.inl hl);simp[this]at hq) ⟨i,abN.2 his,by simp[tc],by simp[(KE i).2 (.inr rfl)]⟩
   omega
theorem HY(K:fT C)(S:gL C run)(L:Lex C run ops tr)(hd:ops.toList.all (jv N)=true){Q:Exit->Act->World->Prop}
  (hQ:∀a w β,SR N w F β (tr ops.size).s a->dS w0 h0 β0 w (tr ops.size).s.h β->Q .normal a w):
  ∀(fuel:Nat) (listed:Array Bool) (a:Act) (w:World),listed.size=ops.size->(∀(i:Nat) (o:Oper),ops[i]?=some o->listed.getD i false=true->∀e∈Hm o,listed.getD e.on false=true)->
   (List.range ops.size).countP (λj=>!listed.getD j false)<=fuel->AI ops tr N F w0 h0 β0 (λj=>listed.getD j false) a w->wpAny C.P .any ops Q fuel listed a w:=
 ze L.ok (λE a w=>AI ops tr N F w0 h0 β0 E a w)
  (λE E' a w i o D R next hK=>AI.step K S L D R (Z1.1 hd o (acg.2 (abL R.at_))) hK)
  (λE a w D eF=>by obtain⟨β,h1,h2⟩:=D.done L eF;exact hQ a w β h1 h2)
theorem getD_none(n j:Nat):(Array.replicate n false).getD j false=false:=by
 simp only[abk,ab5]
 split <;>rfl
theorem EF(K:fT C)(S:gL C run)(hm:C.P.follows .mixedOrders=true){id:Nat}{Q:Exit->Act->World->Prop}(hd:ops.toList.all (jv N)=true)(hk:mi ops=true){β:List (Nat×Nat)}{s:St}{y:uZ}(R:SR N w F β s a)
  (e:dE C run ops (before ops) 0 ops.toList ⟨s,s.h.length,[]⟩=some y) (hQ:∀a' w' β',SR N w' F β' y.s a'->dS w s.h β w' y.s.h β'->Q .normal a' w'):(Code.region id ops true).wp C.P Q a w:=by
 obtain⟨tr,t1,t2,t3⟩:=oZ ops.toList 0 _ _ e;have L:Lex C run ops tr:=⟨hk,λi o ho=>by simpa using t2 i o (by simpa using ho),by rw[t1];exact Z5 _,by rw[t1];exact⟨rfl,rfl⟩⟩;have Xu:tr ops.size=y:=by simpa using t3
 refine wp_region_any hm (HY (w0:=w) (h0:=s.h) (β0:=β) K S L hd (F:=F) (λa' w' β' R' S'=>by rw[Xu]at R' S';exact hQ a' w' β' R' S') ops.size _ a _ (by simp) (λi o ho hl=>by rw[getD_none]at hl;cases hl) ?_ ?_)
 ·refine aaQ (List.countP_le_length) (by simp)
 ·have hE:∀j,(Array.replicate ops.size false).getD j false=false:=λj=>getD_none _ j
  have hK:Kh tr (λj=>(Array.replicate ops.size false).getD j false) 0=s.h:=by
   unfold Kh;rw[t1];exact pX (by simp) (λj hj=>by cases hj)
  have G:dF w {w with drawn:=w.drawn+1}:=dF.drew w;refine⟨0,s.ρ,β,⟨abm _,λj _ h=>(by rw[hE]at h;cases h),λj _ _ h=>by omega,by rw[t1];exact Z5 _,by rw[hK];exact R.hr.JY G,by rw[hK];exact R.er.mono (G.Qe s.h β),?_,by rw[hK];exact G.Qe s.h β,R.df,R.sz⟩⟩
  intro t k' fB hw
  rw[L.mC (t:=t) (i:=0) k' (abm _) fB (λj o h1 h2 h3 h4=>by
   have:=(hw j o h3 h4).2 h2;rw[hE]at this;cases this),t1]
end Go.Pm
namespace Go.Pm
theorem oM{C:cP}{run:hZ}{ops:Array Oper}{h0:ab}:∀(l:List Oper) (k:Nat) (x y:St),cm C run ops (before ops) h0 k l x=some y->
  ∃tr:Nat->St,tr k=x/\(∀(i:Nat) (o:Oper),l[i]?=some o->cT C run ops (before ops) h0 (k+i) o (tr (k+i))=some (tr (k+i+1)))/\tr (k+l.length)=y
 |[],k,x,y,e=>by
  simp[cm]at e;exact⟨λ_=>x,rfl,λi o h=>by simp at h,by simpa using e⟩
 |o::l,k,x,y,e=>by
  simp only[cm]at e
  split at e
  ·rename_i x' hx
   obtain⟨tr,t1,t2,t3⟩:=oM l (k+1) x' y e;refine⟨λj=>if j<=k then x else tr j,by simp,?_,?_⟩
   ·intro i o' ho
    cases i with
    |zero=>
     simp at ho;subst ho;simp[t1,hx]
     intro hh;omega
    |succ i=>
     have:=t2 i o' (by simpa using ho);have e1:¬(k+(i+1)<=k):=by omega
     have e2:¬(k+(i+1)+1<=k):=by omega
     simp only[e1,e2,if_false];rw[show k+(i+1)=k+1+i by omega];exact this
   ·have e1:¬(k+(o::l).length<=k):=by simp
    simp only[e1,if_false];rw[<-t3];congr 1;simp;omega
  ·cases e
inductive vS(C:cP)(run:hZ)(ops:Array Oper)(h0:ab)(i:Nat)(o:Oper)(x y:St):Prop
 |off:bm ops o x.ρ=some false->y=⟨b9 x.ρ o.dst .undef,x.h⟩->vS C run ops h0 i o x y
 |plain (r:PV) (h1:ab):bm ops o x.ρ=some true->cV o.op=false->ar C run 1 o.op x.ρ x.h=some (r,h1)->y=⟨b9 x.ρ o.dst r,x.h⟩->vS C run ops h0 i o x y
 |rd (r:PV) (h1:ab):bm ops o x.ρ=some true->gE o.op=true->(∀id,rB o.op x.ρ=some id->oA h0 id=true\/(kN ops (before ops) i=true/\Ar ops (before ops) i x.ρ id=true))->aC C.P 1 o.op x.ρ x.h=some (r,h1)->y=⟨b9 x.ρ o.dst r,x.h⟩->vS C run ops h0 i o x y
 |made (r:PV) (h':ab):bm ops o x.ρ=some true->jz o.op=true->aC C.P 1 o.op x.ρ x.h=some (r,h')->y=⟨b9 x.ρ o.dst r,x.h⟩->vS C run ops h0 i o x y
 |two (r:PV) (h':ab):bm ops o x.ρ=some true->cV o.op=true->gE o.op=false->(jz o.op=true->aC C.P 1 o.op x.ρ x.h=none)->iR ops (before ops) i (jz o.op)=true->ar C run 2 o.op x.ρ x.h=some (r,h')->x.h.length<=h'.length->y=⟨b9 x.ρ o.dst r,mw x.h h'⟩->vS C run ops h0 i o x y
theorem Vb{C:cP}{run:hZ}{ops:Array Oper}{h0:ab}{i:Nat}{o:Oper}{x y:St}(e:cT C run ops (before ops) h0 i o x=some y):vS C run ops h0 i o x y:=by
 unfold cT at e
 split at e
 ·rename_i hw
  split at e
  ·rename_i hh
   split at e
   ·rename_i r hx hv;exact .plain r hx hw hh hv (ZZ e).symm
   ·cases e
  ·rename_i hh
   split at e
   ·rename_i hl
    split at e
    ·rename_i hc
     split at e
     ·rename_i r h1 hs
      refine .rd r h1 hw hl (λid bU=>?_) hs (ZZ e).symm;unfold kO at hc;rw[bU]at hc;simp only[aaq,Z9]at hc;exact hc
     ·cases e
    ·cases e
   ·rename_i hl
    split at e
    ·rename_i r h1 hs
     split at hs
     ·rename_i hb;exact .made r h1 hw hb hs (ZZ e).symm
     ·cases hs
    ·rename_i hs
     split at e
     ·rename_i hk
      split at e
      ·rename_i r h' hv
       split at e
       ·rename_i hle
        exact .two r h' hw (by simpa using hh) (by simpa using hl) (λhb=>by rw[if_pos hb]at hs;exact hs) hk hv hle (ZZ e).symm
       ·cases e
      ·cases e
     ·cases e
 ·rename_i hw;exact .off hw (ZZ e).symm
 ·cases e
theorem oN{ops:Array Oper}{i j:Nat}(h:qG (before ops) i j=true):j=i\/yx ops i j\/yx ops j i:=by
 simp only[qG,aaq,beq_iff_eq]at h;rcases h with(h1 |h1)|h1
 ·exact .inl h1.symm
 ·exact .inr (.inl h1)
 ·exact .inr (.inr h1)
theorem tW{ops:Array Oper}{i:Nat}{bs:Bool}(h:iR ops (before ops) i bs=true){j:Nat}{o:Oper}(e:ops[j]?=some o)(hh:cV o.op=true)(hl:gE o.op=false)(hb:bs=true\/jz o.op=false):
  (j=i\/yx ops i j\/yx ops j i)\/((sinks ops (before ops)).isSome=true/\ops.size<=i+2/\ops.size<=j+2):=by
 have:=Z1.1 h (o,j) (by rw[aby];exact⟨j,by simp[e]⟩);have yy:(bs || !jz o.op)=true:=by rcases hb with hb |hb <;>simp[hb]
 simp only[hh,hl,yy,ab6,acb,abU,abA,aaq,Z9,decide_eq_true_eq]at this;rcases this with h1 |h1
 ·exact .inl (oN h1)
 ·exact .inr ⟨h1.1.1,h1.1.2,h1.2⟩
theorem BK{ops:Array Oper}{i:Nat}(h:kN ops (before ops) i=true){j:Nat}{o:Oper}(e:ops[j]?=some o)(hh:cV o.op=true)(hl:gE o.op=false)(hb:jz o.op=false):
  (j=i\/yx ops i j\/yx ops j i)\/((sinks ops (before ops)).isSome=true/\ops.size<=j+2):=by
 have:=Z1.1 h (o,j) (by rw[aby];exact⟨j,by simp[e]⟩);simp only[hh,hl,hb,ab6,acb,abU,abA,aaq,Z9,decide_eq_true_eq]at this;rcases this with h1 |h1
 ·exact .inl (oN h1)
 ·exact .inr h1
theorem y8{P:Program}{op:Op}{ρ ρ':Nat->PV}{h1 NT h2:ab}{r:PV}(hb:jz op=true)(hv:∀h,aC P 1 op ρ' h=aC P 1 op ρ h)(e:aC P 1 op ρ h1=some (r,NT)):aC P 1 op ρ' h2=some (r,h2):=by
 rw[hv]
 cases op <;>simp[jz]at hb
 simp only[aC,dy]at e ⊢
 repeat' split at e
 all_goals first
  |(cases e;done)
  |(rename_i hh;exfalso;omega)
  |skip
 rename_i hz hc hi
 obtain⟨rfl,rfl⟩:=aaa (ZZ e);simp only[*,if_true,and_self]
theorem JZ{P:Program}{h1 h2:ab}{t:TypeId}{p q:PV}(h:∀id ep off len,p=.ak id ep off len->getM h2 id ep=getM h1 id ep):cy P h2 t p q=cy P h1 t p q:=by
 unfold cy
 split
 ·rfl
 ·simp only[h _ _ _ _ rfl]
 ·rfl
 ·rfl
 ·rfl
theorem NZ{P:Program}{h1:ab}{t:TypeId}{id ep off len:Nat}{q r:PV}(e:cy P h1 t (.ak id ep off len) q=some r):∃o,getM h1 id ep=some o:=by
 cases hg:getM h1 id ep with
 |some o=>exact⟨o,rfl⟩
 |none=>
  unfold cy at e
  split at e <;>simp_all
  all_goals(split at e <;>simp_all)
theorem J0{P:Program}{h1 h2:ab}{t:TypeId}{p:PV}(h:∀id ep i off,p=.ptr id ep i off->getM h2 id ep=getM h1 id ep):iB P h2 t p=iB P h1 t p:=by
 have:cK h2 p=cK h1 p:=by
  unfold cK
  split
  ·rfl
  ·rw[h _ _ _ _ rfl]
  ·rfl
 unfold iB;rw[this]
theorem N0{P:Program}{h1:ab}{t:TypeId}{id ep i off:Nat}{r:PV}(e:iB P h1 t (.ptr id ep i off)=some r):∃o,getM h1 id ep=some o:=by
 cases hg:getM h1 id ep with
 |some o=>exact⟨o,rfl⟩
 |none=>
  simp only[iB,cK,hg]at e
  split at e <;>simp_all
theorem N1{h:ab}{id ep:Nat}{o:au}(h1:h[id]?=some o)(h2:o.ep=ep)(h3:o.mu≠.x):getM h id ep=some o:=by simp[getM,h1,h2,h3]
theorem F8{h:ab}{id ep:Nat}{o:au}(e:getM h id ep=some o):id<h.length:=ag (getM_some e).1
theorem u7{P:Program}{op:Op}{ρ:Nat->PV}{h1 NT h2:ab}{r:PV}(hr:gE op=true)(e:aC P 1 op ρ h1=some (r,NT))(hs:∀id,rB op ρ=some id->h2[id]?=h1[id]?):aC P 1 op ρ h2=some (r,h2)/\∀id,rB op ρ=some id->id<h1.length:=by
 cases op <;>simp[gE]at hr
 case load t x=>
  simp only[aC,rB]at e hs ⊢;obtain⟨e1,_⟩:=dw e
  constructor
  ·rw[J0 (h1:=h1) (λid ep i off hp=>?_),e1]
   ·rfl
   ·rw[hp]at hs;simp only[getM,hs id rfl]
  ·intro id bU
   split at bU
   ·rename_i hx
    obtain rfl:=ZZ bU;rw[hx]at e1;obtain⟨o,ho⟩:=N0 e1;exact F8 ho
   ·cases bU
 case indexAddr t x ix=>
  simp only[aC,rB]at e hs ⊢;obtain⟨e1,_⟩:=dw e
  constructor
  ·rw[JZ (h1:=h1) (λid ep i off hp=>?_),e1]
   ·rfl
   ·rw[hp]at hs;simp only[getM,hs id rfl]
  ·intro id bU
   split at bU
   ·rename_i hx
    obtain rfl:=ZZ bU;rw[hx]at e1;obtain⟨o,ho⟩:=NZ e1;exact F8 ho
   ·cases bU
theorem rH{h h':ab}(hl:h.length<=h'.length){id:Nat}{o:au}(ho:h[id]?=some o):(mw h h')[id]?=if o.mu=.m then h'[id]? else some o:=by
 have bU:=ag ho;unfold mw;rw[Z0 (by simp;omega),abn,ho];obtain⟨o',N3⟩:=mB (l:=h') (i:=id) (by omega);rw[N3];simp only
 split <;>rfl
theorem BL{h h':ab}(hl:h.length<=h'.length){id:Nat}(bU:h.length<=id):(mw h h')[id]?=h'[id]?:=by
 unfold mw;rw[aac (by simp;omega),aaB]
 congr 1
 simp;omega
theorem Hx{h h':ab}(hl:h.length<=h'.length):(mw h h').length=h'.length:=by unfold mw;simp;omega
theorem Hy{w w':World}{h h':ab}{β β':List (Nat×Nat)}(s:dS w h β w' h' β'):mw h h'=h':=by
 apply aa2
 intro id
 by_cases bU:id<h.length
 ·obtain⟨o,ho⟩:=mB (l:=h) (i:=id) bU;rw[rH s.len ho]
  split
  ·rfl
  ·rename_i hm;exact(s.JD id o ho hm).1.symm
 ·exact BL s.len (by omega)
theorem y9{h:ab}{id:Nat}{o o':au}(ho:h[id]?=some o)(hm:o.mu=.m):mw h (h.set id o')=h.set id o':=by
 have hl:h.length<=(h.set id o').length:=by simp
 apply aa2
 intro k
 by_cases hk:k<h.length
 ·obtain⟨a,ha⟩:=mB (l:=h) (i:=k) hk;rw[rH hl ha]
  split
  ·rfl
  ·rename_i bJ
   have:id≠k:=by rintro rfl;rw[ho]at ha;obtain rfl:=ZZ ha;exact bJ hm
   rw[Z7 this,ha]
 ·exact BL hl (by omega)
theorem vT{P:Program}{h h':ab}{t:TypeId}{p v:PV}(e:gH P h t p v=some h'):∃id ep i off o o',p=.ptr id ep i off/\h[id]?=some o/\o.mu=.m/\h'=h.set id o'/\∀h2:ab,h2[id]?=some o->gH P h2 t p v=some (h2.set id o'):=by
 unfold gH at e
 split at e
 ·rename_i id ep i off sz hs
  split at e
  ·rename_i o ho
   split at e
   ·rename_i el cX
    split at e
    ·rename_i hc
     obtain rfl:=ZZ e;obtain⟨g1,g2,g3⟩:=getM_some ho;refine⟨id,ep,i,off,o,_,rfl,g1,hc.1,rfl,λh2 h3=>?_⟩;have hg:getM h2 id ep=some o:=N1 h3 g2 g3;unfold gH;rw[hs];simp only[hg,cX];rw[if_pos hc]
    ·cases e
   ·cases e
  ·cases e
 ·cases e
theorem Rl{C:cP}{run:hZ}{op:Op}{ρ:Nat->PV}{h h':ab}{r:PV}(hb:jz op=true)(e:ar C run 2 op ρ h=some (r,h')):Ext h h':=by
 cases op <;>simp[jz]at hb
 simp only[ar,aC,dy]at e
 repeat' split at e
 all_goals first
  |(cases e;done)
  |(obtain⟨rfl,rfl⟩:=aaa (ZZ e);first |exact Ext.refl _ |exact⟨_,rfl⟩)
structure gu(C:cP)(run:hZ)(ops:Array Oper)(h0:ab)(tr:Nat->St):Prop where
 ok:mi ops=true
 st:∀(i:Nat) (o:Oper),ops[i]?=some o->cT C run ops (before ops) h0 i o (tr i)=some (tr (i+1))
 h0:h0=(tr 0).h
 sk:qI ops (before ops) (tr ops.size).ρ=true
def iV(P:Program)(ops:Array Oper)(tr:Nat->St)(j:Nat):Prop:=∃o,ops[j]?=some o/\cV o.op=true/\gE o.op=false/\(jz o.op=true->aC P 1 o.op (tr j).ρ (tr j).h=none)/\bm ops o (tr j).ρ=some true
variable{C:cP}{run:hZ}{ops:Array Oper}{h0:ab}{tr:Nat->St}
theorem gu.view(L:gu C run ops h0 tr){k:Nat}{o:Oper}(ho:ops[k]?=some o):vS C run ops h0 k o (tr k) (tr (k+1)):=Vb (L.st k o ho)
theorem gu.Ys(L:gu C run ops h0 tr){k:Nat}{o:Oper}(ho:ops[k]?=some o):∃r,(tr (k+1)).ρ=b9 (tr k).ρ o.dst r:=by
 cases L.view ho with
 |off _ hy=>exact⟨_,by rw[hy]⟩
 |plain r hx _ _ _ hy=>exact⟨_,by rw[hy]⟩
 |rd r hx _ _ _ _ hy=>exact⟨_,by rw[hy]⟩
 |made r hx _ _ _ hy=>exact⟨_,by rw[hy]⟩
 |two r h' _ _ _ _ _ _ _ hy=>exact⟨_,by rw[hy]⟩
theorem gu.mC(L:gu C run ops h0 tr){t:Nat}{i:Nat}:∀k,i<=k->k<=ops.size->(∀j o,i<=j->j<k->ops[j]?=some o->o.dst≠some t)->(tr k).ρ t=(tr i).ρ t:=by
 intro k
 induction k with
 |zero=>intro h1 _ _;obtain rfl:i=0:=(by omega);rfl
 |succ k ih=>
  intro h1 h2 h3
  by_cases hi:i=k+1
  ·subst hi;rfl
  ·obtain⟨o,ho⟩:=qt (ops:=ops) (k:=k) (by omega);obtain⟨r,hr⟩:=L.Ys ho;rw[hr,nA,if_neg (h3 k o (by omega) (by omega) ho)];exact ih (by omega) (by omega) (λj o' a b c=>h3 j o' a (by omega) c)
theorem gu.aR(L:gu C run ops h0 tr){k:Nat}(hk:k<ops.size)(hn:¬iV C.P ops tr k):(tr (k+1)).h=(tr k).h:=by
 obtain⟨o,ho⟩:=qt (ops:=ops) hk
 cases L.view ho with
 |off _ hy=>rw[hy]
 |plain r hx _ _ _ hy=>rw[hy]
 |rd r hx _ _ _ _ hy=>rw[hy]
 |made r hx _ _ _ hy=>rw[hy]
 |two r h' hw hh hl hb _ _ _ hy=>exact absurd ⟨o,ho,hh,hl,hb,hw⟩ hn
theorem gu.wr(L:gu C run ops h0 tr){k:Nat}{o:Oper}(ho:ops[k]?=some o)(hr:iV C.P ops tr k):cV o.op=true/\gE o.op=false/\iR ops (before ops) k (jz o.op)=true/\
  ∃r h',ar C run 2 o.op (tr k).ρ (tr k).h=some (r,h')/\(tr k).h.length<=h'.length/\tr (k+1)=⟨b9 (tr k).ρ o.dst r,mw (tr k).h h'⟩:=by
 obtain⟨o',e,h1,h2,h3,h4⟩:=hr;rw[ho]at e;obtain rfl:=ZZ e
 cases L.view ho with
 |off D4 _=>rw[D4]at h4;cases h4
 |plain r2 hx _ Xr _ _=>rw[Xr]at h1;cases h1
 |rd r2 hx _ hl' _ _ _=>rw[hl']at h2;cases h2
 |made r2 hx _ dO BM _=>rw[h3 dO]at BM;cases BM
 |two r h' _ _ _ _ hk hv hle hy=>exact⟨h1,h2,hk,r,h',hv,hle,hy⟩
theorem gu.grow(L:gu C run ops h0 tr){k:Nat}(hk:k<ops.size):(tr k).h.length<=(tr (k+1)).h.length:=by
 obtain⟨o,ho⟩:=qt (ops:=ops) hk
 by_cases hr:iV C.P ops tr k
 ·obtain⟨_,_,_,r,h',_,hle,hy⟩:=L.wr ho hr;rw[hy,Hx hle];exact hle
 ·rw[L.aR hk hr];exact Z5 _
theorem gu.old(L:gu C run ops h0 tr){id:Nat}{o:au}(h1:h0[id]?=some o)(h2:o.mu≠.m):∀k,k<=ops.size->(tr k).h[id]?=some o:=by
 intro k
 induction k with
 |zero=>intro _;rw[<-L.h0];exact h1
 |succ k ih=>
  intro hk
  have ih:=ih (by omega);obtain⟨q,hq⟩:=qt (ops:=ops) (k:=k) (by omega)
  by_cases hr:iV C.P ops tr k
  ·obtain⟨_,_,_,r,h',_,hle,hy⟩:=L.wr hq hr;rw[hy];rw[rH hle ih,if_neg h2]
  ·rw[L.aR (by omega) hr];exact ih
theorem gu.ord(L:gu C run ops h0 tr){i j:Nat}(hi:iV C.P ops tr i)(hj:iV C.P ops tr j):(j=i\/yx ops i j\/yx ops j i)\/((sinks ops (before ops)).isSome=true/\ops.size<=i+2/\ops.size<=j+2):=by
 obtain⟨oi,ei,_⟩:=id hi;obtain⟨oj,ej,_⟩:=id hj;obtain⟨a1,a2,a3,_⟩:=L.wr ei hi;obtain⟨b1,b2,b3,_⟩:=L.wr ej hj
 by_cases hb:jz oj.op=true
 ·rcases tW b3 ei a1 a2 (.inl hb)with h |h
  ·exact .inl (by rcases h with h |h |h;exact .inl h.symm;exact .inr (.inr h);exact .inr (.inl h))
  ·exact .inr ⟨h.1,h.2.2,h.2.1⟩
 ·exact tW a3 ej b1 b2 (.inr (by simpa using hb))
structure SD(C:cP)(run:hZ)(ops:Array Oper)(tr:Nat->St)(q1 q2:Oper)(id1 id2:Nat)(a1 a2 yh qk:au)(x y:Operand):Prop where
 n2:2<=ops.size
 s:sinks ops (before ops)=some (x,y)
 e1:ops[ops.size - 2]?=some q1
 e2:ops[ops.size - 1]?=some q2
 d1:q1.dst=none
 d2:q2.dst=none
 r1:iV C.P ops tr (ops.size - 2)
 r2:iV C.P ops tr (ops.size - 1)
 ne:id1≠id2
 g1:(tr (ops.size - 2)).h[id1]?=some a1
 g2:(tr (ops.size - 2)).h[id2]?=some a2
 m2:a2.mu=.m
 x1:∃ep i off,ev (tr (ops.size - 2)).ρ x=.ptr id1 ep i off
 x2:∃ep i off,ev (tr (ops.size - 2)).ρ y=.ptr id2 ep i off
 h1:(tr (ops.size - 1)).h=(tr (ops.size - 2)).h.set id1 yh
 h2:(tr ops.size).h=((tr (ops.size - 2)).h.set id1 yh).set id2 qk
 p1:(tr (ops.size - 1)).ρ=(tr (ops.size - 2)).ρ
 p2:(tr ops.size).ρ=(tr (ops.size - 2)).ρ
 v1:∀(ρ:Nat->PV) (h:ab),(∀z∈q1.op.operands.toList,ev ρ z=ev (tr (ops.size - 2)).ρ z)->h[id1]?=some a1->ar C run 2 q1.op ρ h=some (.undef,h.set id1 yh)
 v2:∀(ρ:Nat->PV) (h:ab),(∀z∈q2.op.operands.toList,ev ρ z=ev (tr (ops.size - 2)).ρ z)->h[id2]?=some a2->ar C run 2 q2.op ρ h=some (.undef,h.set id2 qk)
theorem zc{o:Oper}{a:Operand}(h:F1 o=some a):o.dst=none/\o.guard=none/\∃t v,o.op=.store t a v:=by
 unfold F1 at h
 split at h
 ·rename_i h1 h2 h3
  obtain rfl:=ZZ h;exact⟨h2,h3,_,_,h1⟩
 ·cases h
theorem gu.sd(L:gu C run ops h0 tr){x y:Operand}(hs:sinks ops (before ops)=some (x,y)):∃q1 q2 id1 id2 a1 a2 yh qk,SD C run ops tr q1 q2 id1 id2 a1 a2 yh qk x y:=by
 have hs0:=hs;unfold sinks at hs
 split at hs
 ·rename_i hc
  split at hs
  ·rename_i x' y' hx hy
   obtain⟨rfl,rfl⟩:=aaa (ZZ hs);obtain⟨q1,e1,k1⟩:=Option.bind_eq_some_iff.1 hx;obtain⟨q2,e2,k2⟩:=Option.bind_eq_some_iff.1 hy;rw[aaw]at e1 e2;obtain⟨d1,g1,t1,v1,o1⟩:=zc k1;obtain⟨d2,g2,t2,v2,o2⟩:=zc k2;have r1:iV C.P ops tr (ops.size - 2):=⟨q1,e1,by rw[o1];rfl,by rw[o1];rfl,(λh=>by rw[o1]at h;cases h),by simp[bm,g1]⟩;have r2:iV C.P ops tr (ops.size - 1):=⟨q2,e2,by rw[o2];rfl,by rw[o2];rfl,(λh=>by rw[o2]at h;cases h),by simp[bm,g2]⟩;obtain⟨_,_,_,w1,h1,f1,l1,y1⟩:=L.wr e1 r1;obtain⟨_,_,_,w2,h2,f2,l2,y2⟩:=L.wr e2 r2;have n12:ops.size - 2+1=ops.size - 1:=by omega
   have n2:ops.size - 1+1=ops.size:=by omega
   rw[n12]at y1;rw[n2]at y2;rw[o1]at f1;rw[o2]at f2;simp only[ar,aC,Z5,if_true]at f1 f2;obtain⟨s1,f3,f1'⟩:=aaP.1 f1;obtain⟨s2,f4,f2'⟩:=aaP.1 f2;obtain⟨rfl,rfl⟩:=aaa f1';obtain⟨rfl,rfl⟩:=aaa f2';obtain⟨id1,ep1,i1,N4,a1,yh,p1,b1,m1,c1,z1⟩:=vT f3;obtain⟨id2,Rm,i2,ZH,a2,qk,p2,b2,m2,c2,z2⟩:=vT f4;have hρ1:(tr (ops.size - 1)).ρ=(tr (ops.size - 2)).ρ:=by rw[y1,d1];rfl
   have hρ2:(tr ops.size).ρ=(tr (ops.size - 2)).ρ:=by rw[y2,d2];exact hρ1
   have Yt:(tr (ops.size - 1)).h=(tr (ops.size - 2)).h.set id1 yh:=by rw[y1,c1];exact y9 b1 m1
   have bJ:id1≠id2:=by
    have:=L.sk;unfold qI at this;rw[hs0]at this;simp only[hρ2]at this;rw[hρ1]at p2;rw[p1,p2]at this;simpa using this
   have yy:(tr (ops.size - 2)).h[id2]?=some a2:=by
    rw[Yt,Z7 bJ]at b2;exact b2
   have zd:(tr ops.size).h=((tr (ops.size - 2)).h.set id1 yh).set id2 qk:=by
    rw[y2,c2];simp only;rw[y9 b2 m2,Yt]
   refine⟨q1,q2,id1,id2,a1,a2,yh,qk,⟨hc.1,hs0,e1,e2,d1,d2,r1,r2,bJ,b1,yy,m2,⟨_,_,_,p1⟩,⟨_,_,_,by rw[<-hρ1];exact p2⟩,Yt,zd,hρ1,hρ2,?_,?_⟩⟩
   ·intro ρ h hz hb
    rw[o1]at hz ⊢;simp only[Op.operands]at hz;have za:=hz x' (by simp);have zv:=hz v1 (by simp);simp only[ar,aC,Z5,if_true,za,zv];rw[z1 h hb];rfl
   ·intro ρ h hz hb
    rw[o2]at hz ⊢;simp only[Op.operands]at hz;have za:=hz y' (by simp);have zv:=hz v2 (by simp);simp only[ar,aC,Z5,if_true,za,zv];rw[<-hρ1,z2 h hb];rfl
  ·cases hs
 ·cases hs
def RH(ops:Array Oper)(tr:Nat->St)(E:Nat->Bool)(ρ:Nat->PV):Prop:=∀t k',k'<=ops.size->(∀j o,ops[j]?=some o->o.dst=some t->(E j=true↔j<k'))->ρ t=(tr k').ρ t
structure BN(C:cP)(ops:Array Oper)(tr:Nat->St)(N:Nat)(F:Nat->Prop)(w0:World)(h0:ab)(β0:List (Nat×Nat))(E:Nat->Bool)(a:Act)(w:World)(k:Nat)(ρ:Nat->PV)(β:List (Nat×Nat)):Prop where
 kn:k<=ops.size
 lo:∀j,iV C.P ops tr j->E j=true->j<k
 hi:∀j,iV C.P ops tr j->j<k->E j=true
 hr:aZ w F β (tr k).h
 er:gR w (Av F (tr k).h β) β (tr k).h a ρ
 rh:RH ops tr E ρ
 sp:dS w0 h0 β0 w (tr k).h β
 df:a.defers=[]
 sz:N<=a.tmps.size
structure Ro(C:cP)(run:hZ)(ops:Array Oper)(tr:Nat->St)(N:Nat)(F:Nat->Prop)(w0:World)(h0:ab)(β0:List (Nat×Nat))(E:Nat->Bool)(a:Act)(w:World)(q1 q2:Oper)(id1 id2:Nat)(a1 a2 yh qk:au)(x y:Operand)(ρ:Nat->PV)(β:List (Nat×Nat)):Prop where
 sd:SD C run ops tr q1 q2 id1 id2 a1 a2 yh qk x y
 s1:E (ops.size - 2)=false
 al:∀j,iV C.P ops tr j->j≠ops.size - 2->E j=true
 hr:aZ w F β ((tr (ops.size - 2)).h.set id2 qk)
 er:gR w (Av F ((tr (ops.size - 2)).h.set id2 qk) β) β ((tr (ops.size - 2)).h.set id2 qk) a ρ
 rh:RH ops tr E ρ
 sp:dS w0 h0 β0 w ((tr (ops.size - 2)).h.set id2 qk) β
 df:a.defers=[]
 sz:N<=a.tmps.size
variable{N:Nat}{F:Nat->Prop}{w0:World}{N5:ab}{β0:List (Nat×Nat)}{E E':Nat->Bool}{a:Act}{w:World}
def vU(C:cP)(run:hZ)(ops:Array Oper)(tr:Nat->St)(N:Nat)(F:Nat->Prop)(w0:World)(h0:ab)(β0:List (Nat×Nat))(E:Nat->Bool)(a:Act)(w:World):Prop:=
 (∃k ρ β,BN C ops tr N F w0 h0 β0 E a w k ρ β)\/(∃q1 q2 id1 id2 a1 a2 yh qk x y ρ β,Ro C run ops tr N F w0 h0 β0 E a w q1 q2 id1 id2 a1 a2 yh qk x y ρ β)
theorem BN.N6(L:gu C run ops h0 tr){ρ:Nat->PV}{β:List (Nat×Nat)}:∀(d:Nat) {k:Nat},BN C ops tr N F w0 N5 β0 E a w k ρ β->k+d<=ops.size->(∀j,k<=j->j<k+d->¬iV C.P ops tr j)->BN C ops tr N F w0 N5 β0 E a w (k+d) ρ β
 |0,k,D,_,_=>D
 |d+1,k,D,h1,h2=>by
  have hk:=L.aR (k:=k) (by omega) (h2 k (Z5 _) (by omega))
  have D1:BN C ops tr N F w0 N5 β0 E a w (k+1) ρ β:=by
   refine⟨by omega,λj g1 g2=>by have:=D.lo j g1 g2;omega,λj g1 g2=>?_,by rw[hk];exact D.hr,by rw[hk];exact D.er,D.rh,by rw[hk];exact D.sp,D.df,D.sz⟩
   by_cases hj:j=k
   ·subst hj;exact absurd g1 (h2 j (Z5 _) (by omega))
   ·exact D.hi j g1 (by omega)
  have:=BN.N6 L d D1 (by omega) (λj g1 g2=>h2 j (by omega) (by omega));rw[show k+(d+1)=k+1+d by omega];exact this
theorem RH.look(L:gu C run ops h0 tr){ρ:Nat->PV}(D:RH ops tr E ρ){i:Nat}{o:Oper}(R:BO ops E E' i o){t:Nat}(ht:t∈o.looksAt ops):ρ t=(tr i).ρ t:=by
 have hi:i<ops.size:=(aap.1 R.at_).1;refine D t i (by omega) (λj o' hj hd=>?_);rcases abr j i with h |h |h
 ·exact⟨λ_=>h,λ_=>R.Rp j ((eY L.ok).2 i j o o' R.at_ hj h (.inl (mD hd (.inl ht))))⟩
 ·subst h;rw[R.out];simp
 ·have:=R.later ((eY L.ok).2 j i o' o hj R.at_ h (.inr (mD hd (.inl ht))));rw[this]
  constructor
  ·intro hh;cases hh
  ·intro hh;omega
theorem RH.J3(L:gu C run ops h0 tr){ρ:Nat->PV}(D:RH ops tr E ρ){i:Nat}{o:Oper}(R:BO ops E E' i o):∀x∈o.op.operands.toList,ev ρ x=ev (tr i).ρ x:=by
 intro x hx
 cases x with
 |tmp t=>exact D.look L R (aaH _ (List.mem_filterMap.2 ⟨.tmp t,hx,rfl⟩))
 |_=>rfl
theorem RH.F9(L:gu C run ops h0 tr){ρ:Nat->PV}(D:RH ops tr E ρ){i:Nat}{o:Oper}(R:BO ops E E' i o):bm ops o ρ=bm ops o (tr i).ρ:=by
 unfold bm
 cases hg:o.guard with
 |none=>rfl
 |some jw=>
  obtain⟨j,want⟩:=jw;simp only
  cases hd:(ops.toList[j]?).bind (·.dst)with
  |none=>rfl
  |some d=>
   have JE:(ops[j]?).bind (·.dst)=some d:=by simpa using hd
   have:ρ d=(tr i).ρ d:=D.look L R (abK _ (by simp[hg,JE]));simp only[this]
theorem RH.on(L:gu C run ops h0 tr){ρ:Nat->PV}(D:RH ops tr E ρ){i:Nat}{o:Oper}(R:BO ops E E' i o){r:PV}(hr:(tr (i+1)).ρ=b9 (tr i).ρ o.dst r):RH ops tr E' (b9 ρ o.dst r):=by
 intro t k' hk hw
 rw[nA]
 split
 ·rename_i ht
  have D5:i<k':=(hw i o R.at_ ht).1 ((R.nj i).2 (.inr rfl));rw[L.mC (t:=t) (i:=i+1) k' D5 hk (λj o' h1 h2 h3 h4=>?_),hr,nA,if_pos ht];have he:=(hw j o' h3 h4).2 h2;rcases(R.nj j).1 he with he |he
  ·rw[R.later ((eY L.ok).2 j i o' o h3 R.at_ (by omega) (.inl (mD ht (.inr h4))))]at he
   cases he
  ·omega
 ·rename_i ht
  refine D t k' hk (λj o' h1 h2=>?_)
  have yz:j≠i:=by
   rintro rfl;rw[R.at_]at h1;obtain rfl:=ZZ h1;exact ht h2
  rw[<-hw j o' h1 h2,R.nj];simp[yz]
theorem gu.Vc(L:gu C run ops h0 tr){m id:Nat}{o:Oper}(ho:ops[m]?=some o)(hr:iV C.P ops tr m)(hb:jz o.op=true)(bU:id<(tr m).h.length):(tr (m+1)).h[id]?=(tr m).h[id]?:=by
 obtain⟨_,_,_,r,h',hv,hle,hy⟩:=L.wr ho hr;obtain⟨ext,rfl⟩:=Rl hb hv;rw[hy];obtain⟨ob,hob⟩:=mB (l:=(tr m).h) (i:=id) bU;simp only;rw[rH hle hob]
 split
 ·rw[Z0 bU]
 ·exact hob.symm
theorem gu.target(L:gu C run ops h0 tr){i id j:Nat}{x:Operand}(ho:DY ops (tr i).ρ x id=true)(hi:i<=ops.size - 2)(hx:∃ep k off,ev (tr (ops.size - 2)).ρ x=.ptr j ep k off):j≠id:=by
 obtain⟨ep,k,off,hx⟩:=hx;unfold DY at ho;simp only[Z9]at ho
 have he:ev (tr (ops.size - 2)).ρ x=ev (tr i).ρ x:=by
  cases x with
  |tmp t=>
   refine L.mC (t:=t) (i:=i) _ hi (by omega) (λm o _ _ hm hd=>?_);have h1:=ho.1;simp only[abh,abt]at h1;exact h1 o (acg.2 (abL hm)) (by simp[hd])
  |_=>rfl
 rw[<-he,hx]at ho;simpa using ho.2
theorem BP{h0:ab}{id:Nat}(h:oA h0 id=true):∃o,h0[id]?=some o/\o.mu≠.m:=by
 unfold oA at h
 split at h
 ·rename_i o ho;exact⟨o,ho,by simpa using h⟩
 ·cases h
theorem gu.N4(L:gu C run ops h0 tr){i m id:Nat}{o:Oper}(R:BO ops E E' i o)(Nu:gE o.op=true)(hl:kN ops (before ops) i=true)(fN:Ar ops (before ops) i (tr i).ρ id=true)(hm:m<ops.size)(bU:id<(tr m).h.length)
  (hE:iV C.P ops tr m->(m<i/\E m=false)\/(i<=m/\E m=true)):(tr (m+1)).h[id]?=(tr m).h[id]?:=by
 by_cases hr:iV C.P ops tr m
 ·obtain⟨om,Vd⟩:=qt (ops:=ops) hm
  by_cases hb:jz om.op=true
  ·exact L.Vc Vd hr hb bU
  ·obtain⟨w1,w2,_⟩:=L.wr Vd hr
   have no:¬(m=i\/yx ops i m\/yx ops m i):=by
    rintro(h |h |h)
    ·subst h;rw[R.at_]at Vd;obtain rfl:=ZZ Vd;rw[Nu]at w2;cases w2
    ·have h1:=R.Rp m h;have h2:=qN L.ok i m h;rcases hE hr with⟨_,h3⟩|⟨h3,_⟩
     ·rw[h1]at h3;cases h3
     ·omega
    ·have h1:=R.later h;have h2:=qN L.ok m i h;rcases hE hr with⟨h3,_⟩|⟨_,h3⟩
     ·omega
     ·rw[h1]at h3;cases h3
   rcases BK hl Vd w1 w2 (by simpa using hb)with h |⟨hs,hn⟩
   ·exact absurd h no
   ·obtain⟨⟨x,y⟩,hs⟩:=ab2.1 hs;obtain⟨q1,q2,id1,id2,a1,a2,yh,qk,S⟩:=L.sd hs;have n2:=S.n2;unfold Ar at fN;rw[hs]at fN;simp only[Z9,aaq]at fN;have cI:=(aap.1 R.at_).1
    have Um:i<=ops.size - 2:=by
     rcases aaD (ops.size - 2) i with h |h
     ·have:i=ops.size - 1:=by omega
      subst this;have h3:=R.at_;rw[S.e2]at h3;obtain rfl:=ZZ h3;have:=(L.wr S.e2 S.r2).2.1;rw[Nu]at this;cases this
     ·exact h
    have Yu:m=ops.size - 2\/m=ops.size - 1:=by omega
    rcases Yu with rfl |rfl
    ·have J4:=fN.1.resolve_left (λhc=>no (oN hc));have bJ:=L.target J4 Um S.x1;rw[show ops.size - 2+1=ops.size - 1 by omega,S.h1,Z7 bJ]
    ·have J4:=fN.2.resolve_left (λhc=>no (oN hc));have bJ:=L.target J4 Um S.x2;rw[show ops.size - 1+1=ops.size by omega,S.h2,S.h1,Z7 bJ]
 ·rw[L.aR hm hr]
theorem BN.agree(L:gu C run ops h0 tr){k:Nat}{ρ:Nat->PV}{β:List (Nat×Nat)}(D:BN C ops tr N F w0 N5 β0 E a w k ρ β){i id:Nat}{o:Oper}(R:BO ops E E' i o)(Nu:gE o.op=true)(h1:id<(tr k).h.length)(h2:id<(tr i).h.length)
  (hc:oA h0 id=true\/(kN ops (before ops) i=true/\Ar ops (before ops) i (tr i).ρ id=true)):(tr k).h[id]?=(tr i).h[id]?:=by
 have hi:i<ops.size:=(aap.1 R.at_).1;have Un:=D.kn;rcases hc with hc |⟨hl,fN⟩
 ·obtain⟨ob,b1,b2⟩:=BP hc;rw[L.old b1 b2 k D.kn,L.old b1 b2 i (by omega)]
 ·rcases Nat.le_total k i with Qf |D5
  ·have key:∀m,k<=m->m<=i->id<(tr m).h.length/\(tr m).h[id]?=(tr k).h[id]?:=by
    intro m
    induction m with
    |zero=>intro a1 _;obtain rfl:k=0:=(by omega);exact⟨h1,rfl⟩
    |succ m ih=>
     intro a1 a2
     by_cases hk:k=m+1
     ·subst hk;exact⟨h1,rfl⟩
     ·obtain⟨i1,i2⟩:=ih (by omega) (by omega);refine⟨aaK i1 (L.grow (by omega)),(L.N4 R Nu hl fN (by omega) i1 (λhr=>.inl ⟨by omega,?_⟩)).trans i2⟩
      cases he:E m with
      |false=>rfl
      |true=>have:=D.lo m hr he;omega
   exact(key i Qf (Z5 _)).2.symm
  ·have key:∀m,i<=m->m<=k->id<(tr m).h.length/\(tr m).h[id]?=(tr i).h[id]?:=by
    intro m
    induction m with
    |zero=>intro a1 _;obtain rfl:i=0:=(by omega);exact⟨h2,rfl⟩
    |succ m ih=>
     intro a1 a2
     by_cases hk:i=m+1
     ·subst hk;exact⟨h2,rfl⟩
     ·obtain⟨i1,i2⟩:=ih (by omega) (by omega);exact⟨aaK i1 (L.grow (by omega)),(L.N4 R Nu hl fN (by omega) i1 (λhr=>.inr ⟨by omega,D.hi m hr (by omega)⟩)).trans i2⟩
   exact(key k D5 (Z5 _)).2
theorem Ro.agree(L:gu C run ops h0 tr){q1 q2:Oper}{id1 id2:Nat}{a1 a2 yh qk:au}{x y:Operand}{ρ:Nat->PV}{β:List (Nat×Nat)}(D:Ro C run ops tr N F w0 N5 β0 E a w q1 q2 id1 id2 a1 a2 yh qk x y ρ β){i id:Nat}{o:Oper}(R:BO ops E E' i o)(Nu:gE o.op=true)(h2:id<(tr i).h.length)
  (hc:oA h0 id=true\/(kN ops (before ops) i=true/\Ar ops (before ops) i (tr i).ρ id=true)):((tr (ops.size - 2)).h.set id2 qk)[id]?=(tr i).h[id]?:=by
 have hi:i<ops.size:=(aap.1 R.at_).1;have S:=D.sd;have n2:=S.n2
 have rdNot:∀(j:Nat) (q:Oper),ops[j]?=some q->iV C.P ops tr j->i≠j:=by
  rintro j q hq hr rfl;have:=(L.wr hq hr).2.1;rw[R.at_]at hq;obtain rfl:=ZZ hq;rw[Nu]at this;cases this
 have g1:=rdNot _ _ S.e1 S.r1;have g2:=rdNot _ _ S.e2 S.r2;have jr:i<ops.size - 2:=by omega
 rcases hc with hc |⟨hl,fN⟩
 ·obtain⟨ob,b1,b2⟩:=BP hc;have e1:=L.old b1 b2 (ops.size - 2) (by omega)
  have bJ:id2≠id:=by
   rintro rfl;rw[S.g2]at e1;obtain rfl:=ZZ e1;exact b2 S.m2
  rw[Z7 bJ,e1,L.old b1 b2 i (by omega)]
 ·have key:∀m,i<=m->m<=ops.size - 2->id<(tr m).h.length/\(tr m).h[id]?=(tr i).h[id]?:=by
   intro m
   induction m with
   |zero=>intro a1 _;obtain rfl:i=0:=(by omega);exact⟨h2,rfl⟩
   |succ m ih=>
    intro a1 a2
    by_cases hk:i=m+1
    ·subst hk;exact⟨h2,rfl⟩
    ·obtain⟨i1,i2⟩:=ih (by omega) (by omega);exact⟨aaK i1 (L.grow (by omega)),(L.N4 R Nu hl fN (by omega) i1 (λhr=>.inr ⟨by omega,D.al m hr (by omega)⟩)).trans i2⟩
  have J4:DY ops (tr i).ρ y id=true:=by
   unfold Ar at fN;rw[S.s]at fN;simp only[Z9,aaq]at fN;refine fN.2.resolve_left (λqL=>?_);have hE2:=D.al _ S.r2 (by omega);rcases oN qL with h |h |h
   ·omega
   ·have:=qN L.ok _ _ h;omega
   ·have:=R.later h;rw[hE2]at this;cases this
  have bJ:=L.target J4 (by omega) S.x2;rw[Z7 bJ];exact(key (ops.size - 2) (by omega) (Z5 _)).2
theorem fC{C:cP}{run:hZ}{lv:Nat}{op:Op}{ρ:Nat->PV}{h:ab}(hb:gE op=true\/jz op=true):ar C run lv op ρ h=aC C.P lv op ρ h:=by
 cases op <;>first |rfl |(rcases hb with hb |hb <;>simp[gE,jz]at hb)
theorem vU.step(K:fT C)(S:gL C run)(L:gu C run ops h0 tr)(D:vU C run ops tr N F w0 N5 β0 E a w){i:Nat}{o:Oper}(R:BO ops E E' i o)(hd:jv N o=true)
  {Q:Exit->Act->World->Prop} {next:Act->World->Prop} (hK:∀a' w',vU C run ops tr N F w0 N5 β0 E' a' w'->next a' w'):wpOp C.P ops Q i next a w:=by
 have hi:i<ops.size:=(aap.1 R.at_).1;unfold wpOp;rw[R.at_];simp only
 have noRan:(cV o.op=true->gE o.op=false->(jz o.op=true->aC C.P 1 o.op (tr i).ρ (tr i).h=none)->bm ops o (tr i).ρ=some true->False)->¬iV C.P ops tr i:=by
  rintro hh ⟨o',h1,h2,h3,h4,h5⟩;rw[R.at_]at h1;obtain rfl:=ZZ h1;exact hh h2 h3 h4 h5
 have eq':∀j,j≠i->E' j=E j:=λj hj=>by
  have:=R.nj j;simp only[hj,or_false]at this
  cases h1:E j <;>cases h2:E' j <;>simp_all
 rcases D with⟨k,ρ,β,D⟩|⟨q1,q2,id1,id2,a1,a2,yh,qk,x,y,ρ,β,D⟩
 ·have ku:=D.rh.F9 L R;have uL:=D.rh.J3 L R;have jC:∀lv h,ar C run lv o.op ρ h=ar C run lv o.op (tr i).ρ h:=λlv h=>lS uL
  have stay:∀{r:PV} {v:Value} {w':World} {β':List (Nat×Nat)},¬iV C.P ops tr i->(tr (i+1)).ρ=b9 (tr i).ρ o.dst r->aD w' (Av F (tr k).h β') β' (tr k).h v r->aZ w' F β' (tr k).h->dS w (tr k).h β w' (tr k).h β'->next (a.put o.dst v) w':=by
   intro r v w' β' hn hr q1 q2 q3
   refine hK _ _ (.inl ⟨k,b9 ρ o.dst r,β',D.kn,?_,?_,q2,(D.er.mono q3).put (gS hd D.sz) q1,D.rh.on L R hr,D.sp.trans q3,by rw[dM];exact D.df,by rw[fY];exact D.sz⟩)
   ·intro j h1 h2
    rcases(R.nj j).1 h2 with h2 |rfl
    ·exact D.lo j h1 h2
    ·exact absurd h1 hn
   ·intro j h1 h2
    exact(R.nj j).2 (.inl (D.hi j h1 h2))
  have quiet:∀{r:PV},bm ops o (tr i).ρ=some true->¬iV C.P ops tr i->(tr (i+1)).ρ=b9 (tr i).ρ o.dst r->ar C run 1 o.op ρ (tr k).h=some (r,(tr k).h)->o.wp C.P a w next Q:=by
   intro r hw hn hr e
   exact iW K S D.hr D.er e (λv w' β' q1 q2 q3 q4=>stay hn hr q1 q2 q3)
  cases L.view R.at_ with
  |off hw hy=>
   rw[cQ D.er (by rw[ku];exact hw),if_neg (by simp)];exact stay (noRan λ_ _ _ h3=>by rw[hw]at h3;cases h3) (by rw[hy]) .undef D.hr (dS.refl _ _ _)
  |plain r hx hw hh hv hy=>
   rw[cQ D.er (by rw[ku];exact hw),if_pos rfl];exact .inl (quiet hw (noRan λh2 _ _ _=>by rw[hh]at h2;cases h2) (by rw[hy]) (by rw[jC];exact oE hh hv))
  |rd r hx hw hl hc hv hy=>
   rw[cQ D.er (by rw[ku];exact hw),if_pos rfl];refine .inl (quiet hw (noRan λ_ h2 _ _=>by rw[hl]at h2;cases h2) (by rw[hy]) ?_);rw[jC,fC (.inl hl)];refine(u7 hl hv (λid bU=>?_)).1;have h2:=(u7 hl hv (λ_ _=>rfl)).2 id bU
   have h1:id<(tr k).h.length:=by
    cases kV:o.op with
    |load t z=>
     rw[kV]at bU uL;simp only[rB]at bU;have hz:=uL z (by simp[Op.operands]);have hr:=D.er.ev z;rw[hz]at hr
     cases hq:ev (tr i).ρ z with
     |ptr j ep k2 off=>rw[hq]at bU hr;obtain rfl:=ZZ bU;exact hr.Ax.1
     |_=>rw[hq]at bU;cases bU
    |indexAddr t z u=>
     rw[kV]at bU uL;simp only[rB]at bU;have hz:=uL z (by simp[Op.operands]);have hr:=D.er.ev z;rw[hz]at hr
     cases hq:ev (tr i).ρ z with
     |ak j ep off len=>rw[hq]at bU hr;obtain rfl:=ZZ bU;exact hr.dL.1
     |_=>rw[hq]at bU;cases bU
    |_=>rw[kV]at hl;cases hl
   exact D.agree L R hl h1 h2 (hc id bU)
  |made r hx hw hb hv hy=>
   rw[cQ D.er (by rw[ku];exact hw),if_pos rfl];refine .inl (quiet hw (noRan λ_ _ h3 _=>by rw[h3 hb]at hv;cases hv) (by rw[hy]) ?_);rw[fC (.inr hb)];exact y8 hb (λh=>by rw[<-fC (C:=C) (run:=run) (.inr hb),<-fC (C:=C) (run:=run) (.inr hb)];exact jC 1 h) hv
  |two r h' hw hh yA Rq hl hv hle hy=>
   rw[cQ D.er (by rw[ku];exact hw),if_pos rfl];refine .inl ?_;have D6:iV C.P ops tr i:=⟨o,R.at_,hh,yA,Rq,hw⟩
   have Qf:k<=i:=by
    rcases aaD i k with h |h
    ·have:=D.hi i D6 h;rw[R.out]at this;cases this
    ·exact h
   have main:(∀j,iV C.P ops tr j->j<i->E j=true)->o.wp C.P a w next Q:=by
    intro anc_of
    have D1:=D.N6 L (i - k) (by omega) (λj h1 h2 h3=>by
     have:=D.lo j h3 (anc_of j h3 (by omega));omega)
    rw[show k+(i - k)=i by omega]at D1;refine iW K S D1.hr D1.er (by rw[jC];exact hv) (λv w' β' q1 q2 q3 q4=>hK _ _ (.inl ?_));have Rr:(tr (i+1)).h=h':=by rw[hy];exact Hy q3
    refine⟨i+1,b9 ρ o.dst r,β',by omega,?_,?_,by rw[Rr];exact q2,by rw[Rr];exact(D1.er.mono q3).put (gS hd D.sz) q1,D.rh.on L R (by rw[hy]),by rw[Rr];exact D1.sp.trans q3,by rw[dM];exact D.df,by rw[fY];exact D.sz⟩
    ·intro j h1 h2
     rcases(R.nj j).1 h2 with h2 |rfl
     ·have:=D1.lo j h1 h2;omega
     ·omega
    ·intro j h1 h3
     by_cases hj:j=i
     ·exact(R.nj j).2 (.inr hj)
     ·exact(R.nj j).2 (.inl (anc_of j h1 (by omega)))
   have ordE:∀j,iV C.P ops tr j->j<i->¬((sinks ops (before ops)).isSome=true/\ops.size<=i+2/\ops.size<=j+2)->E j=true:=by
    intro j hj cI Xs
    rcases(L.ord D6 hj).resolve_right Xs with h |h |h
    ·omega
    ·exact R.Rp j h
    ·have:=qN L.ok j i h;omega
   by_cases hb:(sinks ops (before ops)).isSome=true/\i=ops.size - 1/\E (ops.size - 2)=false
   ·obtain⟨hs,jr,hE1⟩:=hb;obtain⟨⟨x,y⟩,hs⟩:=ab2.1 hs;obtain⟨q1,q2,id1,id2,a1,a2,yh,qk,SS⟩:=L.sd hs;have n2:=SS.n2;have before2:∀j,iV C.P ops tr j->j<ops.size - 2->E j=true:=λj hj cI=>ordE j hj (by omega) (λhh=>by omega)
    have Qg:k<=ops.size - 2:=by
     rcases aaD (ops.size - 2) k with h |h
     ·have:=D.hi _ SS.r1 h;rw[hE1]at this;cases this
     ·exact h
    have D1:=D.N6 L (ops.size - 2 - k) (by omega) (λj h1 h2 h3=>by
     have:=D.lo j h3 (before2 j h3 (by omega));omega)
    rw[show k+(ops.size - 2 - k)=ops.size - 2 by omega]at D1
    have Yv:o=q2:=by
     have h3:=R.at_;rw[jr,SS.e2]at h3;exact(ZZ h3).symm
    subst Yv
    have kV:∀z∈o.op.operands.toList,ev ρ z=ev (tr (ops.size - 2)).ρ z:=λz hz=>by
     rw[uL z hz,jr]
     cases z with
     |tmp t=>exact congrFun SS.p1 t
     |_=>rfl
    refine iW K S D1.hr D1.er (SS.v2 ρ _ kV SS.g2) (λv w' β' r1 r2 r3 r4=>hK _ _ (.inr ?_));refine⟨q1,o,id1,id2,a1,a2,yh,qk,x,y,b9 ρ o.dst .undef,β',SS,?_,?_,r2,(D1.er.mono r3).put (gS hd D.sz) r1,D.rh.on L R (by rw[SS.d2,jr,show ops.size - 1+1=ops.size by omega,SS.p2,SS.p1];rfl),D1.sp.trans r3,by rw[dM];exact D.df,by rw[fY];exact D.sz⟩
    ·rw[eq' _ (by omega)];exact hE1
    ·intro j hj bJ
     by_cases yz:j=i
     ·exact(R.nj j).2 (.inr yz)
     ·obtain⟨oj,ej,_⟩:=id hj;have:=(aap.1 ej).1;exact(R.nj j).2 (.inl (before2 j hj (by omega)))
   ·refine main (λj hj cI=>?_)
    by_cases Xs:(sinks ops (before ops)).isSome=true/\ops.size<=i+2/\ops.size<=j+2
    ·have jr:i=ops.size - 1:=by omega
     have Yw:j=ops.size - 2:=by omega
     cases he:E j with
     |true=>rfl
     |false=>exact absurd ⟨Xs.1,jr,by rw[<-Yw];exact he⟩ hb
    ·exact ordE j hj cI Xs
 ·have ku:=D.rh.F9 L R;have uL:=D.rh.J3 L R;have jC:∀lv h,ar C run lv o.op ρ h=ar C run lv o.op (tr i).ρ h:=λlv h=>lS uL
  have SS:=D.sd;have n2:=SS.n2
  have stay:∀{r:PV} {v:Value} {w':World} {β':List (Nat×Nat)},¬iV C.P ops tr i->(tr (i+1)).ρ=b9 (tr i).ρ o.dst r->aD w' (Av F ((tr (ops.size - 2)).h.set id2 qk) β') β' ((tr (ops.size - 2)).h.set id2 qk) v r->aZ w' F β' ((tr (ops.size - 2)).h.set id2 qk)->dS w ((tr (ops.size - 2)).h.set id2 qk) β w' ((tr (ops.size - 2)).h.set id2 qk) β'->next (a.put o.dst v) w':=by
   intro r v w' β' hn hr r1 r2 r3
   refine hK _ _ (.inr ⟨q1,q2,id1,id2,a1,a2,yh,qk,x,y,b9 ρ o.dst r,β',SS,?_,?_,r2,(D.er.mono r3).put (gS hd D.sz) r1,D.rh.on L R hr,D.sp.trans r3,by rw[dM];exact D.df,by rw[fY];exact D.sz⟩)
   ·rw[eq' _ (by rintro h;rw[<-h]at hn;exact hn SS.r1)];exact D.s1
   ·intro j hj bJ
    exact(R.nj j).2 (.inl (D.al j hj bJ))
  have quiet:∀{r:PV},bm ops o (tr i).ρ=some true->¬iV C.P ops tr i->(tr (i+1)).ρ=b9 (tr i).ρ o.dst r->ar C run 1 o.op ρ ((tr (ops.size - 2)).h.set id2 qk)=some (r,(tr (ops.size - 2)).h.set id2 qk)->o.wp C.P a w next Q:=by
   intro r hw hn hr e
   exact iW K S D.hr D.er e (λv w' β' r1 r2 r3 r4=>stay hn hr r1 r2 r3)
  cases L.view R.at_ with
  |off hw hy=>
   rw[cQ D.er (by rw[ku];exact hw),if_neg (by simp)];exact stay (noRan λ_ _ _ h3=>by rw[hw]at h3;cases h3) (by rw[hy]) .undef D.hr (dS.refl _ _ _)
  |plain r hx hw hh hv hy=>
   rw[cQ D.er (by rw[ku];exact hw),if_pos rfl];exact .inl (quiet hw (noRan λh2 _ _ _=>by rw[hh]at h2;cases h2) (by rw[hy]) (by rw[jC];exact oE hh hv))
  |rd r hx hw hl hc hv hy=>
   rw[cQ D.er (by rw[ku];exact hw),if_pos rfl];refine .inl (quiet hw (noRan λ_ h2 _ _=>by rw[hl]at h2;cases h2) (by rw[hy]) ?_);rw[jC,fC (.inl hl)];refine(u7 hl hv (λid bU=>?_)).1;exact D.agree L R hl ((u7 hl hv (λ_ _=>rfl)).2 id bU) (hc id bU)
  |made r hx hw hb hv hy=>
   rw[cQ D.er (by rw[ku];exact hw),if_pos rfl];refine .inl (quiet hw (noRan λ_ _ h3 _=>by rw[h3 hb]at hv;cases hv) (by rw[hy]) ?_);rw[fC (.inr hb)];exact y8 hb (λh=>by rw[<-fC (C:=C) (run:=run) (.inr hb),<-fC (C:=C) (run:=run) (.inr hb)];exact jC 1 h) hv
  |two r h' hw hh yA Rq hl hv hle hy=>
   rw[cQ D.er (by rw[ku];exact hw),if_pos rfl];refine .inl ?_;have D6:iV C.P ops tr i:=⟨o,R.at_,hh,yA,Rq,hw⟩
   have jr:i=ops.size - 2:=abY λbJ=>by
    have:=D.al i D6 bJ;rw[R.out]at this;cases this
   have Yv:o=q1:=by
    have h3:=R.at_;rw[jr,SS.e1]at h3;exact(ZZ h3).symm
   subst Yv;have kV:∀z∈o.op.operands.toList,ev ρ z=ev (tr (ops.size - 2)).ρ z:=λz hz=>by rw[uL z hz,jr]
   have hg:((tr (ops.size - 2)).h.set id2 qk)[id1]?=some a1:=by rw[Z7 (aaR SS.ne)];exact SS.g1
   refine iW K S D.hr D.er (SS.v1 ρ _ kV hg) (λv w' β' r1 r2 r3 r4=>hK _ _ (.inl ?_));have zd:(tr ops.size).h=((tr (ops.size - 2)).h.set id2 qk).set id1 yh:=by rw[SS.h2,List.set_comm _ _ SS.ne]
   have E'all:∀j,iV C.P ops tr j->E' j=true:=λj hj=>by
    by_cases yz:j=i
    ·exact(R.nj j).2 (.inr yz)
    ·exact(R.nj j).2 (.inl (D.al j hj (by rw[<-jr];exact yz)))
   refine⟨ops.size,b9 ρ o.dst .undef,β',Z5 _,?_,λj hj _=>E'all j hj,by rw[zd];exact r2,by rw[zd];exact(D.er.mono r3).put (gS hd D.sz) r1,D.rh.on L R (by rw[SS.d1,jr,show ops.size - 2+1=ops.size - 1 by omega,SS.p1];rfl),by rw[zd];exact D.sp.trans r3,by rw[dM];exact D.df,by rw[fY];exact D.sz⟩
   intro j hj _
   obtain⟨oj,ej,_⟩:=hj;exact(aap.1 ej).1
theorem vU.done(L:gu C run ops h0 tr)(D:vU C run ops tr N F w0 N5 β0 E a w)(hE:∀j,j<ops.size->E j=true):∃β,SR N w F β (tr ops.size) a/\dS w0 N5 β0 w (tr ops.size).h β:=by
 rcases D with⟨k,ρ,β,D⟩|⟨q1,q2,id1,id2,a1,a2,yh,qk,x,y,ρ,β,D⟩
 ·have D1:=D.N6 L (ops.size - k) (by have:=D.kn;omega) (λj h1 h2 h3=>by
   have:=D.lo j h3 (hE j (by have:=D.kn;omega));omega)
  rw[show k+(ops.size - k)=ops.size by have:=D.kn;omega]at D1
  have hρ:ρ=(tr ops.size).ρ:=by
   funext t
   refine D1.rh t ops.size (Z5 _) (λj o hj _=>?_);have:j<ops.size:=(aap.1 hj).1;simp[hE j this,this]
  have h2:=D1.er;rw[hρ]at h2;exact⟨β,⟨D1.hr,h2,D1.df,D1.sz⟩,D1.sp⟩
 ·have:=D.s1;rw[hE _ (by have:=D.sd.n2;omega)]at this;cases this
def FL(ids:List Nat)(F:Nat->Prop)(h:ab)(β:List (Nat×Nat))(b:Nat):Prop:=F b\/∃id o bc,ids.contains id=true/\h[id]?=some o/\β[id]?=some bc/\o.mu=.m/\bc.1=b
theorem kW(ids:List Nat)(h:ab)(id:Nat):(cA ids h)[id]?=(h[id]?).map λo=>if ids.contains id then bR o else o:=by
 unfold cA;rw[aaj,abR,acp]
 cases h[id]? <;>simp
theorem BQ(ids:List Nat)(h h':ab)(id:Nat):(dW ids h h')[id]?=(h'[id]?).map λo=>if ids.contains id then(match h[id]? with |some o'=>o'|none=>o)else o:=by
 unfold dW;rw[aaj,abR,acp]
 cases h'[id]? with
 |none=>rfl
 |some o=>
  simp only[aab,Function.comp_apply,aan]
  split <;>rfl
theorem sL(ids:List Nat)(h:ab):(cA ids h).length=h.length:=by unfold cA;simp
variable{β:List (Nat×Nat)}{h:ab}
theorem oO(ids:List Nat)(h:ab):Alike h (cA ids h):=by
 refine⟨(sL ids h).symm,λid o o' e1 e2=>?_⟩;rw[kW,e1]at e2;obtain rfl:=ZZ e2;obtain⟨p1,p2,p3,p4,_⟩:=bD o
 split
 ·exact⟨p1.symm,p2.symm,p3.symm,p4.symm⟩
 ·exact⟨rfl,rfl,rfl,Iff.rfl⟩
theorem vV{ids:List Nat}{b:Nat}(hb:Mb (cA ids h) β b):∃id o bc,ids.contains id=false/\h[id]?=some o/\β[id]?=some bc/\o.mu=.m/\bc.1=b:=by
 obtain⟨id,o,bc,e1,e2,e3,e4⟩:=hb;rw[kW]at e1
 cases ho:h[id]? with
 |none=>rw[ho]at e1;cases e1
 |some o2=>
  rw[ho]at e1;simp only[aab,aax]at e1
  split at e1
  ·subst e1;exact absurd e3 (bD o2).2.2.2.2.1
  ·rename_i hc;subst e1;exact⟨id,o2,bc,by simpa using hc,ho,e2,e3,e4⟩
theorem vW{ids:List Nat}{b:Nat}(hb:Av (FL ids F h β) (cA ids h) β b):Av F h β b:=by
 rcases hb with(hb |⟨id,o,bc,_,e1,e2,e3,e4⟩)|hb
 ·exact .inl hb
 ·exact .inr ⟨id,o,bc,e1,e2,e3,e4⟩
 ·obtain⟨id,o,bc,_,e1,e2,e3,e4⟩:=vV hb;exact .inr ⟨id,o,bc,e1,e2,e3,e4⟩
theorem aZ.cA(H:aZ w F β h)(ids:List Nat):aZ w (FL ids F h β) β (Pm.cA ids h):=by
 have at_:∀(id:Nat) (o:au),(Pm.cA ids h)[id]?=some o->∃o2,h[id]?=some o2/\((ids.contains id=true/\o=bR o2)\/(ids.contains id=false/\o=o2)):=by
  intro id o e
  rw[kW]at e
  cases ho:h[id]? with
  |none=>rw[ho]at e;cases e
  |some o2=>
   rw[ho]at e;simp only[aab,aax]at e
   split at e
   ·rename_i hc;exact⟨o2,rfl,.inl ⟨hc,e.symm⟩⟩
   ·rename_i hc;exact⟨o2,rfl,.inr ⟨by simpa using hc,e.symm⟩⟩
 refine⟨by rw[sL];exact H.len,λb hb=>?_,?_,?_,?_⟩
 ·rcases hb with hb |⟨id,o,bc,_,e1,e2,e3,e4⟩
  ·exact H.fin b hb
  ·exact Av.lt H (.inr ⟨id,o,bc,e1,e2,e3,e4⟩)
 ·intro id o bc e1 e2 e3
  obtain⟨o2,f1,f2⟩:=at_ id o e1;obtain⟨p1,p2,p3,p4,_⟩:=bD o2;rcases f2 with⟨_,rfl⟩|⟨_,rfl⟩
  ·exact(H.obj id o2 bc f1 e2 (λhh=>e3 (p4.2 hh))).alike (oO ids h) (λb=>vW) p2.symm p3.symm
  ·exact(H.obj id o bc f1 e2 e3).alike (oO ids h) (λb=>vW) rfl rfl
 ·intro id dY o o' bc de bJ e1 e2 e3 e4 m1 m2
  obtain⟨o2,f1,f2⟩:=at_ id o e1;obtain⟨Xt,g1,g2⟩:=at_ dY o' e2;rcases f2 with⟨_,rfl⟩|⟨_,rfl⟩
  ·exact absurd m1 (bD o2).2.2.2.2.1
  ·rcases g2 with⟨_,rfl⟩|⟨_,rfl⟩
   ·exact H.ig id dY o Xt bc de bJ f1 g1 e3 e4 m1 (λhh=>m2 ((bD Xt).2.2.2.1.2 hh))
   ·exact H.ig id dY o o' bc de bJ f1 g1 e3 e4 m1 m2
 ·intro id o bc e1 e2 e3 hf
  obtain⟨o2,f1,f2⟩:=at_ id o e1;obtain⟨p1,p2,p3,p4,p5,p6⟩:=bD o2
  have Hs:(ids.contains id=false/\o2.mu=.m)\/o2.mu=.f:=by
   rcases f2 with⟨_,rfl⟩|⟨hc,rfl⟩
   ·rcases e3 with e3 |e3
    ·exact absurd e3 p5
    ·exact .inr (p6.1 e3)
   ·exact e3.imp (λh=>⟨hc,h⟩) (λh=>h)
  rcases hf with hf |⟨dY,o',de,k1,k2,k3,k4,k5⟩
  ·exact H.out id o2 bc f1 e2 (Hs.imp (λh=>h.2) (λh=>h)) hf
  ·have bJ:dY≠id:=by
    rintro rfl;rw[f1]at k2;obtain rfl:=ZZ k2;rcases Hs with h |h
    ·rw[k1]at h;cases h.1
    ·rw[k4]at h;cases h
   exact H.ig dY id o' o2 de bc bJ k2 f1 k3 e2 k4 (by rcases Hs with h |h;rw[h.2];simp;rw[h];simp) k5
theorem aZ.dW(H:aZ w F β h){ids:List Nat}{w':World}{h1:ab}{β1:List (Nat×Nat)}(q2:aZ w' (FL ids F h β) β1 h1)(q3:dS w (Pm.cA ids h) β w' h1 β1)(yA:qH ids h h1=true):
  (∀(v:Value) (p:PV),aD w' (Av (FL ids F h β) h1 β1) β1 h1 v p->aD w' (Av F (Pm.dW ids h h1) β1) β1 (Pm.dW ids h h1) v p)/\aZ w' F β1 (Pm.dW ids h h1)/\dS w h β w' (Pm.dW ids h h1) β1:=by
 have hn:h.length<=h1.length:=by have:=q3.len;rwa[sL]at this
 have yi:(Pm.dW ids h h1).length=h1.length:=by unfold Pm.dW;simp
 have lk:∀(id:Nat) (o:au),h[id]?=some o->ids.contains id=true->h1[id]?=some (bR o)/\β1[id]?=β[id]?/\(Pm.dW ids h h1)[id]?=some o:=λid o ho hc=>by
  have e1:(Pm.cA ids h)[id]?=some (bR o):=by rw[kW,ho];simp only[aab,hc,if_true]
  obtain⟨g1,g2⟩:=q3.JD id (bR o) e1 (bD o).2.2.2.2.1;exact⟨g1,g2,by rw[BQ,g1];simp only[aab,hc,if_true,ho]⟩
 have ul:∀(id:Nat),(ids.contains id=false\/h.length<=id)->(Pm.dW ids h h1)[id]?=h1[id]?:=λid hc=>by
  rw[BQ]
  cases h1[id]? with
  |none=>rfl
  |some o=>
   rcases hc with hc |hc
   ·simp only[aab,hc,aad,if_false]
   ·simp only[aab,aag hc];split <;>rfl
 have cs:∀(id:Nat) (o:au),(Pm.dW ids h h1)[id]?=some o->(ids.contains id=true/\h[id]?=some o/\h1[id]?=some (bR o)/\β1[id]?=β[id]?)\/((ids.contains id=false\/h.length<=id)/\h1[id]?=some o):=λid o e=>by
  by_cases hc:ids.contains id=true/\id<h.length
  ·obtain⟨o2,ho⟩:=mB (l:=h) (i:=id) hc.2;obtain⟨g1,g2,g3⟩:=lk id o2 ho hc.1;rw[g3]at e;obtain rfl:=ZZ e;exact .inl ⟨hc.1,ho,g1,g2⟩
  ·have sG:ids.contains id=false\/h.length<=id:=by
    by_cases h1:ids.contains id=true
    ·exact .inr (Nat.le_of_not_lt λh2=>hc ⟨h1,h2⟩)
    ·exact .inl (by simpa using h1)
   exact .inr ⟨sG,by rw[<-ul id sG];exact e⟩
 have al:Alike h1 (Pm.dW ids h h1):=by
  refine⟨yi.symm,λid o o' e1 e2=>?_⟩;rcases cs id o' e2 with⟨_,_,g1,_⟩|⟨_,g1⟩
  ·rw[g1]at e1;obtain rfl:=ZZ e1;obtain⟨p1,p2,p3,p4,_⟩:=bD o';exact⟨p1,p2,p3,p4⟩
  ·rw[g1]at e1;obtain rfl:=ZZ e1;exact⟨rfl,rfl,rfl,Iff.rfl⟩
 have BR:∀b,Av F (Pm.dW ids h h1) β1 b->Av (FL ids F h β) h1 β1 b:=by
  rintro b (hb |⟨id,o,bc,e1,e2,e3,e4⟩)
  ·exact .inl (.inl hb)
  ·rcases cs id o e1 with⟨hc,g0,g1,g2⟩|⟨_,g1⟩
   ·rw[g2]at e2;exact .inl (.inr ⟨id,o,bc,hc,g0,e2,e3,e4⟩)
   ·exact .inr ⟨id,o,bc,g1,e2,e3,e4⟩
 have lmu:∀(id:Nat) (o:au),(ids.contains id=false\/h.length<=id)->h1[id]?=some o->o.mu=.l->∃o',h[id]?=some o'/\o'.mu=.l:=λid o hc e hm=>by
  have:=Z1.1 yA (o,id) (by rw[aby];exact⟨id,by simp[e]⟩);simp only[hm,ne_eq,not_true_eq_false,decide_false,abA,aaq,Z9,decide_eq_true_eq]at this;rcases this with h2 |h2
  ·rcases hc with hc |hc
   ·rw[hc]at h2;cases h2.1
   ·omega
  ·split at h2
   ·rename_i o' N3;exact⟨o',N3,by simpa using h2⟩
   ·cases h2
 have hMb:∀b,b<w.heap.size->Mb (Pm.dW ids h h1) β1 b->Mb h β b:=by
  rintro b hb ⟨id,o,bc,e1,e2,e3,e4⟩;rcases cs id o e1 with⟨hc,g0,g1,g2⟩|⟨_,g1⟩
  ·rw[g2]at e2;exact⟨id,o,bc,g0,e2,e3,e4⟩
  ·obtain⟨dY,o',de,_,f1,f2,f3,f4⟩:=vV (q3.shr b hb ⟨id,o,bc,g1,e2,e3,e4⟩);exact⟨dY,o',de,f1,f2,f3,f4⟩
 refine⟨λv p q1=>q1.alike al BR,⟨by rw[yi];exact q2.len,λb hb=>aaK (H.fin b hb) q3.size,?_,?_,?_⟩,⟨q3.size,by rw[yi];exact hn,λb hb hm=>q3.aR b hb (λYu=>hm ?_),hMb,?_,?_,q3.os,q3.tape,q3.output,q3.drawn⟩⟩
 ·intro id o bc e1 e2 e3
  rcases cs id o e1 with⟨hc,g0,g1,g2⟩|⟨_,g1⟩
  ·obtain⟨p1,p2,p3,p4,_⟩:=bD o;exact(q2.obj id (bR o) bc g1 e2 (λhh=>e3 (p4.1 hh))).alike al BR p2 p3
  ·exact(q2.obj id o bc g1 e2 e3).alike al BR rfl rfl
 ·intro id dY o o' bc de bJ e1 e2 e3 e4 m1 m2
  rcases cs id o e1 with⟨hc,g0,g1,g2⟩|⟨hc,g1⟩
  ·rcases cs dY o' e2 with⟨sG,g0',Qh,Ve⟩|⟨sG,Qh⟩
   ·rw[g2]at e3;rw[Ve]at e4;exact H.ig id dY o o' bc de bJ g0 g0' e3 e4 m1 m2
   ·rw[g2]at e3;have inF:FL ids F h β bc.1:=.inr ⟨id,o,bc,hc,g0,e3,m1,rfl⟩
    cases hm:o'.mu with
    |m=>exact λheq=>q2.out dY o' de Qh e4 (.inl hm) (heq▸inF)
    |f=>exact λheq=>q2.out dY o' de Qh e4 (.inr hm) (heq▸inF)
    |l=>
     obtain⟨o2,k1,k2⟩:=lmu dY o' sG Qh hm;have DP:ids.contains dY=false:=sG.resolve_right (λhh=>by rw[aag hh]at k1;cases k1);have e5:(Pm.cA ids h)[dY]?=some o2:=by rw[kW,k1];simp only[aab,DP,aad,if_false]
     obtain⟨_,k4⟩:=q3.JD dY o2 e5 (by rw[k2];simp);rw[k4]at e4;exact H.ig id dY o o2 bc de bJ g0 k1 e3 e4 m1 (by rw[k2];simp)
    |x=>exact absurd hm m2
  ·rcases cs dY o' e2 with⟨sG,g0',Qh,Ve⟩|⟨sG,Qh⟩
   ·exact q2.ig id dY o (bR o') bc de bJ g1 Qh e3 e4 m1 (λhh=>m2 ((bD o').2.2.2.1.1 hh))
   ·exact q2.ig id dY o o' bc de bJ g1 Qh e3 e4 m1 m2
 ·intro id o bc e1 e2 e3
  rcases cs id o e1 with⟨hc,g0,g1,g2⟩|⟨hc,g1⟩
  ·rw[g2]at e2;exact H.out id o bc g0 e2 e3
  ·exact λhf=>q2.out id o bc g1 e2 e3 (.inl hf)
 ·obtain⟨dY,o',de,_,f1,f2,f3,f4⟩:=vV Yu;exact⟨dY,o',de,f1,f2,f3,f4⟩
 ·intro id o bc e1 e2 e3
  by_cases hc:ids.contains id=true
  ·obtain⟨g1,g2,g3⟩:=lk id o e1 hc;exact⟨o,bc,g3,by rw[g2];exact e2,e3,⟨Z5 _,λh=>h⟩,λ_=>⟨rfl,λ_=>rfl,rfl⟩⟩
  ·have DP:ids.contains id=false:=by simpa using hc
   have e5:(Pm.cA ids h)[id]?=some o:=by rw[kW,e1];simp only[aab,DP,aad,if_false]
   obtain⟨o',de,f1,f2,f3,f4,f5⟩:=q3.refs id o bc e5 e2 e3;exact⟨o',de,by rw[ul id (.inl DP)];exact f1,f2,f3,f4,f5⟩
 ·intro id o e1 e2
  by_cases hc:ids.contains id=true
  ·obtain⟨g1,g2,g3⟩:=lk id o e1 hc;exact⟨g3,g2⟩
  ·have DP:ids.contains id=false:=by simpa using hc
   have e5:(Pm.cA ids h)[id]?=some o:=by rw[kW,e1];simp only[aab,DP,aad,if_false]
   obtain⟨f1,f2⟩:=q3.JD id o e5 e2;exact⟨by rw[ul id (.inl DP)];exact f1,f2⟩
theorem N7(K:fT C)(S:gL C run)(hm:C.P.follows .mixedOrders=true){id:Nat}{Q:Exit->Act->World->Prop}(hd:ops.toList.all (jv N)=true)(hk:mi ops=true){β:List (Nat×Nat)}{s s':St}(R:SR N w F β s a)
  (e:iS C run ops s=some s') (hQ:∀a' w' β',SR N w' F β' s' a'->dS w s.h β w' s'.h β'->Q .normal a' w'):(Code.region id ops true).wp C.P Q a w:=by
 unfold iS at e;generalize Ay:gq ops (before ops) s.ρ=ids at e
 split at e
 ·rename_i y he
  split at e
  ·rename_i yA
   obtain rfl:=ZZ e;obtain⟨tr,t1,t2,t3⟩:=oM ops.toList 0 _ _ he;have Xu:tr ops.size=y:=by simpa using t3
   have L:gu C run ops (cA ids s.h) tr:=⟨hk,λi o ho=>by simpa using t2 i o (by simpa using ho),by rw[t1],by rw[Xu];exact yA.2⟩
   refine wp_region_any hm (ze (C:=C) hk (λE a' w'=>vU C run ops tr N (FL ids F s.h β) w (cA ids s.h) β E a' w')
    (λE E' a' w' i o D R' next hK=>vU.step K S L D R' (Z1.1 hd o (acg.2 (abL R'.at_))) hK)
    (λE a' w' D eF=>?_) ops.size _ a _ (by simp) (λi o ho hl=>by rw[getD_none]at hl;cases hl) ?_ ?_)
   ·obtain⟨β1,h1,h2⟩:=D.done L eF;rw[Xu]at h1 h2;obtain⟨u1,u2,u3⟩:=R.hr.dW h1.hr h2 yA.1;exact hQ a' w' β1 ⟨u2,λt=>u1 _ _ (h1.er t),h1.df,h1.sz⟩ u3
   ·refine aaQ (List.countP_le_length) (by simp)
   ·have hE:∀j,(Array.replicate ops.size false).getD j false=false:=λj=>getD_none _ j
    have G:dF w {w with drawn:=w.drawn+1}:=dF.drew w;have HL:=R.hr.cA ids;have ER:gR w (Av (FL ids F s.h β) (cA ids s.h) β) β (cA ids s.h) a s.ρ:=λt=>(R.er t).alike (oO ids s.h) (λb=>vW)
    refine .inl ⟨0,s.ρ,β,⟨abm _,λj _ h=>(by rw[hE]at h;cases h),λj _ h=>by omega,by rw[t1];exact HL.JY G,by rw[t1];exact ER.mono (G.Qe _ β),?_,by rw[t1];exact G.Qe _ β,R.df,R.sz⟩⟩
    intro t k' fB hw
    rw[L.mC (t:=t) (i:=0) k' (abm _) fB (λj o h1 h2 h3 h4=>by
     have h5:(Array.replicate ops.size false).getD j false=true:=(hw j o h3 h4).2 h2;rw[hE]at h5;cases h5),t1]
  ·cases e
 ·cases e
end Go.Pm
namespace Go.Pm
def codeOk(N:Nat):Code->Bool
 | .region _ ops draw=>ops.toList.all (jv N)&& (!draw ||mi ops)
 | .seq a b=>codeOk N a&&codeOk N b
 | .cond _ a b=>codeOk N a&&codeOk N b
 | .block _ c=>codeOk N c
 | .loop c=>codeOk N c
 | .scope c=>codeOk N c
 |_=>true
def PB:Ex->Exit
 | .normal=>.normal
 | .exit id=>.exit id
 | .ret=>.ret
theorem Dx{C:cP}(K:fT C)(hm:C.P.follows .mixedOrders=true){run:hZ}(S:gL C run){N:Nat}{F:Nat->Prop}{n:Nat}:∀(c:Code) {s s':St} {ex:Ex} {a:Act} {w:World} {β:List (Nat×Nat)} {Q:Exit->Act->World->Prop},
  codeOk N c=true->bO C run n c s=some (ex,s')->SR N w F β s a->(∀a' w' β',SR N w' F β' s' a'->dS w s.h β w' s'.h β'->Q (PB ex) a' w')->c.wp C.P Q a w:=by
 intro c
 induction c with
 |skip=>
  intro s s' ex a w β Q hc e R hQ
  simp only[bO,aax,acv]at e;obtain⟨rfl,rfl⟩:=e;exact wp_skip (hQ a w β R (dS.refl _ _ _))
 |label l=>
  intro s s' ex a w β Q hc e R hQ
  simp only[bO,aax,acv]at e;obtain⟨rfl,rfl⟩:=e;exact wp_label (hQ a w β R (dS.refl _ _ _))
 |exit id=>
  intro s s' ex a w β Q hc e R hQ
  simp only[bO,aax,acv]at e;obtain⟨rfl,rfl⟩:=e;exact wp_exit (hQ a w β R (dS.refl _ _ _))
 |ret=>
  intro s s' ex a w β Q hc e R hQ
  simp only[bO,aax,acv]at e;obtain⟨rfl,rfl⟩:=e;exact wp_ret (hQ a w β R (dS.refl _ _ _))
 |region id ops draw=>
  intro s s' ex a w β Q hc e R hQ
  simp only[codeOk,Z9,aaq,abh]at hc;simp only[bO]at e
  cases draw with
  |false=>
   simp only[aad,if_false]at e
   split at e
   ·rename_i s1 he
    obtain⟨rfl,rfl⟩:=aaa (ZZ e);exact HI K S hc.1 R he hQ
   ·cases e
  |true=>
   simp only[if_true]at e
   by_cases hk:rC ops=true
   ·simp only[hk,if_true]at e
    cases he:iS C run ops s with
    |none=>rw[he]at e;simp at e
    |some y=>
     rw[he]at e;obtain⟨rfl,rfl⟩:=aaa (ZZ e);exact N7 K S hm hc.1 (by simpa using hc.2) R he hQ
   ·simp only[hk,if_false]at e
    cases he:dE C run ops (before ops) 0 ops.toList ⟨s,s.h.length,[]⟩with
    |none=>rw[he]at e;simp at e
    |some y=>
     rw[he]at e;simp only[aab]at e;obtain⟨rfl,rfl⟩:=aaa (ZZ e);exact EF K S hm hc.1 (by simpa using hc.2) R he hQ
 |seq x y ihx ihy=>
  intro s s' ex a w β Q hc e R hQ
  simp only[codeOk,Z9]at hc;simp only[bO]at e;refine wp_seq ?_
  cases hx:bO C run n x s with
  |none=>rw[hx]at e;cases e
  |some r=>
   obtain⟨W9,s1⟩:=r;rw[hx]at e;refine ihx hc.1 hx R (λa1 w1 β1 R1 S1=>?_)
   cases W9 with
   |normal=>exact ihy hc.2 e R1 (λa2 w2 β2 R2 S2=>hQ a2 w2 β2 R2 (S1.trans S2))
   |exit id=>
    obtain⟨rfl,rfl⟩:=aaa (ZZ e);exact hQ a1 w1 β1 R1 S1
   |ret=>
    obtain⟨rfl,rfl⟩:=aaa (ZZ e);exact hQ a1 w1 β1 R1 S1
 |cond c x y ihx ihy=>
  intro s s' ex a w β Q hc e R hQ
  simp only[codeOk,Z9]at hc;simp only[bO]at e
  split at e
  ·rename_i hb
   have:=R.er.ev c;rw[hb]at this;exact wp_cond_true this.gd (ihx hc.1 e R hQ)
  ·rename_i hb
   have:=R.er.ev c;rw[hb]at this;exact wp_cond_false this.gd (ihy hc.2 e R hQ)
  ·cases e
 |block id c ih=>
  intro s s' ex a w β Q hc e R hQ
  simp only[codeOk]at hc;simp only[bO]at e;refine wp_block ?_
  cases hx:bO C run n c s with
  |none=>rw[hx]at e;cases e
  |some r=>
   obtain⟨W9,s1⟩:=r;rw[hx]at e;refine ih hc hx R (λa1 w1 β1 R1 S1=>?_)
   cases W9 with
   |normal=>
    obtain⟨rfl,rfl⟩:=aaa (ZZ e);exact hQ a1 w1 β1 R1 S1
   |exit dY=>
    simp only at e;simp only[PB,Exit.inBlock]
    split at e
    ·rename_i bU
     obtain⟨rfl,rfl⟩:=aaa (ZZ e);rw[if_pos bU];exact hQ a1 w1 β1 R1 S1
    ·rename_i bU
     obtain⟨rfl,rfl⟩:=aaa (ZZ e);rw[if_neg bU];exact hQ a1 w1 β1 R1 S1
   |ret=>
    obtain⟨rfl,rfl⟩:=aaa (ZZ e);exact hQ a1 w1 β1 R1 S1
 |loop c ih=>
  intro s s' ex a w β Q hc e R hQ
  simp only[codeOk]at hc;simp only[bO]at e
  have key:∀(m:Nat) {s:St} {a:Act} {w:World} {β:List (Nat×Nat)},iter (bO C run n c) m s=some (ex,s')->SR N w F β s a->(∀a' w' β',SR N w' F β' s' a'->dS w s.h β w' s'.h β'->Q (PB ex) a' w')->Code.rounds C.P c Q m a w:=by
   intro m
   induction m with
   |zero=>intro s a w β e;simp[iter]at e
   |succ m ihm=>
    intro s a w β e R hQ
    simp only[iter]at e;rw[rounds_succ]
    cases hx:bO C run n c s with
    |none=>rw[hx]at e;cases e
    |some r=>
     obtain⟨W9,s1⟩:=r;rw[hx]at e;refine ih hc hx R (λa1 w1 β1 R1 S1=>?_)
     cases W9 with
     |normal=>exact ihm e R1 (λa2 w2 β2 R2 S2=>hQ a2 w2 β2 R2 (S1.trans S2))
     |exit id=>
      obtain⟨rfl,rfl⟩:=aaa (ZZ e);exact hQ a1 w1 β1 R1 S1
     |ret=>
      obtain⟨rfl,rfl⟩:=aaa (ZZ e);exact hQ a1 w1 β1 R1 S1
  exact wp_loop_rounds n (key n e R hQ)
 |scope c ih=>
  intro s s' ex a w β Q hc e R hQ
  simp only[codeOk]at hc;simp only[bO]at e;refine wp_scope_straight (ih hc e R (λa1 w1 β1 R1 S1=>?_))
  cases ex <;>exact hQ a1 w1 β1 R1 S1
 |_=>
  intro s s' ex a w β Q hc e R hQ
  simp[bO]at e
def tL(r:ResultVar)(tmps:Array Value):Sem Value:=
 match r with
 | .tmp t=>pure (tmps.getD t undef)
 | .cell a t=>do loadVar t (<-asAddr (tmps.getD a undef))
theorem sB{P:Program}{w:World}{F:Nat->Prop}{β:List (Nat×Nat)}{h:ab}{a:Act}{ρ:Nat->PV}(H:aZ w F β h)(R:gR w (Av F h β) β h a ρ):∀(l:List ResultVar) (vs:List PV),dj P h ρ l=some vs->
  ∃us:List Value,(l.mapM (λr=>tL r a.tmps)).run P w=.ok us w/\L2 (aD w (Av F h β) β h) us vs
 |[],vs,e=>by
  simp[dj]at e;subst e;exact⟨[],by simp,rfl,λj hj=>by simp at hj⟩
 |r::l,vs,e=>by
  simp only[dj]at e
  split at e
  ·rename_i v FA h1 h2
   obtain rfl:=ZZ e;obtain⟨us,u1,u2,u3⟩:=sB H R l FA h2
   have one:∃u,(tL r a.tmps).run P w=.ok u w/\aD w (Av F h β) β h u v:=by
    cases r with
    |tmp t=>
     obtain rfl:=ZZ h1;exact⟨_,rfl,R t⟩
    |cell x t=>
     obtain⟨u,k1,k2⟩:=Dm (P:=P) H (R x) h1;refine⟨u,?_,k2⟩;rw[<-k1];unfold tL Instr.loadAt;simp only[Sem.run_bind];unfold Instr.loadAt at k1;simp only[Sem.run_bind]at k1;generalize a.tmps.getD x undef=y at k1 ⊢
     cases y with
     |pointer p=>
      cases p with
      |some ad=>simp[Instr.sureAddr,asAddr]
      |none=>simp[Instr.sureAddr]at k1
     |_=>simp[Instr.sureAddr]at k1
   obtain⟨u,o1,o2⟩:=one;refine⟨u::us,?_,by simp[u2],λj hj=>?_⟩
   ·simp only[List.mapM_cons,Sem.run_bind,o1,u1,Result.andThen_ok,Sem.run_pure]
   ·cases j with
    |zero=>simpa using o2
    |succ j=>simpa using u3 j (by simpa using hj)
  ·cases e
theorem uA{P:Program}{w:World}{F:Nat->Prop}{β:List (Nat×Nat)}{h:ab}{a:Act}{ρ:Nat->PV}(H:aZ w F β h)(R:gR w (Av F h β) β h a ρ)(fn:Func){vs:List PV}(e:dj P h ρ fn.results.toList=some vs):
  ∃u,(results fn a.tmps).run P w=.ok u w/\aD w (Av F h β) β h u (aY vs):=by
 obtain⟨us,u1,u2,u3⟩:=sB (P:=P) H R _ _ e
 have fP:(fn.results.mapM (λr=>tL r a.tmps)).run P w=.ok us.toArray w:=by
  rw[<-Array.toArray_toList (xs:=fn.results),List.mapM_toArray];simp only[Sem.run_map,u1,Result.andThen_ok]
 refine⟨if h:us.toArray.size=1 then us.toArray[0]else .tuple us.toArray,?_,?_⟩
 ·have:results fn a.tmps=(do let vs<-fn.results.mapM (λr=>tL r a.tmps);pure (if h:vs.size=1 then vs[0]else .tuple vs)):=by
   unfold results tL
   rfl
  rw[this];simp only[Sem.run_bind,fP,Result.andThen_ok,Sem.run_pure]
 ·match us,vs,u2 with
  |[],[],_=>exact .cx [] [] rfl (λj hj=>by simp at hj)
  |[u],[v],_=>simpa[aY]using u3 0 (by simp)
  |u1::u2::us,v1::v2::vs,hl=>
   have:¬((u1::u2::us).toArray.size=1):=by simp
   rw[dif_neg this];exact .cx _ _ hl u3
structure pR(C:cP):Prop where
 BH:∀(f:FuncId) (fn:Func) (c:Code),(C.mode f=.pure\/C.mode f=.opened)->C.P.funcs[f]?=some fn->fn.body=some c->codeOk fn.ntmps c=true
 mixed:C.P.follows .mixedOrders=true
theorem I9{C:cP}(K:fT C)(KC:pR C){run:hZ}(S:gL C run){n:Nat}{f:FuncId}(hf:C.mode f=.pure\/C.mode f=.opened):fq C.P f (oB C run n f):=by
 intro args h r h' e w F β vs H ha
 unfold oB at e
 split at e
 ·rename_i fn Nt
  split at e
  ·rename_i c hc
   have main:∀(ex:Ex) (s:St),bO C run n c ⟨my args,h⟩=some (ex,s)->(ex=.normal\/ex=.ret)->(∃vs,dj C.P s.h s.ρ fn.results.toList=some vs/\r=aY vs/\h'=s.h)->mh C.P 2 w F β h f vs r h':=by
    rintro ex s pT hex ⟨rs,W2,rfl,rfl⟩;refine calls_of_wp Nt hc ?_;have hlen:=ha.1
    have R:SR fn.ntmps w F β ⟨my args,h⟩ {tmps:=vs.toArray++Array.replicate (fn.ntmps - vs.toArray.size) undef,defers:=[]}:=by
     refine⟨H,λt=>?_,rfl,by simp;omega⟩;show aD w (Av F h β) β h ((vs.toArray++Array.replicate (fn.ntmps - vs.toArray.size) undef).getD t Go.undef) (args.getD t .undef)
     by_cases ht:t<args.length
     ·have e1:(vs.toArray++Array.replicate (fn.ntmps - vs.toArray.size) undef).getD t Go.undef=vs.getD t Go.undef:=by
       rw[abk,abQ,if_pos (by simp;omega)];simp[List.getD]
      have e2:args.getD t .undef=args.getD t .any:=by simp[List.getD,ht]
      rw[e1,e2];exact ha.2 t ht
     ·have e1:(vs.toArray++Array.replicate (fn.ntmps - vs.toArray.size) undef).getD t Go.undef=Go.undef:=by
       rw[abk,abQ];rw[if_neg (by simp;omega)];rw[ab5]
       split <;>rfl
      have e2:args.getD t .undef=.undef:=by simp[List.getD,aag (show args.length<=t by omega)]
      rw[e1,e2];exact .undef
    refine Dx K KC.mixed S c (KC.BH f fn c hf Nt hc) pT R (λa' w' β' R' S'=>?_);obtain⟨u,r1,r2⟩:=uA (P:=C.P) R'.hr R'.er fn W2;rcases hex with rfl |rfl
    ·exact⟨R'.df,u,r1,u,β',rfl,r2,R'.hr,S',λhh=>by omega⟩
    ·exact⟨R'.df,u,r1,u,β',rfl,r2,R'.hr,S',λhh=>by omega⟩
   cases pT:bO C run n c ⟨my args,h⟩with
   |none=>rw[pT]at e;cases e
   |some x=>
    obtain⟨ex,s⟩:=x;rw[pT]at e
    have fin:(match dj C.P s.h s.ρ fn.results.toList with |some vs=>some (aY vs,s.h)|none=>none)=some (r,h')->∃vs,dj C.P s.h s.ρ fn.results.toList=some vs/\r=aY vs/\h'=s.h:=by
     intro e
     split at e
     ·rename_i rs W2
      obtain⟨rfl,rfl⟩:=aaa (ZZ e);exact⟨rs,W2,rfl,rfl⟩
     ·cases e
    cases ex with
    |normal=>exact main .normal s pT (.inl rfl) (fin e)
    |ret=>exact main .ret s pT (.inr rfl) (fin e)
    |exit id=>cases e
  ·cases e
 ·cases e
theorem vO{C:cP}(K:fT C)(KC:pR C):∀n,gL C (fe C n)
 |0=>λf _ args h r h' e=>by cases e
 |n+1=>λf hf=>I9 K KC (vO K KC n) hf
theorem zV{C:cP}(K:fT C)(KC:pR C){n:Nat}{f:FuncId}(hf:C.mode f=.pure\/C.mode f=.opened){args:List PV}{r:PV}(e:oC C n f args=some r)
  {w:World} {A:Nat->Prop} (hA:∀b,A b->b<w.heap.size) {vs:List Value} (ha:L2 (cj w A) vs args):
  Calls C.P f vs.toArray w λen w'=>∃v,en=.returned v/\cj w' A v r/\dF w w':=by
 unfold oC at e
 split at e
 ·rename_i r0 hc h1
  cases h2:yU hc r0 with
  |none=>rw[h2]at e;cases e
  |some r1=>
   rw[h2]at e;obtain rfl:=ZZ e;have Yr:∀b,Av A [] [] b↔A b:=λb=>⟨λh=>h.elim id (λh=>absurd h (vP b)),.inl⟩
   have jr:L2 (aD w (Av A [] []) [] []) vs args:=⟨ha.1,λj hj=>.val ((ha.2 j hj).uK (λb hb=>(Yr b).1 hb))⟩;refine(vO K KC n f hf args [] r0 hc h1 w A [] vs (aZ.empty w A hA) jr).mono ?_;rintro en w' ⟨v,β',rfl,q1,q2,q3,_⟩;refine⟨v,rfl,?_,tV q3⟩;refine(F7 q2 (λb _ hb ha=>hb (.inl ha)) q1 h2 (λid o bc m1 m2 m3=>?_)).cf;rcases m3 with m3 |m3
   ·exact q2.out id o bc m1 m2 (.inl m3)
   ·exact q2.out id o bc m1 m2 (.inr m3)
 ·cases e
end Go.Pm
