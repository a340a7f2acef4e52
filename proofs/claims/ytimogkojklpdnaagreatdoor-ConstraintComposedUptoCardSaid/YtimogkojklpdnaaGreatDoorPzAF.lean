/-
  A part of the library Pm (joined by program). Conditions: none.
-/
import Derived.Test.YtimogkojklpdnaaGreatDoorPzAA
import Derived.Test.YtimogkojklpdnaaGreatDoorPzAE
import Derived.LoopN
import Derived.Scope
set_option linter.unusedVariables false
set_option linter.unusedSimpArgs false
set_option linter.unnecessarySimpa false
namespace Go.Pm
variable{w:World}{F:Nat->Prop}{β:List (Nat×Nat)}{h:ab}
theorem oZ{h:ab}{id:Nat}:aL h id=true↔∃o,h[id]?=some o/\o.mu≠.x:=by
 unfold aL
 cases h[id]? with
 |none=>simp
 |some o=>simp
theorem mL(f:Nat->Bool)(cs:List PV):bw f cs=cs.all (br f):=by
 induction cs with
 |nil=>rfl
 |cons c r ih=>simp[bw,ih]
theorem aD.restrict{A A':Nat->Prop}{M:ab}{β':List (Nat×Nat)}(hM:∀(id:Nat) (o:au),M[id]?=some o->o.mu≠.x->h[id]?=some o/\β'[id]?=β[id]?)(hA:∀b,A' b->A b)
  {v:Value} {p:PV} (r:aD w A β h v p) (hv:br (aL M) p=true):aD w A' β' M v p:=by
 induction r with
 |val hs=>exact .val (hs.ub hA)
 |undef=>exact .undef
 |any v=>exact .any v
 |aj v id ep off len o bc h0 h1 h2 h3 h4 h5=>
  obtain⟨o',e1,e2⟩:=oZ.1 (by simpa[br]using hv);obtain⟨f1,f2⟩:=hM id o' e1 e2;rw[h1]at f1;obtain rfl:=Zu f1;exact .aj v id ep off len o bc h0 e1 (by rw[f2];exact h2) h3 h4 h5
 |ptr v id ep i off o bc h0 h1 h2 h3 h4 h5=>
  obtain⟨o',e1,e2⟩:=oZ.1 (by simpa[br]using hv);obtain⟨f1,f2⟩:=hM id o' e1 e2;rw[h1]at f1;obtain rfl:=Zu f1;exact .ptr v id ep i off o bc h0 e1 (by rw[f2];exact h2) h3 h4 h5
 |cB v id o bc h0 h1 h2 h3 h5=>
  obtain⟨o',e1,e2⟩:=oZ.1 (by simpa[br]using hv);obtain⟨f1,f2⟩:=hM id o' e1 e2;rw[h1]at f1;obtain rfl:=Zu f1;exact .cB v id o bc h0 e1 (by rw[f2];exact h2) h3 h5
 |agg vs cs hl _ ih=>exact .agg vs cs hl (λj hj=>ih j hj (by simp only[br,mL]at hv;exact fk hv hj))
 |cm vs cs hl _ ih=>exact .cm vs cs hl (λj hj=>ih j hj (by simp only[br,mL]at hv;exact fk hv hj))
 |fn f vs cs hl _ ih=>exact .fn f vs cs hl (λj hj=>ih j hj (by simp only[br,mL]at hv;exact fk hv hj))
 |mR f k vs cs hl _ ih=>exact .mR f k vs cs hl (λj hj=>ih j hj (by simp only[br,mL]at hv;exact fk hv hj))
theorem EK{f:Nat->Bool}{e q:PV}(hv:br f e=true)(hq:q∈Pm.cells e):br f q=true:=by
 cases e <;>first
  |(simp only[Pm.cells,ZY]at hq;subst hq;exact hv)
  |(simp only[br,mL]at hv;exact Zw.1 hv q hq)
theorem jU.to{w':World}{h':ab}{β':List (Nat×Nat)}{A A':Nat->Prop}{o:au}{bc:Nat×Nat}(hb:w'.heap[bc.1]?=w.heap[bc.1]?)
  (r:jU w A β h o bc) (hv:∀(v:Value) (e p:PV),e∈o.es->p∈Pm.cells e->aD w A β h v p->aD w' A' β' h' v p):jU w' A' β' h' o bc:=by
 rcases r with⟨T,cs,h1,h2,h3,h4,h5⟩|⟨h0,es,clock,h1,h2,h3⟩
 ·refine .inl ⟨T,cs,hb.trans h1,h2,h3,h4,λi e he=>⟨(h5 i e he).1,λj p hp=>?_⟩⟩;obtain⟨v,k1,k2⟩:=(h5 i e he).2 j p hp;exact⟨v,k1,hv v e p (ZK he) (ZK hp) k2⟩
 ·refine .inr ⟨h0,es,clock,hb.trans h1,h2,λi e he=>?_⟩;obtain⟨k,v,m,q1,q2,q3,q4⟩:=h3 i e he;subst q1;exact⟨k,v,m,rfl,q2,hv _ _ _ (ZK he) (by simp[Pm.cells]) q3,hv _ _ _ (ZK he) (by simp[Pm.cells]) q4⟩
theorem aZ.pad(H:aZ w F β h)(ext:ab)(γ:List (Nat×Nat))(hl:γ.length=ext.length)(hx:∀o∈ext,o.mu=.x):
  aZ w F (β++γ) (h++ext)/\dN w h β w (h++ext) (β++γ):=by
 have hlen:=H.len
 have back:∀(id:Nat) (o:au) (bc:Nat×Nat),(h++ext)[id]?=some o->(β++γ)[id]?=some bc->o.mu≠.x->h[id]?=some o/\β[id]?=some bc:=by
  intro id o bc e1 e2 e3
  by_cases bT:id<h.length
  ·rw[Zv bT]at e1;rw[Zv (by omega)]at e2;exact⟨e1,e2⟩
  ·rw[ZI (by omega)]at e1;exact absurd (hx o (ZK e1)) e3
 have forth:∀(id:Nat),id<h.length->(h++ext)[id]?=h[id]?/\(β++γ)[id]?=β[id]?:=λid bT=>
  ⟨Zv bT,Zv (by omega)⟩
 have hm:∀b,Mb (h++ext) (β++γ) b->Mb h β b:=by
  rintro b ⟨id,o,bc,e1,e2,e3,e4⟩;obtain⟨f1,f2⟩:=back id o bc e1 e2 (by rw[e3];simp);exact⟨id,o,bc,f1,f2,e3,e4⟩
 have hs:dN w h β w (h++ext) (β++γ):=by
  refine⟨Zz _,by simp,λ_ _ _=>rfl,λb _ m=>hm b m,?_,?_,rfl,rfl,rfl,Zz _⟩
  ·intro id o bc e1 e2 e3
   obtain⟨f1,f2⟩:=forth id (ag e1);exact⟨o,bc,by rw[f1];exact e1,by rw[f2];exact e2,e3,⟨Zz _,λh=>h⟩,λ_=>⟨rfl,λ_=>rfl,rfl⟩⟩
  ·intro id o e1 _
   obtain⟨f1,f2⟩:=forth id (ag e1);exact⟨by rw[f1];exact e1,f2⟩
 refine⟨⟨by simp[hlen,hl],H.fin,?_,?_,?_⟩,hs⟩
 ·intro id o bc e1 e2 e3
  obtain⟨f1,f2⟩:=back id o bc e1 e2 e3;exact jU.mono hs rfl (H.obj id o bc f1 f2 e3)
 ·intro id dS o o' bc c8 bI e1 e2 e3 e4 m1 m2
  obtain⟨f1,f2⟩:=back id o bc e1 e3 (by rw[m1];simp);obtain⟨g1,g2⟩:=back dS o' c8 e2 e4 m2;exact H.hC id dS o o' bc c8 bI f1 g1 f2 g2 m1 m2
 ·intro id o bc e1 e2 e3
  obtain⟨f1,f2⟩:=back id o bc e1 e2 (by rcases e3 with e3 |e3 <;>rw[e3] <;>simp);exact H.out id o bc f1 f2 e3
def Fp(F:Nat->Prop)(β:List (Nat×Nat))(h M:ab)(b:Nat):Prop:=F b\/∃(id:Nat) (o:au) (bc:Nat×Nat),h[id]?=some o/\β[id]?=some bc/\o.mu=.m/\bc.1=b/\M[id]?≠some o
theorem Fp.av{M:ab}{b:Nat}(hf:Fp F β h M b):Av F h β b:=by
 rcases hf with hf |⟨id,o,bc,e1,e2,e3,e4,_⟩
 ·exact .inl hf
 ·exact .inr ⟨id,o,bc,e1,e2,e3,e4⟩
theorem aZ.part(H:aZ w F β h){M:ab}(hl:M.length<=h.length)(hM:∀(id:Nat) (o:au),M[id]?=some o->o.mu≠.x->h[id]?=some o)(hc:aR M=true):
  aZ w (Fp F β h M) (β.take M.length) M/\(∀(v:Value) (p:PV),aD w (Av F h β) β h v p->br (aL M) p=true->aD w (Av (Fp F β h M) M (β.take M.length)) (β.take M.length) M v p):=by
 have hlen:=H.len;have hb:∀id,id<M.length->(β.take M.length)[id]?=β[id]?:=λid bT=>by rw[ZO,if_pos bT]
 have TX:∀(id:Nat) (o:au),M[id]?=some o->o.mu≠.x->h[id]?=some o/\(β.take M.length)[id]?=β[id]?:=λid o e1 e2=>⟨hM id o e1 e2,hb id (ag e1)⟩
 have hA:∀b,Av (Fp F β h M) M (β.take M.length) b->Av F h β b:=by
  rintro b (hf |⟨id,o,bc,e1,e2,e3,e4⟩)
  ·exact hf.av
  ·obtain⟨f1,f2⟩:=TX id o e1 (by rw[e3];simp);exact .inr ⟨id,o,bc,f1,by rw[<-f2];exact e2,e3,e4⟩
 have hv:∀(v:Value) (p:PV),aD w (Av F h β) β h v p->br (aL M) p=true->aD w (Av (Fp F β h M) M (β.take M.length)) (β.take M.length) M v p:=λv p r hv=>r.restrict TX hA hv
 refine⟨⟨by simp;omega,λb hb=>Av.lt H (Fp.av hb),?_,?_,?_⟩,hv⟩
 ·intro id o bc e1 e2 e3
  obtain⟨f1,f2⟩:=TX id o e1 e3;rw[f2]at e2;refine(H.obj id o bc f1 e2 e3).to rfl (λv e p he hp r=>hv v p r ?_);have:=Zw.1 hc o (ZK e1);simp only[ZU,decide_eq_true_eq,mL]at this;exact EK (Zw.1 (this.resolve_left e3) e he) hp
 ·intro id dS o o' bc c8 bI e1 e2 e3 e4 m1 m2
  obtain⟨f1,f2⟩:=TX id o e1 (by rw[m1];simp);obtain⟨g1,g2⟩:=TX dS o' e2 m2;exact H.hC id dS o o' bc c8 bI f1 g1 (by rw[<-f2];exact e3) (by rw[<-g2];exact e4) m1 m2
 ·intro id o bc e1 e2 e3
  have TQ:o.mu≠.x:=by rcases e3 with e3 |e3 <;>rw[e3] <;>simp
  obtain⟨f1,f2⟩:=TX id o e1 TQ;rw[f2]at e2;rintro(hf |⟨id2,o2,Ea,g1,g2,g3,g4,g5⟩)
  ·exact H.out id o bc f1 e2 e3 hf
  ·have bI:id2≠id:=by
    rintro rfl;rw[f1]at g1;obtain rfl:=Zu g1;exact g5 e1
   exact H.hC id2 id o2 o Ea bc bI g1 f1 g2 e2 g3 TQ g4
theorem aZ.merge(H:aZ w F β h){M ext h':ab}{β1:List (Nat×Nat)}{w':World}(hl:M.length+ext.length<=h.length)(hM:∀(id:Nat) (o:au),M[id]?=some o->o.mu≠.x->h[id]?=some o)
  (H1:aZ w' (Fp F β h M) β1 (M++ext)) (S1:dN w M (β.take M.length) w' (M++ext) β1) (G:dz w w') (xT:∀o∈ext,o.mu≠.l)
  (VK:h'.length=h.length) (kG:∀id:Nat,M.length<=id->id<M.length+ext.length->h'[id]?=ext[id - M.length]?) (sq:∀id:Nat,(id<M.length\/M.length+ext.length<=id)->h'[id]?=h[id]?)
  (YO:∀(id:Nat) (o:au),M.length<=id->id<M.length+ext.length->h[id]?=some o->o.mu=.x):
  ∃β',aZ w' F β' h'/\FQ h β h' β'/\(∀b,b<w.heap.size->¬Av F h β b->¬Av F h' β' b)/\(∀b,b<w.heap.size->Mb h' β' b->Mb h β b)/\(∀id:Nat,id<M.length->β'[id]?=β[id]?)/\
   (∀(v:Value) (p:PV),aD w' (Av (Fp F β h M) (M++ext) β1) β1 (M++ext) v p->aD w' (Av F h' β') β' h' v p):=by
 have hlen:=H.len;have xD:=H1.len;simp only[Zx]at xD;have hml:(β1.drop M.length).length=ext.length:=by simp;omega
 have hβ:∀k,(β.take M.length++β1.drop M.length++β.drop (M.length+(β1.drop M.length).length))[k]?=if k<M.length then β[k]? else if k<M.length+ext.length then β1[k]? else β[k]?:=by
  intro k
  rw[gd _ _ _ _ (by omega),hml]
  split
  ·rfl
  ·split
   ·rw[Z7];congr 1;omega
   ·rfl
 refine⟨β.take M.length++β1.drop M.length++β.drop (M.length+(β1.drop M.length).length),?_⟩;generalize hβ':β.take M.length++β1.drop M.length++β.drop (M.length+(β1.drop M.length).length)=β' at hβ ⊢
 have MA:β'.length=h'.length:=by
  rw[<-hβ',VK];simp;omega
 have bin:∀id,M.length<=id->id<M.length+ext.length->β'[id]?=β1[id]?:=λid h1 h2=>by rw[hβ,if_neg (by omega),if_pos h2]
 have bout:∀id,(id<M.length\/M.length+ext.length<=id)->β'[id]?=β[id]?:=λid h1=>by
  rw[hβ]
  by_cases h2:id<M.length
  ·rw[if_pos h2]
  ·rw[if_neg h2,if_neg (by omega)]
 have pin:∀id,M.length<=id->id<M.length+ext.length->(M++ext)[id]?=ext[id - M.length]?:=λid h1 _=>ZI h1
 have pold:∀id,id<M.length->(M++ext)[id]?=M[id]?:=λid h1=>Zv h1
 have both:∀(id:Nat) (o:au) (bc:Nat×Nat),M[id]?=some o->o.mu≠.x->β[id]?=some bc->β1[id]?=some bc:=by
  intro id o bc e1 e2 e3
  have bT:=ag e1;obtain⟨o',c8,f1,f2,f3,f4,f5⟩:=S1.refs id o bc e1 (by rw[ZO,if_pos bT];exact e3) e2;rw[pold id bT,e1]at f1;obtain rfl:=Zu f1;rw[(f5 rfl).2.2]at f2;exact f2
 have qK:∀id:Nat,(M.length<=id/\id<M.length+ext.length)\/(id<M.length\/M.length+ext.length<=id):=λid=>by omega
 have newb:∀(id:Nat) (o:au) (bc:Nat×Nat),M.length<=id->id<M.length+ext.length->h'[id]?=some o->β'[id]?=some bc->o.mu=.m->w.heap.size<=bc.1:=by
  intro id o bc a1 a2 e1 e2 e3
  rw[kG id a1 a2,<-pin id a1 a2]at e1;rw[bin id a1 a2]at e2;rcases Z8 bc.1 w.heap.size with cz |Bo
  ·obtain⟨id2,o2,Ea,f1,f2,f3,f4⟩:=S1.shr bc.1 cz ⟨id,o,bc,e1,e2,e3,rfl⟩;have vw:=ag f1;rw[ZO,if_pos vw]at f2;exact absurd f4.symm (H1.hC id id2 o o2 bc Ea (by omega) e1 (by rw[pold id2 vw];exact f1) e2 (both id2 o2 Ea f1 (by rw[f3];simp) f2) e3 (by rw[f3];simp))
  ·exact Bo
 have VL:FQ h β h' β':=by
  intro id o bc e1 e2 e3
  rcases qK id with⟨a1,a2⟩|a
  ·exact absurd (YO id o a1 a2 e1) e3
  ·exact⟨o,bc,by rw[sq id a];exact e1,by rw[bout id a];exact e2,e3,⟨Zz _,λh=>h⟩,λ_=>⟨rfl,λ_=>rfl,rfl⟩⟩
 have shr:∀b,b<w.heap.size->Mb h' β' b->Mb h β b:=by
  rintro b hb ⟨id,o,bc,e1,e2,e3,rfl⟩;rcases qK id with⟨a1,a2⟩|a
  ·have:=newb id o bc a1 a2 e1 e2 e3;omega
  ·exact⟨id,o,bc,by rw[<-sq id a];exact e1,by rw[<-bout id a];exact e2,e3,rfl⟩
 have WY:∀b,b<w.heap.size->¬Av F h β b->¬Av F h' β' b:=by
  rintro b hb hn (hf |hm)
  ·exact hn (.inl hf)
  ·exact hn (.inr (shr b hb hm))
 have YP:FQ (M++ext) β1 h' β':=by
  intro id o bc e1 e2 e3
  have bT:=ag e1;simp at bT
  by_cases vw:id<M.length
  ·rw[pold id vw]at e1;have e4:=hM id o e1 e3;obtain⟨bc0,e5⟩:=dg H.len e4;have:=both id o bc0 e1 e3 e5;rw[this]at e2;obtain rfl:=Zu e2;exact⟨o,bc0,by rw[sq id (.inl vw)];exact e4,by rw[bout id (.inl vw)];exact e5,e3,⟨Zz _,λh=>h⟩,λ_=>⟨rfl,λ_=>rfl,rfl⟩⟩
  ·exact⟨o,bc,by rw[kG id (by omega) bT,<-pin id (by omega) bT];exact e1,by rw[bin id (by omega) bT];exact e2,e3,⟨Zz _,λh=>h⟩,λ_=>⟨rfl,λ_=>rfl,rfl⟩⟩
 have Bf:∀b,Av F h' β' b->Av (Fp F β h M) (M++ext) β1 b:=by
  rintro b (hf |⟨id,o,bc,e1,e2,e3,e4⟩)
  ·exact .inl (.inl hf)
  ·rcases qK id with⟨a1,a2⟩|a
   ·rw[kG id a1 a2,<-pin id a1 a2]at e1;rw[bin id a1 a2]at e2;exact .inr ⟨id,o,bc,e1,e2,e3,e4⟩
   ·rw[sq id a]at e1;rw[bout id a]at e2
    by_cases hm:M[id]?=some o
    ·have bT:=ag hm;exact .inr ⟨id,o,bc,by rw[pold id bT];exact hm,both id o bc hm (by rw[e3];simp) e2,e3,e4⟩
    ·exact .inl (.inr ⟨id,o,bc,e1,e2,e3,e4,hm⟩)
 have v0:∀(v:Value) (p:PV),aD w (Av F h β) β h v p->aD w' (Av F h' β') β' h' v p:=λv p r=>r.QU VL (λb hb _=>G.aQ b hb) WY
 have v1:∀(v:Value) (p:PV),aD w' (Av (Fp F β h M) (M++ext) β1) β1 (M++ext) v p->aD w' (Av F h' β') β' h' v p:=λv p r=>r.QU YP (λ_ _ _=>rfl) (λb _ hn ha=>hn (Bf b ha))
 refine⟨⟨MA,λb hb=>aaf (H.fin b hb) G.size,?_,?_,?_⟩,VL,WY,shr,λid bT=>bout id (.inl bT),v1⟩
 ·intro id o bc e1 e2 e3
  rcases qK id with⟨a1,a2⟩|a
  ·rw[kG id a1 a2,<-pin id a1 a2]at e1;rw[bin id a1 a2]at e2;exact(H1.obj id o bc e1 e2 e3).to rfl (λv e p _ _ r=>v1 v p r)
  ·rw[sq id a]at e1;rw[bout id a]at e2;have r:=H.obj id o bc e1 e2 e3;exact r.to (G.aQ _ r.lt) (λv e p _ _ r=>v0 v p r)
 ·intro id dS o o' bc c8 bI e1 e2 e3 e4 m1 m2
  rcases qK id with⟨a1,a2⟩|a <;>rcases qK dS with⟨b1,b2⟩|b
  ·rw[kG id a1 a2,<-pin id a1 a2]at e1;rw[bin id a1 a2]at e3;rw[kG dS b1 b2,<-pin dS b1 b2]at e2;rw[bin dS b1 b2]at e4;exact H1.hC id dS o o' bc c8 bI e1 e2 e3 e4 m1 m2
  ·have h1:=newb id o bc a1 a2 e1 e3 m1;rw[sq dS b]at e2;rw[bout dS b]at e4;have:=(H.obj dS o' c8 e2 e4 m2).lt;omega
  ·rw[sq id a]at e1;rw[bout id a]at e3;rw[kG dS b1 b2,<-pin dS b1 b2]at e2;rw[bin dS b1 b2]at e4
   by_cases hm:M[id]?=some o
   ·have bT:=ag hm;exact H1.hC id dS o o' bc c8 bI (by rw[pold id bT];exact hm) e2 (both id o bc hm (by rw[m1];simp) e3) e4 m1 m2
   ·have nl:o'.mu≠.l:=by
     rw[pin dS b1 b2]at e2;exact xT o' (ZK e2)
    have GG:o'.mu=.m\/o'.mu=.f:=by
     cases hh:o'.mu with
     |m=>exact .inl rfl
     |l=>exact absurd hh nl
     |f=>exact .inr rfl
     |x=>exact absurd hh m2
    intro heq
    exact H1.out dS o' c8 e2 e4 GG (.inr ⟨id,o,bc,e1,e3,m1,heq,hm⟩)
  ·rw[sq id a]at e1;rw[bout id a]at e3;rw[sq dS b]at e2;rw[bout dS b]at e4;exact H.hC id dS o o' bc c8 bI e1 e2 e3 e4 m1 m2
 ·intro id o bc e1 e2 e3
  rcases qK id with⟨a1,a2⟩|a
  ·rw[kG id a1 a2,<-pin id a1 a2]at e1;rw[bin id a1 a2]at e2;exact λhf=>H1.out id o bc e1 e2 e3 (.inl hf)
  ·rw[sq id a]at e1;rw[bout id a]at e2;exact H.out id o bc e1 e2 e3
end Go.Pm
namespace Go.Pm
theorem mV{ρ ρ':Nat->PV}{xs:List Operand}(h:∀x∈xs,ev ρ x=ev ρ' x):xs.map (ev ρ)=xs.map (ev ρ'):=aan h
theorem oa{ρ ρ':Nat->PV}{xs:List (Nat×Operand)}(h:∀x∈xs.map (·.2),ev ρ x=ev ρ' x):(xs.map λ(i,x)=>(i,ev ρ x))=xs.map λ(i,x)=>(i,ev ρ' x):=
 aan λp hp=>by
  obtain⟨i,x⟩:=p;simp only[h x (Z0.2 ⟨(i,x),hp,rfl⟩)]
theorem lG{C:cK}{run:gU}{lv:Nat}{op:Op}{ρ ρ':Nat->PV}{hp:ab}(h:∀x∈op.operands.toList,ev ρ x=ev ρ' x):ao C run lv op ρ hp=ao C run lv op ρ' hp:=by
 cases op
 case call c=>
  have ha:c.args.toList.map (ev ρ)=c.args.toList.map (ev ρ'):=mV λx hx=>h x (by simp[Op.operands,Call.operands];exact .inr (by simpa using hx))
  simp only[ao,ha]
  cases hc:c.callee with
  |value f=>simp only[h f (by simp[Op.operands,Call.operands,hc])]
  |invoke r m=>rfl
  |builtin b=>rfl
 case build t ps=>simp only[ao,az,oa (ρ:=ρ) (ρ':=ρ') (xs:=ps.toList) λx hx=>h x (by simpa[Op.operands]using hx)]
 case buildSlice t n ps=>simp only[ao,az,oa (ρ:=ρ) (ρ':=ρ') (xs:=ps.toList) λx hx=>h x (by simpa[Op.operands]using hx)]
 case makeFunc fn first da=>
  have ha:da.toList.map (ev ρ)=da.toList.map (ev ρ'):=mV λx hx=>h x (by simp[Op.operands];exact .inr (by simpa using hx))
  have hb:(first.toList++da.toList).map (ev ρ)=(first.toList++da.toList).map (ev ρ'):=mV λx hx=>h x (by simp only[Op.operands,Array.toList_append];exact hx)
  simp only[ao,az]
  cases fn <;>simp only[ha,hb]
 case makeMap t r=>
  simp only[Op.operands]at h;have h2:r.map (ev ρ)=r.map (ev ρ'):=by cases r with |none=>rfl |some y=>simp[h y (by simp)]
  simp only[ao,az,h2]
 case slice t x lo hi mx=>
  simp only[Op.operands]at h;have h1:=h x (by simp);have h2:lo.map (ev ρ)=lo.map (ev ρ'):=by cases lo with |none=>rfl |some y=>simp[h y (by simp)]
  have h3:hi.map (ev ρ)=hi.map (ev ρ'):=by cases hi with |none=>rfl |some y=>simp[h y (by simp)]
  have h4:mx.map (ev ρ)=mx.map (ev ρ'):=by cases mx with |none=>rfl |some y=>simp[h y (by simp)]
  simp only[ao,az,h1,h2,h3,h4]
 all_goals(simp only[Op.operands]at h;simp only[ao,az];try simp_all)
theorem dm{α:Type}{x:Option α}{h:ab}{p:α}{h':ab}(e:x.map (·,h)=some (p,h')):x=some p/\h'=h:=by
 cases x with
 |none=>cases e
 |some y=>simp at e;exact⟨by rw[e.1],e.2.symm⟩
theorem oc{C:cK}{run:gU}{lv lv2:Nat}{op:Op}{ρ:Nat->PV}{h1 MS h2:ab}{r:PV}(hn:cR op=false)(e:ao C run lv op ρ h1=some (r,MS)):ao C run lv2 op ρ h2=some (r,h2):=by
 cases op <;>simp[cR]at hn <;>simp only[ao,az]at e ⊢
 case move x=>simp at e;simp[e.1]
 case assign x=>simp at e;simp[e.1]
 case pick c x y=>split at e <;>simp_all
 case build t ps=>obtain⟨e1,_⟩:=dm e;rw[e1];rfl
 case nilCheck x=>split at e <;>simp_all
 case binOp=>obtain⟨e1,_⟩:=dm e;rw[e1];rfl
 case unOp=>obtain⟨e1,_⟩:=dm e;rw[e1];rfl
 case convert=>obtain⟨e1,_⟩:=dm e;rw[e1];rfl
 case makeFunc fn first da=>
  cases fn <;>simp only at e ⊢ <;>try(cases e;done)
  split at e
  ·rename_i hf;simp at e;simp[hf,e.1]
  ·rename_i hf;obtain⟨rfl,rfl⟩:=ZG (Zu e);rw[if_neg hf]
 case fieldAddr=>obtain⟨e1,_⟩:=dm e;rw[e1];rfl
 case field=>obtain⟨e1,_⟩:=dm e;rw[e1];rfl
 case index=>obtain⟨e1,_⟩:=dm e;rw[e1];rfl
 case extract x i=>
  split at e
  ·split at e <;>simp_all
  ·cases e
def Ext(h h':ab):Prop:=∃ext,h'=h++ext
theorem Ext.refl(h:ab):Ext h h:=⟨[],by simp⟩
theorem qX{g:List PV->ab->Option (PV×ab)}{lv:Nat}(hl:lv<=1){args:List PV}{h h':ab}{r:PV}(e:dQ g lv args h=some (r,h')):Ext h h':=by
 unfold dQ at e;rw[if_neg (by omega)]at e
 split at e
 ·split at e
  ·split at e
   ·obtain⟨rfl,rfl⟩:=ZG (Zu e);exact⟨_,rfl⟩
   ·cases e
  ·cases e
 ·cases e
theorem ym{C:cK}{run:gU}{lv:Nat}(hl:lv<=1){f:FuncId}{args:List PV}{h h':ab}{r:PV}(e:c9 C run lv f args h=some (r,h')):Ext h h':=by
 unfold c9 at e
 split at e
 ·cases e
 ·unfold dx at e
  split at e
  ·split at e
   ·split at e
    ·obtain⟨rfl,rfl⟩:=ZG (Zu e);exact Ext.refl _
    ·cases e
   ·cases e
  ·split at e
   ·split at e
    ·split at e
     ·split at e
      ·obtain⟨rfl,rfl⟩:=ZG (Zu e);exact Ext.refl _
      ·rw[if_neg (by omega)]at e;cases e
     ·cases e
    ·cases e
   ·split at e
    ·split at e
     ·split at e
      ·split at e
       ·obtain⟨rfl,rfl⟩:=ZG (Zu e);exact Ext.refl _
       ·cases e
      ·cases e
     ·cases e
    ·cases e
 ·unfold gK at e
  split at e
  ·rename_i r0 h1 he
   obtain⟨ext,rfl⟩:=qX hl he
   split at e
   ·obtain⟨rfl,rfl⟩:=ZG (Zu e);simp;exact Ext.refl _
   ·obtain⟨rfl,rfl⟩:=ZG (Zu e);exact⟨_,rfl⟩
  ·cases e
 ·split at e
  ·obtain⟨_,rfl⟩:=dm e;exact Ext.refl _
  ·cases e
 ·exact qX hl e
 ·split at e
  ·obtain⟨_,rfl⟩:=dm e;exact Ext.refl _
  ·cases e
theorem AY{P:Program}{lv:Nat}(hl:lv<=1){b:Builtin}{ts:List TypeId}{args:List PV}{h h':ab}{r:PV}(e:bo P lv h b ts args=some (r,h')):Ext h h':=by
 unfold bo at e
 split at e
 ·obtain⟨_,rfl⟩:=dm e;exact Ext.refl _
 ·unfold bL at e
  repeat' split at e
  all_goals first
   |(cases e;done)
   |(obtain⟨rfl,rfl⟩:=ZG (Zu e);first |exact Ext.refl _ |exact⟨_,rfl⟩)
   |(exfalso;omega)
   |(rename_i hh;exfalso;obtain⟨a1,a2,a3⟩:=hh;omega)
 ·unfold yk at e
  repeat' split at e
  all_goals first
   |(cases e;done)
   |(rename_i hh;exfalso;omega)
 ·unfold lU at e
  repeat' split at e
  all_goals first
   |(cases e;done)
   |(obtain⟨rfl,rfl⟩:=ZG (Zu e);exact Ext.refl _)
   |(rename_i hh;exfalso;omega)
 ·obtain⟨_,rfl⟩:=dm e;exact Ext.refl _
 ·obtain⟨_,rfl⟩:=dm e;exact Ext.refl _
 ·obtain⟨_,rfl⟩:=dm e;exact Ext.refl _
 ·cases e
theorem Dq{P:Program}{lv:Nat}(hl:lv<=1){op:Op}{ρ:Nat->PV}{h h':ab}{r:PV}(e:az P lv op ρ h=some (r,h')):Ext h h':=by
 cases op <;>simp only[az]at e
 case alloc t=>
  split at e
  ·split at e
   ·obtain⟨rfl,rfl⟩:=ZG (Zu e);exact⟨_,rfl⟩
   ·cases e
  ·cases e
 case box t x=>
  split at e
  ·obtain⟨rfl,rfl⟩:=ZG (Zu e);exact⟨_,rfl⟩
  ·cases e
 case buildSlice t n ps=>
  unfold dp at e
  repeat' split at e
  all_goals first
   |(cases e;done)
   |(obtain⟨rfl,rfl⟩:=ZG (Zu e);first |exact Ext.refl _ |exact⟨_,rfl⟩)
 case store t x y=>rw[if_neg (by omega)]at e;cases e
 case mapUpdate t m k x=>rw[if_neg (by omega)]at e;cases e
 case insert t m k x=>rw[if_neg (by omega)]at e;cases e
 case makeMap t r=>
  unfold mf at e
  repeat' split at e
  all_goals first
   |(cases e;done)
   |(obtain⟨rfl,rfl⟩:=ZG (Zu e);exact⟨_,rfl⟩)
 case makeSlice t l c=>
  unfold jk at e
  repeat' split at e
  all_goals first
   |(cases e;done)
   |(obtain⟨rfl,rfl⟩:=ZG (Zu e);exact⟨_,rfl⟩)
 case makeFunc fn first da=>
  cases fn <;>simp only at e <;>try(cases e;done)
  split at e
  ·obtain⟨rfl,rfl⟩:=ZG (Zu e);exact Ext.refl _
  ·obtain⟨rfl,rfl⟩:=ZG (Zu e);exact Ext.refl _
 all_goals first
  |(cases e;done)
  |(obtain⟨rfl,rfl⟩:=ZG (Zu e);exact Ext.refl _)
  |(obtain⟨_,rfl⟩:=dm e;exact Ext.refl _)
  |repeat' split at e
   all_goals first
    |(cases e;done)
    |(obtain⟨rfl,rfl⟩:=ZG (Zu e);exact Ext.refl _)
theorem GC{C:cK}{run:gU}{lv:Nat}(hl:lv<=1){op:Op}{ρ:Nat->PV}{h h':ab}{r:PV}(e:ao C run lv op ρ h=some (r,h')):Ext h h':=by
 unfold ao at e
 split at e
 ·split at e
  ·unfold fO at e
   split at e
   ·exact ym hl e
   ·exact ym hl e
   ·cases e
  ·exact AY hl e
  ·cases e
 ·exact Dq hl e
def xR(ops:Array Oper)(i j:Nat):Prop:=((before ops).getD i 0).testBit j=true
theorem yH(f:Edge->Nat)(j:Nat):∀(l:List Edge) (s0:Nat),(l.foldl (λs e=>s |||2^e.on |||f e) s0).testBit j=true->s0.testBit j=true\/∃e∈l,j=e.on\/(f e).testBit j=true
 |[],s0,h=>.inl h
 |e::l,s0,h=>by
  rcases yH f j l _ h with h |⟨e',h1,h2⟩
  ·simp only[Nat.testBit_or,ZU,Nat.testBit_two_pow,decide_eq_true_eq]at h;rcases h with(h |h)|h
   ·exact .inl h
   ·exact .inr ⟨e,by simp,.inl h.symm⟩
   ·exact .inr ⟨e,by simp,.inr h⟩
  ·exact .inr ⟨e',by simp[h1],h2⟩
theorem yI(all:List Oper):∀(l pre:List Oper) (acc:List Nat),all=pre++l->acc.length=pre.length->
  (∀i j,(acc.getD i 0).testBit j=true->∃o,all[i]?=some o/\∃e∈GB o,j=e.on\/(acc.getD e.on 0).testBit j=true)->
  ∀i j,((l.foldl (λacc o=>acc++[(GB o).foldl (λs e=>s |||2^e.on |||acc.getD e.on 0) 0]) acc).getD i 0).testBit j=true->
   ∃o,all[i]?=some o/\∃e∈GB o,j=e.on\/((l.foldl (λacc o=>acc++[(GB o).foldl (λs e=>s |||2^e.on |||acc.getD e.on 0) 0]) acc).getD e.on 0).testBit j=true
 |[],pre,acc,h1,h2,h3=>h3
 |o::l,pre,acc,h1,h2,h3=>by
  have aQ:∀k x (v:Nat),(acc.getD k 0).testBit x=true->((acc++[v]).getD k 0).testBit x=true:=λk x v h=>by
   rcases Z8 k acc.length with hk |hk
   ·simpa[List.getD,Zv hk]using h
   ·simp[List.getD,ZM hk]at h
  refine yI all l (pre++[o]) _ (by simp[h1]) (by simp[h2]) ?_
  intro i j Ny
  by_cases hi:i<acc.length
  ·have QQ:(acc.getD i 0).testBit j=true:=by simpa[List.getD,Zv hi]using Ny
   obtain⟨o',e1,e,e2,e3⟩:=h3 i j QQ;exact⟨o',e1,e,e2,e3.imp id (aQ _ _ _)⟩
  ·by_cases Pn:i=acc.length
   ·subst Pn;have QQ:(((GB o).foldl (λs e=>s |||2^e.on |||acc.getD e.on 0) 0)).testBit j=true:=by simpa[List.getD]using Ny
    rcases yH (λe=>acc.getD e.on 0) j _ _ QQ with h |⟨e,h4,h5⟩
    ·simp at h
    ·exact⟨o,by rw[h1,h2,ZI (Zz _)];simp,e,h4,h5.imp id (aQ _ _ _)⟩
   ·rw[ZR,ZM (by simp;omega)]at Ny;simp at Ny
theorem vN{ops:Array Oper}{i j:Nat}(h:xR ops i j):∃o,ops[i]?=some o/\∃e∈GB o,j=e.on\/xR ops e.on j:=by
 obtain⟨o,h1,e,h2,h3⟩:=yI ops.toList ops.toList [] [] rfl rfl (λi j h=>by simp at h) i j h;exact⟨o,by simpa using h1,e,h2,h3⟩
def G9(ops:Array Oper)(o o':Oper):Bool:=
 match o'.dst with
 |some d=>(o.looksAt ops).contains d ||o.dst==some d
 |none=>false
def lX(ops:Array Oper):Bool:=
 ops.toList.zipIdx.all λ(o,i)=>(GB o).all (λe=>decide (e.on<i))&&
  ops.toList.zipIdx.all λ(o',j)=>decide (i<=j)|| !(G9 ops o o'||G9 ops o' o)||((before ops).getD i 0).testBit j
theorem eP{ops:Array Oper}(h:lX ops=true):
  (∀(i:Nat) (o:Oper),ops[i]?=some o->∀e∈GB o,e.on<i)/\
  (∀(i j:Nat) (o o':Oper),ops[i]?=some o->ops[j]?=some o'->j<i->(G9 ops o o'=true\/G9 ops o' o=true)->xR ops i j):=by
 have mem:∀(i:Nat) (o:Oper),ops[i]?=some o->(o,i)∈ops.toList.zipIdx:=λi o e=>by
  rw[aaY];exact⟨i,by simp[e]⟩
 unfold lX at h;rw[Zw]at h
 constructor
 ·intro i o e ed he
  have:=h _ (mem i o e);simp only[ZD]at this;have:=Zw.1 this.1 ed he;simpa using this
 ·intro i j o o' e e' xS hh
  have:=h _ (mem i o e);simp only[ZD]at this;have:=Zw.1 this.2 _ (mem j o' e');simp only[ZU,decide_eq_true_eq,aaS,abL]at this;rcases this with(h1 |h1)|h1
  ·omega
  ·rw[h1.1,h1.2]at hh;simp at hh
  ·exact h1
theorem qA{ops:Array Oper}{i:Nat}(h:level ops (before ops) i=2){j:Nat}{o:Oper}(e:ops[j]?=some o)(hh:cR o.op=true):j=i\/xR ops i j\/xR ops j i:=by
 unfold level at h
 split at h
 ·rename_i eA
  have:=Zw.1 eA (o,j) (by rw[aaY];exact⟨j,by simp[e]⟩);simp only[hh,abn,aa0,qj,ZU,beq_iff_eq]at this;rcases this with(h1 |h1)|h1
  ·exact .inl h1.symm
  ·exact .inr (.inl h1)
  ·exact .inr (.inr h1)
 ·cases h
theorem qs{ops:Array Oper}(hd:lX ops=true):∀(i j:Nat),xR ops i j->j<i:=by
 intro i
 induction i using Nat.strongRecOn with
 |ind i ih=>
  intro j h
  obtain⟨o,h1,e,h2,h3⟩:=vN h;have:=(eP hd).1 i o h1 e h2;rcases h3 with rfl |h3
  ·exact this
  ·have:=ih e.on this j h3;omega
theorem DX{ops:Array Oper}(hd:lX ops=true){E:Nat->Bool}(hE:∀(i:Nat) (o:Oper),ops[i]?=some o->E i=true->∀e∈GB o,E e.on=true):∀(i j:Nat),E i=true->xR ops i j->E j=true:=by
 intro i
 induction i using Nat.strongRecOn with
 |ind i ih=>
  intro j hi h
  obtain⟨o,h1,e,h2,h3⟩:=vN h;have hl:=(eP hd).1 i o h1 e h2;have he:=hE i o h1 hi e h2;rcases h3 with rfl |h3
  ·exact he
  ·exact ih e.on hl j he h3
theorem si{e:Nat->Bool}{L0:Nat}{own:List Nat}{h:ab}(h1:L0<=h.length)(h2:own.length=h.length - L0):(cc e L0 own h).length=h.length:=by
 unfold cc;simp;omega
theorem sj{e:Nat->Bool}{L0:Nat}{own rj:List Nat}{h ext:ab}(h1:L0<=h.length)(h2:own.length=h.length - L0):
  cc e L0 (own++rj) (h++ext)=cc e L0 own h++List.zipWith (λo j=>if e j then o else eE o) ext rj:=by
 unfold cc;rw[Z6 h1,aav h1,List.zipWith_append (by simp;omega),ZZ]
theorem so{e e':Nat->Bool}:∀(h:ab) (own:List Nat),(∀j∈own,e j=e' j)->List.zipWith (λo j=>if e j then o else eE o) h own=List.zipWith (λo j=>if e' j then o else eE o) h own
 |[],own,_=>by simp
 |_::_,[],_=>by simp
 |o::h,j::own,hh=>by
  simp only[List.zipWith_cons_cons,hh j (by simp)];rw[so h own (λk hk=>hh k (by simp[hk]))]
theorem tn{e e':Nat->Bool}{L0:Nat}{own:List Nat}{h:ab}(hh:∀j∈own,e j=e' j):cc e L0 own h=cc e' L0 own h:=by
 unfold cc;rw[so _ _ hh]
theorem zV{e:Nat->Bool}:∀(h:ab) (own:List Nat),own.length=h.length->(∀j∈own,e j=true)->List.zipWith (λo j=>if e j then o else eE o) h own=h
 |[],own,_,_=>by simp
 |o::h,[],hl,_=>by simp at hl
 |o::h,j::own,hl,hh=>by
  simp only[List.zipWith_cons_cons,hh j (by simp),if_true];rw[zV h own (by simpa using hl) (λk hk=>hh k (by simp[hk]))]
theorem pG{e:Nat->Bool}{L0:Nat}{own:List Nat}{h:ab}(h2:own.length=h.length - L0)(hh:∀j∈own,e j=true):cc e L0 own h=h:=by
 unfold cc;rw[zV _ _ (by simp[h2]) hh,abg]
theorem G'{e:Nat->Bool}{L0:Nat}{own:List Nat}{h:ab}(h1:L0<=h.length)(h2:own.length=h.length - L0)(id:Nat):
  (cc e L0 own h)[id]?=if id<L0 then h[id]? else(h[id]?).map λo=>if e (own.getD (id - L0) 0)then o else eE o:=by
 unfold cc
 by_cases bT:id<L0
 ·rw[if_pos bT,Zv (by simp;omega),ZO,if_pos bT]
 ·rw[if_neg bT,ZI (by simp;omega)];have hl:(List.take L0 h).length=L0:=by simp;omega
  rw[hl,aaM,Z7,show L0+(id - L0)=id by omega]
  cases ho:h[id]? with
  |none=>simp
  |some o=>
   have:=ag ho;have hw:own[id - L0]?=some (own[id - L0]'(by omega)):=Zy (by omega);simp[hw]
section
variable{C:cK}{run:gU}{ops:Array Oper}
theorem oH:∀(l:List Oper) (k:Nat) (x y:uu),dy C run ops (before ops) k l x=some y->
  ∃tr:Nat->uu,tr k=x/\(∀(i:Nat) (o:Oper),l[i]?=some o->cf C run ops (before ops) (k+i) o (tr (k+i))=some (tr (k+i+1)))/\tr (k+l.length)=y
 |[],k,x,y,e=>by
  simp[dy]at e;exact⟨λ_=>x,rfl,λi o h=>by simp at h,by simpa using e⟩
 |o::l,k,x,y,e=>by
  simp only[dy]at e
  split at e
  ·rename_i x' hx
   obtain⟨tr,t1,t2,t3⟩:=oH l (k+1) x' y e;refine⟨λj=>if j<=k then x else tr j,by simp,?_,?_⟩
   ·intro i o' ho
    cases i with
    |zero=>
     simp at ho;subst ho;simp[t1,hx]
     intro hh;omega
    |succ i=>
     have:=t2 i o' (by simpa using ho);have e1:¬(k+(i+1)<=k):=by omega
     have e2:¬(k+(i+1)+1<=k):=by omega
     simp only[e1,e2,if_false];rw[show k+(i+1)=k+1+i by omega];exact this
   ·have e1:¬(k+(o::l).length<=k):=by simp
    simp only[e1,if_false];rw[<-t3];congr 1;simp;omega
  ·cases e
inductive yJ(C:cK)(run:gU)(ops:Array Oper)(i:Nat)(o:Oper)(x y:uu):Prop
 |off:bm ops o x.s.ρ=some false->y=⟨⟨bV x.s.ρ o.dst .undef,x.s.h⟩,x.L0,x.own⟩->yJ C run ops i o x y
 |plain (r:PV) (h1:ab):bm ops o x.s.ρ=some true->cR o.op=false->ao C run 1 o.op x.s.ρ x.s.h=some (r,h1)->y=⟨⟨bV x.s.ρ o.dst r,x.s.h⟩,x.L0,x.own⟩->yJ C run ops i o x y
 |two (r:PV) (h':ab):bm ops o x.s.ρ=some true->cR o.op=true->level ops (before ops) i=2->ao C run 2 o.op x.s.ρ x.s.h=some (r,h')->y=⟨⟨bV x.s.ρ o.dst r,h'⟩,h'.length,[]⟩->yJ C run ops i o x y
 |one (r:PV) (ext:ab):bm ops o x.s.ρ=some true->cR o.op=true->level ops (before ops) i≠2->aR (cc ((before ops).getD i 0).testBit x.L0 x.own x.s.h)=true->
   (∀z∈o.op.operands.toList,br (aL (cc ((before ops).getD i 0).testBit x.L0 x.own x.s.h)) (ev x.s.ρ z)=true)->
   ao C run 1 o.op x.s.ρ (cc ((before ops).getD i 0).testBit x.L0 x.own x.s.h)=some (r,cc ((before ops).getD i 0).testBit x.L0 x.own x.s.h++ext)->
   (∀o∈ext,o.mu≠.l)->y=⟨⟨bV x.s.ρ o.dst r,x.s.h++ext⟩,x.L0,x.own++List.replicate ext.length i⟩->yJ C run ops i o x y
theorem PE{i:Nat}{o:Oper}{x y:uu}(h1:x.L0<=x.s.h.length)(h2:x.own.length=x.s.h.length - x.L0)(e:cf C run ops (before ops) i o x=some y):yJ C run ops i o x y:=by
 unfold cf at e
 split at e
 ·rename_i hw
  split at e
  ·rename_i hh
   split at e
   ·rename_i r hx hv;exact .plain r hx hw hh hv (Zu e).symm
   ·cases e
  ·rename_i hh
   have Wn:cR o.op=true:=by simpa using hh
   split at e
   ·rename_i hl
    split at e
    ·rename_i r h' hv;exact .two r h' hw Wn hl hv (Zu e).symm
    ·cases e
   ·rename_i hl
    simp only at e
    split at e
    ·rename_i hc
     split at e
     ·rename_i r h' hv
      obtain⟨ext,rfl⟩:=GC (Zz 1) hv
      have hd:(cc ((before ops).getD i 0).testBit x.L0 x.own x.s.h++ext).drop x.s.h.length=ext:=by
       rw[<-si (e:=((before ops).getD i 0).testBit) h1 h2,List.drop_left]
      rw[hd]at e
      split at e
      ·rename_i xT
       exact .one r ext hw Wn hl hc.1 (λz hz=>Zw.1 hc.2 z hz) hv (λo ho=>by simpa using Zw.1 xT o ho) (Zu e).symm
      ·cases e
     ·cases e
    ·cases e
 ·rename_i hw;exact .off hw (Zu e).symm
 ·cases e
end
structure Lex(C:cK)(run:gU)(ops:Array Oper)(tr:Nat->uu):Prop where
 ok:lX ops=true
 st:∀(i:Nat) (o:Oper),ops[i]?=some o->cf C run ops (before ops) i o (tr i)=some (tr (i+1))
 h0:(tr 0).L0<=(tr 0).s.h.length
 o0:(tr 0).own=[]/\(tr 0).L0=(tr 0).s.h.length
def Dj(ops:Array Oper)(tr:Nat->uu)(j:Nat):Prop:=∃o,ops[j]?=some o/\cR o.op=true/\bm ops o (tr j).s.ρ=some true
variable{C:cK}{run:gU}{ops:Array Oper}{tr:Nat->uu}
theorem pZ{k:Nat}(h:k<ops.size):∃o,ops[k]?=some o:=⟨ops[k],aaC h⟩
theorem Lex.wf(L:Lex C run ops tr):∀k,k<=ops.size->(tr k).L0<=(tr k).s.h.length/\(tr k).own.length=(tr k).s.h.length - (tr k).L0/\∀j∈(tr k).own,j<k/\Dj ops tr j:=by
 intro k
 induction k with
 |zero=>
  intro _
  obtain⟨h1,h2⟩:=L.o0;rw[h1,h2];exact⟨Zz _,by simp,λj hj=>by cases hj⟩
 |succ k ih=>
  intro hk
  obtain⟨h1,h2,h3⟩:=ih (by omega);obtain⟨o,ho⟩:=pZ (ops:=ops) (k:=k) (by omega);have aQ:∀j∈(tr k).own,j<k+1/\Dj ops tr j:=λj hj=>⟨by have:=(h3 j hj).1;omega,(h3 j hj).2⟩
  cases PE h1 h2 (L.st k o ho)with
  |off _ hy=>rw[hy];exact⟨h1,h2,aQ⟩
  |plain r hx _ _ _ hy=>rw[hy];exact⟨h1,h2,aQ⟩
  |two r h' _ _ _ _ hy=>rw[hy];exact⟨Zz _,by simp,λj hj=>by cases hj⟩
  |one r ext hw hh _ _ _ _ _ hy=>
   rw[hy];refine⟨by simp;omega,by simp;omega,λj hj=>?_⟩;rcases ZE.1 hj with hj |hj
   ·exact aQ j hj
   ·obtain⟨_,rfl⟩:=aba.1 hj;exact⟨by omega,o,ho,hh,hw⟩
theorem Lex.view(L:Lex C run ops tr){k:Nat}{o:Oper}(ho:ops[k]?=some o):yJ C run ops k o (tr k) (tr (k+1)):=by
 have hk:k<ops.size:=(ZT.1 ho).1;obtain⟨h1,h2,_⟩:=L.wf k (by omega);exact PE h1 h2 (L.st k o ho)
theorem Lex.Xj(L:Lex C run ops tr){k:Nat}{o:Oper}(ho:ops[k]?=some o):∃r,(tr (k+1)).s.ρ=bV (tr k).s.ρ o.dst r:=by
 cases L.view ho with
 |off _ hy=>exact⟨_,by rw[hy]⟩
 |plain r hx _ _ _ hy=>exact⟨_,by rw[hy]⟩
 |two r h' _ _ _ _ hy=>exact⟨_,by rw[hy]⟩
 |one r ext hw hh _ _ _ _ _ hy=>exact⟨_,by rw[hy]⟩
theorem Lex.mo(L:Lex C run ops tr){t:Nat}{i:Nat}:∀k,i<=k->k<=ops.size->(∀j o,i<=j->j<k->ops[j]?=some o->o.dst≠some t)->(tr k).s.ρ t=(tr i).s.ρ t:=by
 intro k
 induction k with
 |zero=>intro h1 _ _;obtain rfl:i=0:=(by omega);rfl
 |succ k ih=>
  intro h1 h2 h3
  by_cases hi:i=k+1
  ·subst hi;rfl
  ·obtain⟨o,ho⟩:=pZ (ops:=ops) (k:=k) (by omega);obtain⟨r,hr⟩:=L.Xj ho;rw[hr,na,if_neg (h3 k o (by omega) (by omega) ho)];exact ih (by omega) (by omega) (λj o' a b c=>h3 j o' a (by omega) c)
theorem Lex.phase(L:Lex C run ops tr){i:Nat}:∀k,i<=k->k<=ops.size->(∀j,i<=j->j<k->¬(Dj ops tr j/\level ops (before ops) j=2))->
  ∃ext rj,(tr k).s.h=(tr i).s.h++ext/\(tr k).L0=(tr i).L0/\(tr k).own=(tr i).own++rj/\rj.length=ext.length/\∀j∈rj,i<=j:=by
 intro k
 induction k with
 |zero=>intro h1 _ _;obtain rfl:i=0:=(by omega);exact⟨[],[],by simp,rfl,by simp,rfl,λj hj=>by cases hj⟩
 |succ k ih=>
  intro h1 h2 h3
  by_cases hi:i=k+1
  ·subst hi;exact⟨[],[],by simp,rfl,by simp,rfl,λj hj=>by cases hj⟩
  ·obtain⟨ext,rj,e1,e2,e3,e4,e5⟩:=ih (by omega) (by omega) (λj a b=>h3 j a (by omega));obtain⟨o,ho⟩:=pZ (ops:=ops) (k:=k) (by omega)
   cases L.view ho with
   |off _ hy=>rw[hy];exact⟨ext,rj,e1,e2,e3,e4,e5⟩
   |plain r hx _ _ _ hy=>rw[hy];exact⟨ext,rj,e1,e2,e3,e4,e5⟩
   |two r h' hw hh hl _ hy=>exact absurd ⟨⟨o,ho,hh,hw⟩,hl⟩ (h3 k (by omega) (by omega))
   |one r JP hw hh _ _ _ _ _ hy=>
    rw[hy];refine⟨ext++JP,rj++List.replicate JP.length k,by simp[e1],e2,by simp[e3],by simp[e4],λj hj=>?_⟩;rcases ZE.1 hj with hj |hj
    ·exact e5 j hj
    ·obtain⟨_,rfl⟩:=aba.1 hj;omega
def Kh(tr:Nat->uu)(E:Nat->Bool)(k:Nat):ab:=cc E (tr k).L0 (tr k).own (tr k).s.h
structure x3(ops:Array Oper)(tr:Nat->uu)(N:Nat)(F:Nat->Prop)(w0:World)(h0:ab)(β0:List (Nat×Nat))(E:Nat->Bool)(a:Act)(w:World)(k:Nat)(ρ:Nat->PV)(β:List (Nat×Nat)):Prop where
 kn:k<=ops.size
 lo:∀j,Dj ops tr j->E j=true->j<k
 hi:∀j,Dj ops tr j->level ops (before ops) j=2->j<k->E j=true
 base:h0.length<=(tr k).L0
 hr:aZ w F β (Kh tr E k)
 er:gM w (Av F (Kh tr E k) β) β (Kh tr E k) a ρ
 rh:∀t k',k'<=ops.size->(∀j o,ops[j]?=some o->o.dst=some t->(E j=true↔j<k'))->ρ t=(tr k').s.ρ t
 sp:dN w0 h0 β0 w (Kh tr E k) β
 df:a.defers=[]
 sz:N<=a.tmps.size
variable{N:Nat}{F:Nat->Prop}{w0:World}{h0:ab}{β0:List (Nat×Nat)}{E:Nat->Bool}{a:Act}{w:World}
theorem x3.XN(L:Lex C run ops tr){k:Nat}{ρ:Nat->PV}{β:List (Nat×Nat)}(D:x3 ops tr N F w0 h0 β0 E a w k ρ β)(hk:k<ops.size)(hn:¬(Dj ops tr k/\level ops (before ops) k=2)):
  ∃β',x3 ops tr N F w0 h0 β0 E a w (k+1) ρ β':=by
 obtain⟨o,ho⟩:=pZ (ops:=ops) hk
 have hE:Dj ops tr k->E k=false:=λhr=>by
  cases he:E k with
  |false=>rfl
  |true=>have:=D.lo k hr he;omega
 have xJ:∀j,Dj ops tr j->E j=true->j<k+1:=λj h1 h2=>by have:=D.lo j h1 h2;omega
 have xK:∀j,Dj ops tr j->level ops (before ops) j=2->j<k+1->E j=true:=λj h1 h2 h3=>by
  by_cases hj:j=k
  ·subst hj;exact absurd ⟨h1,h2⟩ hn
  ·exact D.hi j h1 h2 (by omega)
 have same:(tr (k+1)).s.h=(tr k).s.h->(tr (k+1)).L0=(tr k).L0->(tr (k+1)).own=(tr k).own->∃β',x3 ops tr N F w0 h0 β0 E a w (k+1) ρ β':=λe1 e2 e3=>by
  have hK:Kh tr E (k+1)=Kh tr E k:=by unfold Kh;rw[e1,e2,e3]
  exact⟨β,⟨hk,xJ,xK,by rw[e2];exact D.base,by rw[hK];exact D.hr,by rw[hK];exact D.er,D.rh,by rw[hK];exact D.sp,D.df,D.sz⟩⟩
 cases L.view ho with
 |off _ hy=>exact same (by rw[hy]) (by rw[hy]) (by rw[hy])
 |plain r hx _ _ _ hy=>exact same (by rw[hy]) (by rw[hy]) (by rw[hy])
 |two r h' hw hh hl _ hy=>exact absurd ⟨⟨o,ho,hh,hw⟩,hl⟩ hn
 |one r ext hw hh _ _ _ _ _ hy=>
  obtain⟨w1,w2,_⟩:=L.wf k (by omega);have hek:=hE ⟨o,ho,hh,hw⟩
  have hK:Kh tr E (k+1)=Kh tr E k++List.zipWith (λo j=>if E j then o else eE o) ext (List.replicate ext.length k):=by
   unfold Kh;rw[hy];exact sj w1 w2
  have hzx:∀o∈List.zipWith (λo j=>if E j then o else eE o) ext (List.replicate ext.length k),o.mu=.x:=by
   intro o ho
   obtain⟨i,hi⟩:=aas ho;rw[aaM]at hi
   cases h1:ext[i]? with
   |none=>rw[h1]at hi;simp at hi
   |some y=>
    have cz:=ag h1;rw[h1,show(List.replicate ext.length k)[i]?=some k by simp[cz]]at hi;simp[hek]at hi;subst hi
    rfl
  obtain⟨P1,P2⟩:=D.hr.pad (List.zipWith (λo j=>if E j then o else eE o) ext (List.replicate ext.length k)) (List.replicate ext.length (0,0)) (by simp) hzx;rw[<-hK]at P1 P2;refine⟨_,⟨hk,xJ,xK,by rw[hy];exact D.base,P1,D.er.mono P2,D.rh,D.sp.trans P2,D.df,D.sz⟩⟩
theorem x3.Nc(L:Lex C run ops tr){ρ:Nat->PV}:∀(d:Nat) {k:Nat} {β:List (Nat×Nat)},x3 ops tr N F w0 h0 β0 E a w k ρ β->k+d<=ops.size->(∀j,k<=j->j<k+d->¬(Dj ops tr j/\level ops (before ops) j=2))->
  ∃β',x3 ops tr N F w0 h0 β0 E a w (k+d) ρ β'
 |0,k,β,D,_,_=>⟨β,D⟩
 |d+1,k,β,D,h1,h2=>by
  obtain⟨β1,D1⟩:=D.XN L (by omega) (h2 k (Zz _) (by omega));obtain⟨β2,D2⟩:=x3.Nc L d D1 (by omega) (λj a b=>h2 j (by omega) (by omega));exact⟨β2,by rw[show k+(d+1)=k+1+d by omega];exact D2⟩
end Go.Pm
namespace Go.Pm
variable{C:cK}{run:gU}{ops:Array Oper}{tr:Nat->uu}
variable{N:Nat}{F:Nat->Prop}{w0:World}{h0:ab}{β0:List (Nat×Nat)}{E E':Nat->Bool}{a:Act}{w:World}
def zW(ops:Array Oper)(tr:Nat->uu)(N:Nat)(F:Nat->Prop)(w0:World)(h0:ab)(β0:List (Nat×Nat))(E:Nat->Bool)(a:Act)(w:World):Prop:=∃k ρ β,x3 ops tr N F w0 h0 β0 E a w k ρ β
theorem mq{o o':Oper}{t:Nat}(h1:o'.dst=some t)(h2:t∈o.looksAt ops\/o.dst=some t):G9 ops o o'=true:=by
 unfold G9;rw[h1];rcases h2 with h2 |h2
 ·simp[h2]
 ·simp[h2]
structure Bb(ops:Array Oper)(E E':Nat->Bool)(i:Nat)(o:Oper):Prop where
 at_:ops[i]?=some o
 out:E i=false
 Qs:∀j,xR ops i j->E j=true
 cl:∀i j,E i=true->xR ops i j->E j=true
 nH:∀j,E' j=true↔E j=true\/j=i
theorem Bb.later{i j:Nat}{o:Oper}(R:Bb ops E E' i o)(h:xR ops j i):E j=false:=by
 cases he:E j with
 |false=>rfl
 |true=>have:=R.cl j i he h;rw[R.out]at this;cases this
theorem x3.look(L:Lex C run ops tr){k:Nat}{ρ:Nat->PV}{β:List (Nat×Nat)}(D:x3 ops tr N F w0 h0 β0 E a w k ρ β){i:Nat}{o:Oper}(R:Bb ops E E' i o){t:Nat}(ht:t∈o.looksAt ops):ρ t=(tr i).s.ρ t:=by
 have hi:i<ops.size:=(ZT.1 R.at_).1;refine D.rh t i (by omega) (λj o' hj hd=>?_);rcases aaT j i with h |h |h
 ·exact⟨λ_=>h,λ_=>R.Qs j ((eP L.ok).2 i j o o' R.at_ hj h (.inl (mq hd (.inl ht))))⟩
 ·subst h;rw[R.out];simp
 ·have:=R.later ((eP L.ok).2 j i o' o hj R.at_ h (.inr (mq hd (.inl ht))));rw[this]
  constructor
  ·intro hh;cases hh
  ·intro hh;omega
theorem x3.Jm(L:Lex C run ops tr){k:Nat}{ρ:Nat->PV}{β:List (Nat×Nat)}(D:x3 ops tr N F w0 h0 β0 E a w k ρ β){i:Nat}{o:Oper}(R:Bb ops E E' i o):∀x∈o.op.operands.toList,ev ρ x=ev (tr i).s.ρ x:=by
 intro x hx
 cases x with
 |tmp t=>exact D.look L R (aa3 _ (List.mem_filterMap.2 ⟨.tmp t,hx,rfl⟩))
 |_=>rfl
theorem x3.Ft(L:Lex C run ops tr){k:Nat}{ρ:Nat->PV}{β:List (Nat×Nat)}(D:x3 ops tr N F w0 h0 β0 E a w k ρ β){i:Nat}{o:Oper}(R:Bb ops E E' i o):bm ops o ρ=bm ops o (tr i).s.ρ:=by
 unfold bm
 cases hg:o.guard with
 |none=>rfl
 |some jw=>
  obtain⟨j,want⟩:=jw;simp only
  cases hd:(ops.toList[j]?).bind (·.dst)with
  |none=>rfl
  |some d=>
   have Db:(ops[j]?).bind (·.dst)=some d:=by simpa using hd
   have:ρ d=(tr i).s.ρ d:=D.look L R (abH _ (by simp[hg,Db]));simp only[this]
theorem x3.XO(L:Lex C run ops tr){k:Nat}{ρ:Nat->PV}{β:List (Nat×Nat)}(D:x3 ops tr N F w0 h0 β0 E a w k ρ β){i:Nat}{o:Oper}(R:Bb ops E E' i o){r:PV}(hr:(tr (i+1)).s.ρ=bV (tr i).s.ρ o.dst r):
  ∀t k',k'<=ops.size->(∀j o,ops[j]?=some o->o.dst=some t->(E' j=true↔j<k'))->bV ρ o.dst r t=(tr k').s.ρ t:=by
 intro t k' hk hw
 rw[na]
 split
 ·rename_i ht
  have Du:i<k':=(hw i o R.at_ ht).1 ((R.nH i).2 (.inr rfl));rw[L.mo (t:=t) (i:=i+1) k' Du hk (λj o' h1 h2 h3 h4=>?_),hr,na,if_pos ht];have he:=(hw j o' h3 h4).2 h2;rcases(R.nH j).1 he with he |he
  ·rw[R.later ((eP L.ok).2 j i o' o h3 R.at_ (by omega) (.inl (mq ht (.inr h4))))]at he
   cases he
  ·omega
 ·rename_i ht
  refine D.rh t k' hk (λj o' h1 h2=>?_)
  have xS:j≠i:=by
   rintro rfl;rw[R.at_]at h1;obtain rfl:=Zu h1;exact ht h2
  rw[<-hw j o' h1 h2,R.nH];simp[xS]
theorem x3.still(L:Lex C run ops tr){k:Nat}{ρ:Nat->PV}{β:List (Nat×Nat)}(D:x3 ops tr N F w0 h0 β0 E a w k ρ β){i:Nat}{o:Oper}(R:Bb ops E E' i o)(hd:ji N o=true)(hn:¬Dj ops tr i)
  {r:PV} (hr:(tr (i+1)).s.ρ=bV (tr i).s.ρ o.dst r) {v:Value} (hv:aD w (Av F (Kh tr E k) β) β (Kh tr E k) v r):zW ops tr N F w0 h0 β0 E' (a.put o.dst v) w:=by
 have hK:Kh tr E' k=Kh tr E k:=by
  unfold Kh;refine tn (λj hj=>?_)
  have xS:j≠i:=by
   rintro rfl;exact hn ((L.wf k D.kn).2.2 j hj).2
  have:=R.nH j;simp only[xS,or_false]at this
  cases h1:E j <;>cases h2:E' j <;>simp_all
 refine⟨k,bV ρ o.dst r,β,D.kn,?_,?_,D.base,by rw[hK];exact D.hr,by rw[hK];exact D.er.put (gN hd D.sz) hv,D.XO L R hr,by rw[hK];exact D.sp,by rw[dH];exact D.df,by rw[fW];exact D.sz⟩
 ·intro j h1 h2
  rcases(R.nH j).1 h2 with h2 |rfl
  ·exact D.lo j h1 h2
  ·exact absurd h1 hn
 ·intro j h1 h2 h3
  exact(R.nH j).2 (.inl (D.hi j h1 h2 h3))
theorem aD.JQ{A:Nat->Prop}{β:List (Nat×Nat)}{M:ab}{v:Value}{p:PV}(f:Nat->Bool)(h:br f p=true->aD w A β M v p):aD w A β M v (if br f p then p else .any):=by
 split
 ·rename_i hv;exact h hv
 ·exact .any v
theorem zW.step(K:fP C)(S:gF C run)(L:Lex C run ops tr)(D:zW ops tr N F w0 h0 β0 E a w){i:Nat}{o:Oper}(R:Bb ops E E' i o)(hd:ji N o=true)
  {Q:Exit->Act->World->Prop} {next:Act->World->Prop} (hK:∀a' w',zW ops tr N F w0 h0 β0 E' a' w'->next a' w'):wpOp C.P ops Q i next a w:=by
 obtain⟨k,ρ,β,D⟩:=D;have hi:i<ops.size:=(ZT.1 R.at_).1;have j3:=D.Ft L R;have uc:=D.Jm L R;have jf:∀lv h,ao C run lv o.op ρ h=ao C run lv o.op (tr i).s.ρ h:=λlv h=>lG uc
 unfold wpOp;rw[R.at_];simp only;obtain⟨WE,UJ,XP⟩:=L.wf i (by omega)
 cases L.view R.at_ with
 |off hw hy=>
  rw[cL D.er (by rw[j3];exact hw),if_neg (by simp)];refine hK _ _ (D.still L R hd ?_ (by rw[hy]) .undef);rintro⟨o',h1,h2,h3⟩;rw[R.at_]at h1;obtain rfl:=Zu h1;rw[hw]at h3;cases h3
 |plain r hx hw hh hv hy=>
  rw[cL D.er (by rw[j3];exact hw),if_pos rfl];refine .inl ?_
  have hn:¬Dj ops tr i:=by
   rintro⟨o',h1,h2,h3⟩;rw[R.at_]at h1;obtain rfl:=Zu h1;rw[hh]at h2;cases h2
  have e:ao C run 1 o.op ρ (Kh tr E k)=some (r,Kh tr E k):=by
   rw[jf];exact oc hh hv
  refine iR K S D.hr D.er e (λv w' β' q1 q2 q3 q4=>?_);have G:=q4 (Zz 1);have D':x3 ops tr N F w0 h0 β0 E a w' k ρ β':=⟨D.kn,D.lo,D.hi,D.base,q2,D.er.mono q3,D.rh,D.sp.trans q3,D.df,D.sz⟩;exact hK _ _ (D'.still L R hd hn (by rw[hy]) q1)
 |two r h' hw hh hl hv hy=>
  rw[cL D.er (by rw[j3];exact hw),if_pos rfl];refine .inl ?_;have Dv:Dj ops tr i:=⟨o,R.at_,hh,hw⟩
  have Po:k<=i:=by
   rcases Z8 i k with h |h
   ·have:=D.hi i Dv hl h;rw[R.out]at this;cases this
   ·exact h
  have anc_of:∀j,Dj ops tr j->j<i->E j=true:=λj hj cz=>by
   obtain⟨oj,g1,g2,_⟩:=hj;rcases qA hl g1 g2 with h |h |h
   ·omega
   ·exact R.Qs j h
   ·have:=qs L.ok j i h;omega
  obtain⟨β1,D1⟩:=D.Nc L (i - k) (by omega) (λj h1 h2 h3=>by
   have:=D.lo j h3.1 (anc_of j h3.1 (by omega));omega)
  rw[show k+(i - k)=i by omega]at D1;have hKi:Kh tr E i=(tr i).s.h:=pG UJ (λj hj=>anc_of j (XP j hj).2 (XP j hj).1);have hr1:=D1.hr;have XQ:=D1.er;have XR:=D1.sp;rw[hKi]at hr1 XQ XR;refine iR K S hr1 XQ (by rw[jf];exact hv) (λv w' β' q1 q2 q3 q4=>hK _ _ ?_)
  have Qu:Kh tr E' (i+1)=h':=by
   unfold Kh;rw[hy];exact pG (by simp) (λj hj=>by cases hj)
  refine⟨i+1,bV ρ o.dst r,β',by omega,?_,?_,?_,by rw[Qu];exact q2,by rw[Qu];exact(XQ.mono q3).put (gN hd D.sz) q1,D.XO L R (by rw[hy]),by rw[Qu];exact XR.trans q3,by rw[dH];exact D.df,by rw[fW];exact D.sz⟩
  ·intro j h1 h2
   rcases(R.nH j).1 h2 with h2 |rfl
   ·have:=D1.lo j h1 h2;omega
   ·omega
  ·intro j h1 h2 h3
   by_cases hj:j=i
   ·exact(R.nH j).2 (.inr hj)
   ·exact(R.nH j).2 (.inl (anc_of j h1 (by omega)))
  ·rw[hy];have:=(XR.trans q3).len;exact this
 |one r ext hw hh hl di GS hv xT hy=>
  rw[cL D.er (by rw[j3];exact hw),if_pos rfl];refine .inl ?_;have Dv:Dj ops tr i:=⟨o,R.at_,hh,hw⟩
  obtain⟨k,β,D,Du⟩:∃k β,x3 ops tr N F w0 h0 β0 E a w k ρ β/\i<k:=by
   rcases Z8 i k with h |h
   ·exact⟨k,β,D,h⟩
   ·obtain⟨β1,D1⟩:=D.Nc L (i+1 - k) (by omega) (λj h1 h2 h3=>by
     obtain⟨⟨oj,g1,g2,g3⟩,g4⟩:=h3
     by_cases hj:j=i
     ·subst hj;exact hl g4
     ·rcases qA g4 R.at_ hh with h5 |h5 |h5
      ·omega
      ·have:=qs L.ok j i h5;omega
      ·have:=D.lo j ⟨oj,g1,g2,g3⟩ (R.Qs j h5);omega)
    exact⟨i+1,β1,by rw[show i+1=k+(i+1 - k) by omega];exact D1,by omega⟩
  have zP:∀j,i+1<=j->j<k->¬(Dj ops tr j/\level ops (before ops) j=2):=λj h1 h2 h3=>by
   have he:=D.hi j h3.1 h3.2 h2;rcases qA h3.2 R.at_ hh with h5 |h5 |h5
   ·omega
   ·rw[R.later h5]at he;cases he
   ·have:=qs L.ok i j h5;omega
  obtain⟨JP,rj,p1,p2,p3,p4,p5⟩:=L.phase k Du D.kn zP;rw[hy]at p1 p2 p3;simp only at p1 p2 p3
  have wfx:(tr i).L0<=((tr i).s.h++ext).length/\((tr i).own++List.replicate ext.length i).length=((tr i).s.h++ext).length - (tr i).L0:=by
   refine⟨by simp;omega,by simp;omega⟩
  have hKE:∀e:Nat->Bool,Kh tr e k=cc e (tr i).L0 (tr i).own (tr i).s.h++List.zipWith (λo j=>if e j then o else eE o) ext (List.replicate ext.length i)++List.zipWith (λo j=>if e j then o else eE o) JP rj:=λe=>by
   unfold Kh;rw[p1,p2,p3,sj wfx.1 wfx.2,sj WE UJ]
  have QR:∀j∈(tr i).own,E j=E' j:=λj hj=>by
   have xS:j≠i:=by have:=(XP j hj).1;omega
   have:=R.nH j;simp only[xS,or_false]at this
   cases h1:E j <;>cases h2:E' j <;>simp_all
  have QS:∀j∈rj,E j=E' j:=λj hj=>by
   have xS:j≠i:=by have:=p5 j hj;omega
   have:=R.nH j;simp only[xS,or_false]at this
   cases h1:E j <;>cases h2:E' j <;>simp_all
  have hA:=hKE E;have hB:=hKE E';rw[<-tn QR,<-so JP rj QS,zV (e:=E') ext (List.replicate ext.length i) (by simp) (λj hj=>by obtain⟨_,rfl⟩:=aba.1 hj;exact(R.nH j).2 (.inr rfl))]at hB;have NA:(cc E (tr i).L0 (tr i).own (tr i).s.h).length=(tr i).s.h.length:=si WE UJ;have TD:(cc ((before ops).getD i 0).testBit (tr i).L0 (tr i).own (tr i).s.h).length=(tr i).s.h.length:=si WE UJ;have QT:(List.zipWith (λo j=>if E j then o else eE o) ext (List.replicate ext.length i)).length=ext.length:=by simp
  have DY:∀id,id<(tr i).s.h.length->(Kh tr E k)[id]?=(cc E (tr i).L0 (tr i).own (tr i).s.h)[id]?:=λid bT=>by
   rw[hA,ZZ,Zv (by omega)]
  have hM:∀(id:Nat) (o:au),(cc ((before ops).getD i 0).testBit (tr i).L0 (tr i).own (tr i).s.h)[id]?=some o->o.mu≠.x->(Kh tr E k)[id]?=some o:=by
   intro id o e1 e2
   have bT:id<(tr i).s.h.length:=by have:=ag e1;omega
   rw[DY id bT];rw[G' WE UJ]at e1 ⊢
   split at e1
   ·rename_i Fm;rw[if_pos Fm];exact e1
   ·rename_i Fm
    rw[if_neg Fm]
    cases ho:(tr i).s.h[id]? with
    |none=>rw[ho]at e1;cases e1
    |some o1=>
     rw[ho]at e1;simp only[ZH,Z4]at e1 ⊢
     split at e1
     ·rename_i hb
      rw[if_pos (R.Qs _ hb)];exact e1
     ·subst e1;exact absurd rfl e2
  obtain⟨HM,VM⟩:=D.hr.part (M:=cc ((before ops).getD i 0).testBit (tr i).L0 (tr i).own (tr i).s.h) (by rw[TD,hA];simp[NA]) hM di
  have erM:gM w (Av (Fp F β (Kh tr E k) (cc ((before ops).getD i 0).testBit (tr i).L0 (tr i).own (tr i).s.h)) (cc ((before ops).getD i 0).testBit (tr i).L0 (tr i).own (tr i).s.h) (β.take (cc ((before ops).getD i 0).testBit (tr i).L0 (tr i).own (tr i).s.h).length))
    (β.take (cc ((before ops).getD i 0).testBit (tr i).L0 (tr i).own (tr i).s.h).length) (cc ((before ops).getD i 0).testBit (tr i).L0 (tr i).own (tr i).s.h) a
    (λt=>if br (aL (cc ((before ops).getD i 0).testBit (tr i).L0 (tr i).own (tr i).s.h)) (ρ t)then ρ t else .any):=λt=>aD.JQ _ (λhv=>VM _ _ (D.er t) hv)
  have eM:ao C run 1 o.op (λt=>if br (aL (cc ((before ops).getD i 0).testBit (tr i).L0 (tr i).own (tr i).s.h)) (ρ t)then ρ t else .any) (cc ((before ops).getD i 0).testBit (tr i).L0 (tr i).own (tr i).s.h)=
    some (r,cc ((before ops).getD i 0).testBit (tr i).L0 (tr i).own (tr i).s.h++ext):=by
   rw[<-hv];refine lG (λx hx=>?_);have h1:=GS x hx;have h2:=uc x hx
   cases x with
   |tmp t=>
    simp only[ev]at h1 h2 ⊢;rw[h2,if_pos h1]
   |_=>rfl
  refine iR K S HM erM eM (λv w' β1 q1 q2 q3 q4=>hK _ _ ?_);have G:=q4 (Zz 1)
  have cz:∀id,(tr i).s.h.length<=id->id<(tr i).s.h.length+ext.length->(Kh tr E k)[id]?=(List.zipWith (λo j=>if E j then o else eE o) ext (List.replicate ext.length i))[id - (tr i).s.h.length]?/\(Kh tr E' k)[id]?=ext[id - (tr i).s.h.length]?:=λid h1 h2=>by
   constructor
   ·rw[hA,Zv (by rw[Zx,NA,QT];omega),ZI (by omega),NA]
   ·rw[hB,Zv (by rw[Zx,NA];omega),ZI (by omega),NA]
  obtain⟨β',m1,m2,m3,m4,m5,m6⟩:=D.hr.merge (h':=Kh tr E' k) (by rw[TD,hA];simp[NA]) hM q2 q3 G xT (by rw[hA,hB];simp)
   (λid h1 h2=>by rw[TD]at h1 h2 ⊢;exact(cz id h1 h2).2)
   (λid h1=>by
    rw[TD]at h1;rcases h1 with h1 |h1
    ·rw[DY id h1,hB,ZZ,Zv (by omega)]
    ·rw[hA,hB,ZI (by rw[Zx,NA];omega),ZI (by rw[Zx,NA,QT];omega)];simp)
   (λid o h1 h2 h3=>by
    rw[TD]at h1 h2;rw[(cz id h1 h2).1,aaM]at h3
    cases h4:ext[id - (tr i).s.h.length]? with
    |none=>rw[h4]at h3;simp at h3
    |some y=>
     have:=ag h4;rw[h4,show(List.replicate ext.length i)[id - (tr i).s.h.length]?=some i by simp[this]]at h3;simp[R.out]at h3;subst h3
     rfl)
  have NB:h0.length<=(tr i).s.h.length:=by
   have:=D.base;rw[p2]at this;omega
  refine⟨k,bV ρ o.dst r,β',D.kn,?_,?_,D.base,m1,?_,D.XO L R (by rw[hy]),?_,by rw[dH];exact D.df,by rw[fW];exact D.sz⟩
  ·intro j h1 h2
   rcases(R.nH j).1 h2 with h2 |rfl
   ·exact D.lo j h1 h2
   ·exact Du
  ·intro j h1 h2 h3
   exact(R.nH j).2 (.inl (D.hi j h1 h2 h3))
  ·exact gM.put (λt=>(D.er t).QU m2 (λb hb _=>G.aQ b hb) m3) (gN hd D.sz) (m6 _ _ q1)
  ·refine⟨aaj D.sp.size G.size,?_,?_,?_,D.sp.refs.trans m2,?_,G.os.trans D.sp.os,G.tape.trans D.sp.tape,G.output.trans D.sp.output,aaj D.sp.drawn G.drawn⟩
   ·have h1:=D.sp.len;rw[hA]at h1;rw[hB];simp at h1 ⊢;omega
   ·intro b hb hm
    rw[G.aQ b (aaf hb D.sp.size)];exact D.sp.aQ b hb hm
   ·intro b hb hm
    exact D.sp.shr b hb (m4 b (aaf hb D.sp.size) hm)
   ·intro id o e1 e2
    obtain⟨f1,f2⟩:=D.sp.IV id o e1 e2;have bT:id<(tr i).s.h.length:=by have:=ag e1;omega
    refine⟨?_,by rw[m5 id (by rw[TD];exact bT)];exact f2⟩;rw[<-f1,DY id bT,hB,ZZ,Zv (by omega)]
theorem yK{p q:Nat->Bool}:∀(l:List Nat),(∀j∈l,q j=true->p j=true)->(∃i∈l,p i=true/\q i=false)->l.countP q<l.countP p
 |[],_,⟨i,h,_⟩=>by cases h
 |j::l,h1,⟨i,h2,h3,h4⟩=>by
  have le:l.countP q<=l.countP p:=List.countP_mono_left (λj hj=>h1 j (by simp[hj]));rcases ZF.1 h2 with rfl |h2
  ·rw[aa6,aa6,h3,h4];simp;omega
  ·have:=yK l (λj hj=>h1 j (by simp[hj])) ⟨i,h2,h3,h4⟩;rw[aa6,aa6];have hj:=h1 j (by simp)
   cases hq:q j with
   |false=>simp;omega
   |true=>rw[hj hq];simp;omega
theorem zW.done(L:Lex C run ops tr)(D:zW ops tr N F w0 h0 β0 E a w)(hE:∀j,j<ops.size->E j=true):∃β,SR N w F β (tr ops.size).s a/\dN w0 h0 β0 w (tr ops.size).s.h β:=by
 obtain⟨k,ρ,β,D⟩:=D
 obtain⟨β1,D1⟩:=D.Nc L (ops.size - k) (by have:=D.kn;omega) (λj h1 h2 h3=>by
  have:=D.lo j h3.1 (hE j (by have:=D.kn;omega));omega)
 rw[show k+(ops.size - k)=ops.size by have:=D.kn;omega]at D1;obtain⟨w1,w2,w3⟩:=L.wf ops.size (Zz _);have hK:Kh tr E ops.size=(tr ops.size).s.h:=pG w2 (λj hj=>hE j (w3 j hj).1)
 have hρ:ρ=(tr ops.size).s.ρ:=by
  funext t
  refine D1.rh t ops.size (Zz _) (λj o hj _=>?_);have:j<ops.size:=(ZT.1 hj).1;simp[hE j this,this]
 have h1:=D1.hr;have h2:=D1.er;have h3:=D1.sp;rw[hK]at h1 h2 h3;rw[hρ]at h2;exact⟨β1,⟨h1,h2,D1.df,D1.sz⟩,h3⟩
theorem yx(ok:lX ops=true)(Inv:(Nat->Bool)->Act->World->Prop){Q:Exit->Act->World->Prop}
  (UK:∀(E E':Nat->Bool) (a:Act) (w:World) (i:Nat) (o:Oper),Inv E a w->Bb ops E E' i o->∀next:Act->World->Prop,(∀a' w',Inv E' a' w'->next a' w')->wpOp C.P ops Q i next a w)
  (UL:∀(E:Nat->Bool) (a:Act) (w:World),Inv E a w->(∀j,j<ops.size->E j=true)->Q .normal a w):
  ∀(fuel:Nat) (listed:Array Bool) (a:Act) (w:World),listed.size=ops.size->(∀(i:Nat) (o:Oper),ops[i]?=some o->listed.getD i false=true->∀e∈GB o,listed.getD e.on false=true)->
   (List.range ops.size).countP (λj=>!listed.getD j false)<=fuel->Inv (λj=>listed.getD j false) a w->wpAny C.P .any ops Q fuel listed a w:=by
 have all_of:∀(listed:Array Bool),listed.size=ops.size->Region.ready .any ops listed=[]->∀j,j<ops.size->listed.getD j false=true:=by
  intro listed hs hr j
  induction j using Nat.strongRecOn with
  |ind j ih=>
   intro hj
   obtain⟨o,ho⟩:=pZ (ops:=ops) hj
   cases hl:listed.getD j false with
   |true=>rfl
   |false=>
    have hm:j∈Region.ready .any ops listed:=mem_ready.2 ⟨by simp[hs,hj]at hl ⊢;exact hl,o,ho,λe he hb=>by
     have cz:=(eP ok).1 j o ho e (aao.2 ⟨by simpa using he,hb⟩);exact ih e.on cz (by omega)⟩
    rw[hr]at hm;cases hm
 have fin:∀(listed:Array Bool) (a:Act) (w:World),(∀j,j<ops.size->listed.getD j false=true)->Inv (λj=>listed.getD j false) a w->Q .normal a w:=λlisted a w eA D=>UL _ a w D eA
 intro fuel
 induction fuel with
 |zero=>
  intro listed a w hs hc hn D
  have eA:∀j,j<ops.size->listed.getD j false=true:=λj hj=>by
   have h0:=List.countP_eq_zero.1 (Nat.le_zero.1 hn) j (abB.2 hj);simpa using h0
  refine⟨?_,fin listed a w eA D⟩;apply abb.2
  intro j hj
  obtain⟨h1,o,h2,_⟩:=mem_ready.1 hj;have hjs:j<ops.size:=(ZT.1 h2).1;have:=eA j hjs;simp[hs,hjs]at h1 this;rw[h1]at this;cases this
 |succ fuel ih=>
  intro listed a w hs hc hn D
  refine⟨λhr=>fin listed a w (all_of listed hs hr) D,λi hi=>?_⟩;obtain⟨h1,o,h2,h3⟩:=mem_ready.1 hi;have XS:i<ops.size:=(ZT.1 h2).1;have sq:listed.getD i false=false:=by simp[hs,XS]at h1 ⊢;exact h1
  have di:=DX ok (E:=λj=>listed.getD j false) hc
  have JR:∀e∈GB o,listed.getD e.on false=true:=λe he=>by
   have:=aao.1 he;exact h3 e (by simpa using this.1) this.2
  have XT:∀j,xR ops i j->listed.getD j false=true:=λj hj=>by
   obtain⟨o',g1,e,g2,g3⟩:=vN hj;rw[h2]at g1;obtain rfl:=Zu g1;rcases g3 with rfl |g3
   ·exact JR e g2
   ·exact di e.on j (JR e g2) g3
  have JS:∀j,(listed.setIfInBounds i true).getD j false=true↔listed.getD j false=true\/j=i:=λj=>by
   by_cases hj:i=j
   ·subst hj;simp[hs,XS]
   ·rw[getD_set_ne false hj];simp[aak hj]
  refine UK _ (λj=>(listed.setIfInBounds i true).getD j false) a w i o D ⟨h2,sq,XT,di,JS⟩ _ (λa' w' D'=>?_);refine ih (listed.setIfInBounds i true) a' w' (by simp[hs]) (λj o' hj hl e he=>?_) ?_ D'
  ·refine(JS e.on).2 (.inl ?_);rcases(JS j).1 hl with hl |rfl
   ·exact hc j o' hj hl e he
   ·rw[h2]at hj;obtain rfl:=Zu hj;exact JR e he
  ·have:=yK (p:=λj=>!listed.getD j false) (q:=λj=>!(listed.setIfInBounds i true).getD j false) (List.range ops.size) (λj _ hq=>by
    cases hl:listed.getD j false with
    |false=>rfl
    |true=>have:=(JS j).2 (.inl hl);simp[this]at hq) ⟨i,abB.2 XS,by simp[sq],by simp[(JS i).2 (.inr rfl)]⟩
   omega
theorem Ha(K:fP C)(S:gF C run)(L:Lex C run ops tr)(hd:ops.toList.all (ji N)=true){Q:Exit->Act->World->Prop}
  (hQ:∀a w β,SR N w F β (tr ops.size).s a->dN w0 h0 β0 w (tr ops.size).s.h β->Q .normal a w):
  ∀(fuel:Nat) (listed:Array Bool) (a:Act) (w:World),listed.size=ops.size->(∀(i:Nat) (o:Oper),ops[i]?=some o->listed.getD i false=true->∀e∈GB o,listed.getD e.on false=true)->
   (List.range ops.size).countP (λj=>!listed.getD j false)<=fuel->zW ops tr N F w0 h0 β0 (λj=>listed.getD j false) a w->wpAny C.P .any ops Q fuel listed a w:=
 yx L.ok (λE a w=>zW ops tr N F w0 h0 β0 E a w)
  (λE E' a w i o D R next hK=>zW.step K S L D R (Zw.1 hd o (abJ.2 (abf R.at_))) hK)
  (λE a w D eA=>by obtain⟨β,h1,h2⟩:=D.done L eA;exact hQ a w β h1 h2)
theorem getD_none(n j:Nat):(Array.replicate n false).getD j false=false:=by
 simp only[aaJ,abx]
 split <;>rfl
theorem DZ(K:fP C)(S:gF C run)(hm:C.P.follows .mixedOrders=true){id:Nat}{Q:Exit->Act->World->Prop}(hd:ops.toList.all (ji N)=true)(hk:lX ops=true){β:List (Nat×Nat)}{s:St}{y:uu}(R:SR N w F β s a)
  (e:dy C run ops (before ops) 0 ops.toList ⟨s,s.h.length,[]⟩=some y) (hQ:∀a' w' β',SR N w' F β' y.s a'->dN w s.h β w' y.s.h β'->Q .normal a' w'):(Code.region id ops true).wp C.P Q a w:=by
 obtain⟨tr,t1,t2,t3⟩:=oH ops.toList 0 _ _ e;have L:Lex C run ops tr:=⟨hk,λi o ho=>by simpa using t2 i o (by simpa using ho),by rw[t1];exact Zz _,by rw[t1];exact⟨rfl,rfl⟩⟩;have Wt:tr ops.size=y:=by simpa using t3
 refine wp_region_any hm (Ha (w0:=w) (h0:=s.h) (β0:=β) K S L hd (F:=F) (λa' w' β' R' S'=>by rw[Wt]at R' S';exact hQ a' w' β' R' S') ops.size _ a _ (by simp) (λi o ho hl=>by rw[getD_none]at hl;cases hl) ?_ ?_)
 ·refine aaj (List.countP_le_length) (by simp)
 ·have hE:∀j,(Array.replicate ops.size false).getD j false=false:=λj=>getD_none _ j
  have hK:Kh tr (λj=>(Array.replicate ops.size false).getD j false) 0=s.h:=by
   unfold Kh;rw[t1];exact pG (by simp) (λj hj=>by cases hj)
  have G:dz w {w with drawn:=w.drawn+1}:=dz.drew w;refine⟨0,s.ρ,β,⟨aaL _,λj _ h=>(by rw[hE]at h;cases h),λj _ _ h=>by omega,by rw[t1];exact Zz _,by rw[hK];exact R.hr.Jj G,by rw[hK];exact R.er.mono (G.Pl s.h β),?_,by rw[hK];exact G.Pl s.h β,R.df,R.sz⟩⟩
  intro t k' fR hw
  rw[L.mo (t:=t) (i:=0) k' (aaL _) fR (λj o h1 h2 h3 h4=>by
   have:=(hw j o h3 h4).2 h2;rw[hE]at this;cases this),t1]
end Go.Pm
namespace Go.Pm
theorem oq{C:cK}{run:gU}{ops:Array Oper}{h0:ab}:∀(l:List Oper) (k:Nat) (x y:St),b8 C run ops (before ops) h0 k l x=some y->
  ∃tr:Nat->St,tr k=x/\(∀(i:Nat) (o:Oper),l[i]?=some o->cO C run ops (before ops) h0 (k+i) o (tr (k+i))=some (tr (k+i+1)))/\tr (k+l.length)=y
 |[],k,x,y,e=>by
  simp[b8]at e;exact⟨λ_=>x,rfl,λi o h=>by simp at h,by simpa using e⟩
 |o::l,k,x,y,e=>by
  simp only[b8]at e
  split at e
  ·rename_i x' hx
   obtain⟨tr,t1,t2,t3⟩:=oq l (k+1) x' y e;refine⟨λj=>if j<=k then x else tr j,by simp,?_,?_⟩
   ·intro i o' ho
    cases i with
    |zero=>
     simp at ho;subst ho;simp[t1,hx]
     intro hh;omega
    |succ i=>
     have:=t2 i o' (by simpa using ho);have e1:¬(k+(i+1)<=k):=by omega
     have e2:¬(k+(i+1)+1<=k):=by omega
     simp only[e1,e2,if_false];rw[show k+(i+1)=k+1+i by omega];exact this
   ·have e1:¬(k+(o::l).length<=k):=by simp
    simp only[e1,if_false];rw[<-t3];congr 1;simp;omega
  ·cases e
inductive ve(C:cK)(run:gU)(ops:Array Oper)(h0:ab)(i:Nat)(o:Oper)(x y:St):Prop
 |off:bm ops o x.ρ=some false->y=⟨bV x.ρ o.dst .undef,x.h⟩->ve C run ops h0 i o x y
 |plain (r:PV) (h1:ab):bm ops o x.ρ=some true->cR o.op=false->ao C run 1 o.op x.ρ x.h=some (r,h1)->y=⟨bV x.ρ o.dst r,x.h⟩->ve C run ops h0 i o x y
 |rd (r:PV) (h1:ab):bm ops o x.ρ=some true->gz o.op=true->(∀id,qV o.op x.ρ=some id->nX h0 id=true\/(ky ops (before ops) i=true/\zI ops (before ops) i x.ρ id=true))->az C.P 1 o.op x.ρ x.h=some (r,h1)->y=⟨bV x.ρ o.dst r,x.h⟩->ve C run ops h0 i o x y
 |made (r:PV) (h':ab):bm ops o x.ρ=some true->jm o.op=true->az C.P 1 o.op x.ρ x.h=some (r,h')->y=⟨bV x.ρ o.dst r,x.h⟩->ve C run ops h0 i o x y
 |two (r:PV) (h':ab):bm ops o x.ρ=some true->cR o.op=true->gz o.op=false->(jm o.op=true->az C.P 1 o.op x.ρ x.h=none)->iM ops (before ops) i (jm o.op)=true->ao C run 2 o.op x.ρ x.h=some (r,h')->x.h.length<=h'.length->y=⟨bV x.ρ o.dst r,mh x.h h'⟩->ve C run ops h0 i o x y
theorem Ug{C:cK}{run:gU}{ops:Array Oper}{h0:ab}{i:Nat}{o:Oper}{x y:St}(e:cO C run ops (before ops) h0 i o x=some y):ve C run ops h0 i o x y:=by
 unfold cO at e
 split at e
 ·rename_i hw
  split at e
  ·rename_i hh
   split at e
   ·rename_i r hx hv;exact .plain r hx hw hh hv (Zu e).symm
   ·cases e
  ·rename_i hh
   split at e
   ·rename_i hl
    split at e
    ·rename_i hc
     split at e
     ·rename_i r h1 hs
      refine .rd r h1 hw hl (λid bT=>?_) hs (Zu e).symm;unfold kz at hc;rw[bT]at hc;simp only[ZU,ZD]at hc;exact hc
     ·cases e
    ·cases e
   ·rename_i hl
    split at e
    ·rename_i r h1 hs
     split at hs
     ·rename_i hb;exact .made r h1 hw hb hs (Zu e).symm
     ·cases hs
    ·rename_i hs
     split at e
     ·rename_i hk
      split at e
      ·rename_i r h' hv
       split at e
       ·rename_i hle
        exact .two r h' hw (by simpa using hh) (by simpa using hl) (λhb=>by rw[if_pos hb]at hs;exact hs) hk hv hle (Zu e).symm
       ·cases e
      ·cases e
     ·cases e
 ·rename_i hw;exact .off hw (Zu e).symm
 ·cases e
theorem ot{ops:Array Oper}{i j:Nat}(h:qj (before ops) i j=true):j=i\/xR ops i j\/xR ops j i:=by
 simp only[qj,ZU,beq_iff_eq]at h;rcases h with(h1 |h1)|h1
 ·exact .inl h1.symm
 ·exact .inr (.inl h1)
 ·exact .inr (.inr h1)
theorem td{ops:Array Oper}{i:Nat}{bs:Bool}(h:iM ops (before ops) i bs=true){j:Nat}{o:Oper}(e:ops[j]?=some o)(hh:cR o.op=true)(hl:gz o.op=false)(hb:bs=true\/jm o.op=false):
  (j=i\/xR ops i j\/xR ops j i)\/((sinks ops (before ops)).isSome=true/\ops.size<=i+2/\ops.size<=j+2):=by
 have:=Zw.1 h (o,j) (by rw[aaY];exact⟨j,by simp[e]⟩);have vf:(bs || !jm o.op)=true:=by rcases hb with hb |hb <;>simp[hb]
 simp only[hh,hl,vf,abz,abF,abn,aa0,ZU,ZD,decide_eq_true_eq]at this;rcases this with h1 |h1
 ·exact .inl (ot h1)
 ·exact .inr ⟨h1.1.1,h1.1.2,h1.2⟩
theorem A8{ops:Array Oper}{i:Nat}(h:ky ops (before ops) i=true){j:Nat}{o:Oper}(e:ops[j]?=some o)(hh:cR o.op=true)(hl:gz o.op=false)(hb:jm o.op=false):
  (j=i\/xR ops i j\/xR ops j i)\/((sinks ops (before ops)).isSome=true/\ops.size<=j+2):=by
 have:=Zw.1 h (o,j) (by rw[aaY];exact⟨j,by simp[e]⟩);simp only[hh,hl,hb,abz,abF,abn,aa0,ZU,ZD,decide_eq_true_eq]at this;rcases this with h1 |h1
 ·exact .inl (ot h1)
 ·exact .inr h1
theorem yr{P:Program}{op:Op}{ρ ρ':Nat->PV}{h1 MS h2:ab}{r:PV}(hb:jm op=true)(hv:∀h,az P 1 op ρ' h=az P 1 op ρ h)(e:az P 1 op ρ h1=some (r,MS)):az P 1 op ρ' h2=some (r,h2):=by
 rw[hv]
 cases op <;>simp[jm]at hb
 simp only[az,dp]at e ⊢
 repeat' split at e
 all_goals first
  |(cases e;done)
  |(rename_i hh;exfalso;omega)
  |skip
 rename_i hz hc hi
 obtain⟨rfl,rfl⟩:=ZG (Zu e);simp only[*,if_true,and_self]
theorem Jk{P:Program}{h1 h2:ab}{t:TypeId}{p q:PV}(h:∀id ep off len,p=.aj id ep off len->getM h2 id ep=getM h1 id ep):cq P h2 t p q=cq P h1 t p q:=by
 unfold cq
 split
 ·rfl
 ·simp only[h _ _ _ _ rfl]
 ·rfl
 ·rfl
 ·rfl
theorem MY{P:Program}{h1:ab}{t:TypeId}{id ep off len:Nat}{q r:PV}(e:cq P h1 t (.aj id ep off len) q=some r):∃o,getM h1 id ep=some o:=by
 cases hg:getM h1 id ep with
 |some o=>exact⟨o,rfl⟩
 |none=>
  unfold cq at e
  split at e <;>simp_all
  all_goals(split at e <;>simp_all)
theorem Jl{P:Program}{h1 h2:ab}{t:TypeId}{p:PV}(h:∀id ep i off,p=.ptr id ep i off->getM h2 id ep=getM h1 id ep):iq P h2 t p=iq P h1 t p:=by
 have:cC h2 p=cC h1 p:=by
  unfold cC
  split
  ·rfl
  ·rw[h _ _ _ _ rfl]
  ·rfl
 unfold iq;rw[this]
theorem MZ{P:Program}{h1:ab}{t:TypeId}{id ep i off:Nat}{r:PV}(e:iq P h1 t (.ptr id ep i off)=some r):∃o,getM h1 id ep=some o:=by
 cases hg:getM h1 id ep with
 |some o=>exact⟨o,rfl⟩
 |none=>
  simp only[iq,cC,hg]at e
  split at e <;>simp_all
theorem M9{h:ab}{id ep:Nat}{o:au}(h1:h[id]?=some o)(h2:o.ep=ep)(h3:o.mu≠.x):getM h id ep=some o:=by simp[getM,h1,h2,h3]
theorem Fs{h:ab}{id ep:Nat}{o:au}(e:getM h id ep=some o):id<h.length:=ag (getM_some e).1
theorem ux{P:Program}{op:Op}{ρ:Nat->PV}{h1 MS h2:ab}{r:PV}(hr:gz op=true)(e:az P 1 op ρ h1=some (r,MS))(hs:∀id,qV op ρ=some id->h2[id]?=h1[id]?):az P 1 op ρ h2=some (r,h2)/\∀id,qV op ρ=some id->id<h1.length:=by
 cases op <;>simp[gz]at hr
 case load t x=>
  simp only[az,qV]at e hs ⊢;obtain⟨e1,_⟩:=dm e
  constructor
  ·rw[Jl (h1:=h1) (λid ep i off hp=>?_),e1]
   ·rfl
   ·rw[hp]at hs;simp only[getM,hs id rfl]
  ·intro id bT
   split at bT
   ·rename_i hx
    obtain rfl:=Zu bT;rw[hx]at e1;obtain⟨o,ho⟩:=MZ e1;exact Fs ho
   ·cases bT
 case indexAddr t x ix=>
  simp only[az,qV]at e hs ⊢;obtain⟨e1,_⟩:=dm e
  constructor
  ·rw[Jk (h1:=h1) (λid ep i off hp=>?_),e1]
   ·rfl
   ·rw[hp]at hs;simp only[getM,hs id rfl]
  ·intro id bT
   split at bT
   ·rename_i hx
    obtain rfl:=Zu bT;rw[hx]at e1;obtain⟨o,ho⟩:=MY e1;exact Fs ho
   ·cases bT
theorem q9{h h':ab}(hl:h.length<=h'.length){id:Nat}{o:au}(ho:h[id]?=some o):(mh h h')[id]?=if o.mu=.m then h'[id]? else some o:=by
 have bT:=ag ho;unfold mh;rw[Zv (by simp;omega),aaM,ho];obtain⟨o',M'⟩:=mn (l:=h') (i:=id) (by omega);rw[M'];simp only
 split <;>rfl
theorem A9{h h':ab}(hl:h.length<=h'.length){id:Nat}(bT:h.length<=id):(mh h h')[id]?=h'[id]?:=by
 unfold mh;rw[ZI (by simp;omega),Z7]
 congr 1
 simp;omega
theorem GL{h h':ab}(hl:h.length<=h'.length):(mh h h').length=h'.length:=by unfold mh;simp;omega
theorem GM{w w':World}{h h':ab}{β β':List (Nat×Nat)}(s:dN w h β w' h' β'):mh h h'=h':=by
 apply aaw
 intro id
 by_cases bT:id<h.length
 ·obtain⟨o,ho⟩:=mn (l:=h) (i:=id) bT;rw[q9 s.len ho]
  split
  ·rfl
  ·rename_i hm;exact(s.IV id o ho hm).1.symm
 ·exact A9 s.len (by omega)
theorem yu{h:ab}{id:Nat}{o o':au}(ho:h[id]?=some o)(hm:o.mu=.m):mh h (h.set id o')=h.set id o':=by
 have hl:h.length<=(h.set id o').length:=by simp
 apply aaw
 intro k
 by_cases hk:k<h.length
 ·obtain⟨a,ha⟩:=mn (l:=h) (i:=k) hk;rw[q9 hl ha]
  split
  ·rfl
  ·rename_i bI
   have:id≠k:=by rintro rfl;rw[ho]at ha;obtain rfl:=Zu ha;exact bI hm
   rw[ZC this,ha]
 ·exact A9 hl (by omega)
theorem vg{P:Program}{h h':ab}{t:TypeId}{p v:PV}(e:gC P h t p v=some h'):∃id ep i off o o',p=.ptr id ep i off/\h[id]?=some o/\o.mu=.m/\h'=h.set id o'/\∀h2:ab,h2[id]?=some o->gC P h2 t p v=some (h2.set id o'):=by
 unfold gC at e
 split at e
 ·rename_i id ep i off sz hs
  split at e
  ·rename_i o ho
   split at e
   ·rename_i el cT
    split at e
    ·rename_i hc
     obtain rfl:=Zu e;obtain⟨g1,g2,g3⟩:=getM_some ho;refine⟨id,ep,i,off,o,_,rfl,g1,hc.1,rfl,λh2 h3=>?_⟩;have hg:getM h2 id ep=some o:=M9 h3 g2 g3;unfold gC;rw[hs];simp only[hg,cT];rw[if_pos hc]
    ·cases e
   ·cases e
  ·cases e
 ·cases e
theorem Qq{C:cK}{run:gU}{op:Op}{ρ:Nat->PV}{h h':ab}{r:PV}(hb:jm op=true)(e:ao C run 2 op ρ h=some (r,h')):Ext h h':=by
 cases op <;>simp[jm]at hb
 simp only[ao,az,dp]at e
 repeat' split at e
 all_goals first
  |(cases e;done)
  |(obtain⟨rfl,rfl⟩:=ZG (Zu e);first |exact Ext.refl _ |exact⟨_,rfl⟩)
structure gk(C:cK)(run:gU)(ops:Array Oper)(h0:ab)(tr:Nat->St):Prop where
 ok:lX ops=true
 st:∀(i:Nat) (o:Oper),ops[i]?=some o->cO C run ops (before ops) h0 i o (tr i)=some (tr (i+1))
 h0:h0=(tr 0).h
 sk:ql ops (before ops) (tr ops.size).ρ=true
def iQ(P:Program)(ops:Array Oper)(tr:Nat->St)(j:Nat):Prop:=∃o,ops[j]?=some o/\cR o.op=true/\gz o.op=false/\(jm o.op=true->az P 1 o.op (tr j).ρ (tr j).h=none)/\bm ops o (tr j).ρ=some true
variable{C:cK}{run:gU}{ops:Array Oper}{h0:ab}{tr:Nat->St}
theorem gk.view(L:gk C run ops h0 tr){k:Nat}{o:Oper}(ho:ops[k]?=some o):ve C run ops h0 k o (tr k) (tr (k+1)):=Ug (L.st k o ho)
theorem gk.Xj(L:gk C run ops h0 tr){k:Nat}{o:Oper}(ho:ops[k]?=some o):∃r,(tr (k+1)).ρ=bV (tr k).ρ o.dst r:=by
 cases L.view ho with
 |off _ hy=>exact⟨_,by rw[hy]⟩
 |plain r hx _ _ _ hy=>exact⟨_,by rw[hy]⟩
 |rd r hx _ _ _ _ hy=>exact⟨_,by rw[hy]⟩
 |made r hx _ _ _ hy=>exact⟨_,by rw[hy]⟩
 |two r h' _ _ _ _ _ _ _ hy=>exact⟨_,by rw[hy]⟩
theorem gk.mo(L:gk C run ops h0 tr){t:Nat}{i:Nat}:∀k,i<=k->k<=ops.size->(∀j o,i<=j->j<k->ops[j]?=some o->o.dst≠some t)->(tr k).ρ t=(tr i).ρ t:=by
 intro k
 induction k with
 |zero=>intro h1 _ _;obtain rfl:i=0:=(by omega);rfl
 |succ k ih=>
  intro h1 h2 h3
  by_cases hi:i=k+1
  ·subst hi;rfl
  ·obtain⟨o,ho⟩:=pZ (ops:=ops) (k:=k) (by omega);obtain⟨r,hr⟩:=L.Xj ho;rw[hr,na,if_neg (h3 k o (by omega) (by omega) ho)];exact ih (by omega) (by omega) (λj o' a b c=>h3 j o' a (by omega) c)
theorem gk.aQ(L:gk C run ops h0 tr){k:Nat}(hk:k<ops.size)(hn:¬iQ C.P ops tr k):(tr (k+1)).h=(tr k).h:=by
 obtain⟨o,ho⟩:=pZ (ops:=ops) hk
 cases L.view ho with
 |off _ hy=>rw[hy]
 |plain r hx _ _ _ hy=>rw[hy]
 |rd r hx _ _ _ _ hy=>rw[hy]
 |made r hx _ _ _ hy=>rw[hy]
 |two r h' hw hh hl hb _ _ _ hy=>exact absurd ⟨o,ho,hh,hl,hb,hw⟩ hn
theorem gk.wr(L:gk C run ops h0 tr){k:Nat}{o:Oper}(ho:ops[k]?=some o)(hr:iQ C.P ops tr k):cR o.op=true/\gz o.op=false/\iM ops (before ops) k (jm o.op)=true/\
  ∃r h',ao C run 2 o.op (tr k).ρ (tr k).h=some (r,h')/\(tr k).h.length<=h'.length/\tr (k+1)=⟨bV (tr k).ρ o.dst r,mh (tr k).h h'⟩:=by
 obtain⟨o',e,h1,h2,h3,h4⟩:=hr;rw[ho]at e;obtain rfl:=Zu e
 cases L.view ho with
 |off Dt _=>rw[Dt]at h4;cases h4
 |plain r2 hx _ Wn _ _=>rw[Wn]at h1;cases h1
 |rd r2 hx _ hl' _ _ _=>rw[hl']at h2;cases h2
 |made r2 hx _ dK IW _=>rw[h3 dK]at IW;cases IW
 |two r h' _ _ _ _ hk hv hle hy=>exact⟨h1,h2,hk,r,h',hv,hle,hy⟩
theorem gk.grow(L:gk C run ops h0 tr){k:Nat}(hk:k<ops.size):(tr k).h.length<=(tr (k+1)).h.length:=by
 obtain⟨o,ho⟩:=pZ (ops:=ops) hk
 by_cases hr:iQ C.P ops tr k
 ·obtain⟨_,_,_,r,h',_,hle,hy⟩:=L.wr ho hr;rw[hy,GL hle];exact hle
 ·rw[L.aQ hk hr];exact Zz _
theorem gk.old(L:gk C run ops h0 tr){id:Nat}{o:au}(h1:h0[id]?=some o)(h2:o.mu≠.m):∀k,k<=ops.size->(tr k).h[id]?=some o:=by
 intro k
 induction k with
 |zero=>intro _;rw[<-L.h0];exact h1
 |succ k ih=>
  intro hk
  have ih:=ih (by omega);obtain⟨q,hq⟩:=pZ (ops:=ops) (k:=k) (by omega)
  by_cases hr:iQ C.P ops tr k
  ·obtain⟨_,_,_,r,h',_,hle,hy⟩:=L.wr hq hr;rw[hy];rw[q9 hle ih,if_neg h2]
  ·rw[L.aQ (by omega) hr];exact ih
theorem gk.ord(L:gk C run ops h0 tr){i j:Nat}(hi:iQ C.P ops tr i)(hj:iQ C.P ops tr j):(j=i\/xR ops i j\/xR ops j i)\/((sinks ops (before ops)).isSome=true/\ops.size<=i+2/\ops.size<=j+2):=by
 obtain⟨oi,ei,_⟩:=id hi;obtain⟨oj,ej,_⟩:=id hj;obtain⟨a1,a2,a3,_⟩:=L.wr ei hi;obtain⟨b1,b2,b3,_⟩:=L.wr ej hj
 by_cases hb:jm oj.op=true
 ·rcases td b3 ei a1 a2 (.inl hb)with h |h
  ·exact .inl (by rcases h with h |h |h;exact .inl h.symm;exact .inr (.inr h);exact .inr (.inl h))
  ·exact .inr ⟨h.1,h.2.2,h.2.1⟩
 ·exact td a3 ej b1 b2 (.inr (by simpa using hb))
structure SD(C:cK)(run:gU)(ops:Array Oper)(tr:Nat->St)(q1 q2:Oper)(id1 id2:Nat)(a1 a2 xE pT:au)(x y:Operand):Prop where
 n2:2<=ops.size
 s:sinks ops (before ops)=some (x,y)
 e1:ops[ops.size - 2]?=some q1
 e2:ops[ops.size - 1]?=some q2
 d1:q1.dst=none
 d2:q2.dst=none
 r1:iQ C.P ops tr (ops.size - 2)
 r2:iQ C.P ops tr (ops.size - 1)
 ne:id1≠id2
 g1:(tr (ops.size - 2)).h[id1]?=some a1
 g2:(tr (ops.size - 2)).h[id2]?=some a2
 m2:a2.mu=.m
 x1:∃ep i off,ev (tr (ops.size - 2)).ρ x=.ptr id1 ep i off
 x2:∃ep i off,ev (tr (ops.size - 2)).ρ y=.ptr id2 ep i off
 h1:(tr (ops.size - 1)).h=(tr (ops.size - 2)).h.set id1 xE
 h2:(tr ops.size).h=((tr (ops.size - 2)).h.set id1 xE).set id2 pT
 p1:(tr (ops.size - 1)).ρ=(tr (ops.size - 2)).ρ
 p2:(tr ops.size).ρ=(tr (ops.size - 2)).ρ
 v1:∀(ρ:Nat->PV) (h:ab),(∀z∈q1.op.operands.toList,ev ρ z=ev (tr (ops.size - 2)).ρ z)->h[id1]?=some a1->ao C run 2 q1.op ρ h=some (.undef,h.set id1 xE)
 v2:∀(ρ:Nat->PV) (h:ab),(∀z∈q2.op.operands.toList,ev ρ z=ev (tr (ops.size - 2)).ρ z)->h[id2]?=some a2->ao C run 2 q2.op ρ h=some (.undef,h.set id2 pT)
theorem yv{o:Oper}{a:Operand}(h:Fi o=some a):o.dst=none/\o.guard=none/\∃t v,o.op=.store t a v:=by
 unfold Fi at h
 split at h
 ·rename_i h1 h2 h3
  obtain rfl:=Zu h;exact⟨h2,h3,_,_,h1⟩
 ·cases h
theorem gk.sd(L:gk C run ops h0 tr){x y:Operand}(hs:sinks ops (before ops)=some (x,y)):∃q1 q2 id1 id2 a1 a2 xE pT,SD C run ops tr q1 q2 id1 id2 a1 a2 xE pT x y:=by
 have hs0:=hs;unfold sinks at hs
 split at hs
 ·rename_i hc
  split at hs
  ·rename_i x' y' hx hy
   obtain⟨rfl,rfl⟩:=ZG (Zu hs);obtain⟨q1,e1,k1⟩:=Option.bind_eq_some_iff.1 hx;obtain⟨q2,e2,k2⟩:=Option.bind_eq_some_iff.1 hy;rw[Z1]at e1 e2;obtain⟨d1,g1,t1,v1,o1⟩:=yv k1;obtain⟨d2,g2,t2,v2,o2⟩:=yv k2;have r1:iQ C.P ops tr (ops.size - 2):=⟨q1,e1,by rw[o1];rfl,by rw[o1];rfl,(λh=>by rw[o1]at h;cases h),by simp[bm,g1]⟩;have r2:iQ C.P ops tr (ops.size - 1):=⟨q2,e2,by rw[o2];rfl,by rw[o2];rfl,(λh=>by rw[o2]at h;cases h),by simp[bm,g2]⟩;obtain⟨_,_,_,w1,h1,f1,l1,y1⟩:=L.wr e1 r1;obtain⟨_,_,_,w2,h2,f2,l2,y2⟩:=L.wr e2 r2;have n12:ops.size - 2+1=ops.size - 1:=by omega
   have n2:ops.size - 1+1=ops.size:=by omega
   rw[n12]at y1;rw[n2]at y2;rw[o1]at f1;rw[o2]at f2;simp only[ao,az,Zz,if_true]at f1 f2;obtain⟨s1,f3,f1'⟩:=aai.1 f1;obtain⟨s2,f4,f2'⟩:=aai.1 f2;obtain⟨rfl,rfl⟩:=ZG f1';obtain⟨rfl,rfl⟩:=ZG f2';obtain⟨id1,ep1,i1,Na,a1,xE,p1,b1,m1,c1,z1⟩:=vg f3;obtain⟨id2,Wo,i2,Za,a2,pT,p2,b2,m2,c2,z2⟩:=vg f4;have hρ1:(tr (ops.size - 1)).ρ=(tr (ops.size - 2)).ρ:=by rw[y1,d1];rfl
   have hρ2:(tr ops.size).ρ=(tr (ops.size - 2)).ρ:=by rw[y2,d2];exact hρ1
   have Xk:(tr (ops.size - 1)).h=(tr (ops.size - 2)).h.set id1 xE:=by rw[y1,c1];exact yu b1 m1
   have bI:id1≠id2:=by
    have:=L.sk;unfold ql at this;rw[hs0]at this;simp only[hρ2]at this;rw[hρ1]at p2;rw[p1,p2]at this;simpa using this
   have vf:(tr (ops.size - 2)).h[id2]?=some a2:=by
    rw[Xk,ZC bI]at b2;exact b2
   have yw:(tr ops.size).h=((tr (ops.size - 2)).h.set id1 xE).set id2 pT:=by
    rw[y2,c2];simp only;rw[yu b2 m2,Xk]
   refine⟨q1,q2,id1,id2,a1,a2,xE,pT,⟨hc.1,hs0,e1,e2,d1,d2,r1,r2,bI,b1,vf,m2,⟨_,_,_,p1⟩,⟨_,_,_,by rw[<-hρ1];exact p2⟩,Xk,yw,hρ1,hρ2,?_,?_⟩⟩
   ·intro ρ h hz hb
    rw[o1]at hz ⊢;simp only[Op.operands]at hz;have za:=hz x' (by simp);have zv:=hz v1 (by simp);simp only[ao,az,Zz,if_true,za,zv];rw[z1 h hb];rfl
   ·intro ρ h hz hb
    rw[o2]at hz ⊢;simp only[Op.operands]at hz;have za:=hz y' (by simp);have zv:=hz v2 (by simp);simp only[ao,az,Zz,if_true,za,zv];rw[<-hρ1,z2 h hb];rfl
  ·cases hs
 ·cases hs
def RH(ops:Array Oper)(tr:Nat->St)(E:Nat->Bool)(ρ:Nat->PV):Prop:=∀t k',k'<=ops.size->(∀j o,ops[j]?=some o->o.dst=some t->(E j=true↔j<k'))->ρ t=(tr k').ρ t
structure Ba(C:cK)(ops:Array Oper)(tr:Nat->St)(N:Nat)(F:Nat->Prop)(w0:World)(h0:ab)(β0:List (Nat×Nat))(E:Nat->Bool)(a:Act)(w:World)(k:Nat)(ρ:Nat->PV)(β:List (Nat×Nat)):Prop where
 kn:k<=ops.size
 lo:∀j,iQ C.P ops tr j->E j=true->j<k
 hi:∀j,iQ C.P ops tr j->j<k->E j=true
 hr:aZ w F β (tr k).h
 er:gM w (Av F (tr k).h β) β (tr k).h a ρ
 rh:RH ops tr E ρ
 sp:dN w0 h0 β0 w (tr k).h β
 df:a.defers=[]
 sz:N<=a.tmps.size
structure Qr(C:cK)(run:gU)(ops:Array Oper)(tr:Nat->St)(N:Nat)(F:Nat->Prop)(w0:World)(h0:ab)(β0:List (Nat×Nat))(E:Nat->Bool)(a:Act)(w:World)(q1 q2:Oper)(id1 id2:Nat)(a1 a2 xE pT:au)(x y:Operand)(ρ:Nat->PV)(β:List (Nat×Nat)):Prop where
 sd:SD C run ops tr q1 q2 id1 id2 a1 a2 xE pT x y
 s1:E (ops.size - 2)=false
 al:∀j,iQ C.P ops tr j->j≠ops.size - 2->E j=true
 hr:aZ w F β ((tr (ops.size - 2)).h.set id2 pT)
 er:gM w (Av F ((tr (ops.size - 2)).h.set id2 pT) β) β ((tr (ops.size - 2)).h.set id2 pT) a ρ
 rh:RH ops tr E ρ
 sp:dN w0 h0 β0 w ((tr (ops.size - 2)).h.set id2 pT) β
 df:a.defers=[]
 sz:N<=a.tmps.size
variable{N:Nat}{F:Nat->Prop}{w0:World}{Nb:ab}{β0:List (Nat×Nat)}{E E':Nat->Bool}{a:Act}{w:World}
def vj(C:cK)(run:gU)(ops:Array Oper)(tr:Nat->St)(N:Nat)(F:Nat->Prop)(w0:World)(h0:ab)(β0:List (Nat×Nat))(E:Nat->Bool)(a:Act)(w:World):Prop:=
 (∃k ρ β,Ba C ops tr N F w0 h0 β0 E a w k ρ β)\/(∃q1 q2 id1 id2 a1 a2 xE pT x y ρ β,Qr C run ops tr N F w0 h0 β0 E a w q1 q2 id1 id2 a1 a2 xE pT x y ρ β)
theorem Ba.Nc(L:gk C run ops h0 tr){ρ:Nat->PV}{β:List (Nat×Nat)}:∀(d:Nat) {k:Nat},Ba C ops tr N F w0 Nb β0 E a w k ρ β->k+d<=ops.size->(∀j,k<=j->j<k+d->¬iQ C.P ops tr j)->Ba C ops tr N F w0 Nb β0 E a w (k+d) ρ β
 |0,k,D,_,_=>D
 |d+1,k,D,h1,h2=>by
  have hk:=L.aQ (k:=k) (by omega) (h2 k (Zz _) (by omega))
  have D1:Ba C ops tr N F w0 Nb β0 E a w (k+1) ρ β:=by
   refine⟨by omega,λj g1 g2=>by have:=D.lo j g1 g2;omega,λj g1 g2=>?_,by rw[hk];exact D.hr,by rw[hk];exact D.er,D.rh,by rw[hk];exact D.sp,D.df,D.sz⟩
   by_cases hj:j=k
   ·subst hj;exact absurd g1 (h2 j (Zz _) (by omega))
   ·exact D.hi j g1 (by omega)
  have:=Ba.Nc L d D1 (by omega) (λj g1 g2=>h2 j (by omega) (by omega));rw[show k+(d+1)=k+1+d by omega];exact this
theorem RH.look(L:gk C run ops h0 tr){ρ:Nat->PV}(D:RH ops tr E ρ){i:Nat}{o:Oper}(R:Bb ops E E' i o){t:Nat}(ht:t∈o.looksAt ops):ρ t=(tr i).ρ t:=by
 have hi:i<ops.size:=(ZT.1 R.at_).1;refine D t i (by omega) (λj o' hj hd=>?_);rcases aaT j i with h |h |h
 ·exact⟨λ_=>h,λ_=>R.Qs j ((eP L.ok).2 i j o o' R.at_ hj h (.inl (mq hd (.inl ht))))⟩
 ·subst h;rw[R.out];simp
 ·have:=R.later ((eP L.ok).2 j i o' o hj R.at_ h (.inr (mq hd (.inl ht))));rw[this]
  constructor
  ·intro hh;cases hh
  ·intro hh;omega
theorem RH.Jm(L:gk C run ops h0 tr){ρ:Nat->PV}(D:RH ops tr E ρ){i:Nat}{o:Oper}(R:Bb ops E E' i o):∀x∈o.op.operands.toList,ev ρ x=ev (tr i).ρ x:=by
 intro x hx
 cases x with
 |tmp t=>exact D.look L R (aa3 _ (List.mem_filterMap.2 ⟨.tmp t,hx,rfl⟩))
 |_=>rfl
theorem RH.Ft(L:gk C run ops h0 tr){ρ:Nat->PV}(D:RH ops tr E ρ){i:Nat}{o:Oper}(R:Bb ops E E' i o):bm ops o ρ=bm ops o (tr i).ρ:=by
 unfold bm
 cases hg:o.guard with
 |none=>rfl
 |some jw=>
  obtain⟨j,want⟩:=jw;simp only
  cases hd:(ops.toList[j]?).bind (·.dst)with
  |none=>rfl
  |some d=>
   have Db:(ops[j]?).bind (·.dst)=some d:=by simpa using hd
   have:ρ d=(tr i).ρ d:=D.look L R (abH _ (by simp[hg,Db]));simp only[this]
theorem RH.on(L:gk C run ops h0 tr){ρ:Nat->PV}(D:RH ops tr E ρ){i:Nat}{o:Oper}(R:Bb ops E E' i o){r:PV}(hr:(tr (i+1)).ρ=bV (tr i).ρ o.dst r):RH ops tr E' (bV ρ o.dst r):=by
 intro t k' hk hw
 rw[na]
 split
 ·rename_i ht
  have Du:i<k':=(hw i o R.at_ ht).1 ((R.nH i).2 (.inr rfl));rw[L.mo (t:=t) (i:=i+1) k' Du hk (λj o' h1 h2 h3 h4=>?_),hr,na,if_pos ht];have he:=(hw j o' h3 h4).2 h2;rcases(R.nH j).1 he with he |he
  ·rw[R.later ((eP L.ok).2 j i o' o h3 R.at_ (by omega) (.inl (mq ht (.inr h4))))]at he
   cases he
  ·omega
 ·rename_i ht
  refine D t k' hk (λj o' h1 h2=>?_)
  have xS:j≠i:=by
   rintro rfl;rw[R.at_]at h1;obtain rfl:=Zu h1;exact ht h2
  rw[<-hw j o' h1 h2,R.nH];simp[xS]
theorem gk.Uh(L:gk C run ops h0 tr){m id:Nat}{o:Oper}(ho:ops[m]?=some o)(hr:iQ C.P ops tr m)(hb:jm o.op=true)(bT:id<(tr m).h.length):(tr (m+1)).h[id]?=(tr m).h[id]?:=by
 obtain⟨_,_,_,r,h',hv,hle,hy⟩:=L.wr ho hr;obtain⟨ext,rfl⟩:=Qq hb hv;rw[hy];obtain⟨ob,hob⟩:=mn (l:=(tr m).h) (i:=id) bT;simp only;rw[q9 hle hob]
 split
 ·rw[Zv bT]
 ·exact hob.symm
theorem gk.target(L:gk C run ops h0 tr){i id j:Nat}{x:Operand}(ho:Dp ops (tr i).ρ x id=true)(hi:i<=ops.size - 2)(hx:∃ep k off,ev (tr (ops.size - 2)).ρ x=.ptr j ep k off):j≠id:=by
 obtain⟨ep,k,off,hx⟩:=hx;unfold Dp at ho;simp only[ZD]at ho
 have he:ev (tr (ops.size - 2)).ρ x=ev (tr i).ρ x:=by
  cases x with
  |tmp t=>
   refine L.mo (t:=t) (i:=i) _ hi (by omega) (λm o _ _ hm hd=>?_);have h1:=ho.1;simp only[aaS,aaU]at h1;exact h1 o (abJ.2 (abf hm)) (by simp[hd])
  |_=>rfl
 rw[<-he,hx]at ho;simpa using ho.2
theorem Bc{h0:ab}{id:Nat}(h:nX h0 id=true):∃o,h0[id]?=some o/\o.mu≠.m:=by
 unfold nX at h
 split at h
 ·rename_i o ho;exact⟨o,ho,by simpa using h⟩
 ·cases h
theorem gk.Na(L:gk C run ops h0 tr){i m id:Nat}{o:Oper}(R:Bb ops E E' i o)(Mx:gz o.op=true)(hl:ky ops (before ops) i=true)(fQ:zI ops (before ops) i (tr i).ρ id=true)(hm:m<ops.size)(bT:id<(tr m).h.length)
  (hE:iQ C.P ops tr m->(m<i/\E m=false)\/(i<=m/\E m=true)):(tr (m+1)).h[id]?=(tr m).h[id]?:=by
 by_cases hr:iQ C.P ops tr m
 ·obtain⟨om,Ui⟩:=pZ (ops:=ops) hm
  by_cases hb:jm om.op=true
  ·exact L.Uh Ui hr hb bT
  ·obtain⟨w1,w2,_⟩:=L.wr Ui hr
   have no:¬(m=i\/xR ops i m\/xR ops m i):=by
    rintro(h |h |h)
    ·subst h;rw[R.at_]at Ui;obtain rfl:=Zu Ui;rw[Mx]at w2;cases w2
    ·have h1:=R.Qs m h;have h2:=qs L.ok i m h;rcases hE hr with⟨_,h3⟩|⟨h3,_⟩
     ·rw[h1]at h3;cases h3
     ·omega
    ·have h1:=R.later h;have h2:=qs L.ok m i h;rcases hE hr with⟨h3,_⟩|⟨_,h3⟩
     ·omega
     ·rw[h1]at h3;cases h3
   rcases A8 hl Ui w1 w2 (by simpa using hb)with h |⟨hs,hn⟩
   ·exact absurd h no
   ·obtain⟨⟨x,y⟩,hs⟩:=abv.1 hs;obtain⟨q1,q2,id1,id2,a1,a2,xE,pT,S⟩:=L.sd hs;have n2:=S.n2;unfold zI at fQ;rw[hs]at fQ;simp only[ZD,ZU]at fQ;have cz:=(ZT.1 R.at_).1
    have Pn:i<=ops.size - 2:=by
     rcases Z8 (ops.size - 2) i with h |h
     ·have:i=ops.size - 1:=by omega
      subst this;have h3:=R.at_;rw[S.e2]at h3;obtain rfl:=Zu h3;have:=(L.wr S.e2 S.r2).2.1;rw[Mx]at this;cases this
     ·exact h
    have Xl:m=ops.size - 2\/m=ops.size - 1:=by omega
    rcases Xl with rfl |rfl
    ·have Jn:=fQ.1.resolve_left (λhc=>no (ot hc));have bI:=L.target Jn Pn S.x1;rw[show ops.size - 2+1=ops.size - 1 by omega,S.h1,ZC bI]
    ·have Jn:=fQ.2.resolve_left (λhc=>no (ot hc));have bI:=L.target Jn Pn S.x2;rw[show ops.size - 1+1=ops.size by omega,S.h2,S.h1,ZC bI]
 ·rw[L.aQ hm hr]
theorem Ba.agree(L:gk C run ops h0 tr){k:Nat}{ρ:Nat->PV}{β:List (Nat×Nat)}(D:Ba C ops tr N F w0 Nb β0 E a w k ρ β){i id:Nat}{o:Oper}(R:Bb ops E E' i o)(Mx:gz o.op=true)(h1:id<(tr k).h.length)(h2:id<(tr i).h.length)
  (hc:nX h0 id=true\/(ky ops (before ops) i=true/\zI ops (before ops) i (tr i).ρ id=true)):(tr k).h[id]?=(tr i).h[id]?:=by
 have hi:i<ops.size:=(ZT.1 R.at_).1;have Wp:=D.kn;rcases hc with hc |⟨hl,fQ⟩
 ·obtain⟨ob,b1,b2⟩:=Bc hc;rw[L.old b1 b2 k D.kn,L.old b1 b2 i (by omega)]
 ·rcases Nat.le_total k i with Po |Du
  ·have key:∀m,k<=m->m<=i->id<(tr m).h.length/\(tr m).h[id]?=(tr k).h[id]?:=by
    intro m
    induction m with
    |zero=>intro a1 _;obtain rfl:k=0:=(by omega);exact⟨h1,rfl⟩
    |succ m ih=>
     intro a1 a2
     by_cases hk:k=m+1
     ·subst hk;exact⟨h1,rfl⟩
     ·obtain⟨i1,i2⟩:=ih (by omega) (by omega);refine⟨aaf i1 (L.grow (by omega)),(L.Na R Mx hl fQ (by omega) i1 (λhr=>.inl ⟨by omega,?_⟩)).trans i2⟩
      cases he:E m with
      |false=>rfl
      |true=>have:=D.lo m hr he;omega
   exact(key i Po (Zz _)).2.symm
  ·have key:∀m,i<=m->m<=k->id<(tr m).h.length/\(tr m).h[id]?=(tr i).h[id]?:=by
    intro m
    induction m with
    |zero=>intro a1 _;obtain rfl:i=0:=(by omega);exact⟨h2,rfl⟩
    |succ m ih=>
     intro a1 a2
     by_cases hk:i=m+1
     ·subst hk;exact⟨h2,rfl⟩
     ·obtain⟨i1,i2⟩:=ih (by omega) (by omega);exact⟨aaf i1 (L.grow (by omega)),(L.Na R Mx hl fQ (by omega) i1 (λhr=>.inr ⟨by omega,D.hi m hr (by omega)⟩)).trans i2⟩
   exact(key k Du (Zz _)).2
theorem Qr.agree(L:gk C run ops h0 tr){q1 q2:Oper}{id1 id2:Nat}{a1 a2 xE pT:au}{x y:Operand}{ρ:Nat->PV}{β:List (Nat×Nat)}(D:Qr C run ops tr N F w0 Nb β0 E a w q1 q2 id1 id2 a1 a2 xE pT x y ρ β){i id:Nat}{o:Oper}(R:Bb ops E E' i o)(Mx:gz o.op=true)(h2:id<(tr i).h.length)
  (hc:nX h0 id=true\/(ky ops (before ops) i=true/\zI ops (before ops) i (tr i).ρ id=true)):((tr (ops.size - 2)).h.set id2 pT)[id]?=(tr i).h[id]?:=by
 have hi:i<ops.size:=(ZT.1 R.at_).1;have S:=D.sd;have n2:=S.n2
 have rdNot:∀(j:Nat) (q:Oper),ops[j]?=some q->iQ C.P ops tr j->i≠j:=by
  rintro j q hq hr rfl;have:=(L.wr hq hr).2.1;rw[R.at_]at hq;obtain rfl:=Zu hq;rw[Mx]at this;cases this
 have g1:=rdNot _ _ S.e1 S.r1;have g2:=rdNot _ _ S.e2 S.r2;have kG:i<ops.size - 2:=by omega
 rcases hc with hc |⟨hl,fQ⟩
 ·obtain⟨ob,b1,b2⟩:=Bc hc;have e1:=L.old b1 b2 (ops.size - 2) (by omega)
  have bI:id2≠id:=by
   rintro rfl;rw[S.g2]at e1;obtain rfl:=Zu e1;exact b2 S.m2
  rw[ZC bI,e1,L.old b1 b2 i (by omega)]
 ·have key:∀m,i<=m->m<=ops.size - 2->id<(tr m).h.length/\(tr m).h[id]?=(tr i).h[id]?:=by
   intro m
   induction m with
   |zero=>intro a1 _;obtain rfl:i=0:=(by omega);exact⟨h2,rfl⟩
   |succ m ih=>
    intro a1 a2
    by_cases hk:i=m+1
    ·subst hk;exact⟨h2,rfl⟩
    ·obtain⟨i1,i2⟩:=ih (by omega) (by omega);exact⟨aaf i1 (L.grow (by omega)),(L.Na R Mx hl fQ (by omega) i1 (λhr=>.inr ⟨by omega,D.al m hr (by omega)⟩)).trans i2⟩
  have Jn:Dp ops (tr i).ρ y id=true:=by
   unfold zI at fQ;rw[S.s]at fQ;simp only[ZD,ZU]at fQ;refine fQ.2.resolve_left (λqo=>?_);have hE2:=D.al _ S.r2 (by omega);rcases ot qo with h |h |h
   ·omega
   ·have:=qs L.ok _ _ h;omega
   ·have:=R.later h;rw[hE2]at this;cases this
  have bI:=L.target Jn (by omega) S.x2;rw[ZC bI];exact(key (ops.size - 2) (by omega) (Zz _)).2
theorem fv{C:cK}{run:gU}{lv:Nat}{op:Op}{ρ:Nat->PV}{h:ab}(hb:gz op=true\/jm op=true):ao C run lv op ρ h=az C.P lv op ρ h:=by
 cases op <;>first |rfl |(rcases hb with hb |hb <;>simp[gz,jm]at hb)
theorem vj.step(K:fP C)(S:gF C run)(L:gk C run ops h0 tr)(D:vj C run ops tr N F w0 Nb β0 E a w){i:Nat}{o:Oper}(R:Bb ops E E' i o)(hd:ji N o=true)
  {Q:Exit->Act->World->Prop} {next:Act->World->Prop} (hK:∀a' w',vj C run ops tr N F w0 Nb β0 E' a' w'->next a' w'):wpOp C.P ops Q i next a w:=by
 have hi:i<ops.size:=(ZT.1 R.at_).1;unfold wpOp;rw[R.at_];simp only
 have noRan:(cR o.op=true->gz o.op=false->(jm o.op=true->az C.P 1 o.op (tr i).ρ (tr i).h=none)->bm ops o (tr i).ρ=some true->False)->¬iQ C.P ops tr i:=by
  rintro hh ⟨o',h1,h2,h3,h4,h5⟩;rw[R.at_]at h1;obtain rfl:=Zu h1;exact hh h2 h3 h4 h5
 have eq':∀j,j≠i->E' j=E j:=λj hj=>by
  have:=R.nH j;simp only[hj,or_false]at this
  cases h1:E j <;>cases h2:E' j <;>simp_all
 rcases D with⟨k,ρ,β,D⟩|⟨q1,q2,id1,id2,a1,a2,xE,pT,x,y,ρ,β,D⟩
 ·have j3:=D.rh.Ft L R;have uc:=D.rh.Jm L R;have jf:∀lv h,ao C run lv o.op ρ h=ao C run lv o.op (tr i).ρ h:=λlv h=>lG uc
  have stay:∀{r:PV} {v:Value} {w':World} {β':List (Nat×Nat)},¬iQ C.P ops tr i->(tr (i+1)).ρ=bV (tr i).ρ o.dst r->aD w' (Av F (tr k).h β') β' (tr k).h v r->aZ w' F β' (tr k).h->dN w (tr k).h β w' (tr k).h β'->next (a.put o.dst v) w':=by
   intro r v w' β' hn hr q1 q2 q3
   refine hK _ _ (.inl ⟨k,bV ρ o.dst r,β',D.kn,?_,?_,q2,(D.er.mono q3).put (gN hd D.sz) q1,D.rh.on L R hr,D.sp.trans q3,by rw[dH];exact D.df,by rw[fW];exact D.sz⟩)
   ·intro j h1 h2
    rcases(R.nH j).1 h2 with h2 |rfl
    ·exact D.lo j h1 h2
    ·exact absurd h1 hn
   ·intro j h1 h2
    exact(R.nH j).2 (.inl (D.hi j h1 h2))
  have quiet:∀{r:PV},bm ops o (tr i).ρ=some true->¬iQ C.P ops tr i->(tr (i+1)).ρ=bV (tr i).ρ o.dst r->ao C run 1 o.op ρ (tr k).h=some (r,(tr k).h)->o.wp C.P a w next Q:=by
   intro r hw hn hr e
   exact iR K S D.hr D.er e (λv w' β' q1 q2 q3 q4=>stay hn hr q1 q2 q3)
  cases L.view R.at_ with
  |off hw hy=>
   rw[cL D.er (by rw[j3];exact hw),if_neg (by simp)];exact stay (noRan λ_ _ _ h3=>by rw[hw]at h3;cases h3) (by rw[hy]) .undef D.hr (dN.refl _ _ _)
  |plain r hx hw hh hv hy=>
   rw[cL D.er (by rw[j3];exact hw),if_pos rfl];exact .inl (quiet hw (noRan λh2 _ _ _=>by rw[hh]at h2;cases h2) (by rw[hy]) (by rw[jf];exact oc hh hv))
  |rd r hx hw hl hc hv hy=>
   rw[cL D.er (by rw[j3];exact hw),if_pos rfl];refine .inl (quiet hw (noRan λ_ h2 _ _=>by rw[hl]at h2;cases h2) (by rw[hy]) ?_);rw[jf,fv (.inl hl)];refine(ux hl hv (λid bT=>?_)).1;have h2:=(ux hl hv (λ_ _=>rfl)).2 id bT
   have h1:id<(tr k).h.length:=by
    cases kH:o.op with
    |load t z=>
     rw[kH]at bT uc;simp only[qV]at bT;have hz:=uc z (by simp[Op.operands]);have hr:=D.er.ev z;rw[hz]at hr
     cases hq:ev (tr i).ρ z with
     |ptr j ep k2 off=>rw[hq]at bT hr;obtain rfl:=Zu bT;exact hr.zN.1
     |_=>rw[hq]at bT;cases bT
    |indexAddr t z u=>
     rw[kH]at bT uc;simp only[qV]at bT;have hz:=uc z (by simp[Op.operands]);have hr:=D.er.ev z;rw[hz]at hr
     cases hq:ev (tr i).ρ z with
     |aj j ep off len=>rw[hq]at bT hr;obtain rfl:=Zu bT;exact hr.dG.1
     |_=>rw[hq]at bT;cases bT
    |_=>rw[kH]at hl;cases hl
   exact D.agree L R hl h1 h2 (hc id bT)
  |made r hx hw hb hv hy=>
   rw[cL D.er (by rw[j3];exact hw),if_pos rfl];refine .inl (quiet hw (noRan λ_ _ h3 _=>by rw[h3 hb]at hv;cases hv) (by rw[hy]) ?_);rw[fv (.inr hb)];exact yr hb (λh=>by rw[<-fv (C:=C) (run:=run) (.inr hb),<-fv (C:=C) (run:=run) (.inr hb)];exact jf 1 h) hv
  |two r h' hw hh xT Qt hl hv hle hy=>
   rw[cL D.er (by rw[j3];exact hw),if_pos rfl];refine .inl ?_;have Dv:iQ C.P ops tr i:=⟨o,R.at_,hh,xT,Qt,hw⟩
   have Po:k<=i:=by
    rcases Z8 i k with h |h
    ·have:=D.hi i Dv h;rw[R.out]at this;cases this
    ·exact h
   have main:(∀j,iQ C.P ops tr j->j<i->E j=true)->o.wp C.P a w next Q:=by
    intro anc_of
    have D1:=D.Nc L (i - k) (by omega) (λj h1 h2 h3=>by
     have:=D.lo j h3 (anc_of j h3 (by omega));omega)
    rw[show k+(i - k)=i by omega]at D1;refine iR K S D1.hr D1.er (by rw[jf];exact hv) (λv w' β' q1 q2 q3 q4=>hK _ _ (.inl ?_));have Qu:(tr (i+1)).h=h':=by rw[hy];exact GM q3
    refine⟨i+1,bV ρ o.dst r,β',by omega,?_,?_,by rw[Qu];exact q2,by rw[Qu];exact(D1.er.mono q3).put (gN hd D.sz) q1,D.rh.on L R (by rw[hy]),by rw[Qu];exact D1.sp.trans q3,by rw[dH];exact D.df,by rw[fW];exact D.sz⟩
    ·intro j h1 h2
     rcases(R.nH j).1 h2 with h2 |rfl
     ·have:=D1.lo j h1 h2;omega
     ·omega
    ·intro j h1 h3
     by_cases hj:j=i
     ·exact(R.nH j).2 (.inr hj)
     ·exact(R.nH j).2 (.inl (anc_of j h1 (by omega)))
   have ordE:∀j,iQ C.P ops tr j->j<i->¬((sinks ops (before ops)).isSome=true/\ops.size<=i+2/\ops.size<=j+2)->E j=true:=by
    intro j hj cz Ws
    rcases(L.ord Dv hj).resolve_right Ws with h |h |h
    ·omega
    ·exact R.Qs j h
    ·have:=qs L.ok j i h;omega
   by_cases hb:(sinks ops (before ops)).isSome=true/\i=ops.size - 1/\E (ops.size - 2)=false
   ·obtain⟨hs,kG,hE1⟩:=hb;obtain⟨⟨x,y⟩,hs⟩:=abv.1 hs;obtain⟨q1,q2,id1,id2,a1,a2,xE,pT,SS⟩:=L.sd hs;have n2:=SS.n2;have before2:∀j,iQ C.P ops tr j->j<ops.size - 2->E j=true:=λj hj cz=>ordE j hj (by omega) (λhh=>by omega)
    have hk2:k<=ops.size - 2:=by
     rcases Z8 (ops.size - 2) k with h |h
     ·have:=D.hi _ SS.r1 h;rw[hE1]at this;cases this
     ·exact h
    have D1:=D.Nc L (ops.size - 2 - k) (by omega) (λj h1 h2 h3=>by
     have:=D.lo j h3 (before2 j h3 (by omega));omega)
    rw[show k+(ops.size - 2 - k)=ops.size - 2 by omega]at D1
    have Xm:o=q2:=by
     have h3:=R.at_;rw[kG,SS.e2]at h3;exact(Zu h3).symm
    subst Xm
    have kH:∀z∈o.op.operands.toList,ev ρ z=ev (tr (ops.size - 2)).ρ z:=λz hz=>by
     rw[uc z hz,kG]
     cases z with
     |tmp t=>exact congrFun SS.p1 t
     |_=>rfl
    refine iR K S D1.hr D1.er (SS.v2 ρ _ kH SS.g2) (λv w' β' r1 r2 r3 r4=>hK _ _ (.inr ?_));refine⟨q1,o,id1,id2,a1,a2,xE,pT,x,y,bV ρ o.dst .undef,β',SS,?_,?_,r2,(D1.er.mono r3).put (gN hd D.sz) r1,D.rh.on L R (by rw[SS.d2,kG,show ops.size - 1+1=ops.size by omega,SS.p2,SS.p1];rfl),D1.sp.trans r3,by rw[dH];exact D.df,by rw[fW];exact D.sz⟩
    ·rw[eq' _ (by omega)];exact hE1
    ·intro j hj bI
     by_cases xS:j=i
     ·exact(R.nH j).2 (.inr xS)
     ·obtain⟨oj,ej,_⟩:=id hj;have:=(ZT.1 ej).1;exact(R.nH j).2 (.inl (before2 j hj (by omega)))
   ·refine main (λj hj cz=>?_)
    by_cases Ws:(sinks ops (before ops)).isSome=true/\ops.size<=i+2/\ops.size<=j+2
    ·have kG:i=ops.size - 1:=by omega
     have Xn:j=ops.size - 2:=by omega
     cases he:E j with
     |true=>rfl
     |false=>exact absurd ⟨Ws.1,kG,by rw[<-Xn];exact he⟩ hb
    ·exact ordE j hj cz Ws
 ·have j3:=D.rh.Ft L R;have uc:=D.rh.Jm L R;have jf:∀lv h,ao C run lv o.op ρ h=ao C run lv o.op (tr i).ρ h:=λlv h=>lG uc
  have SS:=D.sd;have n2:=SS.n2
  have stay:∀{r:PV} {v:Value} {w':World} {β':List (Nat×Nat)},¬iQ C.P ops tr i->(tr (i+1)).ρ=bV (tr i).ρ o.dst r->aD w' (Av F ((tr (ops.size - 2)).h.set id2 pT) β') β' ((tr (ops.size - 2)).h.set id2 pT) v r->aZ w' F β' ((tr (ops.size - 2)).h.set id2 pT)->dN w ((tr (ops.size - 2)).h.set id2 pT) β w' ((tr (ops.size - 2)).h.set id2 pT) β'->next (a.put o.dst v) w':=by
   intro r v w' β' hn hr r1 r2 r3
   refine hK _ _ (.inr ⟨q1,q2,id1,id2,a1,a2,xE,pT,x,y,bV ρ o.dst r,β',SS,?_,?_,r2,(D.er.mono r3).put (gN hd D.sz) r1,D.rh.on L R hr,D.sp.trans r3,by rw[dH];exact D.df,by rw[fW];exact D.sz⟩)
   ·rw[eq' _ (by rintro h;rw[<-h]at hn;exact hn SS.r1)];exact D.s1
   ·intro j hj bI
    exact(R.nH j).2 (.inl (D.al j hj bI))
  have quiet:∀{r:PV},bm ops o (tr i).ρ=some true->¬iQ C.P ops tr i->(tr (i+1)).ρ=bV (tr i).ρ o.dst r->ao C run 1 o.op ρ ((tr (ops.size - 2)).h.set id2 pT)=some (r,(tr (ops.size - 2)).h.set id2 pT)->o.wp C.P a w next Q:=by
   intro r hw hn hr e
   exact iR K S D.hr D.er e (λv w' β' r1 r2 r3 r4=>stay hn hr r1 r2 r3)
  cases L.view R.at_ with
  |off hw hy=>
   rw[cL D.er (by rw[j3];exact hw),if_neg (by simp)];exact stay (noRan λ_ _ _ h3=>by rw[hw]at h3;cases h3) (by rw[hy]) .undef D.hr (dN.refl _ _ _)
  |plain r hx hw hh hv hy=>
   rw[cL D.er (by rw[j3];exact hw),if_pos rfl];exact .inl (quiet hw (noRan λh2 _ _ _=>by rw[hh]at h2;cases h2) (by rw[hy]) (by rw[jf];exact oc hh hv))
  |rd r hx hw hl hc hv hy=>
   rw[cL D.er (by rw[j3];exact hw),if_pos rfl];refine .inl (quiet hw (noRan λ_ h2 _ _=>by rw[hl]at h2;cases h2) (by rw[hy]) ?_);rw[jf,fv (.inl hl)];refine(ux hl hv (λid bT=>?_)).1;exact D.agree L R hl ((ux hl hv (λ_ _=>rfl)).2 id bT) (hc id bT)
  |made r hx hw hb hv hy=>
   rw[cL D.er (by rw[j3];exact hw),if_pos rfl];refine .inl (quiet hw (noRan λ_ _ h3 _=>by rw[h3 hb]at hv;cases hv) (by rw[hy]) ?_);rw[fv (.inr hb)];exact yr hb (λh=>by rw[<-fv (C:=C) (run:=run) (.inr hb),<-fv (C:=C) (run:=run) (.inr hb)];exact jf 1 h) hv
  |two r h' hw hh xT Qt hl hv hle hy=>
   rw[cL D.er (by rw[j3];exact hw),if_pos rfl];refine .inl ?_;have Dv:iQ C.P ops tr i:=⟨o,R.at_,hh,xT,Qt,hw⟩
   have kG:i=ops.size - 2:=abr λbI=>by
    have:=D.al i Dv bI;rw[R.out]at this;cases this
   have Xm:o=q1:=by
    have h3:=R.at_;rw[kG,SS.e1]at h3;exact(Zu h3).symm
   subst Xm;have kH:∀z∈o.op.operands.toList,ev ρ z=ev (tr (ops.size - 2)).ρ z:=λz hz=>by rw[uc z hz,kG]
   have hg:((tr (ops.size - 2)).h.set id2 pT)[id1]?=some a1:=by rw[ZC (aak SS.ne)];exact SS.g1
   refine iR K S D.hr D.er (SS.v1 ρ _ kH hg) (λv w' β' r1 r2 r3 r4=>hK _ _ (.inl ?_));have yw:(tr ops.size).h=((tr (ops.size - 2)).h.set id2 pT).set id1 xE:=by rw[SS.h2,List.set_comm _ _ SS.ne]
   have E'all:∀j,iQ C.P ops tr j->E' j=true:=λj hj=>by
    by_cases xS:j=i
    ·exact(R.nH j).2 (.inr xS)
    ·exact(R.nH j).2 (.inl (D.al j hj (by rw[<-kG];exact xS)))
   refine⟨ops.size,bV ρ o.dst .undef,β',Zz _,?_,λj hj _=>E'all j hj,by rw[yw];exact r2,by rw[yw];exact(D.er.mono r3).put (gN hd D.sz) r1,D.rh.on L R (by rw[SS.d1,kG,show ops.size - 2+1=ops.size - 1 by omega,SS.p1];rfl),by rw[yw];exact D.sp.trans r3,by rw[dH];exact D.df,by rw[fW];exact D.sz⟩
   intro j hj _
   obtain⟨oj,ej,_⟩:=hj;exact(ZT.1 ej).1
theorem vj.done(L:gk C run ops h0 tr)(D:vj C run ops tr N F w0 Nb β0 E a w)(hE:∀j,j<ops.size->E j=true):∃β,SR N w F β (tr ops.size) a/\dN w0 Nb β0 w (tr ops.size).h β:=by
 rcases D with⟨k,ρ,β,D⟩|⟨q1,q2,id1,id2,a1,a2,xE,pT,x,y,ρ,β,D⟩
 ·have D1:=D.Nc L (ops.size - k) (by have:=D.kn;omega) (λj h1 h2 h3=>by
   have:=D.lo j h3 (hE j (by have:=D.kn;omega));omega)
  rw[show k+(ops.size - k)=ops.size by have:=D.kn;omega]at D1
  have hρ:ρ=(tr ops.size).ρ:=by
   funext t
   refine D1.rh t ops.size (Zz _) (λj o hj _=>?_);have:j<ops.size:=(ZT.1 hj).1;simp[hE j this,this]
  have h2:=D1.er;rw[hρ]at h2;exact⟨β,⟨D1.hr,h2,D1.df,D1.sz⟩,D1.sp⟩
 ·have:=D.s1;rw[hE _ (by have:=D.sd.n2;omega)]at this;cases this
def FL(ids:List Nat)(F:Nat->Prop)(h:ab)(β:List (Nat×Nat))(b:Nat):Prop:=F b\/∃id o bc,ids.contains id=true/\h[id]?=some o/\β[id]?=some bc/\o.mu=.m/\bc.1=b
theorem kJ(ids:List Nat)(h:ab)(id:Nat):(cr ids h)[id]?=(h[id]?).map λo=>if ids.contains id then bM o else o:=by
 unfold cr;rw[ZP,abk,abR]
 cases h[id]? <;>simp
theorem Be(ids:List Nat)(h h':ab)(id:Nat):(dR ids h h')[id]?=(h'[id]?).map λo=>if ids.contains id then(match h[id]? with |some o'=>o'|none=>o)else o:=by
 unfold dR;rw[ZP,abk,abR]
 cases h'[id]? with
 |none=>rfl
 |some o=>
  simp only[ZH,Function.comp_apply,ZS]
  split <;>rfl
theorem r8(ids:List Nat)(h:ab):(cr ids h).length=h.length:=by unfold cr;simp
variable{β:List (Nat×Nat)}{h:ab}
theorem ou(ids:List Nat)(h:ab):Alike h (cr ids h):=by
 refine⟨(r8 ids h).symm,λid o o' e1 e2=>?_⟩;rw[kJ,e1]at e2;obtain rfl:=Zu e2;obtain⟨p1,p2,p3,p4,_⟩:=bC o
 split
 ·exact⟨p1.symm,p2.symm,p3.symm,p4.symm⟩
 ·exact⟨rfl,rfl,rfl,Iff.rfl⟩
theorem vn{ids:List Nat}{b:Nat}(hb:Mb (cr ids h) β b):∃id o bc,ids.contains id=false/\h[id]?=some o/\β[id]?=some bc/\o.mu=.m/\bc.1=b:=by
 obtain⟨id,o,bc,e1,e2,e3,e4⟩:=hb;rw[kJ]at e1
 cases ho:h[id]? with
 |none=>rw[ho]at e1;cases e1
 |some o2=>
  rw[ho]at e1;simp only[ZH,Z4]at e1
  split at e1
  ·subst e1;exact absurd e3 (bC o2).2.2.2.2.1
  ·rename_i hc;subst e1;exact⟨id,o2,bc,by simpa using hc,ho,e2,e3,e4⟩
theorem vp{ids:List Nat}{b:Nat}(hb:Av (FL ids F h β) (cr ids h) β b):Av F h β b:=by
 rcases hb with(hb |⟨id,o,bc,_,e1,e2,e3,e4⟩)|hb
 ·exact .inl hb
 ·exact .inr ⟨id,o,bc,e1,e2,e3,e4⟩
 ·obtain⟨id,o,bc,_,e1,e2,e3,e4⟩:=vn hb;exact .inr ⟨id,o,bc,e1,e2,e3,e4⟩
theorem aZ.cr(H:aZ w F β h)(ids:List Nat):aZ w (FL ids F h β) β (Pm.cr ids h):=by
 have at_:∀(id:Nat) (o:au),(Pm.cr ids h)[id]?=some o->∃o2,h[id]?=some o2/\((ids.contains id=true/\o=bM o2)\/(ids.contains id=false/\o=o2)):=by
  intro id o e
  rw[kJ]at e
  cases ho:h[id]? with
  |none=>rw[ho]at e;cases e
  |some o2=>
   rw[ho]at e;simp only[ZH,Z4]at e
   split at e
   ·rename_i hc;exact⟨o2,rfl,.inl ⟨hc,e.symm⟩⟩
   ·rename_i hc;exact⟨o2,rfl,.inr ⟨by simpa using hc,e.symm⟩⟩
 refine⟨by rw[r8];exact H.len,λb hb=>?_,?_,?_,?_⟩
 ·rcases hb with hb |⟨id,o,bc,_,e1,e2,e3,e4⟩
  ·exact H.fin b hb
  ·exact Av.lt H (.inr ⟨id,o,bc,e1,e2,e3,e4⟩)
 ·intro id o bc e1 e2 e3
  obtain⟨o2,f1,f2⟩:=at_ id o e1;obtain⟨p1,p2,p3,p4,_⟩:=bC o2;rcases f2 with⟨_,rfl⟩|⟨_,rfl⟩
  ·exact(H.obj id o2 bc f1 e2 (λhh=>e3 (p4.2 hh))).alike (ou ids h) (λb=>vp) p2.symm p3.symm
  ·exact(H.obj id o bc f1 e2 e3).alike (ou ids h) (λb=>vp) rfl rfl
 ·intro id dS o o' bc c8 bI e1 e2 e3 e4 m1 m2
  obtain⟨o2,f1,f2⟩:=at_ id o e1;obtain⟨o2',g1,g2⟩:=at_ dS o' e2;rcases f2 with⟨_,rfl⟩|⟨_,rfl⟩
  ·exact absurd m1 (bC o2).2.2.2.2.1
  ·rcases g2 with⟨_,rfl⟩|⟨_,rfl⟩
   ·exact H.hC id dS o o2' bc c8 bI f1 g1 e3 e4 m1 (λhh=>m2 ((bC o2').2.2.2.1.2 hh))
   ·exact H.hC id dS o o' bc c8 bI f1 g1 e3 e4 m1 m2
 ·intro id o bc e1 e2 e3 hf
  obtain⟨o2,f1,f2⟩:=at_ id o e1;obtain⟨p1,p2,p3,p4,p5,p6⟩:=bC o2
  have GG:(ids.contains id=false/\o2.mu=.m)\/o2.mu=.f:=by
   rcases f2 with⟨_,rfl⟩|⟨hc,rfl⟩
   ·rcases e3 with e3 |e3
    ·exact absurd e3 p5
    ·exact .inr (p6.1 e3)
   ·exact e3.imp (λh=>⟨hc,h⟩) (λh=>h)
  rcases hf with hf |⟨dS,o',c8,k1,k2,k3,k4,k5⟩
  ·exact H.out id o2 bc f1 e2 (GG.imp (λh=>h.2) (λh=>h)) hf
  ·have bI:dS≠id:=by
    rintro rfl;rw[f1]at k2;obtain rfl:=Zu k2;rcases GG with h |h
    ·rw[k1]at h;cases h.1
    ·rw[k4]at h;cases h
   exact H.hC dS id o' o2 c8 bc bI k2 f1 k3 e2 k4 (by rcases GG with h |h;rw[h.2];simp;rw[h];simp) k5
theorem aZ.dR(H:aZ w F β h){ids:List Nat}{w':World}{h1:ab}{β1:List (Nat×Nat)}(q2:aZ w' (FL ids F h β) β1 h1)(q3:dN w (Pm.cr ids h) β w' h1 β1)(xT:qk ids h h1=true):
  (∀(v:Value) (p:PV),aD w' (Av (FL ids F h β) h1 β1) β1 h1 v p->aD w' (Av F (Pm.dR ids h h1) β1) β1 (Pm.dR ids h h1) v p)/\aZ w' F β1 (Pm.dR ids h h1)/\dN w h β w' (Pm.dR ids h h1) β1:=by
 have hn:h.length<=h1.length:=by have:=q3.len;rwa[r8]at this
 have xF:(Pm.dR ids h h1).length=h1.length:=by unfold Pm.dR;simp
 have lk:∀(id:Nat) (o:au),h[id]?=some o->ids.contains id=true->h1[id]?=some (bM o)/\β1[id]?=β[id]?/\(Pm.dR ids h h1)[id]?=some o:=λid o ho hc=>by
  have e1:(Pm.cr ids h)[id]?=some (bM o):=by rw[kJ,ho];simp only[ZH,hc,if_true]
  obtain⟨g1,g2⟩:=q3.IV id (bM o) e1 (bC o).2.2.2.2.1;exact⟨g1,g2,by rw[Be,g1];simp only[ZH,hc,if_true,ho]⟩
 have ul:∀(id:Nat),(ids.contains id=false\/h.length<=id)->(Pm.dR ids h h1)[id]?=h1[id]?:=λid hc=>by
  rw[Be]
  cases h1[id]? with
  |none=>rfl
  |some o=>
   rcases hc with hc |hc
   ·simp only[ZH,hc,ZJ,if_false]
   ·simp only[ZH,ZM hc];split <;>rfl
 have cs:∀(id:Nat) (o:au),(Pm.dR ids h h1)[id]?=some o->(ids.contains id=true/\h[id]?=some o/\h1[id]?=some (bM o)/\β1[id]?=β[id]?)\/((ids.contains id=false\/h.length<=id)/\h1[id]?=some o):=λid o e=>by
  by_cases hc:ids.contains id=true/\id<h.length
  ·obtain⟨o2,ho⟩:=mn (l:=h) (i:=id) hc.2;obtain⟨g1,g2,g3⟩:=lk id o2 ho hc.1;rw[g3]at e;obtain rfl:=Zu e;exact .inl ⟨hc.1,ho,g1,g2⟩
  ·have rU:ids.contains id=false\/h.length<=id:=by
    by_cases h1:ids.contains id=true
    ·exact .inr (Nat.le_of_not_lt λh2=>hc ⟨h1,h2⟩)
    ·exact .inl (by simpa using h1)
   exact .inr ⟨rU,by rw[<-ul id rU];exact e⟩
 have al:Alike h1 (Pm.dR ids h h1):=by
  refine⟨xF.symm,λid o o' e1 e2=>?_⟩;rcases cs id o' e2 with⟨_,_,g1,_⟩|⟨_,g1⟩
  ·rw[g1]at e1;obtain rfl:=Zu e1;obtain⟨p1,p2,p3,p4,_⟩:=bC o';exact⟨p1,p2,p3,p4⟩
  ·rw[g1]at e1;obtain rfl:=Zu e1;exact⟨rfl,rfl,rfl,Iff.rfl⟩
 have Bf:∀b,Av F (Pm.dR ids h h1) β1 b->Av (FL ids F h β) h1 β1 b:=by
  rintro b (hb |⟨id,o,bc,e1,e2,e3,e4⟩)
  ·exact .inl (.inl hb)
  ·rcases cs id o e1 with⟨hc,g0,g1,g2⟩|⟨_,g1⟩
   ·rw[g2]at e2;exact .inl (.inr ⟨id,o,bc,hc,g0,e2,e3,e4⟩)
   ·exact .inr ⟨id,o,bc,g1,e2,e3,e4⟩
 have lmu:∀(id:Nat) (o:au),(ids.contains id=false\/h.length<=id)->h1[id]?=some o->o.mu=.l->∃o',h[id]?=some o'/\o'.mu=.l:=λid o hc e hm=>by
  have:=Zw.1 xT (o,id) (by rw[aaY];exact⟨id,by simp[e]⟩);simp only[hm,ne_eq,not_true_eq_false,decide_false,aa0,ZU,ZD,decide_eq_true_eq]at this;rcases this with h2 |h2
  ·rcases hc with hc |hc
   ·rw[hc]at h2;cases h2.1
   ·omega
  ·split at h2
   ·rename_i o' M';exact⟨o',M',by simpa using h2⟩
   ·cases h2
 have hMb:∀b,b<w.heap.size->Mb (Pm.dR ids h h1) β1 b->Mb h β b:=by
  rintro b hb ⟨id,o,bc,e1,e2,e3,e4⟩;rcases cs id o e1 with⟨hc,g0,g1,g2⟩|⟨_,g1⟩
  ·rw[g2]at e2;exact⟨id,o,bc,g0,e2,e3,e4⟩
  ·obtain⟨dS,o',c8,_,f1,f2,f3,f4⟩:=vn (q3.shr b hb ⟨id,o,bc,g1,e2,e3,e4⟩);exact⟨dS,o',c8,f1,f2,f3,f4⟩
 refine⟨λv p q1=>q1.alike al Bf,⟨by rw[xF];exact q2.len,λb hb=>aaf (H.fin b hb) q3.size,?_,?_,?_⟩,⟨q3.size,by rw[xF];exact hn,λb hb hm=>q3.aQ b hb (λXl=>hm ?_),hMb,?_,?_,q3.os,q3.tape,q3.output,q3.drawn⟩⟩
 ·intro id o bc e1 e2 e3
  rcases cs id o e1 with⟨hc,g0,g1,g2⟩|⟨_,g1⟩
  ·obtain⟨p1,p2,p3,p4,_⟩:=bC o;exact(q2.obj id (bM o) bc g1 e2 (λhh=>e3 (p4.1 hh))).alike al Bf p2 p3
  ·exact(q2.obj id o bc g1 e2 e3).alike al Bf rfl rfl
 ·intro id dS o o' bc c8 bI e1 e2 e3 e4 m1 m2
  rcases cs id o e1 with⟨hc,g0,g1,g2⟩|⟨hc,g1⟩
  ·rcases cs dS o' e2 with⟨rU,g0',Pp,Uj⟩|⟨rU,Pp⟩
   ·rw[g2]at e3;rw[Uj]at e4;exact H.hC id dS o o' bc c8 bI g0 g0' e3 e4 m1 m2
   ·rw[g2]at e3;have inF:FL ids F h β bc.1:=.inr ⟨id,o,bc,hc,g0,e3,m1,rfl⟩
    cases hm:o'.mu with
    |m=>exact λheq=>q2.out dS o' c8 Pp e4 (.inl hm) (heq▸inF)
    |f=>exact λheq=>q2.out dS o' c8 Pp e4 (.inr hm) (heq▸inF)
    |l=>
     obtain⟨o2,k1,k2⟩:=lmu dS o' rU Pp hm;have Da:ids.contains dS=false:=rU.resolve_right (λhh=>by rw[ZM hh]at k1;cases k1);have e5:(Pm.cr ids h)[dS]?=some o2:=by rw[kJ,k1];simp only[ZH,Da,ZJ,if_false]
     obtain⟨_,k4⟩:=q3.IV dS o2 e5 (by rw[k2];simp);rw[k4]at e4;exact H.hC id dS o o2 bc c8 bI g0 k1 e3 e4 m1 (by rw[k2];simp)
    |x=>exact absurd hm m2
  ·rcases cs dS o' e2 with⟨rU,g0',Pp,Uj⟩|⟨rU,Pp⟩
   ·exact q2.hC id dS o (bM o') bc c8 bI g1 Pp e3 e4 m1 (λhh=>m2 ((bC o').2.2.2.1.1 hh))
   ·exact q2.hC id dS o o' bc c8 bI g1 Pp e3 e4 m1 m2
 ·intro id o bc e1 e2 e3
  rcases cs id o e1 with⟨hc,g0,g1,g2⟩|⟨hc,g1⟩
  ·rw[g2]at e2;exact H.out id o bc g0 e2 e3
  ·exact λhf=>q2.out id o bc g1 e2 e3 (.inl hf)
 ·obtain⟨dS,o',c8,_,f1,f2,f3,f4⟩:=vn Xl;exact⟨dS,o',c8,f1,f2,f3,f4⟩
 ·intro id o bc e1 e2 e3
  by_cases hc:ids.contains id=true
  ·obtain⟨g1,g2,g3⟩:=lk id o e1 hc;exact⟨o,bc,g3,by rw[g2];exact e2,e3,⟨Zz _,λh=>h⟩,λ_=>⟨rfl,λ_=>rfl,rfl⟩⟩
  ·have Da:ids.contains id=false:=by simpa using hc
   have e5:(Pm.cr ids h)[id]?=some o:=by rw[kJ,e1];simp only[ZH,Da,ZJ,if_false]
   obtain⟨o',c8,f1,f2,f3,f4,f5⟩:=q3.refs id o bc e5 e2 e3;exact⟨o',c8,by rw[ul id (.inl Da)];exact f1,f2,f3,f4,f5⟩
 ·intro id o e1 e2
  by_cases hc:ids.contains id=true
  ·obtain⟨g1,g2,g3⟩:=lk id o e1 hc;exact⟨g3,g2⟩
  ·have Da:ids.contains id=false:=by simpa using hc
   have e5:(Pm.cr ids h)[id]?=some o:=by rw[kJ,e1];simp only[ZH,Da,ZJ,if_false]
   obtain⟨f1,f2⟩:=q3.IV id o e5 e2;exact⟨by rw[ul id (.inl Da)];exact f1,f2⟩
theorem Nd(K:fP C)(S:gF C run)(hm:C.P.follows .mixedOrders=true){id:Nat}{Q:Exit->Act->World->Prop}(hd:ops.toList.all (ji N)=true)(hk:lX ops=true){β:List (Nat×Nat)}{s s':St}(R:SR N w F β s a)
  (e:iN C run ops s=some s') (hQ:∀a' w' β',SR N w' F β' s' a'->dN w s.h β w' s'.h β'->Q .normal a' w'):(Code.region id ops true).wp C.P Q a w:=by
 unfold iN at e;generalize zO:gi ops (before ops) s.ρ=ids at e
 split at e
 ·rename_i y he
  split at e
  ·rename_i xT
   obtain rfl:=Zu e;obtain⟨tr,t1,t2,t3⟩:=oq ops.toList 0 _ _ he;have Wt:tr ops.size=y:=by simpa using t3
   have L:gk C run ops (cr ids s.h) tr:=⟨hk,λi o ho=>by simpa using t2 i o (by simpa using ho),by rw[t1],by rw[Wt];exact xT.2⟩
   refine wp_region_any hm (yx (C:=C) hk (λE a' w'=>vj C run ops tr N (FL ids F s.h β) w (cr ids s.h) β E a' w')
    (λE E' a' w' i o D R' next hK=>vj.step K S L D R' (Zw.1 hd o (abJ.2 (abf R'.at_))) hK)
    (λE a' w' D eA=>?_) ops.size _ a _ (by simp) (λi o ho hl=>by rw[getD_none]at hl;cases hl) ?_ ?_)
   ·obtain⟨β1,h1,h2⟩:=D.done L eA;rw[Wt]at h1 h2;obtain⟨u1,u2,u3⟩:=R.hr.dR h1.hr h2 xT.1;exact hQ a' w' β1 ⟨u2,λt=>u1 _ _ (h1.er t),h1.df,h1.sz⟩ u3
   ·refine aaj (List.countP_le_length) (by simp)
   ·have hE:∀j,(Array.replicate ops.size false).getD j false=false:=λj=>getD_none _ j
    have G:dz w {w with drawn:=w.drawn+1}:=dz.drew w;have HL:=R.hr.cr ids;have ER:gM w (Av (FL ids F s.h β) (cr ids s.h) β) β (cr ids s.h) a s.ρ:=λt=>(R.er t).alike (ou ids s.h) (λb=>vp)
    refine .inl ⟨0,s.ρ,β,⟨aaL _,λj _ h=>(by rw[hE]at h;cases h),λj _ h=>by omega,by rw[t1];exact HL.Jj G,by rw[t1];exact ER.mono (G.Pl _ β),?_,by rw[t1];exact G.Pl _ β,R.df,R.sz⟩⟩
    intro t k' fR hw
    rw[L.mo (t:=t) (i:=0) k' (aaL _) fR (λj o h1 h2 h3 h4=>by
     have h5:(Array.replicate ops.size false).getD j false=true:=(hw j o h3 h4).2 h2;rw[hE]at h5;cases h5),t1]
  ·cases e
 ·cases e
end Go.Pm
namespace Go.Pm
def codeOk(N:Nat):Code->Bool
 | .region _ ops draw=>ops.toList.all (ji N)&& (!draw ||lX ops)
 | .seq a b=>codeOk N a&&codeOk N b
 | .cond _ a b=>codeOk N a&&codeOk N b
 | .block _ c=>codeOk N c
 | .loop c=>codeOk N c
 | .scope c=>codeOk N c
 |_=>true
def OM:Ex->Exit
 | .normal=>.normal
 | .exit id=>.exit id
 | .ret=>.ret
theorem CT{C:cK}(K:fP C)(hm:C.P.follows .mixedOrders=true){run:gU}(S:gF C run){N:Nat}{F:Nat->Prop}{n:Nat}:∀(c:Code) {s s':St} {ex:Ex} {a:Act} {w:World} {β:List (Nat×Nat)} {Q:Exit->Act->World->Prop},
  codeOk N c=true->bJ C run n c s=some (ex,s')->SR N w F β s a->(∀a' w' β',SR N w' F β' s' a'->dN w s.h β w' s'.h β'->Q (OM ex) a' w')->c.wp C.P Q a w:=by
 intro c
 induction c with
 |skip=>
  intro s s' ex a w β Q hc e R hQ
  simp only[bJ,Z4,abV]at e;obtain⟨rfl,rfl⟩:=e;exact wp_skip (hQ a w β R (dN.refl _ _ _))
 |label l=>
  intro s s' ex a w β Q hc e R hQ
  simp only[bJ,Z4,abV]at e;obtain⟨rfl,rfl⟩:=e;exact wp_label (hQ a w β R (dN.refl _ _ _))
 |exit id=>
  intro s s' ex a w β Q hc e R hQ
  simp only[bJ,Z4,abV]at e;obtain⟨rfl,rfl⟩:=e;exact wp_exit (hQ a w β R (dN.refl _ _ _))
 |ret=>
  intro s s' ex a w β Q hc e R hQ
  simp only[bJ,Z4,abV]at e;obtain⟨rfl,rfl⟩:=e;exact wp_ret (hQ a w β R (dN.refl _ _ _))
 |region id ops draw=>
  intro s s' ex a w β Q hc e R hQ
  simp only[codeOk,ZD,ZU,aaS]at hc;simp only[bJ]at e
  cases draw with
  |false=>
   simp only[ZJ,if_false]at e
   split at e
   ·rename_i s1 he
    obtain⟨rfl,rfl⟩:=ZG (Zu e);exact GV K S hc.1 R he hQ
   ·cases e
  |true=>
   simp only[if_true]at e
   by_cases hk:qW ops=true
   ·simp only[hk,if_true]at e
    cases he:iN C run ops s with
    |none=>rw[he]at e;simp at e
    |some y=>
     rw[he]at e;obtain⟨rfl,rfl⟩:=ZG (Zu e);exact Nd K S hm hc.1 (by simpa using hc.2) R he hQ
   ·simp only[hk,if_false]at e
    cases he:dy C run ops (before ops) 0 ops.toList ⟨s,s.h.length,[]⟩with
    |none=>rw[he]at e;simp at e
    |some y=>
     rw[he]at e;simp only[ZH]at e;obtain⟨rfl,rfl⟩:=ZG (Zu e);exact DZ K S hm hc.1 (by simpa using hc.2) R he hQ
 |seq x y ihx ihy=>
  intro s s' ex a w β Q hc e R hQ
  simp only[codeOk,ZD]at hc;simp only[bJ]at e;refine wp_seq ?_
  cases hx:bJ C run n x s with
  |none=>rw[hx]at e;cases e
  |some r=>
   obtain⟨V5,s1⟩:=r;rw[hx]at e;refine ihx hc.1 hx R (λa1 w1 β1 R1 S1=>?_)
   cases V5 with
   |normal=>exact ihy hc.2 e R1 (λa2 w2 β2 R2 S2=>hQ a2 w2 β2 R2 (S1.trans S2))
   |exit id=>
    obtain⟨rfl,rfl⟩:=ZG (Zu e);exact hQ a1 w1 β1 R1 S1
   |ret=>
    obtain⟨rfl,rfl⟩:=ZG (Zu e);exact hQ a1 w1 β1 R1 S1
 |cond c x y ihx ihy=>
  intro s s' ex a w β Q hc e R hQ
  simp only[codeOk,ZD]at hc;simp only[bJ]at e
  split at e
  ·rename_i hb
   have:=R.er.ev c;rw[hb]at this;exact wp_cond_true this.ga (ihx hc.1 e R hQ)
  ·rename_i hb
   have:=R.er.ev c;rw[hb]at this;exact wp_cond_false this.ga (ihy hc.2 e R hQ)
  ·cases e
 |block id c ih=>
  intro s s' ex a w β Q hc e R hQ
  simp only[codeOk]at hc;simp only[bJ]at e;refine wp_block ?_
  cases hx:bJ C run n c s with
  |none=>rw[hx]at e;cases e
  |some r=>
   obtain⟨V5,s1⟩:=r;rw[hx]at e;refine ih hc hx R (λa1 w1 β1 R1 S1=>?_)
   cases V5 with
   |normal=>
    obtain⟨rfl,rfl⟩:=ZG (Zu e);exact hQ a1 w1 β1 R1 S1
   |exit dS=>
    simp only at e;simp only[OM,Exit.inBlock]
    split at e
    ·rename_i bT
     obtain⟨rfl,rfl⟩:=ZG (Zu e);rw[if_pos bT];exact hQ a1 w1 β1 R1 S1
    ·rename_i bT
     obtain⟨rfl,rfl⟩:=ZG (Zu e);rw[if_neg bT];exact hQ a1 w1 β1 R1 S1
   |ret=>
    obtain⟨rfl,rfl⟩:=ZG (Zu e);exact hQ a1 w1 β1 R1 S1
 |loop c ih=>
  intro s s' ex a w β Q hc e R hQ
  simp only[codeOk]at hc;simp only[bJ]at e
  have key:∀(m:Nat) {s:St} {a:Act} {w:World} {β:List (Nat×Nat)},iter (bJ C run n c) m s=some (ex,s')->SR N w F β s a->(∀a' w' β',SR N w' F β' s' a'->dN w s.h β w' s'.h β'->Q (OM ex) a' w')->Code.rounds C.P c Q m a w:=by
   intro m
   induction m with
   |zero=>intro s a w β e;simp[iter]at e
   |succ m ihm=>
    intro s a w β e R hQ
    simp only[iter]at e;rw[rounds_succ]
    cases hx:bJ C run n c s with
    |none=>rw[hx]at e;cases e
    |some r=>
     obtain⟨V5,s1⟩:=r;rw[hx]at e;refine ih hc hx R (λa1 w1 β1 R1 S1=>?_)
     cases V5 with
     |normal=>exact ihm e R1 (λa2 w2 β2 R2 S2=>hQ a2 w2 β2 R2 (S1.trans S2))
     |exit id=>
      obtain⟨rfl,rfl⟩:=ZG (Zu e);exact hQ a1 w1 β1 R1 S1
     |ret=>
      obtain⟨rfl,rfl⟩:=ZG (Zu e);exact hQ a1 w1 β1 R1 S1
  exact wp_loop_rounds n (key n e R hQ)
 |scope c ih=>
  intro s s' ex a w β Q hc e R hQ
  simp only[codeOk]at hc;simp only[bJ]at e;refine wp_scope_straight (ih hc e R (λa1 w1 β1 R1 S1=>?_))
  cases ex <;>exact hQ a1 w1 β1 R1 S1
 |_=>
  intro s s' ex a w β Q hc e R hQ
  simp[bJ]at e
def sS(r:ResultVar)(tmps:Array Value):Sem Value:=
 match r with
 | .tmp t=>pure (tmps.getD t undef)
 | .cell a t=>do loadVar t (<-asAddr (tmps.getD a undef))
theorem rQ{P:Program}{w:World}{F:Nat->Prop}{β:List (Nat×Nat)}{h:ab}{a:Act}{ρ:Nat->PV}(H:aZ w F β h)(R:gM w (Av F h β) β h a ρ):∀(l:List ResultVar) (vs:List PV),db P h ρ l=some vs->
  ∃us:List Value,(l.mapM (λr=>sS r a.tmps)).run P w=.ok us w/\L2 (aD w (Av F h β) β h) us vs
 |[],vs,e=>by
  simp[db]at e;subst e;exact⟨[],by simp,rfl,λj hj=>by simp at hj⟩
 |r::l,vs,e=>by
  simp only[db]at e
  split at e
  ·rename_i v ET h1 h2
   obtain rfl:=Zu e;obtain⟨us,u1,u2,u3⟩:=rQ H R l ET h2
   have one:∃u,(sS r a.tmps).run P w=.ok u w/\aD w (Av F h β) β h u v:=by
    cases r with
    |tmp t=>
     obtain rfl:=Zu h1;exact⟨_,rfl,R t⟩
    |cell x t=>
     obtain⟨u,k1,k2⟩:=CJ (P:=P) H (R x) h1;refine⟨u,?_,k2⟩;rw[<-k1];unfold sS Instr.loadAt;simp only[Sem.run_bind];unfold Instr.loadAt at k1;simp only[Sem.run_bind]at k1;generalize a.tmps.getD x undef=y at k1 ⊢
     cases y with
     |pointer p=>
      cases p with
      |some ad=>simp[Instr.sureAddr,asAddr]
      |none=>simp[Instr.sureAddr]at k1
     |_=>simp[Instr.sureAddr]at k1
   obtain⟨u,o1,o2⟩:=one;refine⟨u::us,?_,by simp[u2],λj hj=>?_⟩
   ·simp only[List.mapM_cons,Sem.run_bind,o1,u1,Result.andThen_ok,Sem.run_pure]
   ·cases j with
    |zero=>simpa using o2
    |succ j=>simpa using u3 j (by simpa using hj)
  ·cases e
theorem tT{P:Program}{w:World}{F:Nat->Prop}{β:List (Nat×Nat)}{h:ab}{a:Act}{ρ:Nat->PV}(H:aZ w F β h)(R:gM w (Av F h β) β h a ρ)(fn:Func){vs:List PV}(e:db P h ρ fn.results.toList=some vs):
  ∃u,(results fn a.tmps).run P w=.ok u w/\aD w (Av F h β) β h u (aY vs):=by
 obtain⟨us,u1,u2,u3⟩:=rQ (P:=P) H R _ _ e
 have fL:(fn.results.mapM (λr=>sS r a.tmps)).run P w=.ok us.toArray w:=by
  rw[<-Array.toArray_toList (xs:=fn.results),List.mapM_toArray];simp only[Sem.run_map,u1,Result.andThen_ok]
 refine⟨if h:us.toArray.size=1 then us.toArray[0]else .tuple us.toArray,?_,?_⟩
 ·have:results fn a.tmps=(do let vs<-fn.results.mapM (λr=>sS r a.tmps);pure (if h:vs.size=1 then vs[0]else .tuple vs)):=by
   unfold results sS
   rfl
  rw[this];simp only[Sem.run_bind,fL,Result.andThen_ok,Sem.run_pure]
 ·match us,vs,u2 with
  |[],[],_=>exact .cm [] [] rfl (λj hj=>by simp at hj)
  |[u],[v],_=>simpa[aY]using u3 0 (by simp)
  |u1::u2::us,v1::v2::vs,hl=>
   have:¬((u1::u2::us).toArray.size=1):=by simp
   rw[dif_neg this];exact .cm _ _ hl u3
structure pA(C:cK):Prop where
 A4:∀(f:FuncId) (fn:Func) (c:Code),(C.mode f=.pure\/C.mode f=.opened)->C.P.funcs[f]?=some fn->fn.body=some c->codeOk fn.ntmps c=true
 mixed:C.P.follows .mixedOrders=true
theorem Io{C:cK}(K:fP C)(KC:pA C){run:gU}(S:gF C run){n:Nat}{f:FuncId}(hf:C.mode f=.pure\/C.mode f=.opened):fm C.P f (nY C run n f):=by
 intro args h r h' e w F β vs H ha
 unfold nY at e
 split at e
 ·rename_i fn Mw
  split at e
  ·rename_i c hc
   have main:∀(ex:Ex) (s:St),bJ C run n c ⟨mi args,h⟩=some (ex,s)->(ex=.normal\/ex=.ret)->(∃vs,db C.P s.h s.ρ fn.results.toList=some vs/\r=aY vs/\h'=s.h)->lW C.P 2 w F β h f vs r h':=by
    rintro ex s qv hex ⟨rs,VY,rfl,rfl⟩;refine calls_of_wp Mw hc ?_;have hlen:=ha.1
    have R:SR fn.ntmps w F β ⟨mi args,h⟩ {tmps:=vs.toArray++Array.replicate (fn.ntmps - vs.toArray.size) undef,defers:=[]}:=by
     refine⟨H,λt=>?_,rfl,by simp;omega⟩;show aD w (Av F h β) β h ((vs.toArray++Array.replicate (fn.ntmps - vs.toArray.size) undef).getD t Go.undef) (args.getD t .undef)
     by_cases ht:t<args.length
     ·have e1:(vs.toArray++Array.replicate (fn.ntmps - vs.toArray.size) undef).getD t Go.undef=vs.getD t Go.undef:=by
       rw[aaJ,abj,if_pos (by simp;omega)];simp[List.getD]
      have e2:args.getD t .undef=args.getD t .any:=by simp[List.getD,ht]
      rw[e1,e2];exact ha.2 t ht
     ·have e1:(vs.toArray++Array.replicate (fn.ntmps - vs.toArray.size) undef).getD t Go.undef=Go.undef:=by
       rw[aaJ,abj];rw[if_neg (by simp;omega)];rw[abx]
       split <;>rfl
      have e2:args.getD t .undef=.undef:=by simp[List.getD,ZM (show args.length<=t by omega)]
      rw[e1,e2];exact .undef
    refine CT K KC.mixed S c (KC.A4 f fn c hf Mw hc) qv R (λa' w' β' R' S'=>?_);obtain⟨u,r1,r2⟩:=tT (P:=C.P) R'.hr R'.er fn VY;rcases hex with rfl |rfl
    ·exact⟨R'.df,u,r1,u,β',rfl,r2,R'.hr,S',λhh=>by omega⟩
    ·exact⟨R'.df,u,r1,u,β',rfl,r2,R'.hr,S',λhh=>by omega⟩
   cases qv:bJ C run n c ⟨mi args,h⟩with
   |none=>rw[qv]at e;cases e
   |some x=>
    obtain⟨ex,s⟩:=x;rw[qv]at e
    have fin:(match db C.P s.h s.ρ fn.results.toList with |some vs=>some (aY vs,s.h)|none=>none)=some (r,h')->∃vs,db C.P s.h s.ρ fn.results.toList=some vs/\r=aY vs/\h'=s.h:=by
     intro e
     split at e
     ·rename_i rs VY
      obtain⟨rfl,rfl⟩:=ZG (Zu e);exact⟨rs,VY,rfl,rfl⟩
     ·cases e
    cases ex with
    |normal=>exact main .normal s qv (.inl rfl) (fin e)
    |ret=>exact main .ret s qv (.inr rfl) (fin e)
    |exit id=>cases e
  ·cases e
 ·cases e
theorem u6{C:cK}(K:fP C)(KC:pA C):∀n,gF C (eV C n)
 |0=>λf _ args h r h' e=>by cases e
 |n+1=>λf hf=>Io K KC (u6 K KC n) hf
theorem zh{C:cK}(K:fP C)(KC:pA C){n:Nat}{f:FuncId}(hf:C.mode f=.pure\/C.mode f=.opened){args:List PV}{r:PV}(e:nZ C n f args=some r)
  {w:World} {A:Nat->Prop} (hA:∀b,A b->b<w.heap.size) {vs:List Value} (ha:L2 (bY w A) vs args):
  Calls C.P f vs.toArray w λen w'=>∃v,en=.returned v/\bY w' A v r/\dz w w':=by
 unfold nZ at e
 split at e
 ·rename_i r0 hc h1
  cases h2:yl hc r0 with
  |none=>rw[h2]at e;cases e
  |some r1=>
   rw[h2]at e;obtain rfl:=Zu e;have Xi:∀b,Av A [] [] b↔A b:=λb=>⟨λh=>h.elim id (λh=>absurd h (u7 b)),.inl⟩
   have kG:L2 (aD w (Av A [] []) [] []) vs args:=⟨ha.1,λj hj=>.val ((ha.2 j hj).ub (λb hb=>(Xi b).1 hb))⟩;refine(u6 K KC n f hf args [] r0 hc h1 w A [] vs (aZ.empty w A hA) kG).mono ?_;rintro en w' ⟨v,β',rfl,q1,q2,q3,_⟩;refine⟨v,rfl,?_,tc q3⟩;refine(Fq q2 (λb _ hb ha=>hb (.inl ha)) q1 h2 (λid o bc m1 m2 m3=>?_)).b9;rcases m3 with m3 |m3
   ·exact q2.out id o bc m1 m2 (.inl m3)
   ·exact q2.out id o bc m1 m2 (.inr m3)
 ·cases e
end Go.Pm
