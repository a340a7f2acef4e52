/-
  Pm, a part. Conditions: none.
-/
import Derived.Test.YtimogkojklpdnaaGreatDoorPwAE
import Derived.LoopN
import Derived.Scope
set_option linter.unusedVariables false
set_option linter.unusedSimpArgs false
set_option linter.unnecessarySimpa false
namespace Go.Pm
variable{w:World}{F:Nat->Prop}{X:List (Nat×Nat)}{h:ab}
theorem qt{h:ab}{id:Nat}:aO h id=true↔∃o,h[id]?=some o/\o.mu≠.x:=by
 unfold aO
 cases h[id]? with
 |none=>simp
 |some o=>simp
theorem oq(f:Nat->Bool)(cs:List PV):bG f cs=cs.all (bu f):=by
 induction cs with
 |nil=>rfl
 |cons c r ih=>simp[bG,ih]
theorem aE.restrict{A A':Nat->Prop}{M:ab}{X':List (Nat×Nat)}(hM:∀(id:Nat) (o:aw),M[id]?=some o->o.mu≠.x->h[id]?=some o/\X'[id]?=X[id]?)(hA:∀b,A' b->A b)
  {v:Value} {p:PV} (r:aE w A X h v p) (hv:bu (aO M) p=true):aE w A' X' M v p:=by
 induction r with
 |val hs=>exact .val (hs.wz hA)
 |undef=>exact .undef
 |any v=>exact .any v
 |ak v id ep off len o bc h0 h1 h2 h3 h4 h5=>
  obtain⟨o',e1,e2⟩:=qt.1 (by simpa[bu]using hv);obtain⟨f1,f2⟩:=hM id o' e1 e2;rw[h1]at f1;obtain rfl:=abV f1;exact .ak v id ep off len o bc h0 e1 (by rw[f2];exact h2) h3 h4 h5
 |ptr v id ep i off o bc h0 h1 h2 h3 h4 h5=>
  obtain⟨o',e1,e2⟩:=qt.1 (by simpa[bu]using hv);obtain⟨f1,f2⟩:=hM id o' e1 e2;rw[h1]at f1;obtain rfl:=abV f1;exact .ptr v id ep i off o bc h0 e1 (by rw[f2];exact h2) h3 h4 h5
 |cG v id o bc h0 h1 h2 h3 h5=>
  obtain⟨o',e1,e2⟩:=qt.1 (by simpa[bu]using hv);obtain⟨f1,f2⟩:=hM id o' e1 e2;rw[h1]at f1;obtain rfl:=abV f1;exact .cG v id o bc h0 e1 (by rw[f2];exact h2) h3 h5
 |agg vs cs hl _ ih=>exact .agg vs cs hl (λj hj=>ih j hj (by simp only[bu,oq]at hv;exact fS hv hj))
 |cA vs cs hl _ ih=>exact .cA vs cs hl (λj hj=>ih j hj (by simp only[bu,oq]at hv;exact fS hv hj))
 |fn f vs cs hl _ ih=>exact .fn f vs cs hl (λj hj=>ih j hj (by simp only[bu,oq]at hv;exact fS hv hj))
 |oE f k vs cs hl _ ih=>exact .oE f k vs cs hl (λj hj=>ih j hj (by simp only[bu,oq]at hv;exact fS hv hj))
theorem HJ{f:Nat->Bool}{e q:PV}(hv:bu f e=true)(hq:q∈Pm.cells e):bu f q=true:=by
 cases e <;>first
  |(simp only[Pm.cells,acv]at hq;subst hq;exact hv)
  |(simp only[bu,oq]at hv;exact abX.1 hv q hq)
theorem kZ.to{w':World}{h':ab}{X':List (Nat×Nat)}{A A':Nat->Prop}{o:aw}{bc:Nat×Nat}(hb:w'.heap[bc.1]?=w.heap[bc.1]?)
  (r:kZ w A X h o bc) (hv:∀(v:Value) (e p:PV),e∈o.es->p∈Pm.cells e->aE w A X h v p->aE w' A' X' h' v p):kZ w' A' X' h' o bc:=by
 rcases r with⟨T,cs,h1,h2,h3,h4,h5⟩|⟨h0,es,clock,h1,h2,h3⟩
 ·refine .inl ⟨T,cs,hb.trans h1,h2,h3,h4,λi e he=>⟨(h5 i e he).1,λj p hp=>?_⟩⟩;obtain⟨v,k1,k2⟩:=(h5 i e he).2 j p hp;exact⟨v,k1,hv v e p (acb he) (acb hp) k2⟩
 ·refine .inr ⟨h0,es,clock,hb.trans h1,h2,λi e he=>?_⟩;obtain⟨k,v,m,q1,q2,q3,q4⟩:=h3 i e he;subst q1;exact⟨k,v,m,rfl,q2,hv _ _ _ (acb he) (by simp[Pm.cells]) q3,hv _ _ _ (acb he) (by simp[Pm.cells]) q4⟩
theorem bo.pad(H:bo w F X h)(ext:ab)(γ:List (Nat×Nat))(hl:γ.length=ext.length)(hx:∀o∈ext,o.mu=.x):
  bo w F (X++γ) (h++ext)/\eD w h X w (h++ext) (X++γ):=by
 have hlen:=H.len
 have back:∀(id:Nat) (o:aw) (bc:Nat×Nat),(h++ext)[id]?=some o->(X++γ)[id]?=some bc->o.mu≠.x->h[id]?=some o/\X[id]?=some bc:=by
  intro id o bc e1 e2 e3
  by_cases bZ:id<h.length
  ·rw[abW bZ]at e1;rw[abW (by omega)]at e2;exact⟨e1,e2⟩
  ·rw[ab6 (by omega)]at e1;exact absurd (hx o (acb e1)) e3
 have forth:∀(id:Nat),id<h.length->(h++ext)[id]?=h[id]?/\(X++γ)[id]?=X[id]?:=λid bZ=>
  ⟨abW bZ,abW (by omega)⟩
 have hm:∀b,Mb (h++ext) (X++γ) b->Mb h X b:=by
  rintro b ⟨id,o,bc,e1,e2,e3,e4⟩;obtain⟨f1,f2⟩:=back id o bc e1 e2 (by rw[e3];simp);exact⟨id,o,bc,f1,f2,e3,e4⟩
 have hs:eD w h X w (h++ext) (X++γ):=by
  refine⟨abZ _,by simp,λ_ _ _=>rfl,λb _ m=>hm b m,?_,?_,rfl,rfl,rfl,abZ _⟩
  ·intro id o bc e1 e2 e3
   obtain⟨f1,f2⟩:=forth id (ag e1);exact⟨o,bc,by rw[f1];exact e1,by rw[f2];exact e2,e3,⟨abZ _,λh=>h⟩,λ_=>⟨rfl,λ_=>rfl,rfl⟩⟩
  ·intro id o e1 _
   obtain⟨f1,f2⟩:=forth id (ag e1);exact⟨by rw[f1];exact e1,f2⟩
 refine⟨⟨by simp[hlen,hl],H.fin,?_,?_,?_⟩,hs⟩
 ·intro id o bc e1 e2 e3
  obtain⟨f1,f2⟩:=back id o bc e1 e2 e3;exact kZ.mono hs rfl (H.obj id o bc f1 f2 e3)
 ·intro id eH o o' bc dq bO e1 e2 e3 e4 m1 m2
  obtain⟨f1,f2⟩:=back id o bc e1 e3 (by rw[m1];simp);obtain⟨g1,g2⟩:=back eH o' dq e2 e4 m2;exact H.iT id eH o o' bc dq bO f1 g1 f2 g2 m1 m2
 ·intro id o bc e1 e2 e3
  obtain⟨f1,f2⟩:=back id o bc e1 e2 (by rcases e3 with e3 |e3 <;>rw[e3] <;>simp);exact H.out id o bc f1 f2 e3
def Fp(F:Nat->Prop)(X:List (Nat×Nat))(h M:ab)(b:Nat):Prop:=F b\/∃(id:Nat) (o:aw) (bc:Nat×Nat),h[id]?=some o/\X[id]?=some bc/\o.mu=.m/\bc.1=b/\M[id]?≠some o
theorem Fp.av{M:ab}{b:Nat}(hf:Fp F X h M b):Av F h X b:=by
 rcases hf with hf |⟨id,o,bc,e1,e2,e3,e4,_⟩;exact .inl hf;exact .inr ⟨id,o,bc,e1,e2,e3,e4⟩
theorem bo.part(H:bo w F X h){M:ab}(hl:M.length<=h.length)(hM:∀(id:Nat) (o:aw),M[id]?=some o->o.mu≠.x->h[id]?=some o)(hc:aV M=true):
  bo w (Fp F X h M) (X.take M.length) M/\(∀(v:Value) (p:PV),aE w (Av F h X) X h v p->bu (aO M) p=true->aE w (Av (Fp F X h M) M (X.take M.length)) (X.take M.length) M v p):=by
 have hlen:=H.len;have hb:∀id,id<M.length->(X.take M.length)[id]?=X[id]?:=λid bZ=>by rw[acj,if_pos bZ]
 have XX:∀(id:Nat) (o:aw),M[id]?=some o->o.mu≠.x->h[id]?=some o/\(X.take M.length)[id]?=X[id]?:=λid o e1 e2=>⟨hM id o e1 e2,hb id (ag e1)⟩
 have hA:∀b,Av (Fp F X h M) M (X.take M.length) b->Av F h X b:=by
  rintro b (hf |⟨id,o,bc,e1,e2,e3,e4⟩);exact hf.av
  ·obtain⟨f1,f2⟩:=XX id o e1 (by rw[e3];simp);exact .inr ⟨id,o,bc,f1,by rw[<-f2];exact e2,e3,e4⟩
 have hv:∀(v:Value) (p:PV),aE w (Av F h X) X h v p->bu (aO M) p=true->aE w (Av (Fp F X h M) M (X.take M.length)) (X.take M.length) M v p:=λv p r hv=>r.restrict XX hA hv
 refine⟨⟨by simp;omega,λb hb=>Av.lt H (Fp.av hb),?_,?_,?_⟩,hv⟩
 ·intro id o bc e1 e2 e3
  obtain⟨f1,f2⟩:=XX id o e1 e3;rw[f2]at e2;refine(H.obj id o bc f1 e2 e3).to rfl (λv e p he hp r=>hv v p r ?_);have:=abX.1 hc o (acb e1);simp only[acs,decide_eq_true_eq,oq]at this;exact HJ (abX.1 (this.resolve_left e3) e he) hp
 ·intro id eH o o' bc dq bO e1 e2 e3 e4 m1 m2
  obtain⟨f1,f2⟩:=XX id o e1 (by rw[m1];simp);obtain⟨g1,g2⟩:=XX eH o' e2 m2;exact H.iT id eH o o' bc dq bO f1 g1 (by rw[<-f2];exact e3) (by rw[<-g2];exact e4) m1 m2
 ·intro id o bc e1 e2 e3
  have XR:o.mu≠.x:=by rcases e3 with e3 |e3 <;>rw[e3] <;>simp
  obtain⟨f1,f2⟩:=XX id o e1 XR;rw[f2]at e2;rintro(hf |⟨id2,o2,GU,g1,g2,g3,g4,g5⟩);exact H.out id o bc f1 e2 e3 hf
  ·have bO:id2≠id:=by
    rintro rfl;rw[f1]at g1;obtain rfl:=abV g1;exact g5 e1
   exact H.iT id2 id o2 o GU bc bO g1 f1 g2 e2 g3 XR g4
theorem bo.merge(H:bo w F X h){M ext h':ab}{X1:List (Nat×Nat)}{w':World}(hl:M.length+ext.length<=h.length)(hM:∀(id:Nat) (o:aw),M[id]?=some o->o.mu≠.x->h[id]?=some o)
  (H1:bo w' (Fp F X h M) X1 (M++ext)) (S1:eD w M (X.take M.length) w' (M++ext) X1) (G:dN w w') (Dh:∀o∈ext,o.mu≠.l)
  (ZK:h'.length=h.length) (iB:∀id:Nat,M.length<=id->id<M.length+ext.length->h'[id]?=ext[id - M.length]?) (uL:∀id:Nat,(id<M.length\/M.length+ext.length<=id)->h'[id]?=h[id]?)
  (aa7:∀(id:Nat) (o:aw),M.length<=id->id<M.length+ext.length->h[id]?=some o->o.mu=.x):
  ∃X',bo w' F X' h'/\Ja h X h' X'/\(∀b,b<w.heap.size->¬Av F h X b->¬Av F h' X' b)/\(∀b,b<w.heap.size->Mb h' X' b->Mb h X b)/\(∀id:Nat,id<M.length->X'[id]?=X[id]?)/\
   (∀(v:Value) (p:PV),aE w' (Av (Fp F X h M) (M++ext) X1) X1 (M++ext) v p->aE w' (Av F h' X') X' h' v p):=by
 have hlen:=H.len;have xe:=H1.len;simp only[ab3]at xe;have hml:(X1.drop M.length).length=ext.length:=by simp;omega
 have hX:∀k,(X.take M.length++X1.drop M.length++X.drop (M.length+(X1.drop M.length).length))[k]?=if k<M.length then X[k]? else if k<M.length+ext.length then X1[k]? else X[k]?:=by
  intro k
  rw[gQ _ _ _ _ (by omega),hml]
  split
  rfl
  ·split
   rw[acy];congr 1;omega
   rfl
 refine⟨X.take M.length++X1.drop M.length++X.drop (M.length+(X1.drop M.length).length),?_⟩;generalize hX':X.take M.length++X1.drop M.length++X.drop (M.length+(X1.drop M.length).length)=X' at hX ⊢
 have Np:X'.length=h'.length:=by
  rw[<-hX',ZK];simp;omega
 have bin:∀id,M.length<=id->id<M.length+ext.length->X'[id]?=X1[id]?:=λid h1 h2=>by rw[hX,if_neg (by omega),if_pos h2]
 have bout:∀id,(id<M.length\/M.length+ext.length<=id)->X'[id]?=X[id]?:=λid h1=>by
  rw[hX]
  by_cases h2:id<M.length
  rw[if_pos h2];rw[if_neg h2,if_neg (by omega)]
 have pin:∀id,M.length<=id->id<M.length+ext.length->(M++ext)[id]?=ext[id - M.length]?:=λid h1 _=>ab6 h1
 have pold:∀id,id<M.length->(M++ext)[id]?=M[id]?:=λid h1=>abW h1
 have both:∀(id:Nat) (o:aw) (bc:Nat×Nat),M[id]?=some o->o.mu≠.x->X[id]?=some bc->X1[id]?=some bc:=by
  intro id o bc e1 e2 e3
  have bZ:=ag e1;obtain⟨o',dq,f1,f2,f3,f4,f5⟩:=S1.refs id o bc e1 (by rw[acj,if_pos bZ];exact e3) e2;rw[pold id bZ,e1]at f1;obtain rfl:=abV f1;rw[(f5 rfl).2.2]at f2;exact f2
 have sq:∀id:Nat,(M.length<=id/\id<M.length+ext.length)\/(id<M.length\/M.length+ext.length<=id):=λid=>by omega
 have newb:∀(id:Nat) (o:aw) (bc:Nat×Nat),M.length<=id->id<M.length+ext.length->h'[id]?=some o->X'[id]?=some bc->o.mu=.m->w.heap.size<=bc.1:=by
  intro id o bc a1 a2 e1 e2 e3
  rw[iB id a1 a2,<-pin id a1 a2]at e1;rw[bin id a1 a2]at e2;rcases acE bc.1 w.heap.size with cM |DT
  ·obtain⟨id2,o2,GU,f1,f2,f3,f4⟩:=S1.shr bc.1 cM ⟨id,o,bc,e1,e2,e3,rfl⟩;have wN:=ag f1;rw[acj,if_pos wN]at f2;exact absurd f4.symm (H1.iT id id2 o o2 bc GU (by omega) e1 (by rw[pold id2 wN];exact f1) e2 (both id2 o2 GU f1 (by rw[f3];simp) f2) e3 (by rw[f3];simp))
  exact DT
 have ZL:Ja h X h' X':=by
  intro id o bc e1 e2 e3
  rcases sq id with⟨a1,a2⟩|a;exact absurd (aa7 id o a1 a2 e1) e3;exact⟨o,bc,by rw[uL id a];exact e1,by rw[bout id a];exact e2,e3,⟨abZ _,λh=>h⟩,λ_=>⟨rfl,λ_=>rfl,rfl⟩⟩
 have shr:∀b,b<w.heap.size->Mb h' X' b->Mb h X b:=by
  rintro b hb ⟨id,o,bc,e1,e2,e3,rfl⟩;rcases sq id with⟨a1,a2⟩|a;have:=newb id o bc a1 a2 e1 e2 e3;omega;exact⟨id,o,bc,by rw[<-uL id a];exact e1,by rw[<-bout id a];exact e2,e3,rfl⟩
 have hA0:∀b,b<w.heap.size->¬Av F h X b->¬Av F h' X' b:=by
  rintro b hb hn (hf |hm);exact hn (.inl hf);exact hn (.inr (shr b hb hm))
 have aa8:Ja (M++ext) X1 h' X':=by
  intro id o bc e1 e2 e3
  have bZ:=ag e1;simp at bZ
  by_cases wN:id<M.length
  ·rw[pold id wN]at e1;have e4:=hM id o e1 e3;obtain⟨bc0,e5⟩:=dB H.len e4;have:=both id o bc0 e1 e3 e5;rw[this]at e2;obtain rfl:=abV e2;exact⟨o,bc0,by rw[uL id (.inl wN)];exact e4,by rw[bout id (.inl wN)];exact e5,e3,⟨abZ _,λh=>h⟩,λ_=>⟨rfl,λ_=>rfl,rfl⟩⟩
  exact⟨o,bc,by rw[iB id (by omega) bZ,<-pin id (by omega) bZ];exact e1,by rw[bin id (by omega) bZ];exact e2,e3,⟨abZ _,λh=>h⟩,λ_=>⟨rfl,λ_=>rfl,rfl⟩⟩
 have DI:∀b,Av F h' X' b->Av (Fp F X h M) (M++ext) X1 b:=by
  rintro b (hf |⟨id,o,bc,e1,e2,e3,e4⟩);exact .inl (.inl hf)
  ·rcases sq id with⟨a1,a2⟩|a
   ·rw[iB id a1 a2,<-pin id a1 a2]at e1;rw[bin id a1 a2]at e2;exact .inr ⟨id,o,bc,e1,e2,e3,e4⟩
   ·rw[uL id a]at e1;rw[bout id a]at e2
    by_cases hm:M[id]?=some o
    ·have bZ:=ag hm;exact .inr ⟨id,o,bc,by rw[pold id bZ];exact hm,both id o bc hm (by rw[e3];simp) e2,e3,e4⟩
    exact .inl (.inr ⟨id,o,bc,e1,e2,e3,e4,hm⟩)
 have v0:∀(v:Value) (p:PV),aE w (Av F h X) X h v p->aE w' (Av F h' X') X' h' v p:=λv p r=>r.Vn ZL (λb hb _=>G.aT b hb) hA0
 have v1:∀(v:Value) (p:PV),aE w' (Av (Fp F X h M) (M++ext) X1) X1 (M++ext) v p->aE w' (Av F h' X') X' h' v p:=λv p r=>r.Vn aa8 (λ_ _ _=>rfl) (λb _ hn ha=>hn (DI b ha))
 refine⟨⟨Np,λb hb=>acN (H.fin b hb) G.size,?_,?_,?_⟩,ZL,hA0,shr,λid bZ=>bout id (.inl bZ),v1⟩
 ·intro id o bc e1 e2 e3
  rcases sq id with⟨a1,a2⟩|a
  ·rw[iB id a1 a2,<-pin id a1 a2]at e1;rw[bin id a1 a2]at e2;exact(H1.obj id o bc e1 e2 e3).to rfl (λv e p _ _ r=>v1 v p r)
  ·rw[uL id a]at e1;rw[bout id a]at e2;have r:=H.obj id o bc e1 e2 e3;exact r.to (G.aT _ r.lt) (λv e p _ _ r=>v0 v p r)
 ·intro id eH o o' bc dq bO e1 e2 e3 e4 m1 m2
  rcases sq id with⟨a1,a2⟩|a <;>rcases sq eH with⟨b1,b2⟩|b
  ·rw[iB id a1 a2,<-pin id a1 a2]at e1;rw[bin id a1 a2]at e3;rw[iB eH b1 b2,<-pin eH b1 b2]at e2;rw[bin eH b1 b2]at e4;exact H1.iT id eH o o' bc dq bO e1 e2 e3 e4 m1 m2
  ·have h1:=newb id o bc a1 a2 e1 e3 m1;rw[uL eH b]at e2;rw[bout eH b]at e4;have:=(H.obj eH o' dq e2 e4 m2).lt;omega
  ·rw[uL id a]at e1;rw[bout id a]at e3;rw[iB eH b1 b2,<-pin eH b1 b2]at e2;rw[bin eH b1 b2]at e4
   by_cases hm:M[id]?=some o
   ·have bZ:=ag hm;exact H1.iT id eH o o' bc dq bO (by rw[pold id bZ];exact hm) e2 (both id o bc hm (by rw[m1];simp) e3) e4 m1 m2
   ·have nl:o'.mu≠.l:=by
     rw[pin eH b1 b2]at e2;exact Dh o' (acb e2)
    have J4:o'.mu=.m\/o'.mu=.f:=by
     cases hh:o'.mu with
     |m=>exact .inl rfl
     |l=>exact absurd hh nl
     |f=>exact .inr rfl
     |x=>exact absurd hh m2
    intro heq
    exact H1.out eH o' dq e2 e4 J4 (.inr ⟨id,o,bc,e1,e3,m1,heq,hm⟩)
  ·rw[uL id a]at e1;rw[bout id a]at e3;rw[uL eH b]at e2;rw[bout eH b]at e4;exact H.iT id eH o o' bc dq bO e1 e2 e3 e4 m1 m2
 ·intro id o bc e1 e2 e3
  rcases sq id with⟨a1,a2⟩|a
  ·rw[iB id a1 a2,<-pin id a1 a2]at e1;rw[bin id a1 a2]at e2;exact λhf=>H1.out id o bc e1 e2 e3 (.inl hf)
  ·rw[uL id a]at e1;rw[bout id a]at e2;exact H.out id o bc e1 e2 e3
end Go.Pm
namespace Go.Pm
theorem oM{O O':Nat->PV}{xs:List Operand}(h:∀x∈xs,ev O x=ev O' x):xs.map (ev O)=xs.map (ev O'):=acZ h
theorem pS{O O':Nat->PV}{xs:List (Nat×Operand)}(h:∀x∈xs.map (·.2),ev O x=ev O' x):(xs.map λ(i,x)=>(i,ev O x))=xs.map λ(i,x)=>(i,ev O' x):=
 acZ λp hp=>by
  obtain⟨i,x⟩:=p;simp only[h x (aci.2 ⟨(i,x),hp,rfl⟩)]
theorem mH{C:cW}{run:iR}{lv:Nat}{op:Op}{O O':Nat->PV}{hp:ab}(h:∀x∈op.operands.toList,ev O x=ev O' x):au C run lv op O hp=au C run lv op O' hp:=by
 cases op
 case call c=>
  have ha:c.args.toList.map (ev O)=c.args.toList.map (ev O'):=oM λx hx=>h x (by simp[Op.operands,Call.operands];exact .inr (by simpa using hx))
  simp only[au,ha]
  cases hc:c.callee with
  |value f=>simp only[h f (by simp[Op.operands,Call.operands,hc])]
  |invoke r m=>rfl
  |builtin b=>rfl
 case build t ps=>simp only[au,aC,pS (O:=O) (O':=O') (xs:=ps.toList) λx hx=>h x (by simpa[Op.operands]using hx)]
 case buildSlice t n ps=>simp only[au,aC,pS (O:=O) (O':=O') (xs:=ps.toList) λx hx=>h x (by simpa[Op.operands]using hx)]
 case makeFunc fn first dw=>
  have ha:dw.toList.map (ev O)=dw.toList.map (ev O'):=oM λx hx=>h x (by simp[Op.operands];exact .inr (by simpa using hx))
  have hb:(first.toList++dw.toList).map (ev O)=(first.toList++dw.toList).map (ev O'):=oM λx hx=>h x (by simp only[Op.operands,Array.toList_append];exact hx)
  simp only[au,aC]
  cases fn <;>simp only[ha,hb]
 case makeMap t r=>
  simp only[Op.operands]at h;have h2:r.map (ev O)=r.map (ev O'):=by cases r with |none=>rfl |some y=>simp[h y (by simp)]
  simp only[au,aC,h2]
 case slice t x lo hi mx=>
  simp only[Op.operands]at h;have h1:=h x (by simp);have h2:lo.map (ev O)=lo.map (ev O'):=by cases lo with |none=>rfl |some y=>simp[h y (by simp)]
  have h3:hi.map (ev O)=hi.map (ev O'):=by cases hi with |none=>rfl |some y=>simp[h y (by simp)]
  have h4:mx.map (ev O)=mx.map (ev O'):=by cases mx with |none=>rfl |some y=>simp[h y (by simp)]
  simp only[au,aC,h1,h2,h3,h4]
 all_goals(simp only[Op.operands]at h;simp only[au,aC];try simp_all)
theorem dG{α:Type}{x:Option α}{h:ab}{p:α}{h':ab}(e:x.map (·,h)=some (p,h')):x=some p/\h'=h:=by
 cases x with
 |none=>cases e
 |some y=>simp at e;exact⟨by rw[e.1],e.2.symm⟩
theorem pT{C:cW}{run:iR}{lv lv2:Nat}{op:Op}{O:Nat->PV}{h1 QK h2:ab}{r:PV}(hn:di op=false)(e:au C run lv op O h1=some (r,QK)):au C run lv2 op O h2=some (r,h2):=by
 cases op <;>simp[di]at hn <;>simp only[au,aC]at e ⊢
 case move x=>simp at e;simp[e.1]
 case assign x=>simp at e;simp[e.1]
 case pick c x y=>split at e <;>simp_all
 case build t ps=>obtain⟨e1,_⟩:=dG e;rw[e1];rfl
 case nilCheck x=>split at e <;>simp_all
 case binOp=>obtain⟨e1,_⟩:=dG e;rw[e1];rfl
 case unOp=>obtain⟨e1,_⟩:=dG e;rw[e1];rfl
 case convert=>obtain⟨e1,_⟩:=dG e;rw[e1];rfl
 case makeFunc fn first dw=>
  cases fn <;>simp only at e ⊢ <;>try(cases e;done)
  split at e
  ·rename_i hf;simp at e;simp[hf,e.1]
  ·rename_i hf;obtain⟨rfl,rfl⟩:=ab7 (abV e);rw[if_neg hf]
 case fieldAddr=>obtain⟨e1,_⟩:=dG e;rw[e1];rfl
 case field=>obtain⟨e1,_⟩:=dG e;rw[e1];rfl
 case index=>obtain⟨e1,_⟩:=dG e;rw[e1];rfl
 case extract x i=>
  split at e
  split at e <;>simp_all
  cases e
def Ext(h h':ab):Prop:=∃ext,h'=h++ext
theorem Ext.refl(h:ab):Ext h h:=⟨[],by simp⟩
theorem sM{g:List PV->ab->Option (PV×ab)}{lv:Nat}(hl:lv<=1){args:List PV}{h h':ab}{r:PV}(e:eF g lv args h=some (r,h')):Ext h h':=by
 unfold eF at e;rw[if_neg (by omega)]at e
 split at e
 ·split at e
  ·split at e
   obtain⟨rfl,rfl⟩:=ab7 (abV e);exact⟨_,rfl⟩
   cases e
  cases e
 cases e
theorem AL{C:cW}{run:iR}{lv:Nat}(hl:lv<=1){f:FuncId}{args:List PV}{h h':ab}{r:PV}(e:dn C run lv f args h=some (r,h')):Ext h h':=by
 unfold dn at e
 split at e
 cases e
 ·unfold dx at e
  split at e
  ·split at e
   ·split at e
    obtain⟨rfl,rfl⟩:=ab7 (abV e);exact Ext.refl _
    cases e
   cases e
  ·split at e
   ·split at e
    ·split at e
     ·split at e
      obtain⟨rfl,rfl⟩:=ab7 (abV e);exact Ext.refl _;rw[if_neg (by omega)]at e;cases e
     cases e
    cases e
   ·split at e
    ·split at e
     ·split at e
      ·split at e
       obtain⟨rfl,rfl⟩:=ab7 (abV e);exact Ext.refl _
       cases e
      cases e
     cases e
    cases e
 ·unfold iG at e
  split at e
  ·rename_i r0 h1 he
   obtain⟨ext,rfl⟩:=sM hl he
   split at e
   obtain⟨rfl,rfl⟩:=ab7 (abV e);simp;exact Ext.refl _;obtain⟨rfl,rfl⟩:=ab7 (abV e);exact⟨_,rfl⟩
  cases e
 ·split at e
  obtain⟨_,rfl⟩:=dG e;exact Ext.refl _
  cases e
 exact sM hl e
 ·split at e
  obtain⟨_,rfl⟩:=dG e;exact Ext.refl _
  cases e
theorem Du{P:Program}{lv:Nat}(hl:lv<=1){b:Builtin}{ts:List TypeId}{args:List PV}{h h':ab}{r:PV}(e:bt P lv h b ts args=some (r,h')):Ext h h':=by
 unfold bt at e
 split at e
 obtain⟨_,rfl⟩:=dG e;exact Ext.refl _
 ·unfold bT at e
  repeat' split at e
  all_goals first
   |(cases e;done)
   |(obtain⟨rfl,rfl⟩:=ab7 (abV e);first |exact Ext.refl _ |exact⟨_,rfl⟩)
   |(exfalso;omega)
   |(rename_i hh;exfalso;obtain⟨a1,a2,a3⟩:=hh;omega)
 ·unfold AJ at e
  repeat' split at e
  all_goals first
   |(cases e;done)
   |(rename_i hh;exfalso;omega)
 ·unfold mZ at e
  repeat' split at e
  all_goals first
   |(cases e;done)
   |(obtain⟨rfl,rfl⟩:=ab7 (abV e);exact Ext.refl _)
   |(rename_i hh;exfalso;omega)
 obtain⟨_,rfl⟩:=dG e;exact Ext.refl _;obtain⟨_,rfl⟩:=dG e;exact Ext.refl _;obtain⟨_,rfl⟩:=dG e;exact Ext.refl _
 cases e
theorem Gd{P:Program}{lv:Nat}(hl:lv<=1){op:Op}{O:Nat->PV}{h h':ab}{r:PV}(e:aC P lv op O h=some (r,h')):Ext h h':=by
 cases op <;>simp only[aC]at e
 case alloc t=>
  split at e
  ·split at e
   obtain⟨rfl,rfl⟩:=ab7 (abV e);exact⟨_,rfl⟩
   cases e
  cases e
 case box t x=>
  split at e
  obtain⟨rfl,rfl⟩:=ab7 (abV e);exact⟨_,rfl⟩
  cases e
 case buildSlice t n ps=>
  unfold dI at e
  repeat' split at e
  all_goals first
   |(cases e;done)
   |(obtain⟨rfl,rfl⟩:=ab7 (abV e);first |exact Ext.refl _ |exact⟨_,rfl⟩)
 case store t x y=>rw[if_neg (by omega)]at e;cases e
 case mapUpdate t m k x=>rw[if_neg (by omega)]at e;cases e
 case insert t m k x=>rw[if_neg (by omega)]at e;cases e
 case makeMap t r=>
  unfold nt at e
  repeat' split at e
  all_goals first
   |(cases e;done)
   |(obtain⟨rfl,rfl⟩:=ab7 (abV e);exact⟨_,rfl⟩)
 case makeSlice t l c=>
  unfold jS at e
  repeat' split at e
  all_goals first
   |(cases e;done)
   |(obtain⟨rfl,rfl⟩:=ab7 (abV e);exact⟨_,rfl⟩)
 case makeFunc fn first dw=>
  cases fn <;>simp only at e <;>try(cases e;done)
  split at e
  obtain⟨rfl,rfl⟩:=ab7 (abV e);exact Ext.refl _;obtain⟨rfl,rfl⟩:=ab7 (abV e);exact Ext.refl _
 all_goals first
  |(cases e;done)
  |(obtain⟨rfl,rfl⟩:=ab7 (abV e);exact Ext.refl _)
  |(obtain⟨_,rfl⟩:=dG e;exact Ext.refl _)
  |repeat' split at e
   all_goals first
    |(cases e;done)
    |(obtain⟨rfl,rfl⟩:=ab7 (abV e);exact Ext.refl _)
theorem JZ{C:cW}{run:iR}{lv:Nat}(hl:lv<=1){op:Op}{O:Nat->PV}{h h':ab}{r:PV}(e:au C run lv op O h=some (r,h')):Ext h h':=by
 unfold au at e
 split at e
 ·split at e
  ·unfold gA at e
   split at e
   exact AL hl e;exact AL hl e
   cases e
  exact Du hl e
  cases e
 exact Gd hl e
def Ad(ops:Array Oper)(i j:Nat):Prop:=((before ops).getD i 0).testBit j=true
theorem A7(f:Edge->Nat)(j:Nat):∀(l:List Edge) (s0:Nat),(l.foldl (λs e=>s |||2^e.on |||f e) s0).testBit j=true->s0.testBit j=true\/∃e∈l,j=e.on\/(f e).testBit j=true
 |[],s0,h=>.inl h
 |e::l,s0,h=>by
  rcases A7 f j l _ h with h |⟨e',h1,h2⟩
  ·simp only[Nat.testBit_or,acs,Nat.testBit_two_pow,decide_eq_true_eq]at h;rcases h with(h |h)|h;exact .inl h;exact .inr ⟨e,by simp,.inl h.symm⟩;exact .inr ⟨e,by simp,.inr h⟩
  exact .inr ⟨e',by simp[h1],h2⟩
theorem A8(all:List Oper):∀(l pre:List Oper) (acc:List Nat),all=pre++l->acc.length=pre.length->
  (∀i j,(acc.getD i 0).testBit j=true->∃o,all[i]?=some o/\∃e∈JY o,j=e.on\/(acc.getD e.on 0).testBit j=true)->
  ∀i j,((l.foldl (λacc o=>acc++[(JY o).foldl (λs e=>s |||2^e.on |||acc.getD e.on 0) 0]) acc).getD i 0).testBit j=true->
   ∃o,all[i]?=some o/\∃e∈JY o,j=e.on\/((l.foldl (λacc o=>acc++[(JY o).foldl (λs e=>s |||2^e.on |||acc.getD e.on 0) 0]) acc).getD e.on 0).testBit j=true
 |[],pre,acc,h1,h2,h3=>h3
 |o::l,pre,acc,h1,h2,h3=>by
  have aT:∀k x (v:Nat),(acc.getD k 0).testBit x=true->((acc++[v]).getD k 0).testBit x=true:=λk x v h=>by
   rcases acE k acc.length with hk |hk;simpa[List.getD,abW hk]using h;simp[List.getD,ach hk]at h
  refine A8 all l (pre++[o]) _ (by simp[h1]) (by simp[h2]) ?_
  intro i j Ks
  by_cases hi:i<acc.length
  ·have Vk:(acc.getD i 0).testBit j=true:=by simpa[List.getD,abW hi]using Ks
   obtain⟨o',e1,e,e2,e3⟩:=h3 i j Vk;exact⟨o',e1,e,e2,e3.imp id (aT _ _ _)⟩
  ·by_cases QW:i=acc.length
   ·subst QW;have Vk:(((JY o).foldl (λs e=>s |||2^e.on |||acc.getD e.on 0) 0)).testBit j=true:=by simpa[List.getD]using Ks
    rcases A7 (λe=>acc.getD e.on 0) j _ _ Vk with h |⟨e,h4,h5⟩;simp at h;exact⟨o,by rw[h1,h2,ab6 (abZ _)];simp,e,h4,h5.imp id (aT _ _ _)⟩
   ·rw[acn,ach (by simp;omega)]at Ks;simp at Ks
theorem yf{ops:Array Oper}{i j:Nat}(h:Ad ops i j):∃o,ops[i]?=some o/\∃e∈JY o,j=e.on\/Ad ops e.on j:=by
 obtain⟨o,h1,e,h2,h3⟩:=A8 ops.toList ops.toList [] [] rfl rfl (λi j h=>by simp at h) i j h;exact⟨o,by simpa using h1,e,h2,h3⟩
def Kt(ops:Array Oper)(o o':Oper):Bool:=
 match o'.dst with
 |some d=>(o.looksAt ops).contains d ||o.dst==some d
 |none=>false
def nf(ops:Array Oper):Bool:=
 ops.toList.zipIdx.all λ(o,i)=>(JY o).all (λe=>decide (e.on<i))&&
  ops.toList.zipIdx.all λ(o',j)=>decide (i<=j)|| !(Kt ops o o'||Kt ops o' o)||((before ops).getD i 0).testBit j
theorem fB{ops:Array Oper}(h:nf ops=true):
  (∀(i:Nat) (o:Oper),ops[i]?=some o->∀e∈JY o,e.on<i)/\
  (∀(i j:Nat) (o o':Oper),ops[i]?=some o->ops[j]?=some o'->j<i->(Kt ops o o'=true\/Kt ops o' o=true)->Ad ops i j):=by
 have mem:∀(i:Nat) (o:Oper),ops[i]?=some o->(o,i)∈ops.toList.zipIdx:=λi o e=>by
  rw[adK];exact⟨i,by simp[e]⟩
 unfold nf at h;rw[abX]at h
 constructor
 ·intro i o e ed he
  have:=h _ (mem i o e);simp only[ab4]at this;have:=abX.1 this.1 ed he;simpa using this
 ·intro i j o o' e e' Af hh
  have:=h _ (mem i o e);simp only[ab4]at this;have:=abX.1 this.2 _ (mem j o' e');simp only[acs,decide_eq_true_eq,ac8,adO]at this;rcases this with(h1 |h1)|h1;omega;rw[h1.1,h1.2]at hh;simp at hh;exact h1
theorem sb{ops:Array Oper}{i:Nat}(h:level ops (before ops) i=2){j:Nat}{o:Oper}(e:ops[j]?=some o)(hh:di o.op=true):j=i\/Ad ops i j\/Ad ops j i:=by
 unfold level at h
 split at h
 ·rename_i eR
  have:=abX.1 eR (o,j) (by rw[adK];exact⟨j,by simp[e]⟩);simp only[hh,ad4,ado,rP,acs,beq_iff_eq]at this;rcases this with(h1 |h1)|h1;exact .inl h1.symm;exact .inr (.inl h1);exact .inr (.inr h1)
 cases h
theorem rW{ops:Array Oper}(hd:nf ops=true):∀(i j:Nat),Ad ops i j->j<i:=by
 intro i
 induction i using Nat.strongRecOn with
 |ind i ih=>
  intro j h
  obtain⟨o,h1,e,h2,h3⟩:=yf h;have:=(fB hd).1 i o h1 e h2;rcases h3 with rfl |h3;exact this;have:=ih e.on this j h3;omega
theorem GJ{ops:Array Oper}(hd:nf ops=true){E:Nat->Bool}(hE:∀(i:Nat) (o:Oper),ops[i]?=some o->E i=true->∀e∈JY o,E e.on=true):∀(i j:Nat),E i=true->Ad ops i j->E j=true:=by
 intro i
 induction i using Nat.strongRecOn with
 |ind i ih=>
  intro j hi h
  obtain⟨o,h1,e,h2,h3⟩:=yf h;have hl:=(fB hd).1 i o h1 e h2;have he:=hE i o h1 hi e h2;rcases h3 with rfl |h3;exact he;exact ih e.on hl j he h3
theorem uI{e:Nat->Bool}{L0:Nat}{own:List Nat}{h:ab}(h1:L0<=h.length)(h2:own.length=h.length - L0):(cI e L0 own h).length=h.length:=by
 unfold cI;simp;omega
theorem uJ{e:Nat->Bool}{L0:Nat}{own tc:List Nat}{h ext:ab}(h1:L0<=h.length)(h2:own.length=h.length - L0):
  cI e L0 (own++tc) (h++ext)=cI e L0 own h++List.zipWith (λo j=>if e j then o else eX o) ext tc:=by
 unfold cI;rw[acC h1,ac7 h1,List.zipWith_append (by simp;omega),acp]
theorem uK{e e':Nat->Bool}:∀(h:ab) (own:List Nat),(∀j∈own,e j=e' j)->List.zipWith (λo j=>if e j then o else eX o) h own=List.zipWith (λo j=>if e' j then o else eX o) h own
 |[],own,_=>by simp
 |_::_,[],_=>by simp
 |o::h,j::own,hh=>by
  simp only[List.zipWith_cons_cons,hh j (by simp)];rw[uK h own (λk hk=>hh k (by simp[hk]))]
theorem vL{e e':Nat->Bool}{L0:Nat}{own:List Nat}{h:ab}(hh:∀j∈own,e j=e' j):cI e L0 own h=cI e' L0 own h:=by
 unfold cI;rw[uK _ _ hh]
theorem Cn{e:Nat->Bool}:∀(h:ab) (own:List Nat),own.length=h.length->(∀j∈own,e j=true)->List.zipWith (λo j=>if e j then o else eX o) h own=h
 |[],own,_,_=>by simp
 |o::h,[],hl,_=>by simp at hl
 |o::h,j::own,hl,hh=>by
  simp only[List.zipWith_cons_cons,hh j (by simp),if_true];rw[Cn h own (by simpa using hl) (λk hk=>hh k (by simp[hk]))]
theorem qS{e:Nat->Bool}{L0:Nat}{own:List Nat}{h:ab}(h2:own.length=h.length - L0)(hh:∀j∈own,e j=true):cI e L0 own h=h:=by
 unfold cI;rw[Cn _ _ (by simp[h2]) hh,adA]
theorem Ku{e:Nat->Bool}{L0:Nat}{own:List Nat}{h:ab}(h1:L0<=h.length)(h2:own.length=h.length - L0)(id:Nat):
  (cI e L0 own h)[id]?=if id<L0 then h[id]? else(h[id]?).map λo=>if e (own.getD (id - L0) 0)then o else eX o:=by
 unfold cI
 by_cases bZ:id<L0
 rw[if_pos bZ,abW (by simp;omega),acj,if_pos bZ]
 ·rw[if_neg bZ,ab6 (by simp;omega)];have hl:(List.take L0 h).length=L0:=by simp;omega
  rw[hl,ady,acy,show L0+(id - L0)=id by omega]
  cases ho:h[id]? with
  |none=>simp
  |some o=>
   have:=ag ho;have hw:own[id - L0]?=some (own[id - L0]'(by omega)):=ab1 (by omega);simp[hw]
section
variable{C:cW}{run:iR}{ops:Array Oper}
theorem qd:∀(l:List Oper) (k:Nat) (x y:xc),dL C run ops (before ops) k l x=some y->
  ∃tr:Nat->xc,tr k=x/\(∀(i:Nat) (o:Oper),l[i]?=some o->cD C run ops (before ops) (k+i) o (tr (k+i))=some (tr (k+i+1)))/\tr (k+l.length)=y
 |[],k,x,y,e=>by
  simp[dL]at e;exact⟨λ_=>x,rfl,λi o h=>by simp at h,by simpa using e⟩
 |o::l,k,x,y,e=>by
  simp only[dL]at e
  split at e
  ·rename_i x' hx
   obtain⟨tr,t1,t2,t3⟩:=qd l (k+1) x' y e;refine⟨λj=>if j<=k then x else tr j,by simp,?_,?_⟩
   ·intro i o' ho
    cases i with
    |zero=>
     simp at ho;subst ho;simp[t1,hx]
     intro hh;omega
    |succ i=>
     have:=t2 i o' (by simpa using ho);have e1:¬(k+(i+1)<=k):=by omega
     have e2:¬(k+(i+1)+1<=k):=by omega
     simp only[e1,e2,if_false];rw[show k+(i+1)=k+1+i by omega];exact this
   ·have e1:¬(k+(o::l).length<=k):=by simp
    simp only[e1,if_false];rw[<-t3];congr 1;simp;omega
  cases e
inductive A9(C:cW)(run:iR)(ops:Array Oper)(i:Nat)(o:Oper)(x y:xc):Prop
 |off:bA ops o x.s.O=some false->y=⟨⟨cm x.s.O o.dst .undef,x.s.h⟩,x.L0,x.own⟩->A9 C run ops i o x y
 |plain (r:PV) (h1:ab):bA ops o x.s.O=some true->di o.op=false->au C run 1 o.op x.s.O x.s.h=some (r,h1)->y=⟨⟨cm x.s.O o.dst r,x.s.h⟩,x.L0,x.own⟩->A9 C run ops i o x y
 |two (r:PV) (h':ab):bA ops o x.s.O=some true->di o.op=true->level ops (before ops) i=2->au C run 2 o.op x.s.O x.s.h=some (r,h')->y=⟨⟨cm x.s.O o.dst r,h'⟩,h'.length,[]⟩->A9 C run ops i o x y
 |one (r:PV) (ext:ab):bA ops o x.s.O=some true->di o.op=true->level ops (before ops) i≠2->aV (cI ((before ops).getD i 0).testBit x.L0 x.own x.s.h)=true->
   (∀z∈o.op.operands.toList,bu (aO (cI ((before ops).getD i 0).testBit x.L0 x.own x.s.h)) (ev x.s.O z)=true)->
   au C run 1 o.op x.s.O (cI ((before ops).getD i 0).testBit x.L0 x.own x.s.h)=some (r,cI ((before ops).getD i 0).testBit x.L0 x.own x.s.h++ext)->
   (∀o∈ext,o.mu≠.l)->y=⟨⟨cm x.s.O o.dst r,x.s.h++ext⟩,x.L0,x.own++List.replicate ext.length i⟩->A9 C run ops i o x y
theorem T8{i:Nat}{o:Oper}{x y:xc}(h1:x.L0<=x.s.h.length)(h2:x.own.length=x.s.h.length - x.L0)(e:cD C run ops (before ops) i o x=some y):A9 C run ops i o x y:=by
 unfold cD at e
 split at e
 ·rename_i hw
  split at e
  ·rename_i hh
   split at e
   ·rename_i r hx hv;exact .plain r hx hw hh hv (abV e).symm
   cases e
  ·rename_i hh
   have hh':di o.op=true:=by simpa using hh
   split at e
   ·rename_i hl
    split at e
    ·rename_i r h' hv;exact .two r h' hw hh' hl hv (abV e).symm
    cases e
   ·rename_i hl
    simp only at e
    split at e
    ·rename_i hc
     split at e
     ·rename_i r h' hv
      obtain⟨ext,rfl⟩:=JZ (abZ 1) hv
      have hd:(cI ((before ops).getD i 0).testBit x.L0 x.own x.s.h++ext).drop x.s.h.length=ext:=by
       rw[<-uI (e:=((before ops).getD i 0).testBit) h1 h2,List.drop_left]
      rw[hd]at e
      split at e
      ·rename_i Dh
       exact .one r ext hw hh' hl hc.1 (λz hz=>abX.1 hc.2 z hz) hv (λo ho=>by simpa using abX.1 Dh o ho) (abV e).symm
      cases e
     cases e
    cases e
 ·rename_i hw;exact .off hw (abV e).symm
 cases e
end
structure Lex(C:cW)(run:iR)(ops:Array Oper)(tr:Nat->xc):Prop where
 ok:nf ops=true
 st:∀(i:Nat) (o:Oper),ops[i]?=some o->cD C run ops (before ops) i o (tr i)=some (tr (i+1))
 h0:(tr 0).L0<=(tr 0).s.h.length
 o0:(tr 0).own=[]/\(tr 0).L0=(tr 0).s.h.length
def F1(ops:Array Oper)(tr:Nat->xc)(j:Nat):Prop:=∃o,ops[j]?=some o/\di o.op=true/\bA ops o (tr j).s.O=some true
variable{C:cW}{run:iR}{ops:Array Oper}{tr:Nat->xc}
theorem rD{k:Nat}(h:k<ops.size):∃o,ops[k]?=some o:=⟨ops[k],adk h⟩
theorem Lex.wf(L:Lex C run ops tr):∀k,k<=ops.size->(tr k).L0<=(tr k).s.h.length/\(tr k).own.length=(tr k).s.h.length - (tr k).L0/\∀j∈(tr k).own,j<k/\F1 ops tr j:=by
 intro k
 induction k with
 |zero=>
  intro _
  obtain⟨h1,h2⟩:=L.o0;rw[h1,h2];exact⟨abZ _,by simp,λj hj=>by cases hj⟩
 |succ k ih=>
  intro hk
  obtain⟨h1,h2,h3⟩:=ih (by omega);obtain⟨o,ho⟩:=rD (ops:=ops) (k:=k) (by omega);have aT:∀j∈(tr k).own,j<k+1/\F1 ops tr j:=λj hj=>⟨by have:=(h3 j hj).1;omega,(h3 j hj).2⟩
  cases T8 h1 h2 (L.st k o ho)with
  |off _ hy=>rw[hy];exact⟨h1,h2,aT⟩
  |plain r hx _ _ _ hy=>rw[hy];exact⟨h1,h2,aT⟩
  |two r h' _ _ _ _ hy=>rw[hy];exact⟨abZ _,by simp,λj hj=>by cases hj⟩
  |one r ext hw hh _ _ _ _ _ hy=>
   rw[hy];refine⟨by simp;omega,by simp;omega,λj hj=>?_⟩;rcases ab2.1 hj with hj |hj;exact aT j hj
   ·obtain⟨_,rfl⟩:=adS.1 hj;exact⟨by omega,o,ho,hh,hw⟩
theorem Lex.view(L:Lex C run ops tr){k:Nat}{o:Oper}(ho:ops[k]?=some o):A9 C run ops k o (tr k) (tr (k+1)):=by
 have hk:k<ops.size:=(acq.1 ho).1;obtain⟨h1,h2,_⟩:=L.wf k (by omega);exact T8 h1 h2 (L.st k o ho)
theorem Lex.rho(L:Lex C run ops tr){k:Nat}{o:Oper}(ho:ops[k]?=some o):∃r,(tr (k+1)).s.O=cm (tr k).s.O o.dst r:=by
 cases L.view ho with
 |off _ hy=>exact⟨_,by rw[hy]⟩
 |plain r hx _ _ _ hy=>exact⟨_,by rw[hy]⟩
 |two r h' _ _ _ _ hy=>exact⟨_,by rw[hy]⟩
 |one r ext hw hh _ _ _ _ _ hy=>exact⟨_,by rw[hy]⟩
theorem Lex.nE(L:Lex C run ops tr){t:Nat}{i:Nat}:∀k,i<=k->k<=ops.size->(∀j o,i<=j->j<k->ops[j]?=some o->o.dst≠some t)->(tr k).s.O t=(tr i).s.O t:=by
 intro k
 induction k with
 |zero=>intro h1 _ _;obtain rfl:i=0:=(by omega);rfl
 |succ k ih=>
  intro h1 h2 h3
  by_cases hi:i=k+1
  subst hi;rfl
  ·obtain⟨o,ho⟩:=rD (ops:=ops) (k:=k) (by omega);obtain⟨r,hr⟩:=L.rho ho;rw[hr,oR,if_neg (h3 k o (by omega) (by omega) ho)];exact ih (by omega) (by omega) (λj o' a b c=>h3 j o' a (by omega) c)
theorem Lex.phase(L:Lex C run ops tr){i:Nat}:∀k,i<=k->k<=ops.size->(∀j,i<=j->j<k->¬(F1 ops tr j/\level ops (before ops) j=2))->
  ∃ext tc,(tr k).s.h=(tr i).s.h++ext/\(tr k).L0=(tr i).L0/\(tr k).own=(tr i).own++tc/\tc.length=ext.length/\∀j∈tc,i<=j:=by
 intro k
 induction k with
 |zero=>intro h1 _ _;obtain rfl:i=0:=(by omega);exact⟨[],[],by simp,rfl,by simp,rfl,λj hj=>by cases hj⟩
 |succ k ih=>
  intro h1 h2 h3
  by_cases hi:i=k+1
  subst hi;exact⟨[],[],by simp,rfl,by simp,rfl,λj hj=>by cases hj⟩
  ·obtain⟨ext,tc,e1,e2,e3,e4,e5⟩:=ih (by omega) (by omega) (λj a b=>h3 j a (by omega));obtain⟨o,ho⟩:=rD (ops:=ops) (k:=k) (by omega)
   cases L.view ho with
   |off _ hy=>rw[hy];exact⟨ext,tc,e1,e2,e3,e4,e5⟩
   |plain r hx _ _ _ hy=>rw[hy];exact⟨ext,tc,e1,e2,e3,e4,e5⟩
   |two r h' hw hh hl _ hy=>exact absurd ⟨⟨o,ho,hh,hw⟩,hl⟩ (h3 k (by omega) (by omega))
   |one r NJ hw hh _ _ _ _ _ hy=>
    rw[hy];refine⟨ext++NJ,tc++List.replicate NJ.length k,by simp[e1],e2,by simp[e3],by simp[e4],λj hj=>?_⟩;rcases ab2.1 hj with hj |hj;exact e5 j hj;obtain⟨_,rfl⟩:=adS.1 hj;omega
def Kh(tr:Nat->xc)(E:Nat->Bool)(k:Nat):ab:=cI E (tr k).L0 (tr k).own (tr k).s.h
structure Am(ops:Array Oper)(tr:Nat->xc)(N:Nat)(F:Nat->Prop)(w0:World)(h0:ab)(X0:List (Nat×Nat))(E:Nat->Bool)(a:Act)(w:World)(k:Nat)(O:Nat->PV)(X:List (Nat×Nat)):Prop where
 kn:k<=ops.size
 lo:∀j,F1 ops tr j->E j=true->j<k
 hi:∀j,F1 ops tr j->level ops (before ops) j=2->j<k->E j=true
 base:h0.length<=(tr k).L0
 hr:bo w F X (Kh tr E k)
 er:iI w (Av F (Kh tr E k) X) X (Kh tr E k) a O
 rh:∀t k',k'<=ops.size->(∀j o,ops[j]?=some o->o.dst=some t->(E j=true↔j<k'))->O t=(tr k').s.O t
 sp:eD w0 h0 X0 w (Kh tr E k) X
 df:a.defers=[]
 sz:N<=a.tmps.size
variable{N:Nat}{F:Nat->Prop}{w0:World}{h0:ab}{X0:List (Nat×Nat)}{E:Nat->Bool}{a:Act}{w:World}
theorem Am.aaC(L:Lex C run ops tr){k:Nat}{O:Nat->PV}{X:List (Nat×Nat)}(D:Am ops tr N F w0 h0 X0 E a w k O X)(hk:k<ops.size)(hn:¬(F1 ops tr k/\level ops (before ops) k=2)):
  ∃X',Am ops tr N F w0 h0 X0 E a w (k+1) O X':=by
 obtain⟨o,ho⟩:=rD (ops:=ops) hk
 have hE:F1 ops tr k->E k=false:=λhr=>by
  cases he:E k with
  |false=>rfl
  |true=>have:=D.lo k hr he;omega
 have zX:∀j,F1 ops tr j->E j=true->j<k+1:=λj h1 h2=>by have:=D.lo j h1 h2;omega
 have zY:∀j,F1 ops tr j->level ops (before ops) j=2->j<k+1->E j=true:=λj h1 h2 h3=>by
  by_cases hj:j=k
  subst hj;exact absurd ⟨h1,h2⟩ hn;exact D.hi j h1 h2 (by omega)
 have same:(tr (k+1)).s.h=(tr k).s.h->(tr (k+1)).L0=(tr k).L0->(tr (k+1)).own=(tr k).own->∃X',Am ops tr N F w0 h0 X0 E a w (k+1) O X':=λe1 e2 e3=>by
  have hK:Kh tr E (k+1)=Kh tr E k:=by unfold Kh;rw[e1,e2,e3]
  exact⟨X,⟨hk,zX,zY,by rw[e2];exact D.base,by rw[hK];exact D.hr,by rw[hK];exact D.er,D.rh,by rw[hK];exact D.sp,D.df,D.sz⟩⟩
 cases L.view ho with
 |off _ hy=>exact same (by rw[hy]) (by rw[hy]) (by rw[hy])
 |plain r hx _ _ _ hy=>exact same (by rw[hy]) (by rw[hy]) (by rw[hy])
 |two r h' hw hh hl _ hy=>exact absurd ⟨⟨o,ho,hh,hw⟩,hl⟩ hn
 |one r ext hw hh _ _ _ _ _ hy=>
  obtain⟨w1,w2,_⟩:=L.wf k (by omega);have hek:=hE ⟨o,ho,hh,hw⟩
  have hK:Kh tr E (k+1)=Kh tr E k++List.zipWith (λo j=>if E j then o else eX o) ext (List.replicate ext.length k):=by
   unfold Kh;rw[hy];exact uJ w1 w2
  have hzx:∀o∈List.zipWith (λo j=>if E j then o else eX o) ext (List.replicate ext.length k),o.mu=.x:=by
   intro o ho
   obtain⟨i,hi⟩:=ac5 ho;rw[ady]at hi
   cases h1:ext[i]? with
   |none=>rw[h1]at hi;simp at hi
   |some y=>
    have cM:=ag h1;rw[h1,show(List.replicate ext.length k)[i]?=some k by simp[cM]]at hi;simp[hek]at hi;subst hi
    rfl
  obtain⟨P1,P2⟩:=D.hr.pad (List.zipWith (λo j=>if E j then o else eX o) ext (List.replicate ext.length k)) (List.replicate ext.length (0,0)) (by simp) hzx;rw[<-hK]at P1 P2;refine⟨_,⟨hk,zX,zY,by rw[hy];exact D.base,P1,D.er.mono P2,D.rh,D.sp.trans P2,D.df,D.sz⟩⟩
theorem Am.QV(L:Lex C run ops tr){O:Nat->PV}:∀(d:Nat) {k:Nat} {X:List (Nat×Nat)},Am ops tr N F w0 h0 X0 E a w k O X->k+d<=ops.size->(∀j,k<=j->j<k+d->¬(F1 ops tr j/\level ops (before ops) j=2))->
  ∃X',Am ops tr N F w0 h0 X0 E a w (k+d) O X'
 |0,k,X,D,_,_=>⟨X,D⟩
 |d+1,k,X,D,h1,h2=>by
  obtain⟨X1,D1⟩:=D.aaC L (by omega) (h2 k (abZ _) (by omega));obtain⟨X2,D2⟩:=Am.QV L d D1 (by omega) (λj a b=>h2 j (by omega) (by omega));exact⟨X2,by rw[show k+(d+1)=k+1+d by omega];exact D2⟩
end Go.Pm
namespace Go.Pm
variable{C:cW}{run:iR}{ops:Array Oper}{tr:Nat->xc}
variable{N:Nat}{F:Nat->Prop}{w0:World}{h0:ab}{X0:List (Nat×Nat)}{E E':Nat->Bool}{a:Act}{w:World}
def Co(ops:Array Oper)(tr:Nat->xc)(N:Nat)(F:Nat->Prop)(w0:World)(h0:ab)(X0:List (Nat×Nat))(E:Nat->Bool)(a:Act)(w:World):Prop:=∃k O X,Am ops tr N F w0 h0 X0 E a w k O X
theorem nF{o o':Oper}{t:Nat}(h1:o'.dst=some t)(h2:t∈o.looksAt ops\/o.dst=some t):Kt ops o o'=true:=by
 unfold Kt;rw[h1];rcases h2 with h2 |h2;simp[h2];simp[h2]
structure DE(ops:Array Oper)(E E':Nat->Bool)(i:Nat)(o:Oper):Prop where
 at_:ops[i]?=some o
 out:E i=false
 UW:∀j,Ad ops i j->E j=true
 cl:∀i j,E i=true->Ad ops i j->E j=true
 oF:∀j,E' j=true↔E j=true\/j=i
theorem DE.later{i j:Nat}{o:Oper}(R:DE ops E E' i o)(h:Ad ops j i):E j=false:=by
 cases he:E j with
 |false=>rfl
 |true=>have:=R.cl j i he h;rw[R.out]at this;cases this
theorem Am.look(L:Lex C run ops tr){k:Nat}{O:Nat->PV}{X:List (Nat×Nat)}(D:Am ops tr N F w0 h0 X0 E a w k O X){i:Nat}{o:Oper}(R:DE ops E E' i o){t:Nat}(ht:t∈o.looksAt ops):O t=(tr i).s.O t:=by
 have hi:i<ops.size:=(acq.1 R.at_).1;refine D.rh t i (by omega) (λj o' hj hd=>?_);rcases adF j i with h |h |h;exact⟨λ_=>h,λ_=>R.UW j ((fB L.ok).2 i j o o' R.at_ hj h (.inl (nF hd (.inl ht))))⟩;subst h;rw[R.out];simp
 ·have:=R.later ((fB L.ok).2 j i o' o hj R.at_ h (.inr (nF hd (.inl ht))));rw[this]
  constructor
  intro hh;cases hh
  intro hh;omega
theorem Am.Nd(L:Lex C run ops tr){k:Nat}{O:Nat->PV}{X:List (Nat×Nat)}(D:Am ops tr N F w0 h0 X0 E a w k O X){i:Nat}{o:Oper}(R:DE ops E E' i o):∀x∈o.op.operands.toList,ev O x=ev (tr i).s.O x:=by
 intro x hx
 cases x with
 |tmp t=>exact D.look L R (ac0 _ (List.mem_filterMap.2 ⟨.tmp t,hx,rfl⟩))
 |_=>rfl
theorem Am.IP(L:Lex C run ops tr){k:Nat}{O:Nat->PV}{X:List (Nat×Nat)}(D:Am ops tr N F w0 h0 X0 E a w k O X){i:Nat}{o:Oper}(R:DE ops E E' i o):bA ops o O=bA ops o (tr i).s.O:=by
 unfold bA
 cases hg:o.guard with
 |none=>rfl
 |some jw=>
  obtain⟨j,want⟩:=jw;simp only
  cases hd:(ops.toList[j]?).bind (·.dst)with
  |none=>rfl
  |some d=>
   have Cd:(ops[j]?).bind (·.dst)=some d:=by simpa using hd
   have:O d=(tr i).s.O d:=D.look L R (ael _ (by simp[hg,Cd]));simp only[this]
theorem Am.rh'(L:Lex C run ops tr){k:Nat}{O:Nat->PV}{X:List (Nat×Nat)}(D:Am ops tr N F w0 h0 X0 E a w k O X){i:Nat}{o:Oper}(R:DE ops E E' i o){r:PV}(hr:(tr (i+1)).s.O=cm (tr i).s.O o.dst r):
  ∀t k',k'<=ops.size->(∀j o,ops[j]?=some o->o.dst=some t->(E' j=true↔j<k'))->cm O o.dst r t=(tr k').s.O t:=by
 intro t k' hk hw
 rw[oR]
 split
 ·rename_i ht
  have Gg:i<k':=(hw i o R.at_ ht).1 ((R.oF i).2 (.inr rfl));rw[L.nE (t:=t) (i:=i+1) k' Gg hk (λj o' h1 h2 h3 h4=>?_),hr,oR,if_pos ht];have he:=(hw j o' h3 h4).2 h2;rcases(R.oF j).1 he with he |he
  ·rw[R.later ((fB L.ok).2 j i o' o h3 R.at_ (by omega) (.inl (nF ht (.inr h4))))]at he
   cases he
  omega
 ·rename_i ht
  refine D.rh t k' hk (λj o' h1 h2=>?_)
  have Af:j≠i:=by
   rintro rfl;rw[R.at_]at h1;obtain rfl:=abV h1;exact ht h2
  rw[<-hw j o' h1 h2,R.oF];simp[Af]
theorem Am.still(L:Lex C run ops tr){k:Nat}{O:Nat->PV}{X:List (Nat×Nat)}(D:Am ops tr N F w0 h0 X0 E a w k O X){i:Nat}{o:Oper}(R:DE ops E E' i o)(hd:jQ N o=true)(hn:¬F1 ops tr i)
  {r:PV} (hr:(tr (i+1)).s.O=cm (tr i).s.O o.dst r) {v:Value} (hv:aE w (Av F (Kh tr E k) X) X (Kh tr E k) v r):Co ops tr N F w0 h0 X0 E' (a.put o.dst v) w:=by
 have hK:Kh tr E' k=Kh tr E k:=by
  unfold Kh;refine vL (λj hj=>?_)
  have Af:j≠i:=by
   rintro rfl;exact hn ((L.wf k D.kn).2.2 j hj).2
  have:=R.oF j;simp only[Af,or_false]at this
  cases h1:E j <;>cases h2:E' j <;>simp_all
 refine⟨k,cm O o.dst r,X,D.kn,?_,?_,D.base,by rw[hK];exact D.hr,by rw[hK];exact D.er.put (iJ hd D.sz) hv,D.rh' L R hr,by rw[hK];exact D.sp,by rw[dY];exact D.df,by rw[gG];exact D.sz⟩
 ·intro j h1 h2
  rcases(R.oF j).1 h2 with h2 |rfl;exact D.lo j h1 h2;exact absurd h1 hn
 ·intro j h1 h2 h3
  exact(R.oF j).2 (.inl (D.hi j h1 h2 h3))
theorem aE.NK{A:Nat->Prop}{X:List (Nat×Nat)}{M:ab}{v:Value}{p:PV}(f:Nat->Bool)(h:bu f p=true->aE w A X M v p):aE w A X M v (if bu f p then p else .any):=by
 split
 ·rename_i hv;exact h hv
 exact .any v
theorem Co.step(K:gB C)(S:ir C run)(L:Lex C run ops tr)(D:Co ops tr N F w0 h0 X0 E a w){i:Nat}{o:Oper}(R:DE ops E E' i o)(hd:jQ N o=true)
  {Q:Exit->Act->World->Prop} {next:Act->World->Prop} (hK:∀a' w',Co ops tr N F w0 h0 X0 E' a' w'->next a' w'):wpOp C.P ops Q i next a w:=by
 obtain⟨k,O,X,D⟩:=D;have hi:i<ops.size:=(acq.1 R.at_).1;have lm:=D.IP L R;have wM:=D.Nd L R;have jW:∀lv h,au C run lv o.op O h=au C run lv o.op (tr i).s.O h:=λlv h=>mH wM
 unfold wpOp;rw[R.at_];simp only;obtain⟨wf1,YT,wf3⟩:=L.wf i (by omega)
 cases L.view R.at_ with
 |off hw hy=>
  rw[cZ D.er (by rw[lm];exact hw),if_neg (by simp)];refine hK _ _ (D.still L R hd ?_ (by rw[hy]) .undef);rintro⟨o',h1,h2,h3⟩;rw[R.at_]at h1;obtain rfl:=abV h1;rw[hw]at h3;cases h3
 |plain r hx hw hh hv hy=>
  rw[cZ D.er (by rw[lm];exact hw),if_pos rfl];refine .inl ?_
  have hn:¬F1 ops tr i:=by
   rintro⟨o',h1,h2,h3⟩;rw[R.at_]at h1;obtain rfl:=abV h1;rw[hh]at h2;cases h2
  have e:au C run 1 o.op O (Kh tr E k)=some (r,Kh tr E k):=by
   rw[jW];exact pT hh hv
  refine jA K S D.hr D.er e (λv w' X' q1 q2 q3 q4=>?_);have G:=q4 (abZ 1);have D':Am ops tr N F w0 h0 X0 E a w' k O X':=⟨D.kn,D.lo,D.hi,D.base,q2,D.er.mono q3,D.rh,D.sp.trans q3,D.df,D.sz⟩;exact hK _ _ (D'.still L R hd hn (by rw[hy]) q1)
 |two r h' hw hh hl hv hy=>
  rw[cZ D.er (by rw[lm];exact hw),if_pos rfl];refine .inl ?_;have Gh:F1 ops tr i:=⟨o,R.at_,hh,hw⟩
  have TQ:k<=i:=by
   rcases acE i k with h |h;have:=D.hi i Gh hl h;rw[R.out]at this;cases this;exact h
  have anc_of:∀j,F1 ops tr j->j<i->E j=true:=λj hj cM=>by
   obtain⟨oj,g1,g2,_⟩:=hj;rcases sb hl g1 g2 with h |h |h;omega;exact R.UW j h;have:=rW L.ok j i h;omega
  obtain⟨X1,D1⟩:=D.QV L (i - k) (by omega) (λj h1 h2 h3=>by
   have:=D.lo j h3.1 (anc_of j h3.1 (by omega));omega)
  rw[show k+(i - k)=i by omega]at D1;have hKi:Kh tr E i=(tr i).s.h:=qS YT (λj hj=>anc_of j (wf3 j hj).2 (wf3 j hj).1);have MD:=D1.hr;have er1:=D1.er;have sp1:=D1.sp;rw[hKi]at MD er1 sp1;refine jA K S MD er1 (by rw[jW];exact hv) (λv w' X' q1 q2 q3 q4=>hK _ _ ?_)
  have UY:Kh tr E' (i+1)=h':=by
   unfold Kh;rw[hy];exact qS (by simp) (λj hj=>by cases hj)
  refine⟨i+1,cm O o.dst r,X',by omega,?_,?_,?_,by rw[UY];exact q2,by rw[UY];exact(er1.mono q3).put (iJ hd D.sz) q1,D.rh' L R (by rw[hy]),by rw[UY];exact sp1.trans q3,by rw[dY];exact D.df,by rw[gG];exact D.sz⟩
  ·intro j h1 h2
   rcases(R.oF j).1 h2 with h2 |rfl;have:=D1.lo j h1 h2;omega;omega
  ·intro j h1 h2 h3
   by_cases hj:j=i
   exact(R.oF j).2 (.inr hj);exact(R.oF j).2 (.inl (anc_of j h1 (by omega)))
  ·rw[hy];have:=(sp1.trans q3).len;exact this
 |one r ext hw hh hl ee Kf hv Dh hy=>
  rw[cZ D.er (by rw[lm];exact hw),if_pos rfl];refine .inl ?_;have Gh:F1 ops tr i:=⟨o,R.at_,hh,hw⟩
  obtain⟨k,X,D,Gg⟩:∃k X,Am ops tr N F w0 h0 X0 E a w k O X/\i<k:=by
   rcases acE i k with h |h;exact⟨k,X,D,h⟩
   ·obtain⟨X1,D1⟩:=D.QV L (i+1 - k) (by omega) (λj h1 h2 h3=>by
     obtain⟨⟨oj,g1,g2,g3⟩,g4⟩:=h3
     by_cases hj:j=i
     subst hj;exact hl g4
     ·rcases sb g4 R.at_ hh with h5 |h5 |h5;omega;have:=rW L.ok j i h5;omega;have:=D.lo j ⟨oj,g1,g2,g3⟩ (R.UW j h5);omega)
    exact⟨i+1,X1,by rw[show i+1=k+(i+1 - k) by omega];exact D1,by omega⟩
  have zV:∀j,i+1<=j->j<k->¬(F1 ops tr j/\level ops (before ops) j=2):=λj h1 h2 h3=>by
   have he:=D.hi j h3.1 h3.2 h2;rcases sb h3.2 R.at_ hh with h5 |h5 |h5;omega;rw[R.later h5]at he;cases he;have:=rW L.ok i j h5;omega
  obtain⟨NJ,tc,p1,p2,p3,p4,p5⟩:=L.phase k Gg D.kn zV;rw[hy]at p1 p2 p3;simp only at p1 p2 p3
  have wfx:(tr i).L0<=((tr i).s.h++ext).length/\((tr i).own++List.replicate ext.length i).length=((tr i).s.h++ext).length - (tr i).L0:=by
   refine⟨by simp;omega,by simp;omega⟩
  have hKE:∀e:Nat->Bool,Kh tr e k=cI e (tr i).L0 (tr i).own (tr i).s.h++List.zipWith (λo j=>if e j then o else eX o) ext (List.replicate ext.length i)++List.zipWith (λo j=>if e j then o else eX o) NJ tc:=λe=>by
   unfold Kh;rw[p1,p2,p3,uJ wfx.1 wfx.2,uJ wf1 YT]
  have Vl:∀j∈(tr i).own,E j=E' j:=λj hj=>by
   have Af:j≠i:=by have:=(wf3 j hj).1;omega
   have:=R.oF j;simp only[Af,or_false]at this
   cases h1:E j <;>cases h2:E' j <;>simp_all
  have Vm:∀j∈tc,E j=E' j:=λj hj=>by
   have Af:j≠i:=by have:=p5 j hj;omega
   have:=R.oF j;simp only[Af,or_false]at this
   cases h1:E j <;>cases h2:E' j <;>simp_all
  have hA:=hKE E;have hB:=hKE E';rw[<-vL Vl,<-uK NJ tc Vm,Cn (e:=E') ext (List.replicate ext.length i) (by simp) (λj hj=>by obtain⟨_,rfl⟩:=adS.1 hj;exact(R.oF j).2 (.inr rfl))]at hB;have Rk:(cI E (tr i).L0 (tr i).own (tr i).s.h).length=(tr i).s.h.length:=uI wf1 YT;have XA:(cI ((before ops).getD i 0).testBit (tr i).L0 (tr i).own (tr i).s.h).length=(tr i).s.h.length:=uI wf1 YT;have Rl:(List.zipWith (λo j=>if E j then o else eX o) ext (List.replicate ext.length i)).length=ext.length:=by simp
  have GK:∀id,id<(tr i).s.h.length->(Kh tr E k)[id]?=(cI E (tr i).L0 (tr i).own (tr i).s.h)[id]?:=λid bZ=>by
   rw[hA,acp,abW (by omega)]
  have hM:∀(id:Nat) (o:aw),(cI ((before ops).getD i 0).testBit (tr i).L0 (tr i).own (tr i).s.h)[id]?=some o->o.mu≠.x->(Kh tr E k)[id]?=some o:=by
   intro id o e1 e2
   have bZ:id<(tr i).s.h.length:=by have:=ag e1;omega
   rw[GK id bZ];rw[Ku wf1 YT]at e1 ⊢
   split at e1
   ·rename_i Mz;rw[if_pos Mz];exact e1
   ·rename_i Mz
    rw[if_neg Mz]
    cases ho:(tr i).s.h[id]? with
    |none=>rw[ho]at e1;cases e1
    |some o1=>
     rw[ho]at e1;simp only[ab8,acA]at e1 ⊢
     split at e1
     ·rename_i hb
      rw[if_pos (R.UW _ hb)];exact e1
     subst e1;exact absurd rfl e2
  obtain⟨HM,VM⟩:=D.hr.part (M:=cI ((before ops).getD i 0).testBit (tr i).L0 (tr i).own (tr i).s.h) (by rw[XA,hA];simp[Rk]) hM ee
  have erM:iI w (Av (Fp F X (Kh tr E k) (cI ((before ops).getD i 0).testBit (tr i).L0 (tr i).own (tr i).s.h)) (cI ((before ops).getD i 0).testBit (tr i).L0 (tr i).own (tr i).s.h) (X.take (cI ((before ops).getD i 0).testBit (tr i).L0 (tr i).own (tr i).s.h).length))
    (X.take (cI ((before ops).getD i 0).testBit (tr i).L0 (tr i).own (tr i).s.h).length) (cI ((before ops).getD i 0).testBit (tr i).L0 (tr i).own (tr i).s.h) a
    (λt=>if bu (aO (cI ((before ops).getD i 0).testBit (tr i).L0 (tr i).own (tr i).s.h)) (O t)then O t else .any):=λt=>aE.NK _ (λhv=>VM _ _ (D.er t) hv)
  have eM:au C run 1 o.op (λt=>if bu (aO (cI ((before ops).getD i 0).testBit (tr i).L0 (tr i).own (tr i).s.h)) (O t)then O t else .any) (cI ((before ops).getD i 0).testBit (tr i).L0 (tr i).own (tr i).s.h)=
    some (r,cI ((before ops).getD i 0).testBit (tr i).L0 (tr i).own (tr i).s.h++ext):=by
   rw[<-hv];refine mH (λx hx=>?_);have h1:=Kf x hx;have h2:=wM x hx
   cases x with
   |tmp t=>
    simp only[ev]at h1 h2 ⊢;rw[h2,if_pos h1]
   |_=>rfl
  refine jA K S HM erM eM (λv w' X1 q1 q2 q3 q4=>hK _ _ ?_);have G:=q4 (abZ 1)
  have cM:∀id,(tr i).s.h.length<=id->id<(tr i).s.h.length+ext.length->(Kh tr E k)[id]?=(List.zipWith (λo j=>if E j then o else eX o) ext (List.replicate ext.length i))[id - (tr i).s.h.length]?/\(Kh tr E' k)[id]?=ext[id - (tr i).s.h.length]?:=λid h1 h2=>by
   constructor
   rw[hA,abW (by rw[ab3,Rk,Rl];omega),ab6 (by omega),Rk];rw[hB,abW (by rw[ab3,Rk];omega),ab6 (by omega),Rk]
  obtain⟨X',m1,m2,m3,m4,m5,m6⟩:=D.hr.merge (h':=Kh tr E' k) (by rw[XA,hA];simp[Rk]) hM q2 q3 G Dh (by rw[hA,hB];simp)
   (λid h1 h2=>by rw[XA]at h1 h2 ⊢;exact(cM id h1 h2).2)
   (λid h1=>by
    rw[XA]at h1;rcases h1 with h1 |h1;rw[GK id h1,hB,acp,abW (by omega)]
    ·rw[hA,hB,ab6 (by rw[ab3,Rk];omega),ab6 (by rw[ab3,Rk,Rl];omega)];simp)
   (λid o h1 h2 h3=>by
    rw[XA]at h1 h2;rw[(cM id h1 h2).1,ady]at h3
    cases h4:ext[id - (tr i).s.h.length]? with
    |none=>rw[h4]at h3;simp at h3
    |some y=>
     have:=ag h4;rw[h4,show(List.replicate ext.length i)[id - (tr i).s.h.length]?=some i by simp[this]]at h3;simp[R.out]at h3;subst h3
     rfl)
  have Rm:h0.length<=(tr i).s.h.length:=by
   have:=D.base;rw[p2]at this;omega
  refine⟨k,cm O o.dst r,X',D.kn,?_,?_,D.base,m1,?_,D.rh' L R (by rw[hy]),?_,by rw[dY];exact D.df,by rw[gG];exact D.sz⟩
  ·intro j h1 h2
   rcases(R.oF j).1 h2 with h2 |rfl;exact D.lo j h1 h2;exact Gg
  ·intro j h1 h2 h3
   exact(R.oF j).2 (.inl (D.hi j h1 h2 h3))
  exact iI.put (λt=>(D.er t).Vn m2 (λb hb _=>G.aT b hb) m3) (iJ hd D.sz) (m6 _ _ q1)
  ·refine⟨acR D.sp.size G.size,?_,?_,?_,D.sp.refs.trans m2,?_,G.os.trans D.sp.os,G.tape.trans D.sp.tape,G.output.trans D.sp.output,acR D.sp.drawn G.drawn⟩
   ·have h1:=D.sp.len;rw[hA]at h1;rw[hB];simp at h1 ⊢;omega
   ·intro b hb hm
    rw[G.aT b (acN hb D.sp.size)];exact D.sp.aT b hb hm
   ·intro b hb hm
    exact D.sp.shr b hb (m4 b (acN hb D.sp.size) hm)
   ·intro id o e1 e2
    obtain⟨f1,f2⟩:=D.sp.MB id o e1 e2;have bZ:id<(tr i).s.h.length:=by have:=ag e1;omega
    refine⟨?_,by rw[m5 id (by rw[XA];exact bZ)];exact f2⟩;rw[<-f1,GK id bZ,hB,acp,abW (by omega)]
theorem Ba{p q:Nat->Bool}:∀(l:List Nat),(∀j∈l,q j=true->p j=true)->(∃i∈l,p i=true/\q i=false)->l.countP q<l.countP p
 |[],_,⟨i,h,_⟩=>by cases h
 |j::l,h1,⟨i,h2,h3,h4⟩=>by
  have le:l.countP q<=l.countP p:=aen (λj hj=>h1 j (by simp[hj]));rcases ab5.1 h2 with rfl |h2;rw[adx,adx,h3,h4];simp;omega
  ·have:=Ba l (λj hj=>h1 j (by simp[hj])) ⟨i,h2,h3,h4⟩;rw[adx,adx];have hj:=h1 j (by simp)
   cases hq:q j with
   |false=>simp;omega
   |true=>rw[hj hq];simp;omega
theorem Co.done(L:Lex C run ops tr)(D:Co ops tr N F w0 h0 X0 E a w)(hE:∀j,j<ops.size->E j=true):∃X,SR N w F X (tr ops.size).s a/\eD w0 h0 X0 w (tr ops.size).s.h X:=by
 obtain⟨k,O,X,D⟩:=D
 obtain⟨X1,D1⟩:=D.QV L (ops.size - k) (by have:=D.kn;omega) (λj h1 h2 h3=>by
  have:=D.lo j h3.1 (hE j (by have:=D.kn;omega));omega)
 rw[show k+(ops.size - k)=ops.size by have:=D.kn;omega]at D1;obtain⟨w1,w2,w3⟩:=L.wf ops.size (abZ _);have hK:Kh tr E ops.size=(tr ops.size).s.h:=qS w2 (λj hj=>hE j (w3 j hj).1)
 have hO:O=(tr ops.size).s.O:=by
  funext t
  refine D1.rh t ops.size (abZ _) (λj o hj _=>?_);have:j<ops.size:=(acq.1 hj).1;simp[hE j this,this]
 have h1:=D1.hr;have h2:=D1.er;have h3:=D1.sp;rw[hK]at h1 h2 h3;rw[hO]at h2;exact⟨X1,⟨h1,h2,D1.df,D1.sz⟩,h3⟩
theorem AT(ok:nf ops=true)(Inv:(Nat->Bool)->Act->World->Prop){Q:Exit->Act->World->Prop}
  (YU:∀(E E':Nat->Bool) (a:Act) (w:World) (i:Nat) (o:Oper),Inv E a w->DE ops E E' i o->∀next:Act->World->Prop,(∀a' w',Inv E' a' w'->next a' w')->wpOp C.P ops Q i next a w)
  (YV:∀(E:Nat->Bool) (a:Act) (w:World),Inv E a w->(∀j,j<ops.size->E j=true)->Q .normal a w):
  ∀(fuel:Nat) (listed:Array Bool) (a:Act) (w:World),listed.size=ops.size->(∀(i:Nat) (o:Oper),ops[i]?=some o->listed.getD i false=true->∀e∈JY o,listed.getD e.on false=true)->
   (List.range ops.size).countP (λj=>!listed.getD j false)<=fuel->Inv (λj=>listed.getD j false) a w->wpAny C.P .any ops Q fuel listed a w:=by
 have all_of:∀(listed:Array Bool),listed.size=ops.size->Region.ready .any ops listed=[]->∀j,j<ops.size->listed.getD j false=true:=by
  intro listed hs hr j
  induction j using Nat.strongRecOn with
  |ind j ih=>
   intro hj
   obtain⟨o,ho⟩:=rD (ops:=ops) hj
   cases hl:listed.getD j false with
   |true=>rfl
   |false=>
    have hm:j∈Region.ready .any ops listed:=mem_ready.2 ⟨by simp[hs,hj]at hl ⊢;exact hl,o,ho,λe he hb=>by
     have cM:=(fB ok).1 j o ho e (acO.2 ⟨by simpa using he,hb⟩);exact ih e.on cM (by omega)⟩
    rw[hr]at hm;cases hm
 have fin:∀(listed:Array Bool) (a:Act) (w:World),(∀j,j<ops.size->listed.getD j false=true)->Inv (λj=>listed.getD j false) a w->Q .normal a w:=λlisted a w eR D=>YV _ a w D eR
 intro fuel
 induction fuel with
 |zero=>
  intro listed a w hs hc hn D
  have eR:∀j,j<ops.size->listed.getD j false=true:=λj hj=>by
   have h0:=List.countP_eq_zero.1 (Nat.le_zero.1 hn) j (adP.2 hj);simpa using h0
  refine⟨?_,fin listed a w eR D⟩;apply adT.2
  intro j hj
  obtain⟨h1,o,h2,_⟩:=mem_ready.1 hj;have hjs:j<ops.size:=(acq.1 h2).1;have:=eR j hjs;simp[hs,hjs]at h1 this;rw[h1]at this;cases this
 |succ fuel ih=>
  intro listed a w hs hc hn D
  refine⟨λhr=>fin listed a w (all_of listed hs hr) D,λi hi=>?_⟩;obtain⟨h1,o,h2,h3⟩:=mem_ready.1 hi;have his:i<ops.size:=(acq.1 h2).1;have uL:listed.getD i false=false:=by simp[hs,his]at h1 ⊢;exact h1
  have ee:=GJ ok (E:=λj=>listed.getD j false) hc
  have NL:∀e∈JY o,listed.getD e.on false=true:=λe he=>by
   have:=acO.1 he;exact h3 e (by simpa using this.1) this.2
  have aaD:∀j,Ad ops i j->listed.getD j false=true:=λj hj=>by
   obtain⟨o',g1,e,g2,g3⟩:=yf hj;rw[h2]at g1;obtain rfl:=abV g1;rcases g3 with rfl |g3;exact NL e g2;exact ee e.on j (NL e g2) g3
  have NM:∀j,(listed.setIfInBounds i true).getD j false=true↔listed.getD j false=true\/j=i:=λj=>by
   by_cases hj:i=j
   subst hj;simp[hs,his];rw[getD_set_ne false hj];simp[acS hj]
  refine YU _ (λj=>(listed.setIfInBounds i true).getD j false) a w i o D ⟨h2,uL,aaD,ee,NM⟩ _ (λa' w' D'=>?_);refine ih (listed.setIfInBounds i true) a' w' (by simp[hs]) (λj o' hj hl e he=>?_) ?_ D'
  ·refine(NM e.on).2 (.inl ?_);rcases(NM j).1 hl with hl |rfl;exact hc j o' hj hl e he
   ·rw[h2]at hj;obtain rfl:=abV hj;exact NL e he
  ·have:=Ba (p:=λj=>!listed.getD j false) (q:=λj=>!(listed.setIfInBounds i true).getD j false) (List.range ops.size) (λj _ hq=>by
    cases hl:listed.getD j false with
    |false=>rfl
    |true=>have:=(NM j).2 (.inl hl);simp[this]at hq) ⟨i,adP.2 his,by simp[uL],by simp[(NM i).2 (.inr rfl)]⟩
   omega
theorem Kv(K:gB C)(S:ir C run)(L:Lex C run ops tr)(hd:ops.toList.all (jQ N)=true){Q:Exit->Act->World->Prop}
  (hQ:∀a w X,SR N w F X (tr ops.size).s a->eD w0 h0 X0 w (tr ops.size).s.h X->Q .normal a w):
  ∀(fuel:Nat) (listed:Array Bool) (a:Act) (w:World),listed.size=ops.size->(∀(i:Nat) (o:Oper),ops[i]?=some o->listed.getD i false=true->∀e∈JY o,listed.getD e.on false=true)->
   (List.range ops.size).countP (λj=>!listed.getD j false)<=fuel->Co ops tr N F w0 h0 X0 (λj=>listed.getD j false) a w->wpAny C.P .any ops Q fuel listed a w:=
 AT L.ok (λE a w=>Co ops tr N F w0 h0 X0 E a w)
  (λE E' a w i o D R next hK=>Co.step K S L D R (abX.1 hd o (aeq.2 (adX R.at_))) hK)
  (λE a w D eR=>by obtain⟨X,h1,h2⟩:=D.done L eR;exact hQ a w X h1 h2)
theorem getD_none(n j:Nat):(Array.replicate n false).getD j false=false:=by
 simp only[adt,aee]
 split <;>rfl
theorem GL(K:gB C)(S:ir C run)(hm:C.P.follows .mixedOrders=true){id:Nat}{Q:Exit->Act->World->Prop}(hd:ops.toList.all (jQ N)=true)(hk:nf ops=true){X:List (Nat×Nat)}{s:St}{y:xc}(R:SR N w F X s a)
  (e:dL C run ops (before ops) 0 ops.toList ⟨s,s.h.length,[]⟩=some y) (hQ:∀a' w' X',SR N w' F X' y.s a'->eD w s.h X w' y.s.h X'->Q .normal a' w'):(Code.region id ops true).wp C.P Q a w:=by
 obtain⟨tr,t1,t2,t3⟩:=qd ops.toList 0 _ _ e;have L:Lex C run ops tr:=⟨hk,λi o ho=>by simpa using t2 i o (by simpa using ho),by rw[t1];exact abZ _,by rw[t1];exact⟨rfl,rfl⟩⟩;have t3':tr ops.size=y:=by simpa using t3
 refine wp_region_any hm (Kv (w0:=w) (h0:=s.h) (X0:=X) K S L hd (F:=F) (λa' w' X' R' S'=>by rw[t3']at R' S';exact hQ a' w' X' R' S') ops.size _ a _ (by simp) (λi o ho hl=>by rw[getD_none]at hl;cases hl) ?_ ?_);refine acR (List.countP_le_length) (by simp)
 ·have hE:∀j,(Array.replicate ops.size false).getD j false=false:=λj=>getD_none _ j
  have hK:Kh tr (λj=>(Array.replicate ops.size false).getD j false) 0=s.h:=by
   unfold Kh;rw[t1];exact qS (by simp) (λj hj=>by cases hj)
  have G:dN w {w with drawn:=w.drawn+1}:=dN.drew w;refine⟨0,s.O,X,⟨adw _,λj _ h=>(by rw[hE]at h;cases h),λj _ _ h=>by omega,by rw[t1];exact abZ _,by rw[hK];exact R.hr.Na G,by rw[hK];exact R.er.mono (G.TP s.h X),?_,by rw[hK];exact G.TP s.h X,R.df,R.sz⟩⟩
  intro t k' fZ hw
  rw[L.nE (t:=t) (i:=0) k' (adw _) fZ (λj o h1 h2 h3 h4=>by
   have:=(hw j o h3 h4).2 h2;rw[hE]at this;cases this),t1]
end Go.Pm
namespace Go.Pm
theorem pX{C:cW}{run:iR}{ops:Array Oper}{h0:ab}:∀(l:List Oper) (k:Nat) (x y:St),cx C run ops (before ops) h0 k l x=some y->
  ∃tr:Nat->St,tr k=x/\(∀(i:Nat) (o:Oper),l[i]?=some o->da C run ops (before ops) h0 (k+i) o (tr (k+i))=some (tr (k+i+1)))/\tr (k+l.length)=y
 |[],k,x,y,e=>by
  simp[cx]at e;exact⟨λ_=>x,rfl,λi o h=>by simp at h,by simpa using e⟩
 |o::l,k,x,y,e=>by
  simp only[cx]at e
  split at e
  ·rename_i x' hx
   obtain⟨tr,t1,t2,t3⟩:=pX l (k+1) x' y e;refine⟨λj=>if j<=k then x else tr j,by simp,?_,?_⟩
   ·intro i o' ho
    cases i with
    |zero=>
     simp at ho;subst ho;simp[t1,hx]
     intro hh;omega
    |succ i=>
     have:=t2 i o' (by simpa using ho);have e1:¬(k+(i+1)<=k):=by omega
     have e2:¬(k+(i+1)+1<=k):=by omega
     simp only[e1,e2,if_false];rw[show k+(i+1)=k+1+i by omega];exact this
   ·have e1:¬(k+(o::l).length<=k):=by simp
    simp only[e1,if_false];rw[<-t3];congr 1;simp;omega
  cases e
inductive xP(C:cW)(run:iR)(ops:Array Oper)(h0:ab)(i:Nat)(o:Oper)(x y:St):Prop
 |off:bA ops o x.O=some false->y=⟨cm x.O o.dst .undef,x.h⟩->xP C run ops h0 i o x y
 |plain (r:PV) (h1:ab):bA ops o x.O=some true->di o.op=false->au C run 1 o.op x.O x.h=some (r,h1)->y=⟨cm x.O o.dst r,x.h⟩->xP C run ops h0 i o x y
 |rd (r:PV) (h1:ab):bA ops o x.O=some true->ie o.op=true->(∀id,sJ o.op x.O=some id->pP h0 id=true\/(lO ops (before ops) i=true/\B8 ops (before ops) i x.O id=true))->aC C.P 1 o.op x.O x.h=some (r,h1)->y=⟨cm x.O o.dst r,x.h⟩->xP C run ops h0 i o x y
 |made (r:PV) (h':ab):bA ops o x.O=some true->jT o.op=true->aC C.P 1 o.op x.O x.h=some (r,h')->y=⟨cm x.O o.dst r,x.h⟩->xP C run ops h0 i o x y
 |two (r:PV) (h':ab):bA ops o x.O=some true->di o.op=true->ie o.op=false->(jT o.op=true->aC C.P 1 o.op x.O x.h=none)->jx ops (before ops) i (jT o.op)=true->au C run 2 o.op x.O x.h=some (r,h')->x.h.length<=h'.length->y=⟨cm x.O o.dst r,nu x.h h'⟩->xP C run ops h0 i o x y
theorem Yp{C:cW}{run:iR}{ops:Array Oper}{h0:ab}{i:Nat}{o:Oper}{x y:St}(e:da C run ops (before ops) h0 i o x=some y):xP C run ops h0 i o x y:=by
 unfold da at e
 split at e
 ·rename_i hw
  split at e
  ·rename_i hh
   split at e
   ·rename_i r hx hv;exact .plain r hx hw hh hv (abV e).symm
   cases e
  ·rename_i hh
   split at e
   ·rename_i hl
    split at e
    ·rename_i hc
     split at e
     ·rename_i r h1 hs
      refine .rd r h1 hw hl (λid bZ=>?_) hs (abV e).symm;unfold lP at hc;rw[bZ]at hc;simp only[acs,ab4]at hc;exact hc
     cases e
    cases e
   ·rename_i hl
    split at e
    ·rename_i r h1 hs
     split at hs
     ·rename_i hb;exact .made r h1 hw hb hs (abV e).symm
     cases hs
    ·rename_i hs
     split at e
     ·rename_i hk
      split at e
      ·rename_i r h' hv
       split at e
       ·rename_i hle
        exact .two r h' hw (by simpa using hh) (by simpa using hl) (λhb=>by rw[if_pos hb]at hs;exact hs) hk hv hle (abV e).symm
       cases e
      cases e
     cases e
 ·rename_i hw;exact .off hw (abV e).symm
 cases e
theorem pY{ops:Array Oper}{i j:Nat}(h:rP (before ops) i j=true):j=i\/Ad ops i j\/Ad ops j i:=by
 simp only[rP,acs,beq_iff_eq]at h;rcases h with(h1 |h1)|h1;exact .inl h1.symm;exact .inr (.inl h1);exact .inr (.inr h1)
theorem vG{ops:Array Oper}{i:Nat}{bs:Bool}(h:jx ops (before ops) i bs=true){j:Nat}{o:Oper}(e:ops[j]?=some o)(hh:di o.op=true)(hl:ie o.op=false)(hb:bs=true\/jT o.op=false):
  (j=i\/Ad ops i j\/Ad ops j i)\/((sinks ops (before ops)).isSome=true/\ops.size<=i+2/\ops.size<=j+2):=by
 have:=abX.1 h (o,j) (by rw[adK];exact⟨j,by simp[e]⟩);have Ae:(bs || !jT o.op)=true:=by rcases hb with hb |hb <;>simp[hb]
 simp only[hh,hl,Ae,aeg,aek,ad4,ado,acs,ab4,decide_eq_true_eq]at this;rcases this with h1 |h1;exact .inl (pY h1);exact .inr ⟨h1.1.1,h1.1.2,h1.2⟩
theorem DB{ops:Array Oper}{i:Nat}(h:lO ops (before ops) i=true){j:Nat}{o:Oper}(e:ops[j]?=some o)(hh:di o.op=true)(hl:ie o.op=false)(hb:jT o.op=false):
  (j=i\/Ad ops i j\/Ad ops j i)\/((sinks ops (before ops)).isSome=true/\ops.size<=j+2):=by
 have:=abX.1 h (o,j) (by rw[adK];exact⟨j,by simp[e]⟩);simp only[hh,hl,hb,aeg,aek,ad4,ado,acs,ab4,decide_eq_true_eq]at this;rcases this with h1 |h1;exact .inl (pY h1);exact .inr h1
theorem AP{P:Program}{op:Op}{O O':Nat->PV}{h1 QK h2:ab}{r:PV}(hb:jT op=true)(hv:∀h,aC P 1 op O' h=aC P 1 op O h)(e:aC P 1 op O h1=some (r,QK)):aC P 1 op O' h2=some (r,h2):=by
 rw[hv]
 cases op <;>simp[jT]at hb
 simp only[aC,dI]at e ⊢
 repeat' split at e
 all_goals first
  |(cases e;done)
  |(rename_i hh;exfalso;omega)
  |skip
 rename_i hz hc hi
 obtain⟨rfl,rfl⟩:=ab7 (abV e);simp only[*,if_true,and_self]
theorem Nb{P:Program}{h1 h2:ab}{t:TypeId}{p q:PV}(h:∀id ep off len,p=.ak id ep off len->getM h2 id ep=getM h1 id ep):cJ P h2 t p q=cJ P h1 t p q:=by
 unfold cJ
 split
 rfl
 simp only[h _ _ _ _ rfl]
 rfl
 rfl
 rfl
theorem QQ{P:Program}{h1:ab}{t:TypeId}{id ep off len:Nat}{q r:PV}(e:cJ P h1 t (.ak id ep off len) q=some r):∃o,getM h1 id ep=some o:=by
 cases hg:getM h1 id ep with
 |some o=>exact⟨o,rfl⟩
 |none=>
  unfold cJ at e
  split at e <;>simp_all
  all_goals(split at e <;>simp_all)
theorem Nc{P:Program}{h1 h2:ab}{t:TypeId}{p:PV}(h:∀id ep i off,p=.ptr id ep i off->getM h2 id ep=getM h1 id ep):ja P h2 t p=ja P h1 t p:=by
 have:cT h2 p=cT h1 p:=by
  unfold cT
  split
  rfl
  rw[h _ _ _ _ rfl]
  rfl
 unfold ja;rw[this]
theorem QR{P:Program}{h1:ab}{t:TypeId}{id ep i off:Nat}{r:PV}(e:ja P h1 t (.ptr id ep i off)=some r):∃o,getM h1 id ep=some o:=by
 cases hg:getM h1 id ep with
 |some o=>exact⟨o,rfl⟩
 |none=>
  simp only[ja,cT,hg]at e
  split at e <;>simp_all
theorem QS{h:ab}{id ep:Nat}{o:aw}(h1:h[id]?=some o)(h2:o.ep=ep)(h3:o.mu≠.x):getM h id ep=some o:=by simp[getM,h1,h2,h3]
theorem IN{h:ab}{id ep:Nat}{o:aw}(e:getM h id ep=some o):id<h.length:=ag (getM_some e).1
theorem xh{P:Program}{op:Op}{O:Nat->PV}{h1 QK h2:ab}{r:PV}(hr:ie op=true)(e:aC P 1 op O h1=some (r,QK))(hs:∀id,sJ op O=some id->h2[id]?=h1[id]?):aC P 1 op O h2=some (r,h2)/\∀id,sJ op O=some id->id<h1.length:=by
 cases op <;>simp[ie]at hr
 case load t x=>
  simp only[aC,sJ]at e hs ⊢;obtain⟨e1,_⟩:=dG e
  constructor
  ·rw[Nc (h1:=h1) (λid ep i off hp=>?_),e1]
   rfl
   ·rw[hp]at hs;simp only[getM,hs id rfl]
  ·intro id bZ
   split at bZ
   ·rename_i hx
    obtain rfl:=abV bZ;rw[hx]at e1;obtain⟨o,ho⟩:=QR e1;exact IN ho
   cases bZ
 case indexAddr t x ix=>
  simp only[aC,sJ]at e hs ⊢;obtain⟨e1,_⟩:=dG e
  constructor
  ·rw[Nb (h1:=h1) (λid ep i off hp=>?_),e1]
   rfl
   ·rw[hp]at hs;simp only[getM,hs id rfl]
  ·intro id bZ
   split at bZ
   ·rename_i hx
    obtain rfl:=abV bZ;rw[hx]at e1;obtain⟨o,ho⟩:=QQ e1;exact IN ho
   cases bZ
theorem sS{h h':ab}(hl:h.length<=h'.length){id:Nat}{o:aw}(ho:h[id]?=some o):(nu h h')[id]?=if o.mu=.m then h'[id]? else some o:=by
 have bZ:=ag ho;unfold nu;rw[abW (by simp;omega),ady,ho];obtain⟨o',Qo⟩:=nD (l:=h') (i:=id) (by omega);rw[Qo];simp only
 split <;>rfl
theorem DC{h h':ab}(hl:h.length<=h'.length){id:Nat}(bZ:h.length<=id):(nu h h')[id]?=h'[id]?:=by
 unfold nu;rw[ab6 (by simp;omega),acy]
 congr 1
 simp;omega
theorem J9{h h':ab}(hl:h.length<=h'.length):(nu h h').length=h'.length:=by unfold nu;simp;omega
theorem J'{w w':World}{h h':ab}{X X':List (Nat×Nat)}(s:eD w h X w' h' X'):nu h h'=h':=by
 apply ac9
 intro id
 by_cases bZ:id<h.length
 ·obtain⟨o,ho⟩:=nD (l:=h) (i:=id) bZ;rw[sS s.len ho]
  split
  rfl
  ·rename_i hm;exact(s.MB id o ho hm).1.symm
 exact DC s.len (by omega)
theorem AQ{h:ab}{id:Nat}{o o':aw}(ho:h[id]?=some o)(hm:o.mu=.m):nu h (h.set id o')=h.set id o':=by
 have hl:h.length<=(h.set id o').length:=by simp
 apply ac9
 intro k
 by_cases hk:k<h.length
 ·obtain⟨a,ha⟩:=nD (l:=h) (i:=k) hk;rw[sS hl ha]
  split
  rfl
  ·rename_i bO
   have:id≠k:=by rintro rfl;rw[ho]at ha;obtain rfl:=abV ha;exact bO hm
   rw[ab0 this,ha]
 exact DC hl (by omega)
theorem xQ{P:Program}{h h':ab}{t:TypeId}{p v:PV}(e:im P h t p v=some h'):∃id ep i off o o',p=.ptr id ep i off/\h[id]?=some o/\o.mu=.m/\h'=h.set id o'/\∀h2:ab,h2[id]?=some o->im P h2 t p v=some (h2.set id o'):=by
 unfold im at e
 split at e
 ·rename_i id ep i off sz hs
  split at e
  ·rename_i o ho
   split at e
   ·rename_i el cz
    split at e
    ·rename_i hc
     obtain rfl:=abV e;obtain⟨g1,g2,g3⟩:=getM_some ho;refine⟨id,ep,i,off,o,_,rfl,g1,hc.1,rfl,λh2 h3=>?_⟩;have hg:getM h2 id ep=some o:=QS h3 g2 g3;unfold im;rw[hs];simp only[hg,cz];rw[if_pos hc]
    cases e
   cases e
  cases e
 cases e
theorem US{C:cW}{run:iR}{op:Op}{O:Nat->PV}{h h':ab}{r:PV}(hb:jT op=true)(e:au C run 2 op O h=some (r,h')):Ext h h':=by
 cases op <;>simp[jT]at hb
 simp only[au,aC,dI]at e
 repeat' split at e
 all_goals first
  |(cases e;done)
  |(obtain⟨rfl,rfl⟩:=ab7 (abV e);first |exact Ext.refl _ |exact⟨_,rfl⟩)
structure gV(C:cW)(run:iR)(ops:Array Oper)(h0:ab)(tr:Nat->St):Prop where
 ok:nf ops=true
 st:∀(i:Nat) (o:Oper),ops[i]?=some o->da C run ops (before ops) h0 i o (tr i)=some (tr (i+1))
 h0:h0=(tr 0).h
 sk:rR ops (before ops) (tr ops.size).O=true
def jz(P:Program)(ops:Array Oper)(tr:Nat->St)(j:Nat):Prop:=∃o,ops[j]?=some o/\di o.op=true/\ie o.op=false/\(jT o.op=true->aC P 1 o.op (tr j).O (tr j).h=none)/\bA ops o (tr j).O=some true
variable{C:cW}{run:iR}{ops:Array Oper}{h0:ab}{tr:Nat->St}
theorem gV.view(L:gV C run ops h0 tr){k:Nat}{o:Oper}(ho:ops[k]?=some o):xP C run ops h0 k o (tr k) (tr (k+1)):=Yp (L.st k o ho)
theorem gV.rho(L:gV C run ops h0 tr){k:Nat}{o:Oper}(ho:ops[k]?=some o):∃r,(tr (k+1)).O=cm (tr k).O o.dst r:=by
 cases L.view ho with
 |off _ hy=>exact⟨_,by rw[hy]⟩
 |plain r hx _ _ _ hy=>exact⟨_,by rw[hy]⟩
 |rd r hx _ _ _ _ hy=>exact⟨_,by rw[hy]⟩
 |made r hx _ _ _ hy=>exact⟨_,by rw[hy]⟩
 |two r h' _ _ _ _ _ _ _ hy=>exact⟨_,by rw[hy]⟩
theorem gV.nE(L:gV C run ops h0 tr){t:Nat}{i:Nat}:∀k,i<=k->k<=ops.size->(∀j o,i<=j->j<k->ops[j]?=some o->o.dst≠some t)->(tr k).O t=(tr i).O t:=by
 intro k
 induction k with
 |zero=>intro h1 _ _;obtain rfl:i=0:=(by omega);rfl
 |succ k ih=>
  intro h1 h2 h3
  by_cases hi:i=k+1
  subst hi;rfl
  ·obtain⟨o,ho⟩:=rD (ops:=ops) (k:=k) (by omega);obtain⟨r,hr⟩:=L.rho ho;rw[hr,oR,if_neg (h3 k o (by omega) (by omega) ho)];exact ih (by omega) (by omega) (λj o' a b c=>h3 j o' a (by omega) c)
theorem gV.aT(L:gV C run ops h0 tr){k:Nat}(hk:k<ops.size)(hn:¬jz C.P ops tr k):(tr (k+1)).h=(tr k).h:=by
 obtain⟨o,ho⟩:=rD (ops:=ops) hk
 cases L.view ho with
 |off _ hy=>rw[hy]
 |plain r hx _ _ _ hy=>rw[hy]
 |rd r hx _ _ _ _ hy=>rw[hy]
 |made r hx _ _ _ hy=>rw[hy]
 |two r h' hw hh hl hb _ _ _ hy=>exact absurd ⟨o,ho,hh,hl,hb,hw⟩ hn
theorem gV.wr(L:gV C run ops h0 tr){k:Nat}{o:Oper}(ho:ops[k]?=some o)(hr:jz C.P ops tr k):di o.op=true/\ie o.op=false/\jx ops (before ops) k (jT o.op)=true/\
  ∃r h',au C run 2 o.op (tr k).O (tr k).h=some (r,h')/\(tr k).h.length<=h'.length/\tr (k+1)=⟨cm (tr k).O o.dst r,nu (tr k).h h'⟩:=by
 obtain⟨o',e,h1,h2,h3,h4⟩:=hr;rw[ho]at e;obtain rfl:=abV e
 cases L.view ho with
 |off Cc _=>rw[Cc]at h4;cases h4
 |plain r2 hx _ hh' _ _=>rw[hh']at h1;cases h1
 |rd r2 hx _ hl' _ _ _=>rw[hl']at h2;cases h2
 |made r2 hx _ eg xR _=>rw[h3 eg]at xR;cases xR
 |two r h' _ _ _ _ hk hv hle hy=>exact⟨h1,h2,hk,r,h',hv,hle,hy⟩
theorem gV.grow(L:gV C run ops h0 tr){k:Nat}(hk:k<ops.size):(tr k).h.length<=(tr (k+1)).h.length:=by
 obtain⟨o,ho⟩:=rD (ops:=ops) hk
 by_cases hr:jz C.P ops tr k
 ·obtain⟨_,_,_,r,h',_,hle,hy⟩:=L.wr ho hr;rw[hy,J9 hle];exact hle
 rw[L.aT hk hr];exact abZ _
theorem gV.old(L:gV C run ops h0 tr){id:Nat}{o:aw}(h1:h0[id]?=some o)(h2:o.mu≠.m):∀k,k<=ops.size->(tr k).h[id]?=some o:=by
 intro k
 induction k with
 |zero=>intro _;rw[<-L.h0];exact h1
 |succ k ih=>
  intro hk
  have ih:=ih (by omega);obtain⟨q,hq⟩:=rD (ops:=ops) (k:=k) (by omega)
  by_cases hr:jz C.P ops tr k
  ·obtain⟨_,_,_,r,h',_,hle,hy⟩:=L.wr hq hr;rw[hy];rw[sS hle ih,if_neg h2]
  rw[L.aT (by omega) hr];exact ih
theorem gV.ord(L:gV C run ops h0 tr){i j:Nat}(hi:jz C.P ops tr i)(hj:jz C.P ops tr j):(j=i\/Ad ops i j\/Ad ops j i)\/((sinks ops (before ops)).isSome=true/\ops.size<=i+2/\ops.size<=j+2):=by
 obtain⟨oi,ei,_⟩:=id hi;obtain⟨oj,ej,_⟩:=id hj;obtain⟨a1,a2,a3,_⟩:=L.wr ei hi;obtain⟨b1,b2,b3,_⟩:=L.wr ej hj
 by_cases hb:jT oj.op=true
 ·rcases vG b3 ei a1 a2 (.inl hb)with h |h;exact .inl (by rcases h with h |h |h;exact .inl h.symm;exact .inr (.inr h);exact .inr (.inl h));exact .inr ⟨h.1,h.2.2,h.2.1⟩
 exact vG a3 ej b1 b2 (.inr (by simpa using hb))
structure SD(C:cW)(run:iR)(ops:Array Oper)(tr:Nat->St)(q1 q2:Oper)(id1 id2:Nat)(a1 a2 zT rr:aw)(x y:Operand):Prop where
 n2:2<=ops.size
 s:sinks ops (before ops)=some (x,y)
 e1:ops[ops.size - 2]?=some q1
 e2:ops[ops.size - 1]?=some q2
 d1:q1.dst=none
 d2:q2.dst=none
 r1:jz C.P ops tr (ops.size - 2)
 r2:jz C.P ops tr (ops.size - 1)
 ne:id1≠id2
 g1:(tr (ops.size - 2)).h[id1]?=some a1
 g2:(tr (ops.size - 2)).h[id2]?=some a2
 m2:a2.mu=.m
 x1:∃ep i off,ev (tr (ops.size - 2)).O x=.ptr id1 ep i off
 x2:∃ep i off,ev (tr (ops.size - 2)).O y=.ptr id2 ep i off
 h1:(tr (ops.size - 1)).h=(tr (ops.size - 2)).h.set id1 zT
 h2:(tr ops.size).h=((tr (ops.size - 2)).h.set id1 zT).set id2 rr
 p1:(tr (ops.size - 1)).O=(tr (ops.size - 2)).O
 p2:(tr ops.size).O=(tr (ops.size - 2)).O
 v1:∀(O:Nat->PV) (h:ab),(∀z∈q1.op.operands.toList,ev O z=ev (tr (ops.size - 2)).O z)->h[id1]?=some a1->au C run 2 q1.op O h=some (.undef,h.set id1 zT)
 v2:∀(O:Nat->PV) (h:ab),(∀z∈q2.op.operands.toList,ev O z=ev (tr (ops.size - 2)).O z)->h[id2]?=some a2->au C run 2 q2.op O h=some (.undef,h.set id2 rr)
theorem AR{o:Oper}{a:Operand}(h:IG o=some a):o.dst=none/\o.guard=none/\∃t v,o.op=.store t a v:=by
 unfold IG at h
 split at h
 ·rename_i h1 h2 h3
  obtain rfl:=abV h;exact⟨h2,h3,_,_,h1⟩
 cases h
theorem gV.sd(L:gV C run ops h0 tr){x y:Operand}(hs:sinks ops (before ops)=some (x,y)):∃q1 q2 id1 id2 a1 a2 zT rr,SD C run ops tr q1 q2 id1 id2 a1 a2 zT rr x y:=by
 have hs0:=hs;unfold sinks at hs
 split at hs
 ·rename_i hc
  split at hs
  ·rename_i x' y' hx hy
   obtain⟨rfl,rfl⟩:=ab7 (abV hs);obtain⟨q1,e1,k1⟩:=Option.bind_eq_some_iff.1 hx;obtain⟨q2,e2,k2⟩:=Option.bind_eq_some_iff.1 hy;rw[acw]at e1 e2;obtain⟨d1,g1,t1,v1,o1⟩:=AR k1;obtain⟨d2,g2,t2,v2,o2⟩:=AR k2;have r1:jz C.P ops tr (ops.size - 2):=⟨q1,e1,by rw[o1];rfl,by rw[o1];rfl,(λh=>by rw[o1]at h;cases h),by simp[bA,g1]⟩;have r2:jz C.P ops tr (ops.size - 1):=⟨q2,e2,by rw[o2];rfl,by rw[o2];rfl,(λh=>by rw[o2]at h;cases h),by simp[bA,g2]⟩;obtain⟨_,_,_,w1,h1,f1,l1,y1⟩:=L.wr e1 r1;obtain⟨_,_,_,w2,h2,f2,l2,y2⟩:=L.wr e2 r2;have n12:ops.size - 2+1=ops.size - 1:=by omega
   have n2:ops.size - 1+1=ops.size:=by omega
   rw[n12]at y1;rw[n2]at y2;rw[o1]at f1;rw[o2]at f2;simp only[au,aC,abZ,if_true]at f1 f2;obtain⟨s1,f3,f1'⟩:=acQ.1 f1;obtain⟨s2,f4,f2'⟩:=acQ.1 f2;obtain⟨rfl,rfl⟩:=ab7 f1';obtain⟨rfl,rfl⟩:=ab7 f2';obtain⟨id1,ep1,i1,QT,a1,zT,p1,b1,m1,c1,z1⟩:=xQ f3;obtain⟨id2,UT,i2,abB,a2,rr,p2,b2,m2,c2,z2⟩:=xQ f4;have hO1:(tr (ops.size - 1)).O=(tr (ops.size - 2)).O:=by rw[y1,d1];rfl
   have hO2:(tr ops.size).O=(tr (ops.size - 2)).O:=by rw[y2,d2];exact hO1
   have hh1:(tr (ops.size - 1)).h=(tr (ops.size - 2)).h.set id1 zT:=by rw[y1,c1];exact AQ b1 m1
   have bO:id1≠id2:=by
    have:=L.sk;unfold rR at this;rw[hs0]at this;simp only[hO2]at this;rw[hO1]at p2;rw[p1,p2]at this;simpa using this
   have Ae:(tr (ops.size - 2)).h[id2]?=some a2:=by
    rw[hh1,ab0 bO]at b2;exact b2
   have AS:(tr ops.size).h=((tr (ops.size - 2)).h.set id1 zT).set id2 rr:=by
    rw[y2,c2];simp only;rw[AQ b2 m2,hh1]
   refine⟨q1,q2,id1,id2,a1,a2,zT,rr,⟨hc.1,hs0,e1,e2,d1,d2,r1,r2,bO,b1,Ae,m2,⟨_,_,_,p1⟩,⟨_,_,_,by rw[<-hO1];exact p2⟩,hh1,AS,hO1,hO2,?_,?_⟩⟩
   ·intro O h hz hb
    rw[o1]at hz ⊢;simp only[Op.operands]at hz;have za:=hz x' (by simp);have zv:=hz v1 (by simp);simp only[au,aC,abZ,if_true,za,zv];rw[z1 h hb];rfl
   ·intro O h hz hb
    rw[o2]at hz ⊢;simp only[Op.operands]at hz;have za:=hz y' (by simp);have zv:=hz v2 (by simp);simp only[au,aC,abZ,if_true,za,zv];rw[<-hO1,z2 h hb];rfl
  cases hs
 cases hs
def RH(ops:Array Oper)(tr:Nat->St)(E:Nat->Bool)(O:Nat->PV):Prop:=∀t k',k'<=ops.size->(∀j o,ops[j]?=some o->o.dst=some t->(E j=true↔j<k'))->O t=(tr k').O t
structure DD(C:cW)(ops:Array Oper)(tr:Nat->St)(N:Nat)(F:Nat->Prop)(w0:World)(h0:ab)(X0:List (Nat×Nat))(E:Nat->Bool)(a:Act)(w:World)(k:Nat)(O:Nat->PV)(X:List (Nat×Nat)):Prop where
 kn:k<=ops.size
 lo:∀j,jz C.P ops tr j->E j=true->j<k
 hi:∀j,jz C.P ops tr j->j<k->E j=true
 hr:bo w F X (tr k).h
 er:iI w (Av F (tr k).h X) X (tr k).h a O
 rh:RH ops tr E O
 sp:eD w0 h0 X0 w (tr k).h X
 df:a.defers=[]
 sz:N<=a.tmps.size
structure UU(C:cW)(run:iR)(ops:Array Oper)(tr:Nat->St)(N:Nat)(F:Nat->Prop)(w0:World)(h0:ab)(X0:List (Nat×Nat))(E:Nat->Bool)(a:Act)(w:World)(q1 q2:Oper)(id1 id2:Nat)(a1 a2 zT rr:aw)(x y:Operand)(O:Nat->PV)(X:List (Nat×Nat)):Prop where
 sd:SD C run ops tr q1 q2 id1 id2 a1 a2 zT rr x y
 s1:E (ops.size - 2)=false
 al:∀j,jz C.P ops tr j->j≠ops.size - 2->E j=true
 hr:bo w F X ((tr (ops.size - 2)).h.set id2 rr)
 er:iI w (Av F ((tr (ops.size - 2)).h.set id2 rr) X) X ((tr (ops.size - 2)).h.set id2 rr) a O
 rh:RH ops tr E O
 sp:eD w0 h0 X0 w ((tr (ops.size - 2)).h.set id2 rr) X
 df:a.defers=[]
 sz:N<=a.tmps.size
variable{N:Nat}{F:Nat->Prop}{w0:World}{QU:ab}{X0:List (Nat×Nat)}{E E':Nat->Bool}{a:Act}{w:World}
def xS(C:cW)(run:iR)(ops:Array Oper)(tr:Nat->St)(N:Nat)(F:Nat->Prop)(w0:World)(h0:ab)(X0:List (Nat×Nat))(E:Nat->Bool)(a:Act)(w:World):Prop:=
 (∃k O X,DD C ops tr N F w0 h0 X0 E a w k O X)\/(∃q1 q2 id1 id2 a1 a2 zT rr x y O X,UU C run ops tr N F w0 h0 X0 E a w q1 q2 id1 id2 a1 a2 zT rr x y O X)
theorem DD.QV(L:gV C run ops h0 tr){O:Nat->PV}{X:List (Nat×Nat)}:∀(d:Nat) {k:Nat},DD C ops tr N F w0 QU X0 E a w k O X->k+d<=ops.size->(∀j,k<=j->j<k+d->¬jz C.P ops tr j)->DD C ops tr N F w0 QU X0 E a w (k+d) O X
 |0,k,D,_,_=>D
 |d+1,k,D,h1,h2=>by
  have hk:=L.aT (k:=k) (by omega) (h2 k (abZ _) (by omega))
  have D1:DD C ops tr N F w0 QU X0 E a w (k+1) O X:=by
   refine⟨by omega,λj g1 g2=>by have:=D.lo j g1 g2;omega,λj g1 g2=>?_,by rw[hk];exact D.hr,by rw[hk];exact D.er,D.rh,by rw[hk];exact D.sp,D.df,D.sz⟩
   by_cases hj:j=k
   subst hj;exact absurd g1 (h2 j (abZ _) (by omega));exact D.hi j g1 (by omega)
  have:=DD.QV L d D1 (by omega) (λj g1 g2=>h2 j (by omega) (by omega));rw[show k+(d+1)=k+1+d by omega];exact this
theorem RH.look(L:gV C run ops h0 tr){O:Nat->PV}(D:RH ops tr E O){i:Nat}{o:Oper}(R:DE ops E E' i o){t:Nat}(ht:t∈o.looksAt ops):O t=(tr i).O t:=by
 have hi:i<ops.size:=(acq.1 R.at_).1;refine D t i (by omega) (λj o' hj hd=>?_);rcases adF j i with h |h |h;exact⟨λ_=>h,λ_=>R.UW j ((fB L.ok).2 i j o o' R.at_ hj h (.inl (nF hd (.inl ht))))⟩;subst h;rw[R.out];simp
 ·have:=R.later ((fB L.ok).2 j i o' o hj R.at_ h (.inr (nF hd (.inl ht))));rw[this]
  constructor
  intro hh;cases hh
  intro hh;omega
theorem RH.Nd(L:gV C run ops h0 tr){O:Nat->PV}(D:RH ops tr E O){i:Nat}{o:Oper}(R:DE ops E E' i o):∀x∈o.op.operands.toList,ev O x=ev (tr i).O x:=by
 intro x hx
 cases x with
 |tmp t=>exact D.look L R (ac0 _ (List.mem_filterMap.2 ⟨.tmp t,hx,rfl⟩))
 |_=>rfl
theorem RH.IP(L:gV C run ops h0 tr){O:Nat->PV}(D:RH ops tr E O){i:Nat}{o:Oper}(R:DE ops E E' i o):bA ops o O=bA ops o (tr i).O:=by
 unfold bA
 cases hg:o.guard with
 |none=>rfl
 |some jw=>
  obtain⟨j,want⟩:=jw;simp only
  cases hd:(ops.toList[j]?).bind (·.dst)with
  |none=>rfl
  |some d=>
   have Cd:(ops[j]?).bind (·.dst)=some d:=by simpa using hd
   have:O d=(tr i).O d:=D.look L R (ael _ (by simp[hg,Cd]));simp only[this]
theorem RH.on(L:gV C run ops h0 tr){O:Nat->PV}(D:RH ops tr E O){i:Nat}{o:Oper}(R:DE ops E E' i o){r:PV}(hr:(tr (i+1)).O=cm (tr i).O o.dst r):RH ops tr E' (cm O o.dst r):=by
 intro t k' hk hw
 rw[oR]
 split
 ·rename_i ht
  have Gg:i<k':=(hw i o R.at_ ht).1 ((R.oF i).2 (.inr rfl));rw[L.nE (t:=t) (i:=i+1) k' Gg hk (λj o' h1 h2 h3 h4=>?_),hr,oR,if_pos ht];have he:=(hw j o' h3 h4).2 h2;rcases(R.oF j).1 he with he |he
  ·rw[R.later ((fB L.ok).2 j i o' o h3 R.at_ (by omega) (.inl (nF ht (.inr h4))))]at he
   cases he
  omega
 ·rename_i ht
  refine D t k' hk (λj o' h1 h2=>?_)
  have Af:j≠i:=by
   rintro rfl;rw[R.at_]at h1;obtain rfl:=abV h1;exact ht h2
  rw[<-hw j o' h1 h2,R.oF];simp[Af]
theorem gV.Yq(L:gV C run ops h0 tr){m id:Nat}{o:Oper}(ho:ops[m]?=some o)(hr:jz C.P ops tr m)(hb:jT o.op=true)(bZ:id<(tr m).h.length):(tr (m+1)).h[id]?=(tr m).h[id]?:=by
 obtain⟨_,_,_,r,h',hv,hle,hy⟩:=L.wr ho hr;obtain⟨ext,rfl⟩:=US hb hv;rw[hy];obtain⟨ob,hob⟩:=nD (l:=(tr m).h) (i:=id) bZ;simp only;rw[sS hle hob]
 split
 rw[abW bZ];exact hob.symm
theorem gV.target(L:gV C run ops h0 tr){i id j:Nat}{x:Operand}(ho:Gc ops (tr i).O x id=true)(hi:i<=ops.size - 2)(hx:∃ep k off,ev (tr (ops.size - 2)).O x=.ptr j ep k off):j≠id:=by
 obtain⟨ep,k,off,hx⟩:=hx;unfold Gc at ho;simp only[ab4]at ho
 have he:ev (tr (ops.size - 2)).O x=ev (tr i).O x:=by
  cases x with
  |tmp t=>
   refine L.nE (t:=t) (i:=i) _ hi (by omega) (λm o _ _ hm hd=>?_);have h1:=ho.1;simp only[ac8,adi]at h1;exact h1 o (aeq.2 (adX hm)) (by simp[hd])
  |_=>rfl
 rw[<-he,hx]at ho;simpa using ho.2
theorem DF{h0:ab}{id:Nat}(h:pP h0 id=true):∃o,h0[id]?=some o/\o.mu≠.m:=by
 unfold pP at h
 split at h
 ·rename_i o ho;exact⟨o,ho,by simpa using h⟩
 cases h
theorem gV.QT(L:gV C run ops h0 tr){i m id:Nat}{o:Oper}(R:DE ops E E' i o)(Qp:ie o.op=true)(hl:lO ops (before ops) i=true)(gk:B8 ops (before ops) i (tr i).O id=true)(hm:m<ops.size)(bZ:id<(tr m).h.length)
  (hE:jz C.P ops tr m->(m<i/\E m=false)\/(i<=m/\E m=true)):(tr (m+1)).h[id]?=(tr m).h[id]?:=by
 by_cases hr:jz C.P ops tr m
 ·obtain⟨om,Yr⟩:=rD (ops:=ops) hm
  by_cases hb:jT om.op=true
  exact L.Yq Yr hr hb bZ
  ·obtain⟨w1,w2,_⟩:=L.wr Yr hr
   have no:¬(m=i\/Ad ops i m\/Ad ops m i):=by
    rintro(h |h |h)
    ·subst h;rw[R.at_]at Yr;obtain rfl:=abV Yr;rw[Qp]at w2;cases w2
    ·have h1:=R.UW m h;have h2:=rW L.ok i m h;rcases hE hr with⟨_,h3⟩|⟨h3,_⟩;rw[h1]at h3;cases h3;omega
    ·have h1:=R.later h;have h2:=rW L.ok m i h;rcases hE hr with⟨h3,_⟩|⟨_,h3⟩;omega;rw[h1]at h3;cases h3
   rcases DB hl Yr w1 w2 (by simpa using hb)with h |⟨hs,hn⟩;exact absurd h no
   ·obtain⟨⟨x,y⟩,hs⟩:=aec.1 hs;obtain⟨q1,q2,id1,id2,a1,a2,zT,rr,S⟩:=L.sd hs;have n2:=S.n2;unfold B8 at gk;rw[hs]at gk;simp only[ab4,acs]at gk;have cM:=(acq.1 R.at_).1
    have QW:i<=ops.size - 2:=by
     rcases acE (ops.size - 2) i with h |h
     ·have:i=ops.size - 1:=by omega
      subst this;have h3:=R.at_;rw[S.e2]at h3;obtain rfl:=abV h3;have:=(L.wr S.e2 S.r2).2.1;rw[Qp]at this;cases this
     exact h
    have hm2:m=ops.size - 2\/m=ops.size - 1:=by omega
    rcases hm2 with rfl |rfl
    ·have Nf:=gk.1.resolve_left (λhc=>no (pY hc));have bO:=L.target Nf QW S.x1;rw[show ops.size - 2+1=ops.size - 1 by omega,S.h1,ab0 bO]
    ·have Nf:=gk.2.resolve_left (λhc=>no (pY hc));have bO:=L.target Nf QW S.x2;rw[show ops.size - 1+1=ops.size by omega,S.h2,S.h1,ab0 bO]
 rw[L.aT hm hr]
theorem DD.agree(L:gV C run ops h0 tr){k:Nat}{O:Nat->PV}{X:List (Nat×Nat)}(D:DD C ops tr N F w0 QU X0 E a w k O X){i id:Nat}{o:Oper}(R:DE ops E E' i o)(Qp:ie o.op=true)(h1:id<(tr k).h.length)(h2:id<(tr i).h.length)
  (hc:pP h0 id=true\/(lO ops (before ops) i=true/\B8 ops (before ops) i (tr i).O id=true)):(tr k).h[id]?=(tr i).h[id]?:=by
 have hi:i<ops.size:=(acq.1 R.at_).1;have DG:=D.kn;rcases hc with hc |⟨hl,gk⟩
 ·obtain⟨ob,b1,b2⟩:=DF hc;rw[L.old b1 b2 k D.kn,L.old b1 b2 i (by omega)]
 ·rcases Nat.le_total k i with TQ |Gg
  ·have key:∀m,k<=m->m<=i->id<(tr m).h.length/\(tr m).h[id]?=(tr k).h[id]?:=by
    intro m
    induction m with
    |zero=>intro a1 _;obtain rfl:k=0:=(by omega);exact⟨h1,rfl⟩
    |succ m ih=>
     intro a1 a2
     by_cases hk:k=m+1
     subst hk;exact⟨h1,rfl⟩
     ·obtain⟨i1,i2⟩:=ih (by omega) (by omega);refine⟨acN i1 (L.grow (by omega)),(L.QT R Qp hl gk (by omega) i1 (λhr=>.inl ⟨by omega,?_⟩)).trans i2⟩
      cases he:E m with
      |false=>rfl
      |true=>have:=D.lo m hr he;omega
   exact(key i TQ (abZ _)).2.symm
  ·have key:∀m,i<=m->m<=k->id<(tr m).h.length/\(tr m).h[id]?=(tr i).h[id]?:=by
    intro m
    induction m with
    |zero=>intro a1 _;obtain rfl:i=0:=(by omega);exact⟨h2,rfl⟩
    |succ m ih=>
     intro a1 a2
     by_cases hk:i=m+1
     subst hk;exact⟨h2,rfl⟩
     ·obtain⟨i1,i2⟩:=ih (by omega) (by omega);exact⟨acN i1 (L.grow (by omega)),(L.QT R Qp hl gk (by omega) i1 (λhr=>.inr ⟨by omega,D.hi m hr (by omega)⟩)).trans i2⟩
   exact(key k Gg (abZ _)).2
theorem UU.agree(L:gV C run ops h0 tr){q1 q2:Oper}{id1 id2:Nat}{a1 a2 zT rr:aw}{x y:Operand}{O:Nat->PV}{X:List (Nat×Nat)}(D:UU C run ops tr N F w0 QU X0 E a w q1 q2 id1 id2 a1 a2 zT rr x y O X){i id:Nat}{o:Oper}(R:DE ops E E' i o)(Qp:ie o.op=true)(h2:id<(tr i).h.length)
  (hc:pP h0 id=true\/(lO ops (before ops) i=true/\B8 ops (before ops) i (tr i).O id=true)):((tr (ops.size - 2)).h.set id2 rr)[id]?=(tr i).h[id]?:=by
 have hi:i<ops.size:=(acq.1 R.at_).1;have S:=D.sd;have n2:=S.n2
 have rdNot:∀(j:Nat) (q:Oper),ops[j]?=some q->jz C.P ops tr j->i≠j:=by
  rintro j q hq hr rfl;have:=(L.wr hq hr).2.1;rw[R.at_]at hq;obtain rfl:=abV hq;rw[Qp]at this;cases this
 have g1:=rdNot _ _ S.e1 S.r1;have g2:=rdNot _ _ S.e2 S.r2;have iB:i<ops.size - 2:=by omega
 rcases hc with hc |⟨hl,gk⟩
 ·obtain⟨ob,b1,b2⟩:=DF hc;have e1:=L.old b1 b2 (ops.size - 2) (by omega)
  have bO:id2≠id:=by
   rintro rfl;rw[S.g2]at e1;obtain rfl:=abV e1;exact b2 S.m2
  rw[ab0 bO,e1,L.old b1 b2 i (by omega)]
 ·have key:∀m,i<=m->m<=ops.size - 2->id<(tr m).h.length/\(tr m).h[id]?=(tr i).h[id]?:=by
   intro m
   induction m with
   |zero=>intro a1 _;obtain rfl:i=0:=(by omega);exact⟨h2,rfl⟩
   |succ m ih=>
    intro a1 a2
    by_cases hk:i=m+1
    subst hk;exact⟨h2,rfl⟩
    ·obtain⟨i1,i2⟩:=ih (by omega) (by omega);exact⟨acN i1 (L.grow (by omega)),(L.QT R Qp hl gk (by omega) i1 (λhr=>.inr ⟨by omega,D.al m hr (by omega)⟩)).trans i2⟩
  have Nf:Gc ops (tr i).O y id=true:=by
   unfold B8 at gk;rw[S.s]at gk;simp only[ab4,acs]at gk;refine gk.2.resolve_left (λrU=>?_);have hE2:=D.al _ S.r2 (by omega);rcases pY rU with h |h |h;omega;have:=rW L.ok _ _ h;omega;have:=R.later h;rw[hE2]at this;cases this
  have bO:=L.target Nf (by omega) S.x2;rw[ab0 bO];exact(key (ops.size - 2) (by omega) (abZ _)).2
theorem ga{C:cW}{run:iR}{lv:Nat}{op:Op}{O:Nat->PV}{h:ab}(hb:ie op=true\/jT op=true):au C run lv op O h=aC C.P lv op O h:=by
 cases op <;>first |rfl |(rcases hb with hb |hb <;>simp[ie,jT]at hb)
theorem xS.step(K:gB C)(S:ir C run)(L:gV C run ops h0 tr)(D:xS C run ops tr N F w0 QU X0 E a w){i:Nat}{o:Oper}(R:DE ops E E' i o)(hd:jQ N o=true)
  {Q:Exit->Act->World->Prop} {next:Act->World->Prop} (hK:∀a' w',xS C run ops tr N F w0 QU X0 E' a' w'->next a' w'):wpOp C.P ops Q i next a w:=by
 have hi:i<ops.size:=(acq.1 R.at_).1;unfold wpOp;rw[R.at_];simp only
 have noRan:(di o.op=true->ie o.op=false->(jT o.op=true->aC C.P 1 o.op (tr i).O (tr i).h=none)->bA ops o (tr i).O=some true->False)->¬jz C.P ops tr i:=by
  rintro hh ⟨o',h1,h2,h3,h4,h5⟩;rw[R.at_]at h1;obtain rfl:=abV h1;exact hh h2 h3 h4 h5
 have eq':∀j,j≠i->E' j=E j:=λj hj=>by
  have:=R.oF j;simp only[hj,or_false]at this
  cases h1:E j <;>cases h2:E' j <;>simp_all
 rcases D with⟨k,O,X,D⟩|⟨q1,q2,id1,id2,a1,a2,zT,rr,x,y,O,X,D⟩
 ·have lm:=D.rh.IP L R;have wM:=D.rh.Nd L R;have jW:∀lv h,au C run lv o.op O h=au C run lv o.op (tr i).O h:=λlv h=>mH wM
  have stay:∀{r:PV} {v:Value} {w':World} {X':List (Nat×Nat)},¬jz C.P ops tr i->(tr (i+1)).O=cm (tr i).O o.dst r->aE w' (Av F (tr k).h X') X' (tr k).h v r->bo w' F X' (tr k).h->eD w (tr k).h X w' (tr k).h X'->next (a.put o.dst v) w':=by
   intro r v w' X' hn hr q1 q2 q3
   refine hK _ _ (.inl ⟨k,cm O o.dst r,X',D.kn,?_,?_,q2,(D.er.mono q3).put (iJ hd D.sz) q1,D.rh.on L R hr,D.sp.trans q3,by rw[dY];exact D.df,by rw[gG];exact D.sz⟩)
   ·intro j h1 h2
    rcases(R.oF j).1 h2 with h2 |rfl;exact D.lo j h1 h2;exact absurd h1 hn
   ·intro j h1 h2
    exact(R.oF j).2 (.inl (D.hi j h1 h2))
  have quiet:∀{r:PV},bA ops o (tr i).O=some true->¬jz C.P ops tr i->(tr (i+1)).O=cm (tr i).O o.dst r->au C run 1 o.op O (tr k).h=some (r,(tr k).h)->o.wp C.P a w next Q:=by
   intro r hw hn hr e
   exact jA K S D.hr D.er e (λv w' X' q1 q2 q3 q4=>stay hn hr q1 q2 q3)
  cases L.view R.at_ with
  |off hw hy=>
   rw[cZ D.er (by rw[lm];exact hw),if_neg (by simp)];exact stay (noRan λ_ _ _ h3=>by rw[hw]at h3;cases h3) (by rw[hy]) .undef D.hr (eD.refl _ _ _)
  |plain r hx hw hh hv hy=>
   rw[cZ D.er (by rw[lm];exact hw),if_pos rfl];exact .inl (quiet hw (noRan λh2 _ _ _=>by rw[hh]at h2;cases h2) (by rw[hy]) (by rw[jW];exact pT hh hv))
  |rd r hx hw hl hc hv hy=>
   rw[cZ D.er (by rw[lm];exact hw),if_pos rfl];refine .inl (quiet hw (noRan λ_ h2 _ _=>by rw[hl]at h2;cases h2) (by rw[hy]) ?_);rw[jW,ga (.inl hl)];refine(xh hl hv (λid bZ=>?_)).1;have h2:=(xh hl hv (λ_ _=>rfl)).2 id bZ
   have h1:id<(tr k).h.length:=by
    cases kV:o.op with
    |load t z=>
     rw[kV]at bZ wM;simp only[sJ]at bZ;have hz:=wM z (by simp[Op.operands]);have hr:=D.er.ev z;rw[hz]at hr
     cases hq:ev (tr i).O z with
     |ptr j ep k2 off=>rw[hq]at bZ hr;obtain rfl:=abV bZ;exact hr.Ce.1
     |_=>rw[hq]at bZ;cases bZ
    |indexAddr t z u=>
     rw[kV]at bZ wM;simp only[sJ]at bZ;have hz:=wM z (by simp[Op.operands]);have hr:=D.er.ev z;rw[hz]at hr
     cases hq:ev (tr i).O z with
     |ak j ep off len=>rw[hq]at bZ hr;obtain rfl:=abV bZ;exact hr.dW.1
     |_=>rw[hq]at bZ;cases bZ
    |_=>rw[kV]at hl;cases hl
   exact D.agree L R hl h1 h2 (hc id bZ)
  |made r hx hw hb hv hy=>
   rw[cZ D.er (by rw[lm];exact hw),if_pos rfl];refine .inl (quiet hw (noRan λ_ _ h3 _=>by rw[h3 hb]at hv;cases hv) (by rw[hy]) ?_);rw[ga (.inr hb)];exact AP hb (λh=>by rw[<-ga (C:=C) (run:=run) (.inr hb),<-ga (C:=C) (run:=run) (.inr hb)];exact jW 1 h) hv
  |two r h' hw hh Dh UX hl hv hle hy=>
   rw[cZ D.er (by rw[lm];exact hw),if_pos rfl];refine .inl ?_;have Gh:jz C.P ops tr i:=⟨o,R.at_,hh,Dh,UX,hw⟩
   have TQ:k<=i:=by
    rcases acE i k with h |h;have:=D.hi i Gh h;rw[R.out]at this;cases this;exact h
   have main:(∀j,jz C.P ops tr j->j<i->E j=true)->o.wp C.P a w next Q:=by
    intro anc_of
    have D1:=D.QV L (i - k) (by omega) (λj h1 h2 h3=>by
     have:=D.lo j h3 (anc_of j h3 (by omega));omega)
    rw[show k+(i - k)=i by omega]at D1;refine jA K S D1.hr D1.er (by rw[jW];exact hv) (λv w' X' q1 q2 q3 q4=>hK _ _ (.inl ?_));have UY:(tr (i+1)).h=h':=by rw[hy];exact J' q3
    refine⟨i+1,cm O o.dst r,X',by omega,?_,?_,by rw[UY];exact q2,by rw[UY];exact(D1.er.mono q3).put (iJ hd D.sz) q1,D.rh.on L R (by rw[hy]),by rw[UY];exact D1.sp.trans q3,by rw[dY];exact D.df,by rw[gG];exact D.sz⟩
    ·intro j h1 h2
     rcases(R.oF j).1 h2 with h2 |rfl;have:=D1.lo j h1 h2;omega;omega
    ·intro j h1 h3
     by_cases hj:j=i
     exact(R.oF j).2 (.inr hj);exact(R.oF j).2 (.inl (anc_of j h1 (by omega)))
   have ordE:∀j,jz C.P ops tr j->j<i->¬((sinks ops (before ops)).isSome=true/\ops.size<=i+2/\ops.size<=j+2)->E j=true:=by
    intro j hj cM Ys
    rcases(L.ord Gh hj).resolve_right Ys with h |h |h;omega;exact R.UW j h;have:=rW L.ok j i h;omega
   by_cases hb:(sinks ops (before ops)).isSome=true/\i=ops.size - 1/\E (ops.size - 2)=false
   ·obtain⟨hs,iB,hE1⟩:=hb;obtain⟨⟨x,y⟩,hs⟩:=aec.1 hs;obtain⟨q1,q2,id1,id2,a1,a2,zT,rr,SS⟩:=L.sd hs;have n2:=SS.n2;have before2:∀j,jz C.P ops tr j->j<ops.size - 2->E j=true:=λj hj cM=>ordE j hj (by omega) (λhh=>by omega)
    have xT:k<=ops.size - 2:=by
     rcases acE (ops.size - 2) k with h |h;have:=D.hi _ SS.r1 h;rw[hE1]at this;cases this;exact h
    have D1:=D.QV L (ops.size - 2 - k) (by omega) (λj h1 h2 h3=>by
     have:=D.lo j h3 (before2 j h3 (by omega));omega)
    rw[show k+(ops.size - 2 - k)=ops.size - 2 by omega]at D1
    have hoq:o=q2:=by
     have h3:=R.at_;rw[iB,SS.e2]at h3;exact(abV h3).symm
    subst hoq
    have kV:∀z∈o.op.operands.toList,ev O z=ev (tr (ops.size - 2)).O z:=λz hz=>by
     rw[wM z hz,iB]
     cases z with
     |tmp t=>exact congrFun SS.p1 t
     |_=>rfl
    refine jA K S D1.hr D1.er (SS.v2 O _ kV SS.g2) (λv w' X' r1 r2 r3 r4=>hK _ _ (.inr ?_));refine⟨q1,o,id1,id2,a1,a2,zT,rr,x,y,cm O o.dst .undef,X',SS,?_,?_,r2,(D1.er.mono r3).put (iJ hd D.sz) r1,D.rh.on L R (by rw[SS.d2,iB,show ops.size - 1+1=ops.size by omega,SS.p2,SS.p1];rfl),D1.sp.trans r3,by rw[dY];exact D.df,by rw[gG];exact D.sz⟩;rw[eq' _ (by omega)];exact hE1
    ·intro j hj bO
     by_cases Af:j=i
     exact(R.oF j).2 (.inr Af)
     ·obtain⟨oj,ej,_⟩:=id hj;have:=(acq.1 ej).1;exact(R.oF j).2 (.inl (before2 j hj (by omega)))
   ·refine main (λj hj cM=>?_)
    by_cases Ys:(sinks ops (before ops)).isSome=true/\ops.size<=i+2/\ops.size<=j+2
    ·have iB:i=ops.size - 1:=by omega
     have hjn:j=ops.size - 2:=by omega
     cases he:E j with
     |true=>rfl
     |false=>exact absurd ⟨Ys.1,iB,by rw[<-hjn];exact he⟩ hb
    exact ordE j hj cM Ys
 ·have lm:=D.rh.IP L R;have wM:=D.rh.Nd L R;have jW:∀lv h,au C run lv o.op O h=au C run lv o.op (tr i).O h:=λlv h=>mH wM
  have SS:=D.sd;have n2:=SS.n2
  have stay:∀{r:PV} {v:Value} {w':World} {X':List (Nat×Nat)},¬jz C.P ops tr i->(tr (i+1)).O=cm (tr i).O o.dst r->aE w' (Av F ((tr (ops.size - 2)).h.set id2 rr) X') X' ((tr (ops.size - 2)).h.set id2 rr) v r->bo w' F X' ((tr (ops.size - 2)).h.set id2 rr)->eD w ((tr (ops.size - 2)).h.set id2 rr) X w' ((tr (ops.size - 2)).h.set id2 rr) X'->next (a.put o.dst v) w':=by
   intro r v w' X' hn hr r1 r2 r3
   refine hK _ _ (.inr ⟨q1,q2,id1,id2,a1,a2,zT,rr,x,y,cm O o.dst r,X',SS,?_,?_,r2,(D.er.mono r3).put (iJ hd D.sz) r1,D.rh.on L R hr,D.sp.trans r3,by rw[dY];exact D.df,by rw[gG];exact D.sz⟩);rw[eq' _ (by rintro h;rw[<-h]at hn;exact hn SS.r1)];exact D.s1
   ·intro j hj bO
    exact(R.oF j).2 (.inl (D.al j hj bO))
  have quiet:∀{r:PV},bA ops o (tr i).O=some true->¬jz C.P ops tr i->(tr (i+1)).O=cm (tr i).O o.dst r->au C run 1 o.op O ((tr (ops.size - 2)).h.set id2 rr)=some (r,(tr (ops.size - 2)).h.set id2 rr)->o.wp C.P a w next Q:=by
   intro r hw hn hr e
   exact jA K S D.hr D.er e (λv w' X' r1 r2 r3 r4=>stay hn hr r1 r2 r3)
  cases L.view R.at_ with
  |off hw hy=>
   rw[cZ D.er (by rw[lm];exact hw),if_neg (by simp)];exact stay (noRan λ_ _ _ h3=>by rw[hw]at h3;cases h3) (by rw[hy]) .undef D.hr (eD.refl _ _ _)
  |plain r hx hw hh hv hy=>
   rw[cZ D.er (by rw[lm];exact hw),if_pos rfl];exact .inl (quiet hw (noRan λh2 _ _ _=>by rw[hh]at h2;cases h2) (by rw[hy]) (by rw[jW];exact pT hh hv))
  |rd r hx hw hl hc hv hy=>
   rw[cZ D.er (by rw[lm];exact hw),if_pos rfl];refine .inl (quiet hw (noRan λ_ h2 _ _=>by rw[hl]at h2;cases h2) (by rw[hy]) ?_);rw[jW,ga (.inl hl)];refine(xh hl hv (λid bZ=>?_)).1;exact D.agree L R hl ((xh hl hv (λ_ _=>rfl)).2 id bZ) (hc id bZ)
  |made r hx hw hb hv hy=>
   rw[cZ D.er (by rw[lm];exact hw),if_pos rfl];refine .inl (quiet hw (noRan λ_ _ h3 _=>by rw[h3 hb]at hv;cases hv) (by rw[hy]) ?_);rw[ga (.inr hb)];exact AP hb (λh=>by rw[<-ga (C:=C) (run:=run) (.inr hb),<-ga (C:=C) (run:=run) (.inr hb)];exact jW 1 h) hv
  |two r h' hw hh Dh UX hl hv hle hy=>
   rw[cZ D.er (by rw[lm];exact hw),if_pos rfl];refine .inl ?_;have Gh:jz C.P ops tr i:=⟨o,R.at_,hh,Dh,UX,hw⟩
   have iB:i=ops.size - 2:=ad9 λbO=>by
    have:=D.al i Gh bO;rw[R.out]at this;cases this
   have hoq:o=q1:=by
    have h3:=R.at_;rw[iB,SS.e1]at h3;exact(abV h3).symm
   subst hoq;have kV:∀z∈o.op.operands.toList,ev O z=ev (tr (ops.size - 2)).O z:=λz hz=>by rw[wM z hz,iB]
   have hg:((tr (ops.size - 2)).h.set id2 rr)[id1]?=some a1:=by rw[ab0 (acS SS.ne)];exact SS.g1
   refine jA K S D.hr D.er (SS.v1 O _ kV hg) (λv w' X' r1 r2 r3 r4=>hK _ _ (.inl ?_));have AS:(tr ops.size).h=((tr (ops.size - 2)).h.set id2 rr).set id1 zT:=by rw[SS.h2,List.set_comm _ _ SS.ne]
   have E'all:∀j,jz C.P ops tr j->E' j=true:=λj hj=>by
    by_cases Af:j=i
    exact(R.oF j).2 (.inr Af);exact(R.oF j).2 (.inl (D.al j hj (by rw[<-iB];exact Af)))
   refine⟨ops.size,cm O o.dst .undef,X',abZ _,?_,λj hj _=>E'all j hj,by rw[AS];exact r2,by rw[AS];exact(D.er.mono r3).put (iJ hd D.sz) r1,D.rh.on L R (by rw[SS.d1,iB,show ops.size - 2+1=ops.size - 1 by omega,SS.p1];rfl),by rw[AS];exact D.sp.trans r3,by rw[dY];exact D.df,by rw[gG];exact D.sz⟩
   intro j hj _
   obtain⟨oj,ej,_⟩:=hj;exact(acq.1 ej).1
theorem xS.done(L:gV C run ops h0 tr)(D:xS C run ops tr N F w0 QU X0 E a w)(hE:∀j,j<ops.size->E j=true):∃X,SR N w F X (tr ops.size) a/\eD w0 QU X0 w (tr ops.size).h X:=by
 rcases D with⟨k,O,X,D⟩|⟨q1,q2,id1,id2,a1,a2,zT,rr,x,y,O,X,D⟩
 ·have D1:=D.QV L (ops.size - k) (by have:=D.kn;omega) (λj h1 h2 h3=>by
   have:=D.lo j h3 (hE j (by have:=D.kn;omega));omega)
  rw[show k+(ops.size - k)=ops.size by have:=D.kn;omega]at D1
  have hO:O=(tr ops.size).O:=by
   funext t
   refine D1.rh t ops.size (abZ _) (λj o hj _=>?_);have:j<ops.size:=(acq.1 hj).1;simp[hE j this,this]
  have h2:=D1.er;rw[hO]at h2;exact⟨X,⟨D1.hr,h2,D1.df,D1.sz⟩,D1.sp⟩
 ·have:=D.s1;rw[hE _ (by have:=D.sd.n2;omega)]at this;cases this
def FL(ids:List Nat)(F:Nat->Prop)(h:ab)(X:List (Nat×Nat))(b:Nat):Prop:=F b\/∃id o bc,ids.contains id=true/\h[id]?=some o/\X[id]?=some bc/\o.mu=.m/\bc.1=b
theorem lV(ids:List Nat)(h:ab)(id:Nat):(cK ids h)[id]?=(h[id]?).map λo=>if ids.contains id then bY o else o:=by
 unfold cK;rw[ace,ad3,aew]
 cases h[id]? <;>simp
theorem DH(ids:List Nat)(h h':ab)(id:Nat):(eG ids h h')[id]?=(h'[id]?).map λo=>if ids.contains id then(match h[id]? with |some o'=>o'|none=>o)else o:=by
 unfold eG;rw[ace,ad3,aew]
 cases h'[id]? with
 |none=>rfl
 |some o=>
  simp only[ab8,Function.comp_apply,acf]
  split <;>rfl
theorem uw(ids:List Nat)(h:ab):(cK ids h).length=h.length:=by unfold cK;simp
variable{X:List (Nat×Nat)}{h:ab}
theorem pZ(ids:List Nat)(h:ab):Alike h (cK ids h):=by
 refine⟨(uw ids h).symm,λid o o' e1 e2=>?_⟩;rw[lV,e1]at e2;obtain rfl:=abV e2;obtain⟨p1,p2,p3,p4,_⟩:=bR o
 split
 exact⟨p1.symm,p2.symm,p3.symm,p4.symm⟩;exact⟨rfl,rfl,rfl,Iff.rfl⟩
theorem xU{ids:List Nat}{b:Nat}(hb:Mb (cK ids h) X b):∃id o bc,ids.contains id=false/\h[id]?=some o/\X[id]?=some bc/\o.mu=.m/\bc.1=b:=by
 obtain⟨id,o,bc,e1,e2,e3,e4⟩:=hb;rw[lV]at e1
 cases ho:h[id]? with
 |none=>rw[ho]at e1;cases e1
 |some o2=>
  rw[ho]at e1;simp only[ab8,acA]at e1
  split at e1
  subst e1;exact absurd e3 (bR o2).2.2.2.2.1
  ·rename_i hc;subst e1;exact⟨id,o2,bc,by simpa using hc,ho,e2,e3,e4⟩
theorem xV{ids:List Nat}{b:Nat}(hb:Av (FL ids F h X) (cK ids h) X b):Av F h X b:=by
 rcases hb with(hb |⟨id,o,bc,_,e1,e2,e3,e4⟩)|hb;exact .inl hb;exact .inr ⟨id,o,bc,e1,e2,e3,e4⟩
 ·obtain⟨id,o,bc,_,e1,e2,e3,e4⟩:=xU hb;exact .inr ⟨id,o,bc,e1,e2,e3,e4⟩
theorem bo.cK(H:bo w F X h)(ids:List Nat):bo w (FL ids F h X) X (Pm.cK ids h):=by
 have at_:∀(id:Nat) (o:aw),(Pm.cK ids h)[id]?=some o->∃o2,h[id]?=some o2/\((ids.contains id=true/\o=bY o2)\/(ids.contains id=false/\o=o2)):=by
  intro id o e
  rw[lV]at e
  cases ho:h[id]? with
  |none=>rw[ho]at e;cases e
  |some o2=>
   rw[ho]at e;simp only[ab8,acA]at e
   split at e
   ·rename_i hc;exact⟨o2,rfl,.inl ⟨hc,e.symm⟩⟩
   ·rename_i hc;exact⟨o2,rfl,.inr ⟨by simpa using hc,e.symm⟩⟩
 refine⟨by rw[uw];exact H.len,λb hb=>?_,?_,?_,?_⟩
 ·rcases hb with hb |⟨id,o,bc,_,e1,e2,e3,e4⟩;exact H.fin b hb;exact Av.lt H (.inr ⟨id,o,bc,e1,e2,e3,e4⟩)
 ·intro id o bc e1 e2 e3
  obtain⟨o2,f1,f2⟩:=at_ id o e1;obtain⟨p1,p2,p3,p4,_⟩:=bR o2;rcases f2 with⟨_,rfl⟩|⟨_,rfl⟩;exact(H.obj id o2 bc f1 e2 (λhh=>e3 (p4.2 hh))).alike (pZ ids h) (λb=>xV) p2.symm p3.symm;exact(H.obj id o bc f1 e2 e3).alike (pZ ids h) (λb=>xV) rfl rfl
 ·intro id eH o o' bc dq bO e1 e2 e3 e4 m1 m2
  obtain⟨o2,f1,f2⟩:=at_ id o e1;obtain⟨o2',g1,g2⟩:=at_ eH o' e2;rcases f2 with⟨_,rfl⟩|⟨_,rfl⟩;exact absurd m1 (bR o2).2.2.2.2.1
  ·rcases g2 with⟨_,rfl⟩|⟨_,rfl⟩;exact H.iT id eH o o2' bc dq bO f1 g1 e3 e4 m1 (λhh=>m2 ((bR o2').2.2.2.1.2 hh));exact H.iT id eH o o' bc dq bO f1 g1 e3 e4 m1 m2
 ·intro id o bc e1 e2 e3 hf
  obtain⟨o2,f1,f2⟩:=at_ id o e1;obtain⟨p1,p2,p3,p4,p5,p6⟩:=bR o2
  have J4:(ids.contains id=false/\o2.mu=.m)\/o2.mu=.f:=by
   rcases f2 with⟨_,rfl⟩|⟨hc,rfl⟩
   ·rcases e3 with e3 |e3;exact absurd e3 p5;exact .inr (p6.1 e3)
   exact e3.imp (λh=>⟨hc,h⟩) (λh=>h)
  rcases hf with hf |⟨eH,o',dq,k1,k2,k3,k4,k5⟩;exact H.out id o2 bc f1 e2 (J4.imp (λh=>h.2) (λh=>h)) hf
  ·have bO:eH≠id:=by
    rintro rfl;rw[f1]at k2;obtain rfl:=abV k2;rcases J4 with h |h;rw[k1]at h;cases h.1;rw[k4]at h;cases h
   exact H.iT eH id o' o2 dq bc bO k2 f1 k3 e2 k4 (by rcases J4 with h |h;rw[h.2];simp;rw[h];simp) k5
theorem bo.eG(H:bo w F X h){ids:List Nat}{w':World}{h1:ab}{X1:List (Nat×Nat)}(q2:bo w' (FL ids F h X) X1 h1)(q3:eD w (Pm.cK ids h) X w' h1 X1)(Dh:rQ ids h h1=true):
  (∀(v:Value) (p:PV),aE w' (Av (FL ids F h X) h1 X1) X1 h1 v p->aE w' (Av F (Pm.eG ids h h1) X1) X1 (Pm.eG ids h h1) v p)/\bo w' F X1 (Pm.eG ids h h1)/\eD w h X w' (Pm.eG ids h h1) X1:=by
 have hn:h.length<=h1.length:=by have:=q3.len;rwa[uw]at this
 have xi:(Pm.eG ids h h1).length=h1.length:=by unfold Pm.eG;simp
 have lk:∀(id:Nat) (o:aw),h[id]?=some o->ids.contains id=true->h1[id]?=some (bY o)/\X1[id]?=X[id]?/\(Pm.eG ids h h1)[id]?=some o:=λid o ho hc=>by
  have e1:(Pm.cK ids h)[id]?=some (bY o):=by rw[lV,ho];simp only[ab8,hc,if_true]
  obtain⟨g1,g2⟩:=q3.MB id (bY o) e1 (bR o).2.2.2.2.1;exact⟨g1,g2,by rw[DH,g1];simp only[ab8,hc,if_true,ho]⟩
 have ul:∀(id:Nat),(ids.contains id=false\/h.length<=id)->(Pm.eG ids h h1)[id]?=h1[id]?:=λid hc=>by
  rw[DH]
  cases h1[id]? with
  |none=>rfl
  |some o=>
   rcases hc with hc |hc;simp only[ab8,hc,aca,if_false];simp only[ab8,ach hc];split <;>rfl
 have cs:∀(id:Nat) (o:aw),(Pm.eG ids h h1)[id]?=some o->(ids.contains id=true/\h[id]?=some o/\h1[id]?=some (bY o)/\X1[id]?=X[id]?)\/((ids.contains id=false\/h.length<=id)/\h1[id]?=some o):=λid o e=>by
  by_cases hc:ids.contains id=true/\id<h.length
  ·obtain⟨o2,ho⟩:=nD (l:=h) (i:=id) hc.2;obtain⟨g1,g2,g3⟩:=lk id o2 ho hc.1;rw[g3]at e;obtain rfl:=abV e;exact .inl ⟨hc.1,ho,g1,g2⟩
  ·have ui:ids.contains id=false\/h.length<=id:=by
    by_cases h1:ids.contains id=true
    exact .inr (Nat.le_of_not_lt λh2=>hc ⟨h1,h2⟩);exact .inl (by simpa using h1)
   exact .inr ⟨ui,by rw[<-ul id ui];exact e⟩
 have al:Alike h1 (Pm.eG ids h h1):=by
  refine⟨xi.symm,λid o o' e1 e2=>?_⟩;rcases cs id o' e2 with⟨_,_,g1,_⟩|⟨_,g1⟩
  ·rw[g1]at e1;obtain rfl:=abV e1;obtain⟨p1,p2,p3,p4,_⟩:=bR o';exact⟨p1,p2,p3,p4⟩
  ·rw[g1]at e1;obtain rfl:=abV e1;exact⟨rfl,rfl,rfl,Iff.rfl⟩
 have DI:∀b,Av F (Pm.eG ids h h1) X1 b->Av (FL ids F h X) h1 X1 b:=by
  rintro b (hb |⟨id,o,bc,e1,e2,e3,e4⟩);exact .inl (.inl hb)
  ·rcases cs id o e1 with⟨hc,g0,g1,g2⟩|⟨_,g1⟩;rw[g2]at e2;exact .inl (.inr ⟨id,o,bc,hc,g0,e2,e3,e4⟩);exact .inr ⟨id,o,bc,g1,e2,e3,e4⟩
 have lmu:∀(id:Nat) (o:aw),(ids.contains id=false\/h.length<=id)->h1[id]?=some o->o.mu=.l->∃o',h[id]?=some o'/\o'.mu=.l:=λid o hc e hm=>by
  have:=abX.1 Dh (o,id) (by rw[adK];exact⟨id,by simp[e]⟩);simp only[hm,ne_eq,not_true_eq_false,decide_false,ado,acs,ab4,decide_eq_true_eq]at this;rcases this with h2 |h2
  ·rcases hc with hc |hc;rw[hc]at h2;cases h2.1;omega
  ·split at h2
   ·rename_i o' Qo;exact⟨o',Qo,by simpa using h2⟩
   cases h2
 have hMb:∀b,b<w.heap.size->Mb (Pm.eG ids h h1) X1 b->Mb h X b:=by
  rintro b hb ⟨id,o,bc,e1,e2,e3,e4⟩;rcases cs id o e1 with⟨hc,g0,g1,g2⟩|⟨_,g1⟩;rw[g2]at e2;exact⟨id,o,bc,g0,e2,e3,e4⟩
  ·obtain⟨eH,o',dq,_,f1,f2,f3,f4⟩:=xU (q3.shr b hb ⟨id,o,bc,g1,e2,e3,e4⟩);exact⟨eH,o',dq,f1,f2,f3,f4⟩
 refine⟨λv p q1=>q1.alike al DI,⟨by rw[xi];exact q2.len,λb hb=>acN (H.fin b hb) q3.size,?_,?_,?_⟩,⟨q3.size,by rw[xi];exact hn,λb hb hm=>q3.aT b hb (λhm2=>hm ?_),hMb,?_,?_,q3.os,q3.tape,q3.output,q3.drawn⟩⟩
 ·intro id o bc e1 e2 e3
  rcases cs id o e1 with⟨hc,g0,g1,g2⟩|⟨_,g1⟩
  ·obtain⟨p1,p2,p3,p4,_⟩:=bR o;exact(q2.obj id (bY o) bc g1 e2 (λhh=>e3 (p4.1 hh))).alike al DI p2 p3
  exact(q2.obj id o bc g1 e2 e3).alike al DI rfl rfl
 ·intro id eH o o' bc dq bO e1 e2 e3 e4 m1 m2
  rcases cs id o e1 with⟨hc,g0,g1,g2⟩|⟨hc,g1⟩
  ·rcases cs eH o' e2 with⟨ui,g0',TR,Yt⟩|⟨ui,TR⟩
   ·rw[g2]at e3;rw[Yt]at e4;exact H.iT id eH o o' bc dq bO g0 g0' e3 e4 m1 m2
   ·rw[g2]at e3;have inF:FL ids F h X bc.1:=.inr ⟨id,o,bc,hc,g0,e3,m1,rfl⟩
    cases hm:o'.mu with
    |m=>exact λheq=>q2.out eH o' dq TR e4 (.inl hm) (heq▸inF)
    |f=>exact λheq=>q2.out eH o' dq TR e4 (.inr hm) (heq▸inF)
    |l=>
     obtain⟨o2,k1,k2⟩:=lmu eH o' ui TR hm;have FW:ids.contains eH=false:=ui.resolve_right (λhh=>by rw[ach hh]at k1;cases k1);have e5:(Pm.cK ids h)[eH]?=some o2:=by rw[lV,k1];simp only[ab8,FW,aca,if_false]
     obtain⟨_,k4⟩:=q3.MB eH o2 e5 (by rw[k2];simp);rw[k4]at e4;exact H.iT id eH o o2 bc dq bO g0 k1 e3 e4 m1 (by rw[k2];simp)
    |x=>exact absurd hm m2
  ·rcases cs eH o' e2 with⟨ui,g0',TR,Yt⟩|⟨ui,TR⟩;exact q2.iT id eH o (bY o') bc dq bO g1 TR e3 e4 m1 (λhh=>m2 ((bR o').2.2.2.1.1 hh));exact q2.iT id eH o o' bc dq bO g1 TR e3 e4 m1 m2
 ·intro id o bc e1 e2 e3
  rcases cs id o e1 with⟨hc,g0,g1,g2⟩|⟨hc,g1⟩;rw[g2]at e2;exact H.out id o bc g0 e2 e3;exact λhf=>q2.out id o bc g1 e2 e3 (.inl hf)
 ·obtain⟨eH,o',dq,_,f1,f2,f3,f4⟩:=xU hm2;exact⟨eH,o',dq,f1,f2,f3,f4⟩
 ·intro id o bc e1 e2 e3
  by_cases hc:ids.contains id=true
  ·obtain⟨g1,g2,g3⟩:=lk id o e1 hc;exact⟨o,bc,g3,by rw[g2];exact e2,e3,⟨abZ _,λh=>h⟩,λ_=>⟨rfl,λ_=>rfl,rfl⟩⟩
  ·have FW:ids.contains id=false:=by simpa using hc
   have e5:(Pm.cK ids h)[id]?=some o:=by rw[lV,e1];simp only[ab8,FW,aca,if_false]
   obtain⟨o',dq,f1,f2,f3,f4,f5⟩:=q3.refs id o bc e5 e2 e3;exact⟨o',dq,by rw[ul id (.inl FW)];exact f1,f2,f3,f4,f5⟩
 ·intro id o e1 e2
  by_cases hc:ids.contains id=true
  ·obtain⟨g1,g2,g3⟩:=lk id o e1 hc;exact⟨g3,g2⟩
  ·have FW:ids.contains id=false:=by simpa using hc
   have e5:(Pm.cK ids h)[id]?=some o:=by rw[lV,e1];simp only[ab8,FW,aca,if_false]
   obtain⟨f1,f2⟩:=q3.MB id o e5 e2;exact⟨by rw[ul id (.inl FW)];exact f1,f2⟩
theorem QX(K:gB C)(S:ir C run)(hm:C.P.follows .mixedOrders=true){id:Nat}{Q:Exit->Act->World->Prop}(hd:ops.toList.all (jQ N)=true)(hk:nf ops=true){X:List (Nat×Nat)}{s s':St}(R:SR N w F X s a)
  (e:jy C run ops s=some s') (hQ:∀a' w' X',SR N w' F X' s' a'->eD w s.h X w' s'.h X'->Q .normal a' w'):(Code.region id ops true).wp C.P Q a w:=by
 unfold jy at e;generalize xW:gT ops (before ops) s.O=ids at e
 split at e
 ·rename_i y he
  split at e
  ·rename_i Dh
   obtain rfl:=abV e;obtain⟨tr,t1,t2,t3⟩:=pX ops.toList 0 _ _ he;have t3':tr ops.size=y:=by simpa using t3
   have L:gV C run ops (cK ids s.h) tr:=⟨hk,λi o ho=>by simpa using t2 i o (by simpa using ho),by rw[t1],by rw[t3'];exact Dh.2⟩
   refine wp_region_any hm (AT (C:=C) hk (λE a' w'=>xS C run ops tr N (FL ids F s.h X) w (cK ids s.h) X E a' w')
    (λE E' a' w' i o D R' next hK=>xS.step K S L D R' (abX.1 hd o (aeq.2 (adX R'.at_))) hK)
    (λE a' w' D eR=>?_) ops.size _ a _ (by simp) (λi o ho hl=>by rw[getD_none]at hl;cases hl) ?_ ?_)
   ·obtain⟨X1,h1,h2⟩:=D.done L eR;rw[t3']at h1 h2;obtain⟨u1,u2,u3⟩:=R.hr.eG h1.hr h2 Dh.1;exact hQ a' w' X1 ⟨u2,λt=>u1 _ _ (h1.er t),h1.df,h1.sz⟩ u3
   refine acR (List.countP_le_length) (by simp)
   ·have hE:∀j,(Array.replicate ops.size false).getD j false=false:=λj=>getD_none _ j
    have G:dN w {w with drawn:=w.drawn+1}:=dN.drew w;have HL:=R.hr.cK ids;have ER:iI w (Av (FL ids F s.h X) (cK ids s.h) X) X (cK ids s.h) a s.O:=λt=>(R.er t).alike (pZ ids s.h) (λb=>xV)
    refine .inl ⟨0,s.O,X,⟨adw _,λj _ h=>(by rw[hE]at h;cases h),λj _ h=>by omega,by rw[t1];exact HL.Na G,by rw[t1];exact ER.mono (G.TP _ X),?_,by rw[t1];exact G.TP _ X,R.df,R.sz⟩⟩
    intro t k' fZ hw
    rw[L.nE (t:=t) (i:=0) k' (adw _) fZ (λj o h1 h2 h3 h4=>by
     have h5:(Array.replicate ops.size false).getD j false=true:=(hw j o h3 h4).2 h2;rw[hE]at h5;cases h5),t1]
  cases e
 cases e
end Go.Pm
namespace Go.Pm
def codeOk(N:Nat):Code->Bool
 | .region _ ops draw=>ops.toList.all (jQ N)&& (!draw ||nf ops)
 | .seq a b=>codeOk N a&&codeOk N b
 | .cond _ a b=>codeOk N a&&codeOk N b
 | .block _ c=>codeOk N c
 | .loop c=>codeOk N c
 | .scope c=>codeOk N c
 |_=>true
def SV:Ex->Exit
 | .normal=>.normal
 | .exit id=>.exit id
 | .ret=>.ret
theorem Fs{C:cW}(K:gB C)(hm:C.P.follows .mixedOrders=true){run:iR}(S:ir C run){N:Nat}{F:Nat->Prop}{n:Nat}:∀(c:Code) {s s':St} {ex:Ex} {a:Act} {w:World} {X:List (Nat×Nat)} {Q:Exit->Act->World->Prop},
  codeOk N c=true->bW C run n c s=some (ex,s')->SR N w F X s a->(∀a' w' X',SR N w' F X' s' a'->eD w s.h X w' s'.h X'->Q (SV ex) a' w')->c.wp C.P Q a w:=by
 intro c
 induction c with
 |skip=>
  intro s s' ex a w X Q hc e R hQ
  simp only[bW,acA,aeB]at e;obtain⟨rfl,rfl⟩:=e;exact wp_skip (hQ a w X R (eD.refl _ _ _))
 |label l=>
  intro s s' ex a w X Q hc e R hQ
  simp only[bW,acA,aeB]at e;obtain⟨rfl,rfl⟩:=e;exact wp_label (hQ a w X R (eD.refl _ _ _))
 |exit id=>
  intro s s' ex a w X Q hc e R hQ
  simp only[bW,acA,aeB]at e;obtain⟨rfl,rfl⟩:=e;exact wp_exit (hQ a w X R (eD.refl _ _ _))
 |ret=>
  intro s s' ex a w X Q hc e R hQ
  simp only[bW,acA,aeB]at e;obtain⟨rfl,rfl⟩:=e;exact wp_ret (hQ a w X R (eD.refl _ _ _))
 |region id ops draw=>
  intro s s' ex a w X Q hc e R hQ
  simp only[codeOk,ab4,acs,ac8]at hc;simp only[bW]at e
  cases draw with
  |false=>
   simp only[aca,if_false]at e
   split at e
   ·rename_i s1 he
    obtain⟨rfl,rfl⟩:=ab7 (abV e);exact Ki K S hc.1 R he hQ
   cases e
  |true=>
   simp only[if_true]at e
   by_cases hk:sL ops=true
   ·simp only[hk,if_true]at e
    cases he:jy C run ops s with
    |none=>rw[he]at e;simp at e
    |some y=>
     rw[he]at e;obtain⟨rfl,rfl⟩:=ab7 (abV e);exact QX K S hm hc.1 (by simpa using hc.2) R he hQ
   ·simp only[hk,if_false]at e
    cases he:dL C run ops (before ops) 0 ops.toList ⟨s,s.h.length,[]⟩with
    |none=>rw[he]at e;simp at e
    |some y=>
     rw[he]at e;simp only[ab8]at e;obtain⟨rfl,rfl⟩:=ab7 (abV e);exact GL K S hm hc.1 (by simpa using hc.2) R he hQ
 |seq x y ihx ihy=>
  intro s s' ex a w X Q hc e R hQ
  simp only[codeOk,ab4]at hc;simp only[bW]at e;refine wp_seq ?_
  cases hx:bW C run n x s with
  |none=>rw[hx]at e;cases e
  |some r=>
   obtain⟨ex1,s1⟩:=r;rw[hx]at e;refine ihx hc.1 hx R (λa1 w1 X1 R1 S1=>?_)
   cases ex1 with
   |normal=>exact ihy hc.2 e R1 (λa2 w2 X2 R2 S2=>hQ a2 w2 X2 R2 (S1.trans S2))
   |exit id=>
    obtain⟨rfl,rfl⟩:=ab7 (abV e);exact hQ a1 w1 X1 R1 S1
   |ret=>
    obtain⟨rfl,rfl⟩:=ab7 (abV e);exact hQ a1 w1 X1 R1 S1
 |cond c x y ihx ihy=>
  intro s s' ex a w X Q hc e R hQ
  simp only[codeOk,ab4]at hc;simp only[bW]at e
  split at e
  ·rename_i hb
   have:=R.er.ev c;rw[hb]at this;exact wp_cond_true this.gK (ihx hc.1 e R hQ)
  ·rename_i hb
   have:=R.er.ev c;rw[hb]at this;exact wp_cond_false this.gK (ihy hc.2 e R hQ)
  cases e
 |block id c ih=>
  intro s s' ex a w X Q hc e R hQ
  simp only[codeOk]at hc;simp only[bW]at e;refine wp_block ?_
  cases hx:bW C run n c s with
  |none=>rw[hx]at e;cases e
  |some r=>
   obtain⟨ex1,s1⟩:=r;rw[hx]at e;refine ih hc hx R (λa1 w1 X1 R1 S1=>?_)
   cases ex1 with
   |normal=>
    obtain⟨rfl,rfl⟩:=ab7 (abV e);exact hQ a1 w1 X1 R1 S1
   |exit eH=>
    simp only at e;simp only[SV,Exit.inBlock]
    split at e
    ·rename_i bZ
     obtain⟨rfl,rfl⟩:=ab7 (abV e);rw[if_pos bZ];exact hQ a1 w1 X1 R1 S1
    ·rename_i bZ
     obtain⟨rfl,rfl⟩:=ab7 (abV e);rw[if_neg bZ];exact hQ a1 w1 X1 R1 S1
   |ret=>
    obtain⟨rfl,rfl⟩:=ab7 (abV e);exact hQ a1 w1 X1 R1 S1
 |loop c ih=>
  intro s s' ex a w X Q hc e R hQ
  simp only[codeOk]at hc;simp only[bW]at e
  have key:∀(m:Nat) {s:St} {a:Act} {w:World} {X:List (Nat×Nat)},iter (bW C run n c) m s=some (ex,s')->SR N w F X s a->(∀a' w' X',SR N w' F X' s' a'->eD w s.h X w' s'.h X'->Q (SV ex) a' w')->Code.rounds C.P c Q m a w:=by
   intro m
   induction m with
   |zero=>intro s a w X e;simp[iter]at e
   |succ m ihm=>
    intro s a w X e R hQ
    simp only[iter]at e;rw[rounds_succ]
    cases hx:bW C run n c s with
    |none=>rw[hx]at e;cases e
    |some r=>
     obtain⟨ex1,s1⟩:=r;rw[hx]at e;refine ih hc hx R (λa1 w1 X1 R1 S1=>?_)
     cases ex1 with
     |normal=>exact ihm e R1 (λa2 w2 X2 R2 S2=>hQ a2 w2 X2 R2 (S1.trans S2))
     |exit id=>
      obtain⟨rfl,rfl⟩:=ab7 (abV e);exact hQ a1 w1 X1 R1 S1
     |ret=>
      obtain⟨rfl,rfl⟩:=ab7 (abV e);exact hQ a1 w1 X1 R1 S1
  exact wp_loop_rounds n (key n e R hQ)
 |scope c ih=>
  intro s s' ex a w X Q hc e R hQ
  simp only[codeOk]at hc;simp only[bW]at e;refine wp_scope_straight (ih hc e R (λa1 w1 X1 R1 S1=>?_))
  cases ex <;>exact hQ a1 w1 X1 R1 S1
 |_=>
  intro s s' ex a w X Q hc e R hQ
  simp[bW]at e
def vu(r:ResultVar)(tmps:Array Value):Sem Value:=
 match r with
 | .tmp t=>pure (tmps.getD t undef)
 | .cell a t=>do loadVar t (<-asAddr (tmps.getD a undef))
theorem uc{P:Program}{w:World}{F:Nat->Prop}{X:List (Nat×Nat)}{h:ab}{a:Act}{O:Nat->PV}(H:bo w F X h)(R:iI w (Av F h X) X h a O):∀(l:List ResultVar) (vs:List PV),dy P h O l=some vs->
  ∃us:List Value,(l.mapM (λr=>vu r a.tmps)).run P w=.ok us w/\L2 (aE w (Av F h X) X h) us vs
 |[],vs,e=>by
  simp[dy]at e;subst e;exact⟨[],by simp,rfl,λj hj=>by simp at hj⟩
 |r::l,vs,e=>by
  simp only[dy]at e
  split at e
  ·rename_i v HU h1 h2
   obtain rfl:=abV e;obtain⟨us,u1,u2,u3⟩:=uc H R l HU h2
   have one:∃u,(vu r a.tmps).run P w=.ok u w/\aE w (Av F h X) X h u v:=by
    cases r with
    |tmp t=>
     obtain rfl:=abV h1;exact⟨_,rfl,R t⟩
    |cell x t=>
     obtain⟨u,k1,k2⟩:=Ff (P:=P) H (R x) h1;refine⟨u,?_,k2⟩;rw[<-k1];unfold vu Instr.loadAt;simp only[Sem.run_bind];unfold Instr.loadAt at k1;simp only[Sem.run_bind]at k1;generalize a.tmps.getD x undef=y at k1 ⊢
     cases y with
     |pointer p=>
      cases p with
      |some ad=>simp[Instr.sureAddr,asAddr]
      |none=>simp[Instr.sureAddr]at k1
     |_=>simp[Instr.sureAddr]at k1
   obtain⟨u,o1,o2⟩:=one;refine⟨u::us,?_,by simp[u2],λj hj=>?_⟩;simp only[List.mapM_cons,Sem.run_bind,o1,u1,Result.andThen_ok,Sem.run_pure]
   ·cases j with
    |zero=>simpa using o2
    |succ j=>simpa using u3 j (by simpa using hj)
  cases e
theorem wg{P:Program}{w:World}{F:Nat->Prop}{X:List (Nat×Nat)}{h:ab}{a:Act}{O:Nat->PV}(H:bo w F X h)(R:iI w (Av F h X) X h a O)(fn:Func){vs:List PV}(e:dy P h O fn.results.toList=some vs):
  ∃u,(results fn a.tmps).run P w=.ok u w/\aE w (Av F h X) X h u (aR vs):=by
 obtain⟨us,u1,u2,u3⟩:=uc (P:=P) H R _ _ e
 have gz:(fn.results.mapM (λr=>vu r a.tmps)).run P w=.ok us.toArray w:=by
  rw[<-Array.toArray_toList (xs:=fn.results),List.mapM_toArray];simp only[Sem.run_map,u1,Result.andThen_ok]
 refine⟨if h:us.toArray.size=1 then us.toArray[0]else .tuple us.toArray,?_,?_⟩
 ·have:results fn a.tmps=(do let vs<-fn.results.mapM (λr=>vu r a.tmps);pure (if h:vs.size=1 then vs[0]else .tuple vs)):=by
   unfold results vu
   rfl
  rw[this];simp only[Sem.run_bind,gz,Result.andThen_ok,Sem.run_pure]
 ·match us,vs,u2 with
  |[],[],_=>exact .cA [] [] rfl (λj hj=>by simp at hj)
  |[u],[v],_=>simpa[aR]using u3 0 (by simp)
  |u1::u2::us,v1::v2::vs,hl=>
   have:¬((u1::u2::us).toArray.size=1):=by simp
   rw[dif_neg this];exact .cA _ _ hl u3
structure qL(C:cW):Prop where
 Dy:∀(f:FuncId) (fn:Func) (c:Code),(C.mode f=.pure\/C.mode f=.opened)->C.P.funcs[f]?=some fn->fn.body=some c->codeOk fn.ntmps c=true
 mixed:C.P.follows .mixedOrders=true
theorem LX{C:cW}(K:gB C)(KC:qL C){run:iR}(S:ir C run){n:Nat}{f:FuncId}(hf:C.mode f=.pure\/C.mode f=.opened):fT C.P f (pQ C run n f):=by
 intro args h r h' e w F X vs H ha
 unfold pQ at e
 split at e
 ·rename_i fn Qn
  split at e
  ·rename_i c hc
   have main:∀(ex:Ex) (s:St),bW C run n c ⟨nw args,h⟩=some (ex,s)->(ex=.normal\/ex=.ret)->(∃vs,dy C.P s.h s.O fn.results.toList=some vs/\r=aR vs/\h'=s.h)->na C.P 2 w F X h f vs r h':=by
    rintro ex s nJ hex ⟨rs,hrs,rfl,rfl⟩;refine calls_of_wp Qn hc ?_;have hlen:=ha.1
    have R:SR fn.ntmps w F X ⟨nw args,h⟩ {tmps:=vs.toArray++Array.replicate (fn.ntmps - vs.toArray.size) undef,defers:=[]}:=by
     refine⟨H,λt=>?_,rfl,by simp;omega⟩;show aE w (Av F h X) X h ((vs.toArray++Array.replicate (fn.ntmps - vs.toArray.size) undef).getD t Go.undef) (args.getD t .undef)
     by_cases ht:t<args.length
     ·have e1:(vs.toArray++Array.replicate (fn.ntmps - vs.toArray.size) undef).getD t Go.undef=vs.getD t Go.undef:=by
       rw[adt,ad1,if_pos (by simp;omega)];simp[List.getD]
      have e2:args.getD t .undef=args.getD t .any:=by simp[List.getD,ht]
      rw[e1,e2];exact ha.2 t ht
     ·have e1:(vs.toArray++Array.replicate (fn.ntmps - vs.toArray.size) undef).getD t Go.undef=Go.undef:=by
       rw[adt,ad1];rw[if_neg (by simp;omega)];rw[aee]
       split <;>rfl
      have e2:args.getD t .undef=.undef:=by simp[List.getD,ach (show args.length<=t by omega)]
      rw[e1,e2];exact .undef
    refine Fs K KC.mixed S c (KC.Dy f fn c hf Qn hc) nJ R (λa' w' X' R' S'=>?_);obtain⟨u,r1,r2⟩:=wg (P:=C.P) R'.hr R'.er fn hrs;rcases hex with rfl |rfl;exact⟨R'.df,u,r1,u,X',rfl,r2,R'.hr,S',λhh=>by omega⟩;exact⟨R'.df,u,r1,u,X',rfl,r2,R'.hr,S',λhh=>by omega⟩
   cases nJ:bW C run n c ⟨nw args,h⟩with
   |none=>rw[nJ]at e;cases e
   |some x=>
    obtain⟨ex,s⟩:=x;rw[nJ]at e
    have fin:(match dy C.P s.h s.O fn.results.toList with |some vs=>some (aR vs,s.h)|none=>none)=some (r,h')->∃vs,dy C.P s.h s.O fn.results.toList=some vs/\r=aR vs/\h'=s.h:=by
     intro e
     split at e
     ·rename_i rs hrs
      obtain⟨rfl,rfl⟩:=ab7 (abV e);exact⟨rs,hrs,rfl,rfl⟩
     cases e
    cases ex with
    |normal=>exact main .normal s nJ (.inl rfl) (fin e)
    |ret=>exact main .ret s nJ (.inr rfl) (fin e)
    |exit id=>cases e
  cases e
 cases e
theorem xL{C:cW}(K:gB C)(KC:qL C):∀n,ir C (fF C n)
 |0=>λf _ args h r h' e=>by cases e
 |n+1=>λf hf=>LX K KC (xL K KC n) hf
theorem BC{C:cW}(K:gB C)(KC:qL C){n:Nat}{f:FuncId}(hf:C.mode f=.pure\/C.mode f=.opened){args:List PV}{r:PV}(e:pR C n f args=some r)
  {w:World} {A:Nat->Prop} (hA:∀b,A b->b<w.heap.size) {vs:List Value} (ha:L2 (cu w A) vs args):
  Calls C.P f vs.toArray w λen w'=>∃v,en=.returned v/\cu w' A v r/\dN w w':=by
 unfold pR at e
 split at e
 ·rename_i r0 hc h1
  cases h2:AK hc r0 with
  |none=>rw[h2]at e;cases e
  |some r1=>
   rw[h2]at e;obtain rfl:=abV e;have hAv:∀b,Av A [] [] b↔A b:=λb=>⟨λh=>h.elim id (λh=>absurd h (xM b)),.inl⟩
   have iB:L2 (aE w (Av A [] []) [] []) vs args:=⟨ha.1,λj hj=>.val ((ha.2 j hj).wz (λb hb=>(hAv b).1 hb))⟩;refine(xL K KC n f hf args [] r0 hc h1 w A [] vs (bo.empty w A hA) iB).mono ?_;rintro en w' ⟨v,X',rfl,q1,q2,q3,_⟩;refine⟨v,rfl,?_,vF q3⟩;refine(IM q2 (λb _ hb ha=>hb (.inl ha)) q1 h2 (λid o bc m1 m2 m3=>?_)).cj;rcases m3 with m3 |m3;exact q2.out id o bc m1 m2 (.inl m3);exact q2.out id o bc m1 m2 (.inr m3)
 cases e
end Go.Pm
