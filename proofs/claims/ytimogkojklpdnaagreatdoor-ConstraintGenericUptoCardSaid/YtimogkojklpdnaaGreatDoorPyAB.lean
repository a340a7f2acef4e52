/-
  Pm, a part. Conditions: none.
-/
import Derived.Test.YtimogkojklpdnaaGreatDoorPyAA
import Derived.Laws.BytesArg
import Derived.MapKept
set_option linter.unusedVariables false
set_option linter.unusedSimpArgs false
set_option linter.unnecessarySimpa false
set_option linter.unusedSectionVars false
namespace Go.Pm
variable[iD:Inhabited Prop]
theorem pO{R:Nat->Value->Prop}:∀(n:Nat),(∀j,j<n->∃u,R j u)->∃vs:List Value,vs.length=n/\∀j,j<n->R j (vs.getD j undef)
 |0,_=>⟨[],rfl,λj hj=>absurd hj (Nat.not_lt_zero _)⟩
 |n+1,h=>by
  obtain⟨vs,hl,hr⟩:=pO n (λj hj=>h j (by omega));obtain⟨u,hu⟩:=h n (by omega);refine⟨vs++[u],by simp[hl],λj hj=>?_⟩
  by_cases hjn:j<n
  ·have:(vs++[u]).getD j undef=vs.getD j undef:=by simp[List.getD,aa3 (show j<vs.length by omega)]
   rw[this];exact hr j hjn
  ·obtain rfl:j=n:=by omega
   have:(vs++[u]).getD j undef=u:=by simp[List.getD,<-hl]
   rw[this];exact hu
theorem getM_some{h:ab}{id ep:Nat}{o:au}(e:getM h id ep=some o):h[id]?=some o/\o.ep=ep/\o.mu≠.x:=by
 unfold getM at e
 split at e
 ·rename_i o' ho
  split at e
  ·rename_i hc
   obtain rfl:=aa2 e;exact⟨ho,hc.1,hc.2⟩
  cases e
 cases e
theorem db{h:ab}{Z:List (Nat×Nat)}(hl:Z.length=h.length){id:Nat}{o:au}(e:h[id]?=some o):∃bc,Z[id]?=some bc:=by
 have:id<h.length:=by
  rcases abJ id h.length with h1 |h1;exact h1;rw[abl h1]at e;cases e
 exact⟨Z[id]'(by omega),aa6 (by omega)⟩
theorem ag{α:Type}{l:List α}{i:Nat}{x:α}(h:l[i]?=some x):i<l.length:=by
 rcases abJ i l.length with h1 |h1;exact h1;rw[abl h1]at h;cases h
theorem Mb.lt{w:World}{F:Nat->Prop}{Z:List (Nat×Nat)}{h:ab}(H:ba w F Z h){b:Nat}(m:Mb h Z b):b<w.heap.size:=by
 obtain⟨id,o,bc,e1,e2,e3,rfl⟩:=m;exact(H.obj id o bc e1 e2 (by rw[e3];simp)).lt
theorem Av.lt{w:World}{F:Nat->Prop}{Z:List (Nat×Nat)}{h:ab}(H:ba w F Z h){b:Nat}(m:Av F h Z b):b<w.heap.size:=by
 rcases m with m |m;exact H.fin b m;exact Mb.lt H m
structure dD(w w':World):Prop where
 size:w.heap.size<=w'.heap.size
 aR:∀b,b<w.heap.size->w'.heap[b]?=w.heap[b]?
 os:w'.os=w.os
 tape:w'.tape=w.tape
 output:w'.output=w.output
 drawn:Vi->w.drawn<=w'.drawn
theorem dD.refl(w:World):dD w w:=⟨aa5 _,λ_ _=>rfl,rfl,rfl,rfl,λ_=>aa5 _⟩
theorem dD.trans{a b c:World}(x:dD a b)(y:dD b c):dD a c:=
 ⟨abQ x.size y.size,λk hk=>(y.aR k (abO hk x.size)).trans (x.aR k hk),y.os.trans x.os,y.tape.trans x.tape,y.output.trans x.output,λd=>abQ (x.drawn d) (y.drawn d)⟩
theorem dD.alloc(w:World)(o:Obj):dD w (w.alloc o):=⟨by simp,λb hb=>heap_alloc_old w o b hb,rfl,rfl,rfl,λ_=>aa5 _⟩
theorem dD.drew(w:World):dD w w.drew:=⟨aa5 _,λ_ _=>rfl,rfl,rfl,rfl,λ_=>acX _⟩
theorem dD.Cy{w w':World}(g:dD w w')(h:ab)(Z:List (Nat×Nat)):dU w h Z w' h Z where
 size:=g.size
 len:=aa5 _
 aR b hb _:=g.aR b hb
 shr _ _ m:=m
 refs:=Ie.refl h Z
 Lk id o h1 _:=⟨h1,rfl⟩
 os:=g.os
 tape:=g.tape
 output:=g.output
 drawn:=g.drawn
theorem jK.mono{w w':World}{F:Nat->Prop}{h h':ab}{Z Z':List (Nat×Nat)}(s:dU w h Z w' h' Z'){o:au}{bc:Nat×Nat}(hb:w'.heap[bc.1]?=w.heap[bc.1]?)
  (r:jK w (Av F h Z) Z h o bc):jK w' (Av F h' Z') Z' h' o bc:=by
 rcases r with⟨T,cs,h1,h2,h3,h4,h5⟩|⟨h0,es,clock,h1,h2,h3⟩
 ·refine .inl ⟨T,cs,hb.trans h1,h2,h3,h4,λi e he=>⟨(h5 i e he).1,λj p hp=>?_⟩⟩;obtain⟨v,k1,k2⟩:=(h5 i e he).2 j p hp;exact⟨v,k1,k2.mono s⟩
 ·refine .inr ⟨h0,es,clock,hb.trans h1,h2,λi e he=>?_⟩;obtain⟨k,v,m,q1,q2,q3,q4⟩:=h3 i e he;exact⟨k,v,m,q1,q2,q3.mono s,q4.mono s⟩
theorem ba.I3{w w':World}{F:Nat->Prop}{Z:List (Nat×Nat)}{h:ab}(H:ba w F Z h)(g:dD w w'):ba w' F Z h where
 len:=H.len
 fin b hb:=abO (H.fin b hb) g.size
 obj id o bc e1 e2 e3:=by
  have r:=H.obj id o bc e1 e2 e3;exact jK.mono (g.Cy h Z) (g.aR _ r.lt) r
 gY:=H.gY
 out:=H.out
 fA:=H.fA.Cy (g.Cy h Z)
theorem ba.Yl{w w':World}{F:Nat->Prop}{Z:List (Nat×Nat)}{h:ab}(H:ba w F Z h)(ob:Obj)(o:au)(cap:Nat)
  (hw:w'.heap=w.heap.push ob) (ho:w'.os=w.os) (ht:w'.tape=w.tape) (hu:w'.output=w.output)
  (hm:o.mu=.m)
  (hR:dU w h Z w' (h++[o]) (Z++[(w.heap.size,cap)])->w'.heap[w.heap.size]?=some ob->jK w' (Av F (h++[o]) (Z++[(w.heap.size,cap)])) (Z++[(w.heap.size,cap)]) (h++[o]) o (w.heap.size,cap))
  (hd:Vi->w.drawn<=w'.drawn:=by first |exact λ_=>aa5 _ |exact λ_=>acX _):
  ba w' F (Z++[(w.heap.size,cap)]) (h++[o])/\dU w h Z w' (h++[o]) (Z++[(w.heap.size,cap)]):=by
 have gC:w'.heap.size=w.heap.size+1:=by rw[hw];simp
 have hold:∀b,b<w.heap.size->w'.heap[b]?=w.heap[b]?:=λb hb=>by rw[hw,Array.getElem?_push,if_neg (by omega)]
 have F3:w'.heap[w.heap.size]?=some ob:=by rw[hw];simp
 have hlen:=H.len
 have hC:∀id,id<h.length->(h++[o])[id]?=h[id]?/\(Z++[(w.heap.size,cap)])[id]?=Z[id]?:=λid hid=>
  ⟨aa3 hid,aa3 (by omega)⟩
 have at_new:(h++[o])[h.length]?=some o/\(Z++[(w.heap.size,cap)])[h.length]?=some (w.heap.size,cap):=by
  constructor
  simp;rw[<-hlen];simp
 have split:∀id (o':au) (cK:Nat×Nat),(h++[o])[id]?=some o'->(Z++[(w.heap.size,cap)])[id]?=some cK->
   (id<h.length/\h[id]?=some o'/\Z[id]?=some cK)\/(id=h.length/\o'=o/\cK=(w.heap.size,cap)):=by
  intro id o' cK e1 e2
  by_cases hid:id<h.length
  ·left;rw[(hC id hid).1]at e1;rw[(hC id hid).2]at e2;exact⟨hid,e1,e2⟩
  ·right
   have:id<(h++[o]).length:=ag e1;obtain rfl:id=h.length:=by simp at this;omega
   rw[at_new.1]at e1;rw[at_new.2]at e2;exact⟨rfl,(aa2 e1).symm,(aa2 e2).symm⟩
 have hs:dU w h Z w' (h++[o]) (Z++[(w.heap.size,cap)]):=by
  refine⟨by omega,by simp,λb hb _=>hold b hb,?_,?_,?_,ho,ht,hu,hd⟩
  ·rintro b hb ⟨id,o',cK,e1,e2,e3,rfl⟩;rcases split id o' cK e1 e2 with⟨_,f1,f2⟩|⟨_,rfl,rfl⟩;exact⟨id,o',cK,f1,f2,e3,rfl⟩;simp at hb
  ·intro id o' cK e1 e2 e3
   have hid:=ag e1;exact⟨o',cK,by rw[(hC id hid).1];exact e1,by rw[(hC id hid).2];exact e2,e3,⟨aa5 _,λh=>h⟩,λ_=>⟨rfl,λ_=>rfl,rfl⟩⟩
  ·intro id o' e1 _
   have hid:=ag e1;exact⟨by rw[(hC id hid).1];exact e1,(hC id hid).2⟩
 refine⟨⟨by simp[hlen],λb hb=>by have:=H.fin b hb;omega,?_,?_,?_,H.fA.Cy hs⟩,hs⟩
 ·intro id o' cK e1 e2 e3
  rcases split id o' cK e1 e2 with⟨_,f1,f2⟩|⟨_,rfl,rfl⟩
  ·have r:=H.obj id o' cK f1 f2 e3;exact jK.mono hs (hold _ r.lt) r
  exact hR hs F3
 ·intro id dF o1 o2 HX xp bN e1 e2 e3 e4 m1 m2
  rcases split id o1 HX e1 e3 with⟨_,f1,f2⟩|⟨hid,rfl,rfl⟩ <;>rcases split dF o2 xp e2 e4 with⟨_,g1,g2⟩|⟨Qw,rfl,rfl⟩
  exact H.gY id dF o1 o2 HX xp bN f1 g1 f2 g2 m1 m2
  ·have:=Mb.lt H ⟨id,o1,HX,f1,f2,m1,rfl⟩;simp;omega
  ·have:=(H.obj dF o2 xp g1 g2 m2).lt;simp;omega
  omega
 ·intro id o' cK e1 e2 e3
  rcases split id o' cK e1 e2 with⟨_,f1,f2⟩|⟨_,rfl,rfl⟩;exact H.out id o' cK f1 f2 e3
  intro hf;have:=H.fin _ hf;simp at this
theorem ba.new{w w':World}{F:Nat->Prop}{Z:List (Nat×Nat)}{h:ab}(H:ba w F Z h)(T:TypeId)(cs:Array Value)(o:au)(cap:Nat)
  (hw:w'.heap=w.heap.push (.cells cs T)) (ho:w'.os=w.os) (ht:w'.tape=w.tape) (hu:w'.output=w.output)
  (hm:o.mu=.m) (h1:o.es.length<=cap) (h2:cap * o.bA<=cs.size) (h3:0<o.bA)
  (h4:∀(i:Nat) (e:PV),o.es[i]?=some e->(cells e).length=o.bA/\∀(j:Nat) (p:PV),(cells e)[j]?=some p->∃v:Value,cs[i * o.bA+j]?=some v/\aE w (Av F h Z) Z h v p)
  (hd:Vi->w.drawn<=w'.drawn:=by first |exact λ_=>aa5 _ |exact λ_=>acX _):
  ba w' F (Z++[(w.heap.size,cap)]) (h++[o])/\dU w h Z w' (h++[o]) (Z++[(w.heap.size,cap)]):=
 H.Yl (.cells cs T) o cap hw ho ht hu hm (λhs F3=>.inl ⟨T,cs,F3,h1,h2,h3,λi e he=>⟨(h4 i e he).1,λj p hp=>by
  obtain⟨v,k1,k2⟩:=(h4 i e he).2 j p hp;exact⟨v,k1,k2.mono hs⟩⟩⟩) hd
theorem ba.Vj{w:World}{F:Nat->Prop}{Z:List (Nat×Nat)}{h:ab}(H:ba w F Z h):
  ba (w.alloc (.map #[] 0)) F (Z++[(w.heap.size,0)]) (newObj h 0 [])/\dU w h Z (w.alloc (.map #[] 0)) (newObj h 0 []) (Z++[(w.heap.size,0)]):=
 H.Yl (w':=w.alloc (.map #[] 0)) (.map #[] 0) {mu:=.m,ep:=0,bA:=0,es:=[]} 0 rfl rfl rfl rfl rfl (λhs F3=>.inr ⟨rfl,#[],0,F3,rfl,λi e he=>by simp at he⟩)
theorem ba.Ym{w w':World}{F:Nat->Prop}{Z:List (Nat×Nat)}{h:ab}(H:ba w F Z h){id:Nat}{o:au}{bc:Nat×Nat}(eo:h[id]?=some o)(eb:Z[id]?=some bc)(em:o.mu=.m)
  (es':List PV) (h9:Nat) (cK:Nat×Nat)
  (gC:w.heap.size<=w'.heap.size) (rC:∀b,b<w.heap.size->b≠bc.1->w'.heap[b]?=w.heap[b]?)
  (nJ:(cK=bc/\(o.ep=h9->es'.length=o.es.length\/o.bA=0))\/(w.heap.size<=cK.1/\o.ep<h9))
  (MA:o.ep<=h9) (ho:w'.os=w.os) (ht:w'.tape=w.tape) (hu:w'.output=w.output)
  (hR:dU w h Z w' (h.set id {o with es:=es',ep:=h9}) (Z.set id cK)->jK w' (Av F (h.set id {o with es:=es',ep:=h9}) (Z.set id cK)) (Z.set id cK) (h.set id {o with es:=es',ep:=h9}) {o with es:=es',ep:=h9} cK)
  (hd:Vi->w.drawn<=w'.drawn:=by first |exact λ_=>aa5 _ |exact λ_=>acX _):
  ba w' F (Z.set id cK) (h.set id {o with es:=es',ep:=h9})/\dU w h Z w' (h.set id {o with es:=es',ep:=h9}) (Z.set id cK):=by
 have hlen:=H.len;have hid:=ag eo;have aaO:bc.1<w.heap.size:=Mb.lt H ⟨id,o,bc,eo,eb,em,rfl⟩;have mT:(h.set id {o with es:=es',ep:=h9})[id]?=some {o with es:=es',ep:=h9}:=by simp[hid]
 have bself:(Z.set id cK)[id]?=some cK:=by simp[hlen,hid]
 have ke:∀k,k≠id->(h.set id {o with es:=es',ep:=h9})[k]?=h[k]?:=λk hk=>aa8 (abW hk)
 have both:∀k,k≠id->(Z.set id cK)[k]?=Z[k]?:=λk hk=>aa8 (abW hk)
 have hs:dU w h Z w' (h.set id {o with es:=es',ep:=h9}) (Z.set id cK):=by
  refine⟨gC,by simp,λb hb hm=>rC b hb (λe=>hm ⟨id,o,bc,eo,eb,em,e.symm⟩),?_,?_,?_,ho,ht,hu,hd⟩
  ·rintro b hb ⟨k,o',c',e1,e2,e3,rfl⟩
   by_cases hk:k=id
   ·subst hk;rw[bself]at e2;obtain rfl:=aa2 e2;rcases nJ with⟨rfl,_⟩|⟨z7,_⟩;exact⟨k,o,cK,eo,eb,em,rfl⟩;omega
   ·rw[ke k hk]at e1;rw[both k hk]at e2;exact⟨k,o',c',e1,e2,e3,rfl⟩
  ·intro k o' c' e1 e2 e3
   by_cases hk:k=id
   ·subst hk;rw[eo]at e1;rw[eb]at e2;obtain rfl:=aa2 e1;obtain rfl:=aa2 e2;refine⟨_,cK,mT,bself,by rw[em];simp,⟨MA,λh=>h⟩,λe=>⟨rfl,?_,?_⟩⟩
    ·intro hz
     rcases nJ with⟨_,hl⟩|⟨_,cL⟩;exact(hl e).resolve_right (by omega);simp at e;omega
    ·rcases nJ with⟨hl,_⟩|⟨_,cL⟩
     ·exact hl
     ·simp at e;omega
   exact⟨o',c',by rw[ke k hk];exact e1,by rw[both k hk];exact e2,e3,⟨aa5 _,λh=>h⟩,λ_=>⟨rfl,λ_=>rfl,rfl⟩⟩
  ·intro k o' e1 e2
   have hk:k≠id:=by
    rintro rfl;rw[eo]at e1;obtain rfl:=aa2 e1;exact e2 em
   exact⟨by rw[ke k hk];exact e1,both k hk⟩
 refine⟨⟨by simp[hlen],λb hb=>abO (H.fin b hb) gC,?_,?_,?_,H.fA.Cy hs⟩,hs⟩
 ·intro k o' c' e1 e2 e3
  by_cases hk:k=id
  ·subst hk;rw[mT]at e1;rw[bself]at e2;obtain rfl:=aa2 e1;obtain rfl:=aa2 e2;exact hR hs
  ·rw[ke k hk]at e1;rw[both k hk]at e2;have r:=H.obj k o' c' e1 e2 e3;exact jK.mono hs (rC _ r.lt (λe=>H.gY id k o o' bc c' (abW hk) eo e1 eb e2 em e3 e.symm)) r
 ·intro k k' o1 o2 HX xp bN e1 e2 e3 e4 m1 m2
  by_cases hk:k=id
  ·subst hk;have gf:k'≠k:=abW bN;rw[ke k' gf]at e2;rw[both k' gf]at e4;rw[bself]at e3;obtain rfl:=aa2 e3;rcases nJ with⟨rfl,_⟩|⟨z7,_⟩;exact H.gY k k' o o2 cK xp bN eo e2 eb e4 em m2
   ·have:=(H.obj k' o2 xp e2 e4 m2).lt;omega
  ·rw[ke k hk]at e1;rw[both k hk]at e3
   by_cases gf:k'=id
   ·subst gf;rw[bself]at e4;obtain rfl:=aa2 e4;rcases nJ with⟨rfl,_⟩|⟨z7,_⟩;exact λe=>H.gY k' k o o1 cK HX (abW bN) eo e1 eb e3 em (by rw[m1];simp) e.symm
    ·have:=Mb.lt H ⟨k,o1,HX,e1,e3,m1,rfl⟩;omega
   ·rw[ke k' gf]at e2;rw[both k' gf]at e4;exact H.gY k k' o1 o2 HX xp bN e1 e2 e3 e4 m1 m2
 ·intro k o' c' e1 e2 e3
  by_cases hk:k=id
  ·subst hk;rw[bself]at e2;obtain rfl:=aa2 e2;rcases nJ with⟨rfl,_⟩|⟨z7,_⟩;exact H.out k o cK eo eb (.inl em)
   intro hf;have:=H.fin _ hf;omega
  ·rw[ke k hk]at e1;rw[both k hk]at e2;exact H.out k o' c' e1 e2 e3
theorem ba.set{w w':World}{F:Nat->Prop}{Z:List (Nat×Nat)}{h:ab}(H:ba w F Z h){id:Nat}{o:au}{bc:Nat×Nat}(eo:h[id]?=some o)(eb:Z[id]?=some bc)(em:o.mu=.m)
  (T:TypeId) (cs:Array Value) (es':List PV) (h9:Nat) (cK:Nat×Nat)
  (gC:w.heap.size<=w'.heap.size) (cC:w'.heap[cK.1]?=some (.cells cs T (0,0))) (rC:∀b,b<w.heap.size->b≠bc.1->w'.heap[b]?=w.heap[b]?)
  (nJ:(cK=bc/\(o.ep=h9->es'.length=o.es.length))\/(w.heap.size<=cK.1/\o.ep<h9))
  (MA:o.ep<=h9) (ho:w'.os=w.os) (ht:w'.tape=w.tape) (hu:w'.output=w.output)
  (h1:es'.length<=cK.2) (h2:cK.2 * o.bA<=cs.size)
  (h4:∀(i:Nat) (e:PV),es'[i]?=some e->(cells e).length=o.bA/\∀(j:Nat) (p:PV),(cells e)[j]?=some p->∃v:Value,cs[i * o.bA+j]?=some v/\aE w (Av F h Z) Z h v p)
  (hd:Vi->w.drawn<=w'.drawn:=by first |exact λ_=>aa5 _ |exact λ_=>acX _) (hz0:0<o.bA:=by first |assumption |omega):
  ba w' F (Z.set id cK) (h.set id {o with es:=es',ep:=h9})/\dU w h Z w' (h.set id {o with es:=es',ep:=h9}) (Z.set id cK):=by
 have Vk:0<o.bA:=hz0
 exact H.Ym eo eb em es' h9 cK gC rC (nJ.imp (λh=>⟨h.1,λe=>.inl (h.2 e)⟩) (λh=>h)) MA ho ht hu (λhs=>.inl ⟨T,cs,cC,h1,h2,Vk,λi e he=>⟨(h4 i e he).1,λj p hp=>by
  obtain⟨v,k1,k2⟩:=(h4 i e he).2 j p hp;exact⟨v,k1,k2.mono hs⟩⟩⟩) hd
theorem ba.X9{w:World}{F A:Nat->Prop}{Z:List (Nat×Nat)}{h:ab}(H:ba w F Z h){v:Value}{id ep off len:Nat}(hv:∃(a:Option Addr) (l c:Nat),v=.slice a l c)(hid:id<h.length)(MA:∀o:au,h[id]?=some o->ep<=o.ep/\0<o.bA)
  (hx:∀o:au,h[id]?=some o->o.mu≠.x)
  (hc:∀(o:au) (bc:Nat×Nat),h[id]?=some o->Z[id]?=some bc->o.ep=ep->off+len<=o.es.length->∃cap,v=.slice (some ⟨bc.1,off * o.bA,none⟩) len cap/\off+cap=bc.2):aE w A Z h v (.aj id ep off len):=by
 have ho:=aa6 hid;obtain⟨bc,hb⟩:=db H.len ho;exact .aj v id ep off len _ bc hv ho hb (hx _ ho) (MA _ ho) (hc _ bc ho hb)
theorem ba.v7{w w':World}{F A:Nat->Prop}{Z:List (Nat×Nat)}{h:ab}(H:ba w F Z h){b cap len sz:Nat}{es:List PV}(hz:0<sz:=by first |assumption |omega):
  aE w' A (Z++[(b,cap)]) (newObj h sz es) (.slice (some ⟨b,0,none⟩) len cap) (.aj h.length 0 0 len):=
 .aj _ _ _ _ _ {mu:=.m,ep:=0,bA:=sz,es} (b,cap) ⟨_,_,_,rfl⟩ (by simp[newObj]) (by rw[<-H.len];simp) (by simp) ⟨acu _,hz⟩ (λ_ _=>⟨cap,by simp,by simp⟩)
theorem ba.Vl{w w':World}{F A:Nat->Prop}{Z:List (Nat×Nat)}{h:ab}(H:ba w F Z h){b cap sz:Nat}{es:List PV}(hz:0<sz:=by first |assumption |omega):
  aE w' A (Z++[(b,cap)]) (newObj h sz es) (.pointer (some ⟨b,0,none⟩)) (.ptr h.length 0 0 0):=
 .ptr _ _ _ _ _ {mu:=.m,ep:=0,bA:=sz,es} (b,cap) ⟨_,rfl⟩ (by simp[newObj]) (by rw[<-H.len];simp) (by simp) ⟨acu _,hz⟩ (λ_=>by simp)
theorem ba.Ig{w w':World}{F A:Nat->Prop}{Z:List (Nat×Nat)}{h:ab}(H:ba w F Z h){id:Nat}{o:au}(eo:h[id]?=some o)(em:o.mu=.m){b cap len ep:Nat}{es:List PV}(hz:0<o.bA:=by first |assumption |omega):
  aE w' A (Z.set id (b,cap)) (h.set id {o with es:=es,ep:=ep}) (.slice (some ⟨b,0,none⟩) len cap) (.aj id ep 0 len):=
 .aj _ _ _ _ _ {o with es:=es,ep:=ep} (b,cap) ⟨_,_,_,rfl⟩ (by simp[ag eo]) (by simp[H.len,ag eo]) (by simp[em]) ⟨aa5 _,hz⟩ (λ_ _=>⟨cap,by simp,by simp⟩)
def BM(P:Program)(lv:Nat)(w:World)(F:Nat->Prop)(Z:List (Nat×Nat))(h:ab)(s:Sem Value)(p:PV)(h':ab):Prop:=
 ∃v w' Z',s.run P w=.ok v w'/\aE w' (Av F h' Z') Z' h' v p/\ba w' F Z' h'/\dU w h Z w' h' Z'/\(lv<=1->dD w w')
theorem BM.still{P:Program}{lv:Nat}{w:World}{F:Nat->Prop}{Z:List (Nat×Nat)}{h:ab}(H:ba w F Z h){s:Sem Value}{p:PV}{v:Value}(e:s.run P w=.ok v w)(r:aE w (Av F h Z) Z h v p):
  BM P lv w F Z h s p h:=⟨v,w,Z,e,r,H,dU.refl w h Z,λ_=>dD.refl w⟩
variable{P:Program}{w:World}{F:Nat->Prop}{Z:List (Nat×Nat)}{h:ab}
theorem cI{t:TypeId}{n:Nat}(e:cw P t=some n)(w:World):(sizeOf t).run P w=.ok n w:=by
 unfold cw at e
 cases hi:P.info? t with
 |none=>rw[hi]at e;simp at e
 |some i=>rw[hi]at e;simp at e;subst e;simp[sizeOf,typeInfo,hi]
theorem bR{t:TypeId}{d:TypeDesc}(e:P.underlying t=some d)(w:World):(underlying t).run P w=.ok d w:=by simp[underlying,e]
theorem tn{t:TypeId}{b:Bool}(e:IV P t=some b)(w:World):(isAgg t).run P w=.ok b w:=by
 unfold IV at e
 cases hu:P.underlying t with
 |none=>rw[hu]at e;simp at e
 |some d=>
  rw[hu]at e;simp at e;subst e;simp only[isAgg,Sem.run_bind,bR hu,Result.andThen_ok]
  split <;>rename_i h <;>simp_all
theorem IE(w:World)(A:Nat->Prop)(Z:List (Nat×Nat))(h:ab)(v:Value):aE w A Z h v (Xc v):=by
 unfold Xc
 split
 exact .val (.int _ _);exact .val (.bool _);exact .val (.str _);exact .val (.gp none 0 true (λ_=>rfl));exact .val .eJ;exact .val .aI;exact .val .gL;exact .any _
theorem GO(w:World)(A:Nat->Prop)(Z:List (Nat×Nat))(h:ab)(v:Value):aE w A Z h v (cv v):=by
 unfold cv
 split
 ·rename_i cs
  have:=aE.agg (w:=w) (A:=A) (Z:=Z) (h:=h) cs.toList (cs.toList.map Xc) (by simp) (λj hj=>by
   have E2:j<cs.toList.length:=by simpa using hj
   simp only[List.getD,abm];rw[aa6 E2];simpa using IE w A Z h _)
  simpa using this
 exact IE w A Z h _
theorem uv{t:TypeId}{z:PV}(e:je P t=some z)(w:World)(A:Nat->Prop)(Z:List (Nat×Nat))(h:ab):∃v,(zeroValue t).run P w=.ok v w/\aE w A Z h v z:=by
 unfold je at e
 cases hi:P.info? t with
 |none=>rw[hi]at e;simp at e
 |some i=>
  rw[hi]at e;simp only[Option.bind_some]at e
  cases hz:i.zero with
  |none=>rw[hz]at e;simp at e
  |some v=>
   rw[hz]at e;simp at e;subst e;exact⟨v,by simp[zeroValue,typeInfo,hi,hz],GO w A Z h v⟩
theorem aE.cells{A:Nat->Prop}{v:Value}{p:PV}(hv:aE w A Z h v p)(hp:(Pm.cells p).all bC=true):
  v.cells.size=(Pm.cells p).length/\(∀(j:Nat) (q:PV),(Pm.cells p)[j]?=some q->∃u:Value,v.cells[j]?=some u/\aE w A Z h u q/\u.oneCell'=true):=by
 have one:∀(u:Value) (q:PV),aE w A Z h u q->bC q=true->u.oneCell'=true/\u.cells= #[u]:=by
  intro u q r ho
  cases r with
  |val hs=>cases hs <;>first |exact⟨rfl,rfl⟩|simp[bC]at ho
  |undef=>simp[bC]at ho
  |any=>simp[bC]at ho
  |aj v id ep off len o bc h0=>obtain⟨a,l,c,rfl⟩:=h0;exact⟨rfl,rfl⟩
  |ptr v id ep i off o bc h0=>obtain⟨a,rfl⟩:=h0;exact⟨rfl,rfl⟩
  |cM v id o bc h0=>obtain⟨a,rfl⟩:=h0;exact⟨rfl,rfl⟩
  |agg=>simp[bC]at ho
  |cy=>simp[bC]at ho
  |fn=>exact⟨rfl,rfl⟩
  |nK=>exact⟨rfl,rfl⟩
 have single:(∀cs,p≠.agg cs)->v.cells.size=(Pm.cells p).length/\(∀(j:Nat) (q:PV),(Pm.cells p)[j]?=some q->∃u:Value,v.cells[j]?=some u/\aE w A Z h u q/\u.oneCell'=true):=by
  intro LJ
  have hc:Pm.cells p=[p]:=by cases p <;>first |rfl |exact absurd rfl (LJ _)
  rw[hc]at hp ⊢;obtain⟨h1,h2⟩:=one v p hv (by simpa using hp);rw[h2];refine⟨rfl,λj q hq=>?_⟩
  cases j with
  |zero=>simp at hq;subst hq;exact⟨v,rfl,hv,h1⟩
  |succ j=>simp at hq
 cases p with
 |agg cs=>
  obtain⟨vs,rfl,hl,hr⟩:=hv.sc;refine⟨by simpa[Value.cells,Pm.cells]using hl,λj q hq=>?_⟩;have hq':cs[j]?=some q:=hq;have hj:=ag hq';have uL:j<vs.length:=by omega
  have QN:=hr j hj;have e1:vs.getD j Go.undef=vs[j]:=by simp[List.getD,uL]
  have e2:cs.getD j .any=q:=by simp[List.getD,hq']
  rw[e1,e2]at QN;have ho:bC q=true:=aa4.1 hp q (abh hq');exact⟨vs[j],by simp[Value.cells,uL],QN,(one _ _ QN ho).1⟩
 |_=>exact single (λcs=>by simp)
theorem AX(H:ba w F Z h){v:Value}{p:PV}{cs:List PV}(hv:aE w (Av F h Z) Z h v p)(e:cR h p=some cs):
  ∃b off,(cs≠[]->v=.pointer (some ⟨b,off,none⟩))/\∀(j:Nat) (q:PV),cs[j]?=some q->∃u:Value,w.cell? ⟨b,off+j,none⟩=some u/\aE w (Av F h Z) Z h u q:=by
 unfold cR at e
 split at e
 ·rename_i jx
  obtain rfl:=aa2 e;have hs:=hv.tq
  cases hs with
  |eg b off _ oP h1 h2 h3 h4=>
   refine⟨b,off,λ_=>rfl,λj q hq=>?_⟩;have hj:=ag hq;refine⟨oP j,h3 j hj,?_⟩;have:=h4 j hj;rw[abt,hq]at this;exact .val this
 ·rename_i id ep i off
  split at e
  ·rename_i o ho
   obtain⟨e1,e2,e3⟩:=getM_some ho
   split at e
   ·rename_i el cz
    obtain rfl:=aa2 e;obtain⟨bc,hb⟩:=db H.len e1;obtain⟨h1,h2,h3⟩:=hv.Bt;have:=h3 o bc e1 hb e3 e2;obtain⟨T,cs,k1,k2,k3,k4,k5⟩:=(H.obj id o bc e1 hb e3).c (h2 o e1).2;refine⟨bc.1,i * o.bA+off,λ_=>this,λj q hq=>?_⟩;rw[abI]at hq;obtain⟨u,m1,m2⟩:=(k5 i el cz).2 (off+j) q hq;refine⟨u,?_,m2⟩;rw[cell_of_row w bc.1 _ cs T (0,0) k1,acF];exact m1
   cases e
  cases e
 cases e
theorem eW(b off n:Nat):(⟨b,off,none⟩:Addr).add n=⟨b,off+n,none⟩:=by unfold Addr.add;split <;>simp_all
theorem yq(w:World)(b off n:Nat)(R:Nat->Value->Prop)(hc:∀j,j<n->∃u,w.cell? ⟨b,off+j,none⟩=some u/\R j u):
  ∃vs:List Value,vs.length=n/\(loadCells ⟨b,off,none⟩ n).run P w=.ok vs.toArray w/\∀j,j<n->R j (vs.getD j undef):=by
 obtain⟨vs,hl,hr⟩:=pO n hc;refine⟨vs,hl,?_,λj hj=>(hr j hj).2⟩
 have:=run_loadCells_list (P:=P) (w:=w) ⟨b,off,none⟩ vs (λj v hv=>by
  have hj:=ag hv;rw[eW];have:=(hr j (by omega)).1;rwa[abt,hv]at this)
 rwa[hl]at this
theorem Ek(H:ba w F Z h){v:Value}{p q:PV}{t:TypeId}(hv:aE w (Av F h Z) Z h v p)(e:iK P h t p=some q):
  ∃u,(Instr.loadAt t v).run P w=.ok u w/\aE w (Av F h Z) Z h u q:=by
 unfold iK at e
 split at e
 ·rename_i sz cs h1 h2 h3
  split at e
  ·rename_i hle
   obtain rfl:=aa2 e;obtain⟨b,off,k1,k2⟩:=AX H hv h3
   by_cases hn:cs=[]
   subst hn;simp at hle;omega
   ·have hle:=hle.2;rw[k1 hn]
    obtain⟨vs,l1,l2,l3⟩:=yq (P:=P) w b off sz (λj u=>aE w (Av F h Z) Z h u (cs.getD j .any)) (λj hj=>by
     have E2:j<cs.length:=by omega
     obtain⟨u,m1,m2⟩:=k2 j cs[j] (aa6 E2);exact⟨u,m1,by simpa[List.getD,E2]using m2⟩)
    refine⟨.agg vs.toArray,?_,?_⟩;simp only[Instr.loadAt,Instr.sureAddr,Sem.run_bind,Sem.run_pure,Result.andThen_ok,loadVar,tn h2,cI h1,l2,if_true]
    ·refine .agg vs _ (by simp;omega) (λj hj=>?_);simp at hj;have:=l3 j (by omega);simpa[List.getD,abn,show j<sz by omega]using this
  cases e
 ·rename_i sz cs h1 h2 h3
  obtain⟨b,off,k1,k2⟩:=AX H hv h3
  cases cs with
  |nil=>simp at e
  |cons c r=>
   simp at e;subst e;obtain⟨u,m1,m2⟩:=k2 0 c rfl;rw[k1 (by simp)];refine⟨u,?_,m2⟩;simp only[Instr.loadAt,Instr.sureAddr,Sem.run_bind,Sem.run_pure,Result.andThen_ok,loadVar,tn h2,abi,if_false,run_load];rw[show(⟨b,off,none⟩:Addr)=⟨b,off+0,none⟩ by simp,m1]
 cases e
theorem tu{s:TypeId}{f off:Nat}{ft:TypeId}(e:pd P s f=some (off,ft))(a:Addr)(w:World):
  (Instr.fieldAt s (.pointer (some a)) f).run P w=.ok (.pointer (some (a.add off))) w:=by
 unfold pd at e
 split at e
 ·rename_i fs hu
  split at e
  ·rename_i fl hf
   split at e
   ·rename_i sz hs
    split at e
    cases e
    ·rename_i hz
     simp at e;obtain⟨rfl,rfl⟩:=e;simp[Instr.fieldAt,bR hu,hf,Instr.sureAddr,fieldPlace,cI hs,hz]
   cases e
  cases e
 cases e
theorem zD(H:ba w F Z h){v:Value}{p q:PV}{s:TypeId}{f:Nat}(hv:aE w (Av F h Z) Z h v p)(e:gu P s p f=some q):
  ∃u,(Instr.fieldAt s v f).run P w=.ok u w/\aE w (Av F h Z) Z h u q:=by
 unfold gu at e
 split at e
 ·rename_i off ft cs h1
  split at e
  ·rename_i cL
   obtain rfl:=aa2 e;have hs:=hv.tq
   cases hs with
   |eg b o _ oP k1 k2 k3 k4=>
    refine⟨_,tu h1 _ w,?_⟩;rw[eW];refine .val (.eg b (o+off) _ (λj=>oP (off+j)) ?_ k2 (λj hj=>?_) (λj hj=>?_))
    ·intro hn
     have:=congrArg List.length hn;simp at this;omega
    ·simp at hj;have:=k3 (off+j) (by omega);rwa[<-acF]at this
    ·simp at hj;have:=k4 (off+j) (by omega);simpa[List.getD,abI]using this
  cases e
 ·rename_i off ft id ep i o h1
  obtain rfl:=aa2 e
  cases hv with
  |val hs=>cases hs
  |ptr _ _ _ _ _ oo bc h0 k1 k2 k3 k4 k5=>
   obtain⟨a,rfl⟩:=h0;refine⟨_,tu h1 _ w,.ptr _ id ep i (o+off) oo bc ⟨_,rfl⟩ k1 k2 k3 k4 (λn4=>?_)⟩;have:=k5 n4;simp at this;rw[this,eW,acF]
 cases e
theorem aE.part{A:Nat->Prop}{v:Value}{cs:List PV}(hv:aE w A Z h v (.agg cs)){t:TypeId}{off:Nat}{q:PV}(e:wm P t cs off=some q):
  ∃vs:Array Value,v=.agg vs/\∃u,(part t vs off).run P w=.ok u w/\aE w A Z h u q:=by
 obtain⟨vs,rfl,hl,hr⟩:=hv.sc;refine⟨vs.toArray,rfl,?_⟩;unfold wm at e
 split at e
 ·rename_i sz h1 h2
  split at e
  ·rename_i hle
   obtain rfl:=aa2 e;refine⟨.agg ((vs.drop off).take sz).toArray,?_,.agg _ _ (by simp;omega) (λj hj=>?_)⟩
   ·simp only[Go.part,Sem.run_bind,tn h1,cI h2,Result.andThen_ok,if_true,Sem.run_pure]
    congr 2
    apply acy;simp[List.extract_eq_take_drop]
   ·simp at hj;have:=hr (off+j) (by omega);simpa[List.getD,abn,abI,show j<sz by omega]using this
  cases e
 ·rename_i sz h1 h2
  split at e
  ·rename_i c hc
   obtain rfl:=aa2 e;have hj:=ag hc;have:=hr off hj;refine⟨vs[off]'(by omega),?_,?_⟩;simp[Go.part,tn h1,show off<vs.length by omega];simpa[List.getD,hc,show off<vs.length by omega]using this
  cases e
 cases e
theorem Kw{v:Value}{p q:PV}{s:TypeId}{f:Nat}{A:Nat->Prop}(hv:aE w A Z h v p)(e:Bl P s p f=some q):
  ∃u,(Instr.field s v f).run P w=.ok u w/\aE w A Z h u q:=by
 unfold Bl at e
 split at e
 ·rename_i fs cs hu
  split at e
  ·rename_i fl hf
   obtain⟨vs,rfl,u,h1,h2⟩:=hv.part e;exact⟨u,by simp[Instr.field,bR hu,asAgg,hf,h1],h2⟩
  cases e
 cases e
theorem Kx{v vi:Value}{p i q:PV}{t:TypeId}{A:Nat->Prop}(hv:aE w A Z h v p)(hi:aE w A Z h vi i)(e:wo P t p i=some q):
  ∃u,(Instr.index t v vi).run P w=.ok u w/\aE w A Z h u q:=by
 unfold wo at e
 split at e
 ·rename_i n el cs k i hu
  obtain rfl:=hi.dT
  split at e
  ·rename_i sz hs
   split at e
   ·rename_i hc
    obtain⟨vs,rfl,u,h1,h2⟩:=hv.part e;exact⟨u,by simp[Instr.index,asIntOf,bR hu,hc,cI hs,h1],h2⟩
   cases e
  cases e
 ·rename_i s k i hu
  obtain rfl:=hi.dT;obtain rfl:=hv.j9
  split at e
  ·rename_i hc
   split at e
   ·rename_i b hb
    obtain rfl:=aa2 e;exact⟨_,by simp[Instr.index,asIntOf,bR hu,hc,hb],.val (.int _ _)⟩
   cases e
  cases e
 cases e
theorem bZ.kj{A:Nat->Prop}{v:Value}{full:Bool}{es:List PV}(hv:bZ w A v (.aa full es)):∃a cap,v=.slice a es.length cap/\es.length<=cap/\(full=true->cap=es.length):=by
 cases hv with
 |gp a cap _ hf=>exact⟨a,cap,rfl,acu _,hf⟩
 |aa b off cap sz _ _ oP h1 h2 h3=>exact⟨_,cap,rfl,h2,h3⟩
theorem zE(H:ba w F Z h){v vi:Value}{p i q:PV}{t:TypeId}(hv:aE w (Av F h Z) Z h v p)(hi:aE w (Av F h Z) Z h vi i)(e:cF P h t p i=some q):
  ∃u,(Instr.indexAt t v vi).run P w=.ok u w/\aE w (Av F h Z) Z h u q:=by
 unfold cF at e
 split at e
 ·rename_i el full es k i hu
  obtain rfl:=hi.dT
  split at e
  ·rename_i sz hs
   split at e
   ·rename_i hc
    split at e
    ·rename_i x hx
     split at e
     ·rename_i hz
      obtain rfl:=aa2 e;have cL:=ag hx;have WZ:=hv.fK
      cases WZ with
      |gp=>simp at cL
      |aa b off cap HJ _ _ oP k1 k2 k3 k4 k5 k6 k7 k8=>
       have gC:HJ=sz:=by
        have:=k6 i.toNat cL;rw[abt,hx]at this;exact this.symm.trans hz.2
       subst gC;refine⟨.pointer (some ⟨b,off+i.toNat * HJ,none⟩),?_,.val (.eg b _ _ (oP i.toNat) ?_ k4 (λj hj=>?_) (λj hj=>?_))⟩;simp[Instr.indexAt,asIntOf,bR hu,hc,cI hs,eW]
       intro hn;rw[hn]at hz;simp at hz;omega
       rw[acF];exact k7 _ j cL (by omega)
       ·have:=k8 i.toNat j cL (by omega);rwa[abt (l:=es),hx]at this
     cases e
    cases e
   cases e
  cases e
 ·rename_i el id ep off len k i hu
  obtain rfl:=hi.dT
  split at e
  ·rename_i sz o hs ho
   split at e
   ·rename_i hc
    obtain rfl:=aa2 e;obtain⟨e1,e2,e3⟩:=getM_some ho;obtain⟨bc,hb⟩:=db H.len e1;obtain⟨h1,h2,h3⟩:=hv.dL;obtain⟨cap,rfl,k2⟩:=h3 o bc e1 hb e3 e2 hc.2.2.2;obtain⟨Vs,FP,rfl,hc4⟩:=hc;refine⟨.pointer (some ⟨bc.1,off * o.bA+i.toNat * o.bA,none⟩),?_,.ptr _ id ep _ 0 o bc ⟨_,rfl⟩ e1 hb e3 (h2 o e1) (λn4=>?_)⟩;simp[Instr.indexAt,asIntOf,bR hu,Vs,FP,cI hs,eW];rw[abX];simp
   cases e
  cases e
 ·rename_i n el cs k i hu
  obtain rfl:=hi.dT
  split at e
  ·rename_i sz hs
   split at e
   ·rename_i hc
    obtain rfl:=aa2 e;have WZ:=hv.tq
    cases WZ with
    |eg b off _ oP k1 k2 k3 k4=>
     refine⟨.pointer (some ⟨b,off+i.toNat * sz,none⟩),?_,.val (.eg b _ _ (λj=>oP (i.toNat * sz+j)) ?_ k2 (λj hj=>?_) (λj hj=>?_))⟩;simp[Instr.indexAt,asIntOf,bR hu,hc.1,hc.2.1,cI hs,eW,Instr.sureAddr]
     ·intro hn
      have:=congrArg List.length hn;simp at this;omega
     ·simp at hj;have:=k3 (i.toNat * sz+j) (by omega);rwa[<-acF]at this
     ·simp at hj;have:=k4 (i.toNat * sz+j) (by omega);simpa[List.getD,abI]using this
   cases e
  cases e
 ·rename_i n el id ep kk o k i hu
  obtain rfl:=hi.dT
  split at e
  ·rename_i sz hs
   split at e
   ·rename_i hc
    obtain rfl:=aa2 e
    cases hv with
    |val hs=>cases hs
    |ptr _ _ _ _ _ oo bc h0 k1 k2 k3 k4 k5=>
     obtain⟨a,rfl⟩:=h0;refine⟨.pointer (some (a.add (i.toNat * sz))),?_,.ptr _ id ep kk _ oo bc ⟨_,rfl⟩ k1 k2 k3 k4 (λn4=>?_)⟩;simp[Instr.indexAt,asIntOf,bR hu,hc.1,hc.2,cI hs,Instr.sureAddr]
     ·have:=k5 n4;simp at this;rw[this,eW,acF]
   cases e
  cases e
 cases e
theorem AQ{h:ab}{id:Nat}{o:au}(e:CL h id=some o):h[id]?=some o/\o.ep=0/\o.mu≠.x/\o.bA=0:=by
 unfold CL at e
 split at e
 ·rename_i o' ho
  split at e
  ·rename_i hz
   obtain rfl:=aa2 e;obtain⟨h1,h2,h3⟩:=getM_some ho;exact⟨h1,h2,h3,hz⟩
  cases e
 cases e
theorem Ov(H:ba w F Z h){v:Value}{id:Nat}{o:au}(hv:aE w (Av F h Z) Z h v (.cM id))(ho:CL h id=some o):
  ∃(bc:Nat×Nat) (es:Array MapEntry) (clock:Nat),v=.map (some bc.1)/\w.heap[bc.1]?=some (.map es clock)/\es.size=o.es.length/\
   (∀(i:Nat) (e:PV),o.es[i]?=some e->∃(k v:PV) (m:MapEntry),e=.agg [k,v]/\es[i]?=some m/\aE w (Av F h Z) Z h m.key k/\aE w (Av F h Z) Z h m.val v):=by
 obtain⟨e1,e2,e3,e4⟩:=AQ ho;obtain⟨bc,hb⟩:=db H.len e1;obtain⟨_,es,clock,k1,k2,k3⟩:=(H.obj id o bc e1 hb e3).m e4;exact⟨bc,es,clock,hv.Eb e1 hb e2,k1,k2,k3⟩
theorem lO{b clock:Nat}{es:Array MapEntry}(e:w.heap[b]?=some (.map es clock)):(getObj b).run P w=.ok (.map es clock) w:=by simp[getObj,Sem.run,e]
theorem RM(H:ba w F Z h){v:Value}{p q:PV}{t:TypeId}{ts:Array TypeId}{ty:TypeId}{rest:List Value}(ht:ts[0]?=some t)(hv:aE w (Av F h Z) Z h v p)(e:pe P h t p=some q):
  (∃u,(Builtin.len_ ts ty (v::rest).toArray).run P w=.ok u w/\aE w (Av F h Z) Z h u q):=by
 unfold pe at e
 split at e
 ·rename_i s hu
  obtain rfl:=aa2 e;obtain rfl:=hv.j9;exact⟨_,by simp[Builtin.len_,ht,bR hu,goInt],.val (.int _ _)⟩
 ·rename_i n el hu
  obtain rfl:=aa2 e;refine⟨_,?_,.val (.int _ _)⟩
  cases v <;>simp[Builtin.len_,ht,bR hu,goInt]
 ·rename_i el full es hu
  obtain rfl:=aa2 e;obtain⟨a,cap,rfl,_⟩:=hv.fK.kj;exact⟨_,by simp[Builtin.len_,ht,bR hu,goInt],.val (.int _ _)⟩
 ·rename_i hu
  obtain rfl:=aa2 e;obtain rfl:=hv.D9;exact⟨_,by simp[Builtin.len_,ht,bR hu,goInt],.val (.int _ _)⟩
 ·rename_i kt et id hu
  split at e
  ·rename_i o ho
   obtain rfl:=aa2 e;obtain⟨bc,es,clock,k1,k2,k3,k4⟩:=Ov H hv ho;subst k1;exact⟨_,by simp[Builtin.len_,ht,bR hu,goInt,lO k2,k3],.val (.int _ _)⟩
  cases e
 ·rename_i el id ep off len hu
  split at e
  ·rename_i o ho
   split at e
   ·rename_i hle
    obtain rfl:=aa2 e;obtain⟨e1,e2,e3⟩:=getM_some ho;obtain⟨bc,hb⟩:=db H.len e1;obtain⟨h1,h2,h3⟩:=hv.dL;obtain⟨cap,rfl,k2⟩:=h3 o bc e1 hb e3 e2 hle;exact⟨_,by simp[Builtin.len_,ht,bR hu,goInt],.val (.int _ _)⟩
   cases e
  cases e
 cases e
theorem gJ{α:Type}(l m:List α)(a k:Nat)(hl:a+m.length<=l.length):
  (l.take a++m++l.drop (a+m.length))[k]?=if k<a then l[k]? else if k<a+m.length then m[k - a]? else l[k]?:=by
 by_cases h1:k<a
 rw[if_pos h1,abu,aa3 (by simp;omega),abn,if_pos h1]
 ·rw[if_neg h1]
  by_cases h2:k<a+m.length
  ·rw[if_pos h2,abu,abd (by simp;omega)];have:(List.take a l).length=a:=by simp;omega
   rw[this,aa3 (by omega)]
  ·rw[if_neg h2,abd (by simp;omega),abI]
   congr 1
   simp;omega
theorem Ci(off sz:Nat)(e v:PV)(hv:(Pm.cells v).length=sz):Pm.cells (eZ off sz e v)=(Pm.cells e).take off++Pm.cells v++(Pm.cells e).drop (off+sz):=by
 unfold eZ
 split
 ·rename_i hc
  obtain⟨rfl,h2⟩:=hc;simp[h2]
 rfl
theorem kO{i k s:Nat}(h:i<k):i * s+s<=k * s:=by
 have:=abN s (show i+1<=k from h);rwa[abX,Nat.one_mul]at this
theorem V1{A:Nat->Prop}{u:Value}{q:PV}(r:aE w A Z h u q)(ho:bC q=true):u.oneCell'=true:=by
 cases r with
 |val hs=>cases hs <;>first |rfl |simp[bC]at ho
 |undef=>simp[bC]at ho
 |any=>simp[bC]at ho
 |aj v id ep off len o bc h0=>obtain⟨a,l,c,rfl⟩:=h0;rfl
 |ptr v id ep i off o bc h0=>obtain⟨a,rfl⟩:=h0;rfl
 |cM v id o bc h0=>obtain⟨a,rfl⟩:=h0;rfl
 |agg=>simp[bC]at ho
 |cy=>simp[bC]at ho
 |fn=>rfl
 |nK=>rfl
theorem Ky(H:ba w F Z h){v vx:Value}{p x:PV}{t:TypeId}{h':ab}(hv:aE w (Av F h Z) Z h v p)(hx:aE w (Av F h Z) Z h vx x)(e:gV P h t p x=some h'):
  ∃w' Z',(Instr.storeAt t v vx).run P w=.ok () w'/\ba w' F Z' h'/\dU w h Z w' h' Z':=by
 unfold gV at e
 split at e
 ·rename_i id ep i off sz hs
  split at e
  ·rename_i o ho
   split at e
   ·rename_i el cz
    split at e
    ·rename_i hc
     obtain⟨c1,c2,c3,c4⟩:=hc;obtain rfl:=aa2 e;obtain⟨e1,e2,e3⟩:=getM_some ho;obtain⟨bc,hb⟩:=db H.len e1;obtain⟨h1,h2,h3⟩:=hv.Bt;obtain rfl:=h3 o bc e1 hb e3 e2;obtain⟨T,cs,k1,k2,k3,k4,k5⟩:=(H.obj id o bc e1 hb e3).c (h2 o e1).2;obtain⟨x1,x2⟩:=hx.cells c3;have hi:=ag cz;have pB:=k5 i el cz;have E6:i * o.bA+o.bA<=cs.size:=abQ (kO hi) (abQ (abN _ k2) k3);have nq:i * o.bA+off+0+vx.cells.toList.length<=cs.size:=by simp[x1,c2];omega
     have AJ:=run_storeCells_at P bc.1 (i * o.bA+off) T vx.cells.toList 0 cs w k1 nq (λu hu=>by
      obtain⟨j,hj⟩:=ab6 hu;have hjl:=ag hj;simp only[ach]at hjl;obtain⟨u',m1,m2,m3⟩:=x2 j (Pm.cells x)[j] (aa6 (by omega));have:vx.cells[j]?=some u:=by simpa using hj
      rw[m1]at this;obtain rfl:=aa2 this;exact m3)
     simp only[acA]at AJ;have hlen:vx.cells.toList.length=sz:=by simp[x1,c2]
     rw[hlen]at AJ;refine⟨w.setRow bc.1 (cs.toList.take (i * o.bA+off)++vx.cells.toList++cs.toList.drop (i * o.bA+off+sz)).toArray,Z,?_,?_⟩
     ·simp only[Instr.storeAt,Instr.sureAddr,Sem.run_bind,Sem.run_pure,Result.andThen_ok,storeVar,cI hs];rw[if_neg (by simp[x1,c2])];exact AJ
     ·have hZ:Z=Z.set id bc:=by
       apply ab8
       intro k
       by_cases hk:k=id
       subst hk;rw[aa7 (by have:=H.len;have:=ag e1;omega)];exact hb;rw[aa8 (abW hk)]
      have:=ba.set H e1 hb c1 (w':=w.setRow bc.1 (cs.toList.take (i * o.bA+off)++vx.cells.toList++cs.toList.drop (i * o.bA+off+sz)).toArray) T
       (cs.toList.take (i * o.bA+off)++vx.cells.toList++cs.toList.drop (i * o.bA+off+sz)).toArray (o.es.set i (eZ off sz el x)) o.ep bc (by simp)
       (setRow_heap w bc.1 cs _ T (0,0) k1) (λb hb bN=>setRow_other w bc.1 b _ bN) (.inl ⟨rfl,λ_=>by simp⟩) (aa5 _) rfl rfl rfl (by simpa using k2)
       (by simp;omega) (λi' e' W3=>?_)
      ·rw[<-hZ]at this;exact this
      ·by_cases QT:i'=i
       ·subst QT;rw[aa7 hi]at W3;obtain rfl:=aa2 W3;rw[Ci _ _ _ _ c2];refine⟨by simp[c2,pB.1];omega,λj q hq=>?_⟩;have c2':=c2.symm;subst c2';rw[gJ _ _ _ _ (by omega)]at hq
        have key:(cs.toList.take (i' * o.bA+off)++vx.cells.toList++cs.toList.drop (i' * o.bA+off+(Pm.cells x).length)).toArray[i' * o.bA+j]?=if j<off then cs[i' * o.bA+j]? else if j<off+(Pm.cells x).length then vx.cells[j - off]? else cs[i' * o.bA+j]?:=by
         rw[acK,<-hlen,gJ _ _ _ _ (by rw[hlen];simp;omega),hlen]
         by_cases q1:j<off
         rw[if_pos (by omega),if_pos q1];simp
         ·rw[if_neg (by omega),if_neg q1]
          by_cases q2:j<off+(Pm.cells x).length
          ·rw[if_pos (by omega),if_pos q2];rw[show i' * o.bA+j - (i' * o.bA+off)=j - off by omega];simp
          rw[if_neg (by omega),if_neg q2];simp
        rw[key]
        split at hq
        ·rename_i cL
         obtain⟨u,m1,m2⟩:=pB.2 j q hq;exact⟨u,by simp[cL,m1],m2⟩
        ·rename_i z7
         split at hq
         ·rename_i cL
          obtain⟨u,m1,m2,m3⟩:=x2 (j - off) q hq;exact⟨u,by rw[if_neg z7,if_pos cL];exact m1,m2⟩
         ·rename_i aaq
          obtain⟨u,m1,m2⟩:=pB.2 j q hq;exact⟨u,by rw[if_neg z7,if_neg aaq];exact m1,m2⟩
       ·rw[aa8 (abW QT)]at W3;obtain⟨q1,q2⟩:=k5 i' e' W3;refine⟨q1,λj q hq=>?_⟩;obtain⟨u,m1,m2⟩:=q2 j q hq;refine⟨u,?_,m2⟩;have hj:j<o.bA:=by rw[<-q1];exact ag hq
        rw[acK,<-hlen,gJ _ _ _ _ (by rw[hlen];simp;omega),hlen];rcases Nat.lt_or_gt_of_ne QT with hl |hg
        ·have:=kO (s:=o.bA) hl;rw[if_pos (by omega)];simpa using m1
        ·have:=kO (s:=o.bA) hg;rw[if_neg (by omega),if_neg (by omega)];simpa using m1
    cases e
   cases e
  cases e
 cases e
theorem IF{lv:Nat}(H:ba w F Z h){vx:Value}{x:PV}(t:TypeId)(hx:aE w (Av F h Z) Z h vx x)(h1:(Pm.cells x).all bC=true)(h2:0<(Pm.cells x).length):
  BM P lv w F Z h (Instr.box t vx) (.ptr h.length 0 0 0) (newObj h (Pm.cells x).length [x]):=by
 obtain⟨x1,x2⟩:=hx.cells h1
 obtain⟨HH,S⟩:=ba.new H (w':=w.alloc (.cells vx.cells t)) t vx.cells {mu:=.m,ep:=0,bA:=(Pm.cells x).length,es:=[x]} 1 rfl rfl rfl rfl rfl (by simp) (by simp[x1]) h2 (λi e he=>by
  cases i with
  |zero=>
   simp at he;subst he;refine⟨rfl,λj p hp=>?_⟩;obtain⟨u,m1,m2,m3⟩:=x2 j p hp;exact⟨u,by simpa using m1,m2⟩
  |succ i=>simp at he)
 refine⟨.pointer (some ⟨w.heap.size,0,none⟩),_,_,rfl,H.Vl h2,HH,S,λ_=>dD.alloc w _⟩
theorem Kz{lv:Nat}(H:ba w F Z h){z:PV}(t:TypeId)(e:je P t=some z)(h1:(Pm.cells z).all bC=true)(h2:0<(Pm.cells z).length):
  BM P lv w F Z h (Instr.alloc t true (.tuple #[])) (.ptr h.length 0 0 0) (newObj h (Pm.cells z).length [z]):=by
 obtain⟨v,hz,hr⟩:=uv e w (Av F h Z) Z h;obtain⟨u,w',Z',r1,r2⟩:=IF (P:=P) (lv:=lv) H t hr h1 h2;refine⟨u,w',Z',?_,r2⟩;simp only[Instr.alloc,Sem.run_bind,hz,Result.andThen_ok];exact r1
def Flat(w:World)(A:Nat->Prop)(Z:List (Nat×Nat))(h:ab)(sz:Nat)(cs:List Value)(es:List PV):Prop:=
 cs.length=es.length * sz/\∀(i:Nat) (e:PV),es[i]?=some e->(Pm.cells e).length=sz/\∀(j:Nat) (q:PV),(Pm.cells e)[j]?=some q->∃u:Value,cs[i * sz+j]?=some u/\aE w A Z h u q
theorem Flat.nil(w:World)(A:Nat->Prop)(Z:List (Nat×Nat))(h:ab)(sz:Nat):Flat w A Z h sz [] []:=⟨by simp,λi e he=>by simp at he⟩
theorem Flat.append{A:Nat->Prop}{sz:Nat}{cs jx:List Value}{es es':List PV}(a:Flat w A Z h sz cs es)(b:Flat w A Z h sz jx es'):Flat w A Z h sz (cs++jx) (es++es'):=by
 refine⟨by simp[a.1,b.1,abX],λi e he=>?_⟩
 by_cases hi:i<es.length
 ·rw[aa3 hi]at he;obtain⟨h1,h2⟩:=a.2 i e he;refine⟨h1,λj q hq=>?_⟩;obtain⟨u,k1,k2⟩:=h2 j q hq;exact⟨u,by rw[aa3 (ag k1)];exact k1,k2⟩
 ·rw[abd (by omega)]at he;obtain⟨h1,h2⟩:=b.2 _ e he;refine⟨h1,λj q hq=>?_⟩;obtain⟨u,k1,k2⟩:=h2 j q hq;refine⟨u,?_,k2⟩;have hm:i * sz=(i - es.length) * sz+es.length * sz:=by rw[<-abX];congr 1;omega
  rw[abd (by rw[a.1,hm];omega),a.1,hm];rw[show(i - es.length) * sz+es.length * sz+j - es.length * sz=(i - es.length) * sz+j by omega];exact k1
theorem Flat.take{A:Nat->Prop}{sz:Nat}{cs:List Value}{es:List PV}(a:Flat w A Z h sz cs es)(n:Nat)(hn:n<=es.length):Flat w A Z h sz (cs.take (n * sz)) (es.take n):=by
 have hle:n * sz<=es.length * sz:=abN _ hn;refine⟨by simp only[ab7,a.1];rw[acW hn,acW hle],λi e he=>?_⟩;rw[abn]at he
 split at he
 ·rename_i hi
  obtain⟨h1,h2⟩:=a.2 i e he;refine⟨h1,λj q hq=>?_⟩;obtain⟨u,k1,k2⟩:=h2 j q hq;refine⟨u,?_,k2⟩;have hj:=ag hq;have:=kO (s:=sz) hi;rw[abn,if_pos (by omega)];exact k1
 cases he
theorem Flat.RN{A:Nat->Prop}{sz:Nat}{cs:List Value}{es:List PV}(a:Flat w A Z h sz cs es)(hs:0<sz)(ho:es.all (λv=>decide ((Pm.cells v).length=sz)&& (Pm.cells v).all bC)=true):∀u∈cs,u.oneCell'=true:=by
 intro u hu
 obtain⟨k,hk⟩:=ab6 hu;have FU:=ag hk;rw[a.1]at FU;have hi:k / sz<es.length:=(Nat.div_lt_iff_lt_mul hs).2 FU;have cz:=aa6 hi;obtain⟨h1,h2⟩:=a.2 _ _ cz;have hj:k % sz<(Pm.cells es[k / sz]).length:=by rw[h1];exact adz _ hs
 obtain⟨u',m1,m2⟩:=h2 _ _ (aa6 hj);rw[adA,Nat.div_add_mod,hk]at m1;obtain rfl:=aa2 m1;have ek:=aa4.1 ho _ (abF hi);simp only[abb]at ek;exact V1 m2 (aa4.1 ek.2 _ (abF hj))
theorem lJ(H:ba w F Z h){v:Value}{p:PV}{ys:List PV}{sz:Nat}(hv:aE w (Av F h Z) Z h v p)(e:cf h p=some ys)(hz:∀y∈ys,(Pm.cells y).length=sz):
  ∃a cap,v=.slice a ys.length cap/\ys.length<=cap/\∃cs:List Value,Flat w (Av F h Z) Z h sz cs ys/\
   (∀w',w'.heap=w.heap->∀n,n<=ys.length->(Builtin.firstCells sz n v).run P w'=.ok (cs.take (n * sz)).toArray w'):=by
 have main:∀(b off cap:Nat) (R:Nat->Nat->Value->Prop),(∀i j,i<ys.length->j<sz->∃u,w.cell? ⟨b,off+(i * sz+j),none⟩=some u/\R i j u)->
   ∃cs:List Value,cs.length=ys.length * sz/\(∀i j,i<ys.length->j<sz->∃u,cs[i * sz+j]?=some u/\R i j u)/\
    ∀w',w'.heap=w.heap->∀n,n<=ys.length->(Builtin.firstCells sz n (.slice (some ⟨b,off,none⟩) ys.length cap)).run P w'=.ok (cs.take (n * sz)).toArray w':=by
  intro b off cap R hc
  obtain⟨cs,l1,l2⟩:=pO (R:=λk u=>w.cell? ⟨b,off+k,none⟩=some u/\R (k / sz) (k % sz) u) (ys.length * sz) (λk hk=>by
   have hs:0<sz:=by
    rcases Nat.eq_zero_or_pos sz with h0 |h0;subst h0;simp at hk;exact h0
   obtain⟨u,m1,m2⟩:=hc (k / sz) (k % sz) ((Nat.div_lt_iff_lt_mul hs).2 hk) (adz _ hs);refine⟨u,?_,m2⟩;rw[<-m1,adA,Nat.div_add_mod])
  have at_k:∀i j,i<ys.length->j<sz->i * sz+j<ys.length * sz:=λi j hi hj=>by have:=kO (s:=sz) hi;omega
  refine⟨cs,l1,λi j hi hj=>?_,λw' Fe n hn=>?_⟩
  ·have hk:=at_k i j hi hj;have:=(l2 (i * sz+j) hk).2;have hs:0<sz:=by omega
   rw[show(i * sz+j) / sz=i by rw[adA,Nat.mul_add_div hs,Nat.div_eq_of_lt hj,acA],show(i * sz+j) % sz=j by rw[adA,Nat.mul_add_mod,Nat.mod_eq_of_lt hj]]at this;refine⟨cs[i * sz+j]'(by omega),aa6 _,?_⟩;simpa[List.getD,show i * sz+j<cs.length by omega]using this
  ·have hle:n * sz<=ys.length * sz:=abN _ hn
   have:=run_firstCells_some (P:=P) w' sz n ⟨b,off,none⟩ ys.length cap (cs.take (n * sz)) (by simp only[ab7,l1];omega) (λj v hj=>by
    have hjl:=ag hj;simp only[ab7,l1]at hjl;rw[abn,if_pos (by omega)]at hj;have:=(l2 j (by omega)).1;rw[eW,lj (w:=w) (w':=w') (by rw[Fe]),this];simp[List.getD,hj])
   exact this
 unfold cf at e
 split at e
 ·rename_i full es
  obtain rfl:=aa2 e;have hs:=hv.fK
  cases hs with
  |gp a cap _ hf=>
   refine⟨a,cap,rfl,acu _,[],Flat.nil _ _ _ _ _,λw' Fe n hn=>?_⟩
   ·obtain rfl:n=0:=by simpa using hn
    cases a <;>simp[Builtin.firstCells,loadCells,loadCellsFrom]
  |aa b off cap HJ _ _ oP k1 k2 k3 k4 k5 k6 k7 k8=>
   have gC:HJ=sz:=by
    have hp:0<es.length:=acT.2 k1;rw[<-k6 0 hp];apply hz;rw[abt,aa6 hp];exact abF hp
   subst gC;obtain⟨cs,l1,l2,l3⟩:=main b off cap (λi j u=>bZ w (Av F h Z) u ((Pm.cells (es.getD i .any)).getD j .any)) (λi j hi hj=>⟨oP i j,k7 i j hi hj,k8 i j hi hj⟩);refine⟨_,cap,rfl,k2,cs,⟨l1,λi e he=>?_⟩,l3⟩
   ·have hi:=ag he;have e1:es.getD i .any=e:=by simp[List.getD,he]
    have e2:=k6 i hi;rw[e1]at e2;refine⟨e2,λj q hq=>?_⟩;have hj:=ag hq;obtain⟨u,m1,m2⟩:=l2 i j hi (by omega);refine⟨u,m1,?_⟩;rw[e1]at m2;have e3:(Pm.cells e).getD j .any=q:=by simp[List.getD,hq]
    rw[e3]at m2;exact .val m2
 ·rename_i id ep off len
  split at e
  ·rename_i o ho
   split at e
   ·rename_i hle
    obtain rfl:=aa2 e;obtain⟨e1,e2,e3⟩:=getM_some ho;obtain⟨bc,hb⟩:=db H.len e1;obtain⟨h1,h2,h3⟩:=hv.dL;obtain⟨cap,rfl,c2⟩:=h3 o bc e1 hb e3 e2 hle;obtain⟨T,sb,k1,k2,k3,k4,k5⟩:=(H.obj id o bc e1 hb e3).c (h2 o e1).2;have hlen:((o.es.drop off).take len).length=len:=by simp;omega
    have at_i:∀i,i<len->∃e,((o.es.drop off).take len)[i]?=some e/\o.es[off+i]?=some e:=λi hi=>by
     refine⟨o.es[off+i]'(by omega),?_,aa6 (by omega)⟩;rw[abn,if_pos hi,abI];exact aa6 (by omega)
    by_cases Hx:len=0
    ·subst Hx;refine⟨some ⟨bc.1,off * o.bA,none⟩,cap,by simp,by simp,[],by simpa using Flat.nil _ _ _ _ _,λw' Fe n hn=>?_⟩
     ·obtain rfl:n=0:=by simpa using hn
      simp[Builtin.firstCells,loadCells,loadCellsFrom]
    ·have gC:o.bA=sz:=by
      obtain⟨el,m1,m2⟩:=at_i 0 (by omega);rw[<-(k5 _ el m2).1];exact hz el (abh m1)
     subst gC
     obtain⟨cs,l1,l2,l3⟩:=main bc.1 (off * o.bA) cap (λi j u=>∀el q,o.es[off+i]?=some el->(Pm.cells el)[j]?=some q->aE w (Av F h Z) Z h u q) (λi j hi hj=>by
      rw[hlen]at hi;obtain⟨el,m1,m2⟩:=at_i i hi;obtain⟨n1,n2⟩:=k5 _ el m2;obtain⟨u,p1,p2⟩:=n2 j (Pm.cells el)[j] (aa6 (by omega));refine⟨u,?_,λoQ q r1 r2=>?_⟩
      ·rw[cell_of_row w bc.1 _ sb T (0,0) k1,<-acF,<-abX];exact p1
      ·rw[m2]at r1;obtain rfl:=aa2 r1;rw[aa6 (by omega)]at r2;obtain rfl:=aa2 r2;exact p2)
     rw[hlen]at l2 l3 ⊢;refine⟨_,cap,rfl,by omega,cs,⟨by rw[l1,hlen],λi el he=>?_⟩,λw' Fe n hn=>l3 w' Fe n hn⟩
     ·have hi:=ag he;rw[hlen]at hi;obtain⟨oQ,m1,m2⟩:=at_i i hi;rw[m1]at he;obtain rfl:=aa2 he;obtain⟨n1,n2⟩:=k5 _ oQ m2;refine⟨n1,λj q hq=>?_⟩;have hj:=ag hq;obtain⟨u,r1,r2⟩:=l2 i j hi (by omega);exact⟨u,r1,r2 oQ q m2 hq⟩
   cases e
  cases e
 cases e
theorem qC{A:Nat->Prop}{vz:Value}{z:PV}{sz:Nat}(hz:aE w A Z h vz z)(h1:(Pm.cells z).length=sz)(h2:(Pm.cells z).all bC=true)(hs:0<sz)(n:Nat):
  vz.cells.size=sz/\Flat w A Z h sz (List.map (λi=>vz.cells[i % vz.cells.size]!) (List.range (n * sz))) (List.replicate n z):=by
 obtain⟨x1,x2⟩:=hz.cells h2;refine⟨by omega,by simp,λi e he=>?_⟩;have hi:=ag he;simp at hi;rw[List.getElem?_replicate,if_pos hi]at he;obtain rfl:=aa2 he;refine⟨h1,λj q hq=>?_⟩;have hj:=ag hq;obtain⟨u,m1,m2,m3⟩:=x2 j q hq;refine⟨u,?_,m2⟩;have hk:i * sz+j<n * sz:=by have:=kO (s:=sz) hi;omega
 rw[abm,adD hk];simp only[abf];rw[x1,h1,adA,Nat.mul_add_mod,Nat.mod_eq_of_lt (by omega)];rw[getElem!_def,m1]
theorem gS(n:Nat)(f:Nat->Value):((Array.range n).map f)=(List.map f (List.range n)).toArray:=by
 apply acy;simp
theorem rI{t:TypeId}{n:Nat}(e:mA P t=some n):∃i,P.info? t=some i/\i.bytes=n:=by
 unfold mA at e
 cases hi:P.info? t with
 |none=>rw[hi]at e;simp at e
 |some i=>rw[hi]at e;simp at e;exact⟨i,rfl,e⟩
def rJ:TypeDesc->Bool | .int _=>true |_=>false
theorem sS(H:ba w F Z h){e st xt:TypeId}{sz bytes:Nat}{z:PV}{vz x:Value}{px:PV}{ys:List PV}(hs:cw P e=some sz)(hb:mA P e=some bytes)(hz:je P e=some z)(ov:0<sz)(jb:bytes<=65536)
  (hx:aE w (Av F h Z) Z h x px) (ea:cA P h z xt px=some ys) (ek:ys.all (λv=>decide ((Pm.cells v).length=sz)&& (Pm.cells v).all bC)=true):
  ∃zb:Bool,∃d,P.underlying xt=some d/\zb=rJ d/\
   ∃news:List Value,Flat w (Av F h Z) Z h sz news ys/\(∀u∈news,u.oneCell'=true)/\
    (zb=false->(Builtin.lenOf x).run P w=.ok ys.length w/\∀w',w'.heap=w.heap->(Builtin.firstCells sz ys.length x).run P w'=.ok news.toArray w')/\
    (zb=true->∃k,x=.int k ys.length/\ys.length<=1073741824/\∀w',(if ys.length * sz=0 then pure #[]else do pure (Builtin.zeroCells (<-zeroValue e).cells ys.length):Sem (Array Value)).run P w'=.ok news.toArray w'):=by
 unfold cA at ea
 split at ea
 ·rename_i ik k n hu
  split at ea
  ·rename_i hn
   obtain rfl:=aa2 ea;obtain rfl:=hx.dT;obtain⟨vz,r1,r2⟩:=uv hz w (Av F h Z) Z h
   by_cases h0:n.toNat=0
   ·refine⟨true,_,hu,rfl,[],by rw[h0];simpa using Flat.nil w (Av F h Z) Z h sz,by simp,by simp,λ_=>⟨k,by simp;omega,by simp;omega,λw'=>?_⟩⟩;simp[h0]
   ·have uh:=aa4.1 ek z (by simp;omega);simp only[abb,decide_eq_true_eq]at uh;obtain⟨s1,s2⟩:=qC r2 uh.1 uh.2 ov n.toNat;refine⟨true,_,hu,rfl,_,s2,s2.RN ov ek,by simp,λ_=>⟨k,by simp;omega,by simp;omega,λw'=>?_⟩⟩
    have bN:¬(List.replicate n.toNat z).length * sz=0:=by
     rw[acj];exact Nat.mul_ne_zero h0 (by omega)
    have hzr:(zeroValue e).run P w'=.ok vz w':=by
     have:=r1;unfold zeroValue typeInfo at this ⊢;simp only[Sem.run_bind,run_program,Result.andThen_ok]at this ⊢
     cases hi:P.info? e with
     |none=>rw[hi]at this;simp at this
     |some i=>
      rw[hi]at this;simp at this ⊢
      cases hzz:i.zero with
      |none=>rw[hzz]at this;simp at this
      |some v=>rw[hzz]at this;simp at this ⊢;exact this
    rw[if_neg bN];simp only[Sem.run_bind,hzr,Result.andThen_ok,Sem.run_pure,Builtin.zeroCells,gS,acj,s1]
  cases ea
 ·rename_i el hu
  have I7:∀y∈ys,(Pm.cells y).length=sz:=λy hy=>by
   have:=aa4.1 ek y hy;simp only[abb,decide_eq_true_eq]at this;exact this.1
  obtain⟨a,cap,rfl,hle,cs,f1,f2⟩:=lJ (P:=P) H hx ea I7;refine⟨false,_,hu,rfl,cs,f1,f1.RN ov ek,λ_=>⟨by simp[Builtin.lenOf],λw' Fe=>?_⟩,by simp⟩;have:=f2 w' Fe ys.length (aa5 _);rwa[abo (by rw[f1.1];omega)]at this
 cases ea
theorem Flat.obj{A:Nat->Prop}{sz:Nat}{cs rest:List Value}{es:List PV}(a:Flat w A Z h sz cs es)(i:Nat)(e:PV)(he:es[i]?=some e):
  (Pm.cells e).length=sz/\∀(j:Nat) (p:PV),(Pm.cells e)[j]?=some p->∃v:Value,(cs++rest).toArray[i * sz+j]?=some v/\aE w A Z h v p:=by
 obtain⟨h1,h2⟩:=a.2 i e he;refine⟨h1,λj p hp=>?_⟩;obtain⟨u,k1,k2⟩:=h2 j p hp;exact⟨u,by rw[acK,aa3 (ag k1)];exact k1,k2⟩
theorem wrap_small{n:Nat}(h:n<=1073741824):IntKind.i64.wrap (n:Int)=n:=by
 simp[IntKind.wrap,IntKind.bits,IntKind.signed];omega
theorem max_i64:IntKind.i64.max=9223372036854775807:=by decide
theorem yr{n b:Nat}(h:roomy n b=true):n * b<=17592186044416/\n<=17592186044416:=by
 simpa[roomy]using h
theorem my{ts:Array TypeId}{ty st xt e:TypeId}{args:Array Value}{sz sLen sCap n:Nat}{base:Option Addr}{x:Value}{d:TypeDesc}{zb:Bool}{news:List Value}
  (h1:ts[0]?=some st) (h2:ts[1]?=some xt) (h3:args[0]?=some (.slice base sLen sCap)) (h4:args[1]?=some x) (hu:P.underlying st=some (.slice e)) (hs:cw P e=some sz)
  (hd:P.underlying xt=some d) (hzb:zb=rJ d) {bytes:Nat} (hb:mA P e=some bytes) (jb:bytes<=65536)
  (hf:zb=false->(Builtin.lenOf x).run P w=.ok n w/\∀w',w'.heap=w.heap->(Builtin.firstCells sz n x).run P w'=.ok news.toArray w')
  (ht:zb=true->∃k,x=.int k n/\n<=1073741824/\∀w',(if n * sz=0 then pure #[]else do pure (Builtin.zeroCells (<-zeroValue e).cells n):Sem (Array Value)).run P w'=.ok news.toArray w')
  (nq:sLen+n<=sCap):
  (Builtin.append_ ts ty args).run P w=(match base with |some a=>(storeCells (a.add (sLen * sz)) news).run P w |none=>.ok () w).andThen λ_ w'=>.ok (.slice base (sLen+n) sCap) w':=by
 obtain⟨i,hi,E6⟩:=rI hb;have W4:∀w,(typeInfo e).run P w=.ok i w:=λw=>by simp[typeInfo,hi]
 unfold Builtin.append_;simp only[h1,h3,h4,Sem.run_bind,bR hu,Result.andThen_ok,cI hs,h2,bR hd,Sem.run_pure]
 cases zb with
 |false=>
  obtain⟨f1,f2⟩:=hf rfl
  cases d with
  |int k=>simp[rJ]at hzb
  |_=>
   simp only[abi,if_false,f1,Result.andThen_ok,nq,if_true,Sem.run_bind,adh,f2 w rfl]
   cases base <;>simp
 |true=>
  obtain⟨k,rfl,hn,t2⟩:=ht rfl
  have rU:¬((n:Int) * (bytes:Int)>2^48):=by
   have:n * bytes<=1073741824 * 65536:=adl hn jb;have h2:((n * bytes:Nat):Int)<=70368744177664:=by omega
   rw[Int.natCast_mul]at h2;omega
  have OD:¬((n:Int)<0):=by omega
  cases d with
  |int k=>
   simp only[if_true,asInt,asIntOf,Sem.run_bind,Sem.run_pure,Result.andThen_ok,wrap_small hn,Sem.run_ite,OD,if_false,W4,E6,rU,acr,nq,ac4,abi];have:=t2 w;simp only[Sem.run_ite,Sem.run_bind,Sem.run_pure]at this;rw[this]
   cases base <;>simp
  |_=>simp[rJ]at hzb
theorem yu(w:World)(need old:Nat)(e:TypeId)(hn:need<=17592186044416):∃c,need<=c/\(choose (.appendCap need old e)).run P w=.ok c w.drew:=by
 refine⟨_,?_,by simp only[run_choose,Question.forced,abi,if_false];rfl⟩;simp[Question.cut]
theorem pR{ts:Array TypeId}{ty st xt e:TypeId}{args:Array Value}{sz sLen sCap n:Nat}{base:Option Addr}{x vz:Value}{d:TypeDesc}{zb:Bool}{news olds:List Value}
  (h1:ts[0]?=some st) (h2:ts[1]?=some xt) (h3:args[0]?=some (.slice base sLen sCap)) (h4:args[1]?=some x) (hu:P.underlying st=some (.slice e)) (hs:cw P e=some sz)
  (hd:P.underlying xt=some d) (hzb:zb=rJ d) {bytes:Nat} (hb:mA P e=some bytes) (jb:bytes<=65536) (hz:∀w,(zeroValue e).run P w=.ok vz w)
  (hf:zb=false->(Builtin.lenOf x).run P w=.ok n w/\∀w',w'.heap=w.heap->(Builtin.firstCells sz n x).run P w'=.ok news.toArray w')
  (ht:zb=true->∃k,x=.int k n/\n<=1073741824/\∀w',(if n * sz=0 then pure #[]else do pure (Builtin.zeroCells (<-zeroValue e).cells n):Sem (Array Value)).run P w'=.ok news.toArray w')
  (hold:∀w',w'.heap=w.heap->(Builtin.firstCells sz sLen (.slice base sLen sCap)).run P w'=.ok olds.toArray w')
  (nq:¬sLen+n<=sCap) (Vt:(sLen+n) * bytes<=17592186044416) (NE:sLen+n<=17592186044416):
  ∃c,sLen+n<=c/\(Builtin.append_ ts ty args).run P w=.ok (.slice (some ⟨w.heap.size,0,none⟩) (sLen+n) c)
   (w.drew.alloc (.cells (olds.toArray++news.toArray++Builtin.zeroCells vz.cells (c - (sLen+n))) e)):=by
 obtain⟨i,hi,E6⟩:=rI hb;have W4:∀w,(typeInfo e).run P w=.ok i w:=λw=>by simp[typeInfo,hi]
 obtain⟨c,c1,c2⟩:=yu (P:=P) w (sLen+n) sCap e NE;refine⟨c,c1,?_⟩;have Az:¬(((sLen+n:Nat):Int)>IntKind.i64.max):=by rw[max_i64];omega
 have hnx:¬(Builtin.nextslicecap (sLen+n) sCap * i.bytes>2^48):=by
  have:=growslice_fits (need:=sLen+n) (old:=sCap) (bytes:=i.bytes) (by omega) (by rw[E6];omega);omega
 unfold Builtin.append_;simp only[h1,h3,h4,Sem.run_bind,bR hu,Result.andThen_ok,cI hs,h2,bR hd,Sem.run_pure];have fin:((choose (.appendCap (sLen+n) sCap e)).run P w).andThen (λnewCap w'=>.ok newCap w')=.ok c w.drew:=by rw[c2];rfl
 cases zb with
 |false=>
  obtain⟨f1,f2⟩:=hf rfl
  cases d with
  |int k=>simp[rJ]at hzb
  |_=>
   simp only[abi,if_false,f1,Result.andThen_ok,nq,Sem.run_bind,adh,W4,Sem.run_ite,Az,false_and,hnx,c2,run_askRoom,hold w.drew rfl,f2 w.drew rfl,if_true,hz,Sem.run_pure,newRow,run_newObj]
   rfl
 |true=>
  obtain⟨k,rfl,hn,t2⟩:=ht rfl
  have rU:¬((n:Int) * (bytes:Int)>2^48):=by
   have:n * bytes<=1073741824 * 65536:=adl hn jb;have h2:((n * bytes:Nat):Int)<=70368744177664:=by omega
   rw[Int.natCast_mul]at h2;omega
  have OD:¬((n:Int)<0):=by omega
  cases d with
  |int k=>
   have t2':=t2 w.drew;simp only[Sem.run_ite,Sem.run_bind,Sem.run_pure,hz,Result.andThen_ok]at t2';rw[<-E6]at rU;simp only[if_true,asInt,asIntOf,Sem.run_bind,Sem.run_pure,Result.andThen_ok,wrap_small hn,Sem.run_ite,OD,if_false,W4,rU,acr,nq,ac4,abi,Az,false_and,hnx,c2,run_askRoom,hold w.drew rfl,hz,t2',newRow,run_newObj]
   rfl
  |_=>simp[rJ]at hzb
theorem jV{t:TypeId}{z:PV}(e:je P t=some z):∃v,(∀w,(zeroValue t).run P w=.ok v w)/\∀(w:World) (A:Nat->Prop) (Z:List (Nat×Nat)) (h:ab),aE w A Z h v z:=by
 unfold je at e
 cases hi:P.info? t with
 |none=>rw[hi]at e;simp at e
 |some i=>
  rw[hi]at e;simp only[Option.bind_some]at e
  cases hz:i.zero with
  |none=>rw[hz]at e;simp at e
  |some v=>
   rw[hz]at e;simp at e;subst e;exact⟨v,λw=>by simp[zeroValue,typeInfo,hi,hz],λw A Z h=>GO w A Z h v⟩
theorem yv{id:Nat}{bc:Nat×Nat}(hb:Z[id]?=some bc):Z.set id bc=Z:=by
 apply ab8
 intro k
 by_cases hk:k=id
 subst hk;rw[aa7 (ag hb)];exact hb.symm;rw[aa8 (abW hk)]
theorem rL(H:ba w F Z h){id:Nat}{o:au}{bc:Nat×Nat}(eo:h[id]?=some o)(eb:Z[id]?=some bc)(em:o.mu=.m){news:List Value}{ys:List PV}(off:Nat)
  (hf:Flat w (Av F h Z) Z h o.bA news ys) (h1:∀u∈news,u.oneCell'=true) (hle:off+ys.length<=o.es.length) (hz:0<o.bA:=by first |assumption |omega):
  ∃w',(storeCells ⟨bc.1,off * o.bA,none⟩ news).run P w=.ok () w'/\
   ba w' F Z (h.set id {o with es:=o.es.take off++ys++o.es.drop (off+ys.length)})/\dU w h Z w' (h.set id {o with es:=o.es.take off++ys++o.es.drop (off+ys.length)}) Z:=by
 obtain⟨T,cs,k1,k2,k3,k4,k5⟩:=(H.obj id o bc eo eb (by rw[em];simp)).c hz;have hn:news.length=ys.length * o.bA:=hf.1
 have RO:off * o.bA+ys.length * o.bA<=cs.size:=by
  rw[<-abX];exact abQ (abN _ (by omega)) k3
 have AJ:=run_storeCells_at P bc.1 (off * o.bA) T news 0 cs w k1 (by omega) h1;simp only[acA]at AJ
 have dG:(cs.toList.take (off * o.bA)++news++cs.toList.drop (off * o.bA+news.length)).length=cs.size:=by
  simp only[aba,ab7,ac3,ach];omega
 have cz:(o.es.take off++ys++o.es.drop (off+ys.length)).length=o.es.length:=by simp;omega
 refine⟨_,AJ,?_⟩
 have:=ba.set H eo eb em (w':=w.setRow bc.1 (cs.toList.take (off * o.bA)++news++cs.toList.drop (off * o.bA+news.length)).toArray) T
  (cs.toList.take (off * o.bA)++news++cs.toList.drop (off * o.bA+news.length)).toArray (o.es.take off++ys++o.es.drop (off+ys.length)) o.ep bc (by simp)
  (setRow_heap w bc.1 cs _ T (0,0) k1) (λb hb bN=>setRow_other w bc.1 b _ bN) (.inl ⟨rfl,λ_=>cz⟩) (aa5 _) rfl rfl rfl (by rw[cz];exact k2) (by rw[adm,dG];exact k3) (λi e he=>?_)
 ·rw[yv eb]at this;exact this
 ·rw[gJ _ _ _ _ hle]at he
  have hi:i<o.es.length:=by
   rcases abJ i o.es.length with hh |hh;exact hh;rw[if_neg (by omega),if_neg (by omega),abl hh]at he;cases he
  by_cases hA:off<=i/\i<off+ys.length
  ·rw[if_neg (by omega),if_pos hA.2]at he;obtain⟨n1,n2⟩:=hf.2 _ e he;refine⟨n1,λj q hq=>?_⟩;obtain⟨u,p1,p2⟩:=n2 j q hq;have hj:=ag hq;refine⟨u,?_,p2⟩;have e1:i * o.bA=off * o.bA+(i - off) * o.bA:=by rw[<-abX];congr 1;omega
   have e2:=kO (s:=o.bA) (show i - off<ys.length by omega);rw[acK,gJ _ _ _ _ (by rw[hn];simpa using RO),if_neg (by omega),if_pos (by rw[hn];omega),e1];rw[show off * o.bA+(i - off) * o.bA+j - off * o.bA=(i - off) * o.bA+j by omega];exact p1
  ·have W3:o.es[i]?=some e:=by
    by_cases hB:i<off
    ·rwa[if_pos hB]at he
    ·rwa[if_neg hB,if_neg (by omega)]at he
   obtain⟨n1,n2⟩:=k5 i e W3;refine⟨n1,λj q hq=>?_⟩;obtain⟨u,p1,p2⟩:=n2 j q hq;have hj:=ag hq;refine⟨u,?_,p2⟩;rw[acK,gJ _ _ _ _ (by rw[hn];simpa using RO)]
   by_cases hB:i<off
   ·have:=kO (s:=o.bA) hB;rw[if_pos (by omega)];simpa using p1
   ·have:(off+ys.length) * o.bA<=i * o.bA:=abN _ (by omega);rw[abX]at this;rw[if_neg (by omega),if_neg (by rw[hn];omega)];simpa using p1
theorem GP(H:ba w F Z h){ts:Array TypeId}{ty st xt:TypeId}{args:Array Value}{lv:Nat}{sv x:Value}{s px r:PV}{h':ab}
  (h1:ts[0]?=some st) (h2:ts[1]?=some xt) (h3:args[0]?=some sv) (h4:args[1]?=some x) (hs:aE w (Av F h Z) Z h sv s) (hx:aE w (Av F h Z) Z h x px)
  (e:bJ P lv h st xt s px=some (r,h')):BM P lv w F Z h (Builtin.append_ ts ty args) r h':=by
 unfold bJ at e
 split at e
 ·rename_i el hu
  split at e
  ·rename_i sz bytes z q1 q2 q3
   split at e
   ·rename_i ys hy
    split at e
    ·rename_i hc
     obtain⟨ov,jb,hzc,ek⟩:=hc;obtain⟨vz,z1,z2⟩:=jV (P:=P) q3;obtain⟨zb,d,a1,a2,news,a3,a4,a5,a6⟩:=sS (st:=st) (vz:=vz) H q1 q2 q3 ov jb hx hy ek;have zsz:vz.cells.size=sz:=by rw[((z2 w (Av F h Z) Z h).cells hzc.2).1];exact hzc.1
     have arr:∀(cs:List Value) (n:Nat),cs.toArray++news.toArray++Builtin.zeroCells vz.cells n=(cs++news++(Builtin.zeroCells vz.cells n).toList).toArray:=λcs n=>by apply acy;simp
     have arrsz:∀(cs:List Value) (k m c:Nat),cs.length=k * sz->k+m<=c->news.length=m * sz->c * sz<=(cs.toArray++news.toArray++Builtin.zeroCells vz.cells (c - (k+m))).size:=λcs k m c e1 e2 e3=>by
      simp only[Array.size_append,adm,size_zeroCells,zsz,e1,e3,<-abX];rw[show k+m+(c - (k+m))=c by omega];exact aa5 _
     split at e
     ·-- a snapshot
      rename_i full es
      obtain⟨a,cap,rfl,hle,ve⟩:=hs.fK.kj
      split at e
      ·rename_i RI
       obtain rfl:ys=[]:=by simpa using RI
       obtain⟨rfl,rfl⟩:=abe (aa2 e);have hn:news=[]:=abj (by simpa using a3.1);subst hn;have:=my (P:=P) (w:=w) (ty:=ty) h1 h2 h3 h4 hu q1 a1 a2 q2 jb (n:=0) a5 a6 (by omega);refine BM.still H (v:=.slice a es.length cap) ?_ hs;rw[this]
       cases a <;>simp[storeCells]
      ·rename_i bN
       split at e
       ·rename_i FP
        obtain⟨rfl,E5,GQ,gK⟩:=FP;obtain⟨rfl,rfl⟩:=abe (aa2 e);obtain⟨b1,b2⟩:=yr GQ
        have hy0:0<ys.length:=by
         cases ys with
         |nil=>simp at bN
         |cons=>simp
        have BR:=ve rfl
        have hez:∀y∈es,(Pm.cells y).length=sz:=λy hy=>by
         have:=aa4.1 gK y hy;simp only[abb,decide_eq_true_eq]at this;exact this.1
        obtain⟨a',Fk,ev,_,cs,f1,f2⟩:=lJ (P:=P) H hs (show cf h (.aa true es)=some es from rfl) hez
        obtain⟨c,c1,c2⟩:=pR (P:=P) (w:=w) (ty:=ty) (sLen:=es.length) h1 h2 h3 h4 hu q1 a1 a2 q2 jb z1 a5 a6 (λw' Fe=>by
         have:=f2 w' Fe es.length (aa5 _);rwa[abo (by rw[f1.1];omega)]at this) (by omega) b1 b2
        have FR:=f1.append a3
        obtain⟨HH,S⟩:=ba.new H (w':=w.drew.alloc (.cells (cs.toArray++news.toArray++Builtin.zeroCells vz.cells (c - (es.length+ys.length))) el)) el
         (cs.toArray++news.toArray++Builtin.zeroCells vz.cells (c - (es.length+ys.length))) {mu:=.m,ep:=0,bA:=sz,es:=es++ys} c rfl rfl rfl rfl rfl (by simpa using c1)
         (arrsz cs _ _ c f1.1 c1 a3.1) ov (λi e he=>by
          rw[arr];exact FR.obj (rest:=(Builtin.zeroCells vz.cells (c - (es.length+ys.length))).toList) i e he)
        exact⟨_,_,_,c2,H.v7,HH,S,λ_=>(dD.drew w).trans (dD.alloc _ _)⟩
       cases e
     ·-- a reference
      rename_i id ep off len
      split at e
      ·rename_i o ho
       obtain⟨e1,e2,e3⟩:=getM_some ho;obtain⟨bc,hb⟩:=db H.len e1;obtain⟨m1,m2,m3⟩:=hs.dL
       split at e
       ·rename_i FP
        obtain⟨hle,gC⟩:=FP;obtain⟨cap,rfl,c2⟩:=m3 o bc e1 hb e3 e2 hle;obtain⟨T,sb,k1,k2,k3,k4,k5⟩:=(H.obj id o bc e1 hb e3).c (m2 o e1).2
        split at e
        ·rename_i RI
         obtain rfl:ys=[]:=by simpa using RI
         obtain⟨rfl,rfl⟩:=abe (aa2 e);have hn:news=[]:=abj (by simpa using a3.1);subst hn;have:=my (P:=P) (w:=w) (ty:=ty) h1 h2 h3 h4 hu q1 a1 a2 q2 jb (n:=0) a5 a6 (by omega);refine BM.still H (v:=.slice (some ⟨bc.1,off * o.bA,none⟩) len cap) ?_ hs;rw[this];simp[storeCells]
        ·rename_i bN
         split at e
         ·rename_i hc3
          obtain⟨rfl,E5,oZ,_,kF⟩:=hc3;obtain⟨rfl,rfl⟩:=abe (aa2 e);subst gC;have gm:=my (P:=P) (w:=w) (ty:=ty) h1 h2 h3 h4 hu q1 a1 a2 q2 jb a5 a6 (show len+ys.length<=cap by omega);obtain⟨w',s1,s2,s3⟩:=rL (P:=P) H e1 hb oZ len a3 a4 kF;simp only[acR,eW,abp]at gm;rw[s1]at gm;simp only[Result.andThen_ok]at gm;refine⟨_,w',Z,gm,?_,s2,s3,λhh=>by omega⟩;refine .aj _ id ep 0 (len+ys.length) {o with es:=o.es.take len++ys++o.es.drop (len+ys.length)} bc ⟨_,_,_,rfl⟩ (aa7 (ag e1)) hb (by show o.mu≠.x;rw[oZ];simp) ⟨by show ep<=o.ep;omega,k4⟩ (λ_ _=>⟨cap,by simp,c2⟩)
         split at e
         ·rename_i hc3
          obtain⟨rfl,E5,oZ,GQ⟩:=hc3;obtain⟨rfl,rfl⟩:=abe (aa2 e);obtain⟨b1,b2⟩:=yr GQ
          have hy0:0<ys.length:=by
           cases ys with
           |nil=>simp at bN
           |cons=>simp
          subst gC;have gK:cf h (.aj id ep 0 len)=some ((o.es.drop 0).take len):=by simp only[cf,ho,if_pos hle]
          have FQ:((o.es.drop 0).take len).length=len:=by simp;omega
          obtain⟨a',Fk,ev,_,cs,f1,f2⟩:=lJ (P:=P) (sz:=o.bA) H hs gK (λy hy=>by
           obtain⟨k,hk⟩:=ab6 hy;rw[abn]at hk
           split at hk
           simp at hk;exact(k5 k y hk).1
           cases hk)
          simp only[acb]at f1 FQ f2;have SL:len<=o.es.length:=by omega
          by_cases nq:len+ys.length<=cap
          ·-- there is room
           have gm:=my (P:=P) (w:=w) (ty:=ty) h1 h2 h3 h4 hu q1 a1 a2 q2 jb a5 a6 nq;have hk3:(len+ys.length) * o.bA<=sb.size:=abQ (abN _ (by omega)) k3;rw[abX]at hk3;have AJ:=run_storeCells_at P bc.1 (0 * o.bA+len * o.bA) T news 0 sb w k1 (by rw[a3.1];omega) a4;simp only[acR,abp,acA]at AJ gm;rw[eW,abp,AJ]at gm;simp only[Result.andThen_ok]at gm
           have V2:Flat w (Av F h Z) Z h o.bA (sb.toList.take (len * o.bA)) (o.es.take len):=by
            refine⟨by simp only[ab7,ach];rw[acW SL,acW (by omega)],λi e he=>?_⟩;rw[abn]at he
            split at he
            ·rename_i hi
             obtain⟨n1,n2⟩:=k5 i e he;refine⟨n1,λj q hq=>?_⟩;obtain⟨u,p1,p2⟩:=n2 j q hq;have hj:=ag hq;have:=kO (s:=o.bA) hi;exact⟨u,by rw[abn,if_pos (by omega)];simpa using p1,p2⟩
            cases he
           have FR:=V2.append a3
           have Fy:(sb.toList.take (len * o.bA)++news++sb.toList.drop (len * o.bA+news.length)).length=sb.size:=by
            simp only[aba,ab7,ac3,ach,a3.1];omega
           obtain⟨HH,S⟩:=ba.set H e1 hb oZ (w':=w.setRow bc.1 (sb.toList.take (len * o.bA)++news++sb.toList.drop (len * o.bA+news.length)).toArray) T
            (sb.toList.take (len * o.bA)++news++sb.toList.drop (len * o.bA+news.length)).toArray (o.es.take len++ys) (ep+1) bc (by simp)
            (setRow_heap w bc.1 sb _ T (0,0) k1) (λb hb bN=>setRow_other w bc.1 b _ bN) (.inl ⟨rfl,λhe=>by omega⟩) (by omega) rfl rfl rfl (by simp;omega)
            (by rw[adm,Fy];exact k3) (λi e he=>FR.obj i e he)
           exact⟨_,_,_,gm,by have:=H.Ig (w':=w.setRow bc.1 (sb.toList.take (len * o.bA)++news++sb.toList.drop (len * o.bA+news.length)).toArray) (A:=Av F (h.set id {o with es:=o.es.take len++ys,ep:=ep+1}) (Z.set id bc)) e1 oZ (b:=bc.1) (cap:=cap) (len:=len+ys.length) (ep:=ep+1) (es:=o.es.take len++ys);simpa[show cap=bc.2 by omega]using this,HH,S,λhh=>by omega⟩
          ·-- it moves
           obtain⟨c,c1,gm⟩:=pR (P:=P) (w:=w) (ty:=ty) (olds:=cs) h1 h2 h3 h4 hu q1 a1 a2 q2 jb z1 a5 a6 (λw' Fe=>by
            have e3:(.slice (some ⟨bc.1,0 * o.bA,none⟩) len cap:Value)=.slice (some ⟨bc.1,0 * o.bA,none⟩) len cap:=rfl;have:=f2 w' Fe len (by omega);rwa[abo (by rw[f1.1,FQ];exact aa5 _)]at this) nq b1 b2
           have FR:=f1.append a3
           obtain⟨HH,S⟩:=ba.set H e1 hb oZ (w':=w.drew.alloc (.cells (cs.toArray++news.toArray++Builtin.zeroCells vz.cells (c - (len+ys.length))) el)) el
            (cs.toArray++news.toArray++Builtin.zeroCells vz.cells (c - (len+ys.length))) (o.es.take len++ys) (ep+1) (w.heap.size,c) (by simp)
            (heap_alloc_new w.drew _) (λb hb bN=>heap_alloc_old w.drew _ b hb) (.inr ⟨aa5 _,by omega⟩) (by omega) rfl rfl rfl (by simp;omega)
            (arrsz cs _ _ c (by rw[f1.1,FQ]) c1 a3.1) (λi e he=>by
             rw[arr];exact FR.obj (rest:=(Builtin.zeroCells vz.cells (c - (len+ys.length))).toList) i e he)
           exact⟨_,_,_,gm,H.Ig e1 oZ,HH,S,λhh=>by omega⟩
         cases e
       cases e
      cases e
     cases e
    cases e
   cases e
  cases e
 cases e
theorem OE(H:ba w F Z h){ts:Array TypeId}{ty dt:TypeId}{args:Array Value}{lv:Nat}{dv x:Value}{d px r:PV}{h':ab}
  (h1:ts[0]?=some dt) (h3:args[0]?=some dv) (h4:args[1]?=some x) (hd:aE w (Av F h Z) Z h dv d) (hx:aE w (Av F h Z) Z h x px)
  (e:zL P lv h dt d px=some (r,h')):BM P lv w F Z h (Builtin.copy_ ts ty args) r h':=by
 unfold zL at e
 split at e
 ·rename_i el id ep off len ys hu hy
  split at e
  ·rename_i sz o hs ho
   split at e
   ·rename_i hc
    obtain⟨E5,oZ,rfl,hle,ek,av⟩:=hc;obtain⟨rfl,rfl⟩:=abe (aa2 e);obtain⟨e1,e2,e3⟩:=getM_some ho;obtain⟨bc,hb⟩:=db H.len e1;obtain⟨m1,m2,m3⟩:=hd.dL;obtain⟨cap,rfl,c2⟩:=m3 o bc e1 hb e3 e2 hle
    obtain⟨a,Fk,rfl,aaX,cs,f1,f2⟩:=lJ (P:=P) (sz:=o.bA) H hx hy (λy hy=>by
     have:=aa4.1 ek y hy;simpa only[decide_eq_true_eq]using this)
    obtain⟨T,sb,k1,k2,k3,k4,k5⟩:=(H.obj id o bc e1 hb e3).c (m2 o e1).2;have hn:min ys.length len<=ys.length:=Nat.min_le_left _ _;have ft:=f1.take (min ys.length len) hn;have FQ:(ys.take (min ys.length len)).length=min ys.length len:=by simp only[ab7];omega
    obtain⟨w',r1,r2,r3⟩:=rL (P:=P) H e1 hb oZ off ft (λu hu=>ft.RN k4 av u hu) (by rw[FQ];omega);rw[FQ]at r2 r3;refine⟨.int .i64 (min ys.length len:Nat),w',Z,?_,.val (.int _ _),r2,r3,λhh=>by omega⟩;have gm:=f2 w rfl (min ys.length len) hn;simp only[Builtin.copy_,h1,h3,h4,Sem.run_bind,bR hu,Result.andThen_ok,Builtin.lenOf,Sem.run_pure,cI hs,goInt];have e0:Nat.min ys.length len=min ys.length len:=rfl;rw[e0,gm];simp only[Result.andThen_ok];rw[r1];simp
   cases e
  cases e
 cases e
theorem KA(H:ba w F Z h){ts:Array TypeId}{ty t:TypeId}{args:Array Value}{lv:Nat}{dv:Value}{d r:PV}{h':ab}
  (h1:ts[0]?=some t) (h3:args[0]?=some dv) (hd:aE w (Av F h Z) Z h dv d)
  (e:mB P lv h t d=some (r,h')):BM P lv w F Z h (Builtin.clear_ ts ty args) r h':=by
 unfold mB at e
 split at e
 ·rename_i el id ep off len hu
  split at e
  ·rename_i sz z o hs hz ho
   split at e
   ·rename_i hc
    obtain⟨E5,oZ,rfl,hle,VT,Od⟩:=hc;obtain⟨rfl,rfl⟩:=abe (aa2 e);obtain⟨e1,e2,e3⟩:=getM_some ho;obtain⟨bc,hb⟩:=db H.len e1;obtain⟨m1,m2,m3⟩:=hd.dL;obtain⟨cap,rfl,c2⟩:=m3 o bc e1 hb e3 e2 hle;obtain⟨T,sb,k1,k2,k3,k4,k5⟩:=(H.obj id o bc e1 hb e3).c (m2 o e1).2;obtain⟨vz,z1,z2⟩:=jV (P:=P) hz;obtain⟨s1,s2⟩:=qC (z2 w (Av F h Z) Z h) VT Od k4 len
    have ek:(List.replicate len z).all (λv=>decide ((Pm.cells v).length=o.bA)&& (Pm.cells v).all bC)=true:=by
     rw[aa4]
     intro x hx
     rw[acV]at hx;simp[hx.2,VT,Od]
    obtain⟨w',r1,r2,r3⟩:=rL (P:=P) H e1 hb oZ off s2 (s2.RN k4 ek) (by simpa using hle);simp only[acj]at r2 r3
    by_cases hl:len=0
    ·subst hl;refine⟨.tuple #[],w,Z,?_,.val (.cy [] [] rfl (by simp)),?_⟩;simp only[Builtin.clear_,h1,h3,Sem.run_bind,bR hu,Result.andThen_ok,Sem.run_pure]
     ·simp[storeCells]at r1;subst r1;exact⟨r2,r3,λ_=>dD.refl _⟩
    ·refine⟨.tuple #[],w',Z,?_,.val (.cy [] [] rfl (by simp)),r2,r3,λhh=>by omega⟩;obtain⟨n,rfl⟩:∃n,len=n+1:=⟨len - 1,by omega⟩;simp only[Builtin.clear_,h1,h3,Sem.run_bind,bR hu,Result.andThen_ok,z1,Builtin.zeroCells,gS,s1];rw[s1]at r1;rw[r1];simp
   cases e
  cases e
 ·rename_i el full hu
  obtain⟨rfl,rfl⟩:=abe (aa2 e);obtain⟨a,cap,rfl,_⟩:=hd.fK.kj;refine BM.still H (v:=.tuple #[]) ?_ (.val (.cy [] [] rfl (by simp)))
  cases a <;>simp[Builtin.clear_,h1,h3,bR hu]
 cases e
theorem OF(H:ba w F Z h){t:TypeId}{lv:Nat}{vl vc:Value}{l c r:PV}{h':ab}(hl:aE w (Av F h Z) Z h vl l)(hc:aE w (Av F h Z) Z h vc c)
  (e:jE P lv h t l c=some (r,h')):BM P lv w F Z h (Instr.makeSlice t vl vc) r h':=by
 unfold jE at e
 split at e
 ·rename_i el k1 n k2 c hu
  obtain rfl:=hl.dT;obtain rfl:=hc.dT
  split at e
  ·rename_i sz bytes z hs hb hz
   split at e
   ·rename_i E3
    obtain⟨E5,hn,hnc,rf,ov,jb,VT,Od⟩:=E3;obtain⟨rfl,rfl⟩:=abe (aa2 e);obtain⟨vz,z1,z2⟩:=jV (P:=P) hz;obtain⟨s1,s2⟩:=qC (z2 w (Av F h Z) Z h) VT Od ov n.toNat;obtain⟨i,hi,E6⟩:=rI hb;have W4:∀w,(typeInfo el).run P w=.ok i w:=λw=>by simp[typeInfo,hi]
    obtain⟨cn,rfl⟩:=acq (show 0<=c by omega);obtain⟨ln,rfl⟩:=acq hn;have Yb:cn<=1073741824:=by omega
    have zm:ln<=1073741824:=by omega
    have nJ:¬((i.bytes:Int) * (cn:Int)>2^48):=by
     have:bytes * cn<=65536 * 1073741824:=adl jb Yb;have h2:((bytes * cn:Nat):Int)<=70368744177664:=by omega
     rw[Int.natCast_mul]at h2;rw[E6];omega
    have ve:List.map (λi=>vz.cells[i % vz.cells.size]!) (List.range (cn * sz))=List.map (λi=>vz.cells[i % vz.cells.size]!) (List.range (ln * sz))++List.drop (ln * sz) (List.map (λi=>vz.cells[i % vz.cells.size]!) (List.range (cn * sz))):=by
     have hle:ln * sz<=cn * sz:=abN _ (by omega)
     have:List.map (λi=>vz.cells[i % vz.cells.size]!) (List.range (ln * sz))=List.take (ln * sz) (List.map (λi=>vz.cells[i % vz.cells.size]!) (List.range (cn * sz))):=by
      rw[<-List.map_take,List.take_range,acW hle]
     rw[this,acJ]
    obtain⟨HH,S⟩:=ba.new H (w':=w.alloc (.cells (List.map (λi=>vz.cells[i % vz.cells.size]!) (List.range (cn * sz))).toArray el)) el
     (List.map (λi=>vz.cells[i % vz.cells.size]!) (List.range (cn * sz))).toArray {mu:=.m,ep:=0,bA:=sz,es:=List.replicate ln z} cn rfl rfl rfl rfl rfl (by simp;omega) (by simp) ov (λi e he=>by
      rw[ve];exact s2.obj i e (by simpa using he))
    refine⟨.slice (some ⟨w.heap.size,0,none⟩) ln cn,_,_,?_,H.v7,HH,S,λ_=>dD.alloc w _⟩
    ·have OD:¬((cn:Int)<0):=by omega
     have dg:¬((ln:Int)<0):=by omega
     have hgt:¬((ln:Int)>(cn:Int)):=by omega
     simp only[Instr.makeSlice,Sem.run_bind,bR hu,Result.andThen_ok,asInt,asIntOf,Sem.run_pure,W4,wrap_small Yb,wrap_small zm,Sem.run_ite,OD,dg,hgt,nJ,decide_false,Bool.or_self,abi,if_false,run_askRoom,cI hs,acr,z1,newRow,run_newObj]
     by_cases Eh:cn * sz=0
     ·simp only[Eh,if_true,gS,List.range_zero,abx]
      rfl
     ·simp only[Eh,if_false,gS]
      rfl
   cases e
  cases e
 cases e
theorem RP{args:List Value}{ps:List PV}{r:PV}{ts:Array TypeId}{ty:TypeId}{A:Nat->Prop}(hr:L2 (aE w A Z h) args ps)(e:Lw ps=some r):
  ∃u,(Builtin.max_ ts ty args.toArray).run P w=.ok u w/\aE w A Z h u r:=by
 unfold Lw at e
 split at e
 ·rename_i k a k' b
  obtain rfl:=aa2 e;obtain⟨hl,hh⟩:=hr
  match args,hl with
  |[x,y],_=>
   have h0:=hh 0 (by simp);have h1:=hh 1 (by simp);simp only[ac6,ac7]at h0 h1;obtain rfl:=h0.dT;obtain rfl:=h1.dT;exact⟨_,by simp[Builtin.max_,Builtin.max2],.val (.int _ _)⟩
 cases e
theorem RQ{args:List Value}{ps:List PV}{r:PV}{ts:Array TypeId}{ty:TypeId}{A:Nat->Prop}(hr:L2 (aE w A Z h) args ps)(e:PJ ps=some r):
  ∃u,(Builtin.min_ ts ty args.toArray).run P w=.ok u w/\aE w A Z h u r:=by
 unfold PJ at e
 split at e
 ·rename_i k a k' b
  obtain rfl:=aa2 e;obtain⟨hl,hh⟩:=hr
  match args,hl with
  |[x,y],_=>
   have h0:=hh 0 (by simp);have h1:=hh 1 (by simp);simp only[ac6,ac7]at h0 h1;obtain rfl:=h0.dT;obtain rfl:=h1.dT;exact⟨_,by simp[Builtin.min_,Builtin.min2],.val (.int _ _)⟩
 cases e
theorem Cj(d:Nat){t:TypeId}(hu:P.underlying t=some .bool)(a b:Bool)(w:World):(Op.equalIn (d+1) t (.bool a) (.bool b)).run P w=.ok (a==b) w:=by
 simp[Op.equalIn,bR hu]
theorem yw{t:TypeId}(hu:P.underlying t=some .bool)(a b:Bool)(w:World):(Op.equal t (.bool a) (.bool b)).run P w=.ok (a==b) w:=Cj 9999 hu a b w
theorem RS{op:BinOp}{t:TypeId}{x y:Value}{px py r:PV}{ox oy:Operand}{A:Nat->Prop}(hx:aE w A Z h x px)(hy:aE w A Z h y py)(e:fF P op t px py=some r):
  ∃u,((do eqGuard op t ox oy x y;binOp op t x y:Sem Value)).run P w=.ok u w/\aE w A Z h u r:=by
 unfold fF at e
 split at e
 ·rename_i k a k' b
  obtain rfl:=hx.dT;obtain rfl:=hy.dT
  have guard:(eqGuard op t ox oy (.int k a) (.int k' b)).run P w=.ok () w:=by
   cases op <;>simp[eqGuard]
  simp only[Sem.run_bind,guard,Result.andThen_ok]
  split at e
  ·unfold qj at e
   split at e
   cases e
   ·rename_i hb
    obtain rfl:=aa2 e;refine⟨_,?_,.val (.int _ _)⟩;simp[binOp,Op.shift,hb]
  ·unfold qj at e
   split at e
   cases e
   ·rename_i hb
    obtain rfl:=aa2 e;refine⟨_,?_,.val (.int _ _)⟩;simp[binOp,Op.shift,hb]
  ·rename_i n1 n2
   split at e
   ·rename_i hk
    subst hk;unfold gT at e
    split at e
    all_goals first
     |(obtain rfl:=aa2 e;refine⟨_,?_,.val (.int _ _)⟩;simp[binOp,Op.intArith,Op.intBits];done)
     |(obtain rfl:=aa2 e;refine⟨_,?_,.val (.bool _)⟩;simp[binOp,Op.intCmp];done)
     |(split at e;cases e;rename_i hb;obtain rfl:=aa2 e;refine⟨_,?_,.val (.int _ _)⟩;simp[binOp,Op.intDiv,hb];done)
     |cases e
   cases e
 ·rename_i a b
  obtain rfl:=hx.j9;obtain rfl:=hy.j9
  have guard:(eqGuard op t ox oy (.string a) (.string b)).run P w=.ok () w:=by
   cases op <;>simp[eqGuard]
  simp only[Sem.run_bind,guard,Result.andThen_ok];unfold l8 at e
  split at e
  all_goals first
   |(obtain rfl:=aa2 e;refine⟨_,?_,.val (.bool _)⟩;simp[binOp,Op.stringOp];done)
   |(split at e;cases e;rename_i hb;obtain rfl:=aa2 e;refine⟨_,?_,.val (.str _)⟩;simp only[binOp,Op.stringOp];rw[if_neg hb];rfl)
   |cases e
 ·rename_i a b
  obtain rfl:=hx.gF;obtain rfl:=hy.gF
  have guard:(eqGuard op t ox oy (.bool a) (.bool b)).run P w=.ok () w:=by
   cases op <;>simp[eqGuard]
  simp only[Sem.run_bind,guard,Result.andThen_ok]
  split at e
  ·rename_i hu
   split at e
   ·obtain rfl:=aa2 e;refine⟨_,?_,.val (.bool _)⟩;simp only[binOp,Sem.run_bind,yw hu,Result.andThen_ok,Sem.run_pure]
   ·obtain rfl:=aa2 e;refine⟨_,?_,.val (.bool _)⟩;simp only[binOp,Sem.run_bind,yw hu,Result.andThen_ok,Sem.run_pure]
   cases e
  cases e
 cases e
theorem V3{op:UnOp}{x:Value}{px r:PV}{A:Nat->Prop}(hx:aE w A Z h x px)(e:SH op px=some r):
  ∃u,(Op.unary op x).run P w=.ok u w/\aE w A Z h u r:=by
 unfold SH at e
 split at e
 ·obtain rfl:=aa2 e;obtain rfl:=hx.dT;exact⟨_,by simp[Op.unary,Op.intArith],.val (.int _ _)⟩
 ·obtain rfl:=aa2 e;obtain rfl:=hx.gF;exact⟨_,by simp[Op.unary],.val (.bool _)⟩
 cases e
theorem OG{c:PV}{n:Int}(h:Lu c=some n):c=.int .u8 n:=by
 unfold Lu at h
 split at h
 cases h;rfl
 cases h
theorem vf{c:PV}{r:List PV}{l:List Int}(e:nM (c::r)=some l):∃n l',c=.int .u8 n/\nM r=some l'/\l=n::l':=by
 unfold nM at e
 split at e
 ·rename_i n h1
  split at e
  ·rename_i l' h2
   exact⟨n,l',OG h1,h2,(aa2 e).symm⟩
  cases e
 cases e
theorem yx:∀{es:List PV} {l:List Int},nM es=some l->l.length=es.length
 |[],l,e=>by cases e;rfl
 |c::r,l,e=>by
  obtain⟨n,l',_,h,rfl⟩:=vf e;simp[yx h]
theorem uw:∀{es:List PV} {l:List Int},nM es=some l->∀i,i<es.length->es.getD i .any=.int .u8 (l.getD i 0)
 |[],l,e,i,h=>by simp at h
 |c::r,l,e,i,h=>by
  obtain⟨n,l',rfl,h1,rfl⟩:=vf e
  cases i with
  |zero=>rfl
  |succ i=>simpa using uw h1 i (by simpa using h)
theorem KB{s d t:TypeId}{x:Value}{full:Bool}{es:List PV}{l:List Int}{A:Nat->Prop}(hx:aE w A Z h x (.aa full es))(h1:P.underlying s=some (.slice t))(h2:P.underlying d=some .string)(h3:P.underlying t=some (.int .u8))(h4:nM es=some l):
  (convert s d x).run P w=.ok (.string (TU l)) w:=by
 cases hx with
 |val hs=>
  cases hs with
  |gp a cap _ hc=>
   cases h4
   rw[run_convert_bytes_string w s d t a 0 cap h1 h3 h2]
   cases a with
   |none=>simp[Conv.bytesToString];rfl
   |some a=>exact run_bytesToString w a 0 cap [] (by simp[loadCells,loadCellsFrom])
  |aa b off cap sz _ _ oP bN hle hf hA gC hlen jB aar=>
   have hl:=yx h4;have h0:0<es.length:=acT.2 bN
   have HE:sz=1:=by
    have:=hlen 0 h0;rw[uw h4 0 h0]at this;exact this.symm
   subst HE
   have hc:∀i,i<es.length->w.cell? ⟨b,off+i,none⟩=some (.int .u8 (l.getD i 0)):=λi hi=>by
    have r1:=jB i 0 hi (by omega);have r2:=aar i 0 hi (by omega);rw[uw h4 i hi]at r2;simp only[cells,ac6]at r2
    cases hv:oP i 0 with
    |int k n=>rw[hv]at r2 r1;cases r2;simpa using r1
    |_=>rw[hv]at r2;cases r2
   exact run_convert_bytes_arg w s t h1 h3 b off es.length cap l hl hc d h2
theorem OH{s d:TypeId}{x:Value}{px r:PV}{A:Nat->Prop}(hx:aE w A Z h x px)(e:wk P s d px=some r):
  ∃u,(convert s d x).run P w=.ok u w/\aE w A Z h u r:=by
 unfold wk at e
 split at e
 ·rename_i ds k k' n h1 h2
  obtain rfl:=aa2 e;obtain rfl:=hx.dT;refine⟨_,?_,.val (.int _ _)⟩;simp only[convert,Sem.run_bind,bR h1,bR h2,Result.andThen_ok]
  cases ds <;>simp[Conv.intToInt]
 ·rename_i ds st h1 h2
  obtain rfl:=aa2 e;obtain rfl:=hx.j9;refine⟨_,?_,.val (.str _)⟩;simp only[convert,Sem.run_bind,bR h1,bR h2,Result.andThen_ok]
  cases ds <;>simp
 ·rename_i h1 h2
  split at e
  ·rename_i h3 h4
   obtain rfl:=aa2 e;exact⟨_,KB hx h1 h2 h3 h4,.val (.str _)⟩
  cases e
 cases e
def vJ(w:World)(A:Nat->Prop)(Z:List (Nat×Nat))(h:ab):Option Value->Option PV->Prop
 |none,none=>True
 |some v,some p=>aE w A Z h v p
 |_,_=>False
theorem fV{A:Nat->Prop}{v:Value}{p:PV}{d t n:Nat}{code:BoundsCode}(hr:aE w A Z h v p)(e:cN (some p) d t=some n):
  n<=t/\∀t',t<=t'->(Instr.sliceBound v t' code).run P w=.ok n w:=by
 unfold cN at e
 split at e
 ·rename_i hn;cases hn
 ·rename_i k i hp
  obtain rfl:=aa2 hp;obtain rfl:=hr.dT
  split at e
  ·rename_i hc
   obtain rfl:=aa2 e;refine⟨by omega,λt' ht=>?_⟩;have tF:0<=i/\i<=(t':Int):=by omega
   simp[Instr.sliceBound,asIntOf,tF]
  cases e
 cases e
theorem iI{d t n:Nat}(e:cN none d t=some n):n=d:=by
 simpa[cN]using e.symm
theorem GR{A:Nat->Prop}{len cap m b a:Nat}{lo hi mx:Option Value}{plo phi pmx:Option PV}(zc:vJ w A Z h lo plo)(zd:vJ w A Z h hi phi)(Az:vJ w A Z h mx pmx)
  (hle:len<=cap) (e1:cN pmx len len=some m) (e2:cN phi len m=some b) (e3:cN plo 0 b=some a) (e4:(pmx.isSome&&phi.isNone)=false):
  ∃mc,(Instr.sliceBounds true len cap lo hi mx).run P w=.ok (a,b,mc) w/\a<=b/\b<=len/\b<=mc/\(pmx=none->mc=cap)/\(pmx≠none->mc=m):=by
 have h3:a<=b/\∀c,(match lo with |some v=>Instr.sliceBound v b c |none=>pure 0:Sem Nat).run P w=.ok a w:=by
  cases plo with
  |none=>cases lo with
   |none=>obtain rfl:=iI e3;exact⟨acu _,λc=>rfl⟩
   |some _=>simp[vJ]at zc
  |some pl=>cases lo with
   |none=>simp[vJ]at zc
   |some vl=>
    refine⟨(fV (P:=P) (code:=.sliceB) (show aE w A Z h vl pl from zc) e3).1,λc=>?_⟩;exact(fV (P:=P) (show aE w A Z h vl pl from zc) e3).2 _ (aa5 _)
 cases pmx with
 |none=>
  cases mx with
  |some _=>simp[vJ]at Az
  |none=>
   obtain rfl:=iI e1;refine⟨cap,?_,h3.1,?_,?_,λ_=>rfl,λhh=>absurd rfl hh⟩
   ·cases phi with
    |none=>cases hi with
     |none=>
      obtain rfl:=iI e2;simp only[Instr.sliceBounds,Sem.run_bind,Sem.run_pure,Result.andThen_ok];have:=h3.2 .sliceB
      cases lo <;>simp_all
     |some _=>simp[vJ]at zd
    |some ph=>cases hi with
     |none=>simp[vJ]at zd
     |some vh=>
      have hb:=(fV (P:=P) (code:=.sliceAcap) (show aE w A Z h vh ph from zd) e2).2 cap hle;simp only[Instr.sliceBounds,Sem.run_bind,Sem.run_pure,Result.andThen_ok,if_true,hb];have:=h3.2 .sliceB
      cases lo <;>simp_all
   ·cases phi with
    |none=>obtain rfl:=iI e2;exact aa5 _
    |some ph=>cases hi with
     |none=>simp[vJ]at zd
     |some vh=>exact(fV (P:=P) (code:=.sliceAcap) (show aE w A Z h vh ph from zd) e2).1
   ·cases phi with
    |none=>obtain rfl:=iI e2;exact hle
    |some ph=>cases hi with
     |none=>simp[vJ]at zd
     |some vh=>exact abQ (fV (P:=P) (code:=.sliceAcap) (show aE w A Z h vh ph from zd) e2).1 hle
 |some pm=>
  cases mx with
  |none=>simp[vJ]at Az
  |some vm=>
   obtain⟨m1,m2⟩:=fV (P:=P) (code:=.slice3Acap) (show aE w A Z h vm pm from Az) e1
   cases phi with
   |none=>simp at e4
   |some ph=>cases hi with
    |none=>simp[vJ]at zd
    |some vh=>
     obtain⟨b1,b2⟩:=fV (P:=P) (code:=.slice3B) (show aE w A Z h vh ph from zd) e2;refine⟨m,?_,h3.1,by omega,b1,(λhh=>by cases hh),(λ_=>rfl)⟩;simp only[Instr.sliceBounds,Sem.run_bind,Result.andThen_ok,if_true,m2 cap hle,b2 m (aa5 _)];have:=h3.2 .slice3C
     cases lo <;>simp_all
theorem bZ.tT{A:Nat->Prop}{v:Value}{full:Bool}{es:List PV}(hv:bZ w A v (.aa full es)):es=[]\/
  ∃b off cap sz,∃oP:Nat->Nat->Value,v=.slice (some ⟨b,off,none⟩) es.length cap/\¬A b/\0<sz/\(∀i,i<es.length->(Pm.cells (es.getD i .any)).length=sz)/\
   (∀i j,i<es.length->j<sz->w.cell? ⟨b,off+(i * sz+j),none⟩=some (oP i j))/\
   (∀i j,i<es.length->j<sz->bZ w A (oP i j) ((Pm.cells (es.getD i .any)).getD j .any)):=by
 cases hv with
 |gp a cap _ hf=>exact .inl rfl
 |aa b off cap sz _ _ oP h1 h2 h3 h4 h5 h6 h7 h8=>exact .inr ⟨b,off,cap,sz,oP,rfl,h4,h5,h6,h7,h8⟩
theorem KD(H:ba w F Z h){t:TypeId}{x:Value}{px r:PV}{lo hi mx:Option Value}{plo phi pmx:Option PV}(hx:aE w (Av F h Z) Z h x px)
  (zc:vJ w (Av F h Z) Z h lo plo) (zd:vJ w (Av F h Z) Z h hi phi) (Az:vJ w (Av F h Z) Z h mx pmx) (e:cd P h t px plo phi pmx=some r):
  ∃u,(Instr.sliceAt t x lo hi mx).run P w=.ok u w/\aE w (Av F h Z) Z h u r:=by
 unfold cd at e
 split at e
 ·-- a string
  rename_i s hu
  obtain rfl:=hx.j9
  split at e
  cases e
  ·rename_i hm
   obtain rfl:pmx=none:=by simpa using hm
   obtain rfl:mx=none:=by cases mx <;>simp_all[vJ]
   split at e
   ·rename_i b hb
    split at e
    ·rename_i a ha
     obtain rfl:=aa2 e
     have h1:∃ee,(match hi with |some v=>Instr.sliceBound v s.size .sliceAlen |none=>pure s.size:Sem Nat).run P w=.ok b w/\ee=b:=by
      cases phi with
      |none=>cases hi with
       |none=>exact⟨b,by simp[iI hb],rfl⟩
       |some _=>simp[vJ]at zd
      |some ph=>cases hi with
       |none=>simp[vJ]at zd
       |some vh=>exact⟨b,(fV (P:=P) (show aE w _ Z h vh ph from zd) hb).2 _ (aa5 _),rfl⟩
     have h2:(match lo with |some v=>Instr.sliceBound v b .sliceB |none=>pure 0:Sem Nat).run P w=.ok a w:=by
      cases plo with
      |none=>cases lo with
       |none=>simp[iI ha]
       |some _=>simp[vJ]at zc
      |some pl=>cases lo with
       |none=>simp[vJ]at zc
       |some vl=>exact(fV (P:=P) (show aE w _ Z h vl pl from zc) ha).2 _ (aa5 _)
     obtain⟨_,h1,_⟩:=h1;refine⟨.string (s.extract a b),?_,.val (.str _)⟩;simp only[Instr.sliceAt,Sem.run_bind,bR hu,Result.andThen_ok,Instr.slice,Instr.sliceBounds]
     cases hi <;>cases lo <;>simp_all
    cases e
   cases e
 ·-- a snapshot
  rename_i el full es hu
  split at e
  ·rename_i sz hs
   split at e
   ·rename_i m hm
    split at e
    ·rename_i b hb
     split at e
     ·rename_i a ha
      split at e
      ·rename_i hc
       obtain⟨y9,uh⟩:=hc;obtain rfl:=aa2 e;obtain⟨ad,cap,rfl,hle,ve⟩:=hx.fK.kj;obtain⟨mc,r1,r2,r3,r4,r5,r6⟩:=GR (P:=P) zc zd Az hle hm hb ha y9
       have gm:(Instr.sliceAt t (.slice ad es.length cap) lo hi mx).run P w=.ok (.slice (if mc=a then ad else ad.map (·.add (a * sz))) (b - a) (mc - a)) w:=by
        simp only[Instr.sliceAt,Sem.run_bind,bR hu,Result.andThen_ok,Instr.slice,r1,cI hs,Sem.run_pure]
       refine⟨_,gm,.val ?_⟩
       have Wp:((if pmx.isSome then m==b else full&&b==es.length)=true->mc - a=b - a):=by
        intro hh
        cases pmx with
        |none=>
         simp at hh;have h1:=r5 rfl;have h2:=ve hh.1;omega
        |some pm=>
         simp at hh;have h1:=r6 (by simp);omega
       by_cases Pt:b - a=0
       ·rw[Pt];have:(es.drop a).take 0=[]:=by simp
        rw[this];exact .gp _ _ _ (λhh=>by have:=Wp hh;omega)
       ·have hmc:mc≠a:=by omega
        rw[if_neg hmc];rcases hx.fK.tT with rfl |⟨b0,off,Fk,HJ,oP,ev,k4,k5,k6,k7,k8⟩;simp at r3;omega
        ·simp at ev;obtain⟨rfl,rfl⟩:=ev
         have gC:HJ=sz:=by
          have:=k6 a (by omega);have HI:es[a]?=some es[a]:=aa6 (by omega);rw[HI]at uh;simp[List.getD,show a<es.length by omega]at this uh;omega
         subst gC;have hlen:((es.drop a).take (b - a)).length=b - a:=by simp;omega
         have vA:∀i,i<b - a->((es.drop a).take (b - a)).getD i .any=es.getD (a+i) .any:=λi hi=>by
          simp[List.getD,abI,hi]
         have:=bZ.aa (w:=w) (A:=Av F h Z) b0 (off+a * HJ) (mc - a) HJ (if pmx.isSome then m==b else full&&b==es.length) ((es.drop a).take (b - a)) (λi j=>oP (a+i) j)
          (by intro hn;rw[hn]at hlen;simp at hlen;omega) (by rw[hlen];omega) (λhh=>by rw[hlen];exact Wp hh) k4 k5
          (λi hi=>by rw[hlen]at hi;rw[vA i hi];exact k6 (a+i) (by omega))
          (λi j hi hj=>by
           rw[hlen]at hi;have:=k7 (a+i) j (by omega) hj;rw[abX]at this;rw[show off+a * HJ+(i * HJ+j)=off+(a * HJ+i * HJ+j) by omega];exact this)
          (λi j hi hj=>by rw[hlen]at hi;rw[vA i hi];exact k8 (a+i) j (by omega) hj)
         rw[hlen]at this;simpa[eW]using this
      cases e
     cases e
    cases e
   cases e
  cases e
 ·-- a reference
  rename_i el id ep off len hu
  split at e
  ·rename_i sz o hs ho
   split at e
   ·rename_i hc
    obtain⟨rfl,hle⟩:=hc;obtain⟨e1,e2,e3⟩:=getM_some ho;obtain⟨bc,ME⟩:=db H.len e1;obtain⟨m1,m2,m3⟩:=hx.dL;obtain⟨cap,rfl,c2⟩:=m3 o bc e1 ME e3 e2 hle;obtain⟨T,sb,k1,k2,k3,k4,k5⟩:=(H.obj id o bc e1 ME e3).c (m2 o e1).2
    split at e
    ·rename_i b KE
     split at e
     ·rename_i a ha
      obtain⟨aas,kk,ii,aat,hgt,CF⟩:pmx=none/\∃kk ii,phi=some (.int kk ii)/\(len:Int)<ii/\cN (some (.int kk ii)) 0 (o.es.length - off)=some b:=by
       unfold beyond at KE
       split at KE
       ·rename_i kk ii
        split at KE
        exact⟨rfl,kk,ii,rfl,by assumption,KE⟩
        cases KE
       cases KE
      subst aas;subst aat;obtain⟨mc,r1,r2,r3,r4,r5,r6⟩:=GR (P:=P) (len:=o.es.length - off) (cap:=cap) (m:=o.es.length - off) zc zd Az (by omega) rfl CF ha rfl;have aau:mx=none:=by cases mx with |none=>rfl |some _=>simp[vJ]at Az
      subst aau
      have r1':(Instr.sliceBounds true len cap lo hi none).run P w=.ok (a,b,mc) w:=by
       cases hi with
       |none=>simp[vJ]at zd
       |some vh=>exact r1
      have gm:(Instr.sliceAt t (.slice (some ⟨bc.1,off * o.bA,none⟩) len cap) lo hi none).run P w=.ok (.slice (if mc=a then some ⟨bc.1,off * o.bA,none⟩else some ⟨bc.1,off * o.bA+a * o.bA,none⟩) (b - a) (mc - a)) w:=by
       simp only[Instr.sliceAt,Sem.run_bind,bR hu,Result.andThen_ok,Instr.slice,r1',cI hs,Sem.run_pure,abf,eW]
      refine⟨_,gm,?_⟩;have h1:=r5 rfl
      split at e
      ·rename_i TG
       subst TG;obtain rfl:=aa2 e;refine .aj _ id ep off b o bc ⟨_,_,_,rfl⟩ e1 ME e3 (m2 o e1) (λ_ _=>?_);exact⟨cap,by rw[h1];split <;>simp,c2⟩
      ·rename_i TG
       split at e
       ·rename_i hz
        obtain rfl:=aa2 e;rw[hz];exact .val (.gp _ _ _ (λhh=>by cases hh))
       ·rename_i hz
        obtain rfl:=aa2 e;rw[if_neg (by omega)];refine .aj _ id ep (off+a) (b - a) o bc ⟨_,_,_,rfl⟩ e1 ME e3 (m2 o e1) (λ_ _=>?_);exact⟨cap - a,by rw[h1,abX],by omega⟩
     cases e
    split at e
    ·rename_i m hm
     split at e
     ·rename_i b hb
      split at e
      ·rename_i a ha
       split at e
       ·rename_i y9
        obtain⟨mc,r1,r2,r3,r4,r5,r6⟩:=GR (P:=P) (cap:=cap) zc zd Az (by omega) hm hb ha y9
        have gm:(Instr.sliceAt t (.slice (some ⟨bc.1,off * o.bA,none⟩) len cap) lo hi mx).run P w=.ok (.slice (if mc=a then some ⟨bc.1,off * o.bA,none⟩else some ⟨bc.1,off * o.bA+a * o.bA,none⟩) (b - a) (mc - a)) w:=by
         simp only[Instr.sliceAt,Sem.run_bind,bR hu,Result.andThen_ok,Instr.slice,r1,cI hs,Sem.run_pure,abf,eW]
        refine⟨_,gm,?_⟩
        split at e
        ·rename_i hms
         split at e
         ·rename_i hma
          obtain rfl:=aa2 e;have h1:=r6 (by intro hh;rw[hh]at hms;simp at hms);have:b - a=0:=by omega
          rw[this];exact .val (.gp _ _ _ (λ_=>by omega))
         ·obtain rfl:=aa2 e;exact .any _
        ·rename_i hms
         have h1:=r5 (by cases pmx <;>simp_all)
         split at e
         ·rename_i TG
          subst TG;obtain rfl:=aa2 e;refine .aj _ id ep off b o bc ⟨_,_,_,rfl⟩ e1 ME e3 (m2 o e1) (λ_ _=>?_);exact⟨cap,by rw[h1];split <;>simp,c2⟩
         ·rename_i TG
          split at e
          ·rename_i hz
           obtain rfl:=aa2 e;rw[hz];exact .val (.gp _ _ _ (λhh=>by cases hh))
          ·rename_i hz
           obtain rfl:=aa2 e;rw[if_neg (by omega)];refine .aj _ id ep (off+a) (b - a) o bc ⟨_,_,_,rfl⟩ e1 ME e3 (m2 o e1) (λ_ _=>?_);exact⟨cap - a,by rw[h1,abX],by omega⟩
       cases e
      cases e
     cases e
    cases e
   cases e
  cases e
 cases e
theorem KF(l:List Value):∀(i off:Nat) (cs:Array Value),off+i+l.length<=cs.size->
  ((l.zipIdx i).foldl (λcs (x:Value×Nat)=>cs.setIfInBounds (off+x.2) x.1) cs).size=cs.size/\
  ∀k,((l.zipIdx i).foldl (λcs (x:Value×Nat)=>cs.setIfInBounds (off+x.2) x.1) cs)[k]?=if off+i<=k/\k<off+i+l.length then l[k - (off+i)]? else cs[k]?:=by
 induction l with
 |nil=>intro i off cs _;exact⟨rfl,λk=>by rw[if_neg (by simp only[abH];omega)];rfl⟩
 |cons v r ih=>
  intro i off cs hl
  simp only[abg]at hl;obtain⟨h1,h2⟩:=ih (i+1) off (cs.setIfInBounds (off+i) v) (by simp;omega);refine⟨by simpa[List.zipIdx_cons]using h1,λk=>?_⟩;rw[List.zipIdx_cons,List.foldl_cons,h2 k]
  by_cases hA:off+i=k
  ·subst hA;rw[if_neg (by omega),if_pos (by simp only[abg];omega)];rw[Array.getElem?_setIfInBounds_self_of_lt (by omega)];simp
  ·by_cases hB:off+(i+1)<=k/\k<off+(i+1)+r.length
   ·rw[if_pos hB,if_pos (by simp only[abg];omega)];obtain⟨m,hm⟩:∃m,k - (off+i)=m+1:=⟨k - (off+i) - 1,by omega⟩;rw[hm,acf]
    congr 1
    omega
   ·rw[if_neg hB,if_neg (by simp only[abg];omega),Array.getElem?_setIfInBounds_ne hA]
theorem Em(v:Value)(off:Nat)(cs:Array Value)(hl:off+v.cells.size<=cs.size):
  (v.cells.zipIdx.foldl (λcs (x:Value×Nat)=>cs.setIfInBounds (off+x.2) x.1) cs).size=cs.size/\
  ∀k,(v.cells.zipIdx.foldl (λcs (x:Value×Nat)=>cs.setIfInBounds (off+x.2) x.1) cs)[k]?=if off<=k/\k<off+v.cells.size then v.cells[k - off]? else cs[k]?:=by
 have:=KF v.cells.toList 0 off cs (by simpa using hl);simp only[acA,ach,abD]at this;rw[<-Array.foldl_toList,Array.toList_zipIdx];exact this
def mL(w:World)(A:Nat->Prop)(Z:List (Nat×Nat))(h:ab)(vs:List (Nat×Value))(ps:List (Nat×PV)):Prop:=
 vs.length=ps.length/\∀(k:Nat) (x:Nat×PV),ps[k]?=some x->∃v:Value,vs[k]?=some (x.1,v)/\aE w A Z h v x.2
theorem mL.IG{A:Nat->Prop}{vs:List (Nat×Value)}(r:mL w A Z h vs []):vs=[]:=abj r.1
theorem mL.cons_inv{A:Nat->Prop}{vs:List (Nat×Value)}{x:Nat×PV}{ps:List (Nat×PV)}(r:mL w A Z h vs (x::ps)):∃v GS,vs=(x.1,v)::GS/\aE w A Z h v x.2/\mL w A Z h GS ps:=by
 obtain⟨h1,h2⟩:=r;obtain⟨v,h3,h4⟩:=h2 0 x rfl
 match vs,h1,h3 with
 |y::GS,h1,h3=>
  simp at h3;subst h3;exact⟨v,GS,rfl,h4,by simpa using h1,λk x hx=>by simpa using h2 (k+1) x (by simpa using hx)⟩
def yy(w:World)(A:Nat->Prop)(Z:List (Nat×Nat))(h:ab)(cs:Array Value)(ps:List PV):Prop:=
 cs.size=ps.length/\∀(k:Nat) (q:PV),ps[k]?=some q->∃u:Value,cs[k]?=some u/\aE w A Z h u q
theorem En{A:Nat->Prop}{pl:Nat->Option (Nat×Nat)}{pl':Nat->Option (Nat×Nat)}(oH:∀i x,pl i=some x->pl' i=some x):∀(ps:List (Nat×PV)) (vs:List (Nat×Value)) (cs:Array Value) (cps r:List PV),
  mL w A Z h vs ps->yy w A Z h cs cps->kc pl cps ps=some r->∃jx,Instr.fill pl' cs vs=some jx/\yy w A Z h jx r:=by
 intro ps
 induction ps with
 |nil=>
  intro vs cs cps r hp hc e
  obtain rfl:=hp.IG;simp[kc]at e;subst e;exact⟨cs,by simp[Instr.fill],hc⟩
 |cons x ps ih=>
  intro vs cs cps r hp hc e
  obtain⟨v,GS,rfl,h1,h2⟩:=hp.cons_inv;obtain⟨i,p⟩:=x;simp only[kc]at e
  split at e
  cases e
  ·rename_i off size hi
   split at e
   ·rename_i E3
    obtain⟨c1,c2,c3⟩:=E3;obtain⟨x1,x2⟩:=h1.cells c2;simp only at x1 x2 c1;have gC:=hc.1;obtain⟨f1,f2⟩:=Em v off cs (by omega)
    obtain⟨jx,g1,g2⟩:=ih GS _ (rV cps off (Pm.cells p)) r h2 (by
     refine⟨by rw[f1];simp[rV];omega,λk q hq=>?_⟩;rw[rV,gJ _ _ _ _ (by omega)]at hq;rw[f2 k]
     by_cases hA:k<off
     ·rw[if_pos hA]at hq;obtain⟨u,m1,m2⟩:=hc.2 k q hq;exact⟨u,by rw[if_neg (by omega)];exact m1,m2⟩
     ·rw[if_neg hA]at hq
      by_cases hB:k<off+(Pm.cells p).length
      ·rw[if_pos hB]at hq;obtain⟨u,m1,m2,_⟩:=x2 _ q hq;exact⟨u,by rw[if_pos (by omega)];exact m1,m2⟩
      ·rw[if_neg hB]at hq;obtain⟨u,m1,m2⟩:=hc.2 k q hq;exact⟨u,by rw[if_neg (by omega)];exact m1,m2⟩) e
    refine⟨jx,?_,g2⟩;simp only[Instr.fill,oH i _ hi];rw[if_neg (by simp;omega)];exact g1
   cases e
theorem Eo(fs:Array Field)(ek:fs.toList.all (λf=>(cw P f.type).isSome)=true)(w:World):
  ∃pl:Array (Nat×Nat),(fs.mapM (λf=>do pure (f.offset,<-sizeOf f.type)):Sem (Array (Nat×Nat))).run P w=.ok pl w/\∀i x,iL P fs i=some x->pl[i]?=some x:=by
 have main:∀(l:List Field),l.all (λf=>(cw P f.type).isSome)=true->
   ∃pl:List (Nat×Nat),(l.mapM (λf=>do pure (f.offset,<-sizeOf f.type)):Sem (List (Nat×Nat))).run P w=.ok pl w/\∀(i:Nat) (f:Field),l[i]?=some f->∃s,cw P f.type=some s/\pl[i]?=some (f.offset,s):=by
  intro l
  induction l with
  |nil=>intro _;exact⟨[],by simp,λi f hf=>by simp at hf⟩
  |cons f r ih=>
   intro ha
   simp at ha;obtain⟨s,hs⟩:=adb.1 ha.1;obtain⟨pl,h1,h2⟩:=ih (by simpa using ha.2);refine⟨(f.offset,s)::pl,?_,λi g hg=>?_⟩;simp only[List.mapM_cons,Sem.run_bind,cI hs,Result.andThen_ok,Sem.run_pure,h1]
   ·cases i with
    |zero=>simp at hg;subst hg;exact⟨s,hs,rfl⟩
    |succ i=>simpa using h2 i g (by simpa using hg)
 obtain⟨pl,h1,h2⟩:=main fs.toList ek;refine⟨pl.toArray,?_,λi x hx=>?_⟩
 ·rw[<-Array.toArray_toList (xs:=fs),List.mapM_toArray];simp only[Sem.run_map,h1,Result.andThen_ok]
 ·unfold iL at hx
  split at hx
  ·rename_i f hf
   obtain⟨s,g1,g2⟩:=h2 i f (by simpa using hf);rw[g1]at hx;simp at hx;subst hx;simpa using g2
  cases hx
theorem yy.agg{A:Nat->Prop}{cs:Array Value}{ps:List PV}(r:yy w A Z h cs ps):aE w A Z h (.agg cs) (.agg ps):=by
 have:=aE.agg (w:=w) (A:=A) (Z:=Z) (h:=h) cs.toList ps (by simpa using r.1) (λj hj=>by
  obtain⟨u,m1,m2⟩:=r.2 j ps[j] (aa6 hj);have e1:cs.toList.getD j Go.undef=u:=by simp[List.getD,m1]
  have e2:ps.getD j .any=ps[j]:=by simp[List.getD,hj]
  rw[e1,e2];exact m2)
 simpa using this
theorem vg{A:Nat->Prop}{t:TypeId}{z:PV}(e:je P t=some z)(h1:(Pm.cells z).all bC=true)(w:World)(Z:List (Nat×Nat))(h:ab):∃v,(∀w,(zeroValue t).run P w=.ok v w)/\yy w A Z h v.cells (Pm.cells z):=by
 obtain⟨v,z1,z2⟩:=jV (P:=P) e;obtain⟨x1,x2⟩:=(z2 w A Z h).cells h1;exact⟨v,z1,x1,λk q hq=>by obtain⟨u,m1,m2,_⟩:=x2 k q hq;exact⟨u,m1,m2⟩⟩
theorem KG{A:Nat->Prop}{t:TypeId}{vs:Array (Nat×Value)}{ps:List (Nat×PV)}{r:PV}(hp:mL w A Z h vs.toList ps)(e:wj P t ps=some r):
  ∃u,(Instr.build t vs).run P w=.ok u w/\aE w A Z h u r:=by
 unfold wj at e
 split at e
 ·rename_i z fs hz hu
  split at e
  ·rename_i ek
   obtain⟨ek,uh⟩:=ek
   cases hf:kc (iL P fs) (Pm.cells z) ps with
   |none=>rw[hf]at e;simp at e
   |some q=>
    rw[hf]at e;simp at e;subst e;obtain⟨v,z1,z2⟩:=vg (P:=P) (A:=A) hz uh w Z h;obtain⟨pl,p1,p2⟩:=Eo fs ek w;obtain⟨jx,g1,g2⟩:=En (pl':=λi=>pl[i]?) p2 ps vs.toList v.cells (Pm.cells z) q hp z2 hf;refine⟨.agg jx,?_,g2.agg⟩;simp only[Instr.build,Sem.run_bind,z1,Result.andThen_ok,bR hu,p1,g1,Sem.run_pure]
  cases e
 ·rename_i z n el hz hu
  split at e
  ·rename_i size hs
   split at e
   ·rename_i uh
    cases hf:kc (λi=>some (i * size,size)) (Pm.cells z) ps with
    |none=>rw[hf]at e;simp at e
    |some q=>
     rw[hf]at e;simp at e;subst e;obtain⟨v,z1,z2⟩:=vg (P:=P) (A:=A) hz uh w Z h;obtain⟨jx,g1,g2⟩:=En (pl':=λi=>some (i * size,size)) (λ_ _ hx=>hx) ps vs.toList v.cells (Pm.cells z) q hp z2 hf;refine⟨.agg jx,?_,g2.agg⟩;simp only[Instr.build,Sem.run_bind,z1,Result.andThen_ok,bR hu,cI hs,g1,Sem.run_pure]
   cases e
  cases e
 cases e
theorem Flat.set{A:Nat->Prop}{sz:Nat}{cs jx:Array Value}{es:List PV}(a:Flat w A Z h sz cs.toList es){v:Value}{p:PV}(hv:aE w A Z h v p)(h1:(Pm.cells p).length=sz)(h2:(Pm.cells p).all bC=true)
  (i:Nat) (hi:i<es.length) (gC:jx.size=cs.size) (hk:∀k,jx[k]?=if i * sz<=k/\k<i * sz+v.cells.size then v.cells[k - i * sz]? else cs[k]?):Flat w A Z h sz jx.toList (es.set i p):=by
 obtain⟨x1,x2⟩:=hv.cells h2;refine⟨by have:=a.1;simp at this ⊢;omega,λk e he=>?_⟩
 by_cases SM:k=i
 ·subst SM;rw[aa7 hi]at he;obtain rfl:=aa2 he;refine⟨h1,λj q hq=>?_⟩;have hj:=ag hq;obtain⟨u,m1,m2,_⟩:=x2 j q hq;refine⟨u,?_,m2⟩;rw[abD,hk,if_pos (by omega),show k * sz+j - k * sz=j by omega];exact m1
 ·rw[aa8 (abW SM)]at he;obtain⟨n1,n2⟩:=a.2 k e he;refine⟨n1,λj q hq=>?_⟩;have hj:=ag hq;obtain⟨u,m1,m2⟩:=n2 j q hq;refine⟨u,?_,m2⟩;rw[abD,hk,if_neg];simpa using m1
  ·rcases Nat.lt_or_gt_of_ne SM with hl |hg
   ·have:=kO (s:=sz) hl;omega
   ·have:=kO (s:=sz) hg;omega
theorem KH{A:Nat->Prop}{sz:Nat}:∀(ps:List (Nat×PV)) (vs:List (Nat×Value)) (cs:Array Value) (es:List PV),mL w A Z h vs ps->Flat w A Z h sz cs.toList es->
  (∀x∈ps,(Pm.cells x.2).length=sz/\(Pm.cells x.2).all bC=true/\x.1<es.length)->
  ∃jx,Instr.fill (λi=>some (i * sz,sz)) cs vs=some jx/\Flat w A Z h sz jx.toList (ps.foldl (λes x=>es.set x.1 x.2) es):=by
 intro ps
 induction ps with
 |nil=>
  intro vs cs es hp hf _
  obtain rfl:=hp.IG;exact⟨cs,by simp[Instr.fill],hf⟩
 |cons x ps ih=>
  intro vs cs es hp hf ek
  obtain⟨v,GS,rfl,h1,h2⟩:=hp.cons_inv;obtain⟨c1,c2,c3⟩:=ek x (by simp);obtain⟨x1,_⟩:=h1.cells c2;have hl:=hf.1;have hm:=kO (s:=sz) c3;simp at hl;obtain⟨f1,f2⟩:=Em v (x.1 * sz) cs (by omega);have Wp:=hf.set h1 c1 c2 x.1 c3 f1 f2
  obtain⟨jx,g1,g2⟩:=ih GS _ _ h2 Wp (λy hy=>by
   obtain⟨d1,d2,d3⟩:=ek y (by simp[hy]);exact⟨d1,d2,by simpa using d3⟩)
  refine⟨jx,?_,g2⟩;simp only[Instr.fill];rw[if_neg (by simp;omega)];exact g1
theorem Flat.aa{A:Nat->Prop}{sz:Nat}{cs:List Value}{es:List PV}(a:Flat w A Z h sz cs es)(hs:0<sz)(hv:ao es=true){w':World}{A':Nat->Prop}{b cap:Nat}{full:Bool}
  (hw:∀k,k<w.heap.size->¬A k->w'.heap[k]?=w.heap[k]?) (hA:∀k,k<w.heap.size->¬A k->¬A' k) (hb:¬A' b) (hc:∀(k:Nat) (u:Value),cs[k]?=some u->w'.cell? ⟨b,k,none⟩=some u) (BR:es.length<=cap) (ve:full=true->cap=es.length):
  bZ w' A' (.slice (some ⟨b,0,none⟩) es.length cap) (.aa full es):=by
 by_cases hn:es=[]
 ·subst hn;exact .gp _ _ _ (λhh=>by simpa using ve hh)
 ·have isv:∀(l:List PV),ao l=true->∀e∈l,aV e=true:=by
   intro l
   induction l with
   |nil=>intro _ e he;cases he
   |cons c r ih=>
    intro hl e he
    simp[ao]at hl;rcases abc.1 he with rfl |he;exact hl.1;exact ih hl.2 e he
  have I0:∀(e:PV),aV e=true->∀q∈Pm.cells e,aV q=true:=by
   intro e he q hq
   cases e <;>first
    |(simp only[Pm.cells,abC]at hq;subst hq;exact he)
    |(simp[aV]at he;exact isv _ he q hq)
  have at_:∀i j,i<es.length->j<sz->∃u,cs[i * sz+j]?=some u/\bZ w A u ((Pm.cells (es.getD i .any)).getD j .any):=by
   intro i j hi hj
   have he:=aa6 hi;obtain⟨n1,n2⟩:=a.2 i _ he;have hq:=aa6 (show j<(Pm.cells es[i]).length by omega);obtain⟨u,m1,m2⟩:=n2 j _ hq;have e1:es.getD i .any=es[i]:=by simp[List.getD,hi]
   refine⟨u,m1,?_⟩;rw[e1];have e2:(Pm.cells es[i]).getD j .any=(Pm.cells es[i])[j]'(by omega):=by simp[List.getD,hq]
   rw[e2];exact m2.EZ (I0 _ (isv es hv _ (abF hi)) _ (abF _))
  refine .aa b 0 cap sz full es (λi j=>cs.getD (i * sz+j) Go.undef) hn BR ve hb hs (λi hi=>?_) (λi j hi hj=>?_) (λi j hi hj=>?_)
  ·have e1:es.getD i .any=es[i]:=by simp[List.getD,hi]
   rw[e1];exact(a.2 i _ (aa6 hi)).1
  ·obtain⟨u,m1,m2⟩:=at_ i j hi hj;rw[abp,hc _ u m1];simp[List.getD,m1]
  ·obtain⟨u,m1,m2⟩:=at_ i j hi hj;have:cs.getD (i * sz+j) Go.undef=u:=by simp[List.getD,m1]
   rw[this];exact m2.mono hw hA
theorem yz(H:ba w F Z h){lv:Nat}{t:TypeId}{n:Nat}{vs:Array (Nat×Value)}{ps:List (Nat×PV)}{r:PV}{h':ab}(hp:mL w (Av F h Z) Z h vs.toList ps)(e:dE P lv h t n ps=some (r,h')):
  BM P lv w F Z h (Instr.buildSlice t n vs) r h':=by
 unfold dE at e
 split at e
 ·rename_i el hu
  split at e
  ·rename_i size z hs hz
   split at e
   ·rename_i hc
    obtain⟨ov,Vt,VT,Od,ek⟩:=hc;obtain⟨vz,z1,z2⟩:=jV (P:=P) hz;obtain⟨s1,s2⟩:=qC (z2 w (Av F h Z) Z h) VT Od ov n
    obtain⟨jx,g1,g2⟩:=KH (sz:=size) ps vs.toList (List.map (λi=>vz.cells[i % vz.cells.size]!) (List.range (n * size))).toArray (List.replicate n z) hp (by simpa using s2) (λx hx=>by
     have:=aa4.1 ek x hx;simp only[abb,decide_eq_true_eq]at this;exact⟨this.1.1,this.1.2,by simpa using this.2⟩)
    have aav:ps.foldl (λes x=>es.set x.1 x.2) (List.replicate n z)=zh z n ps:=rfl;rw[aav]at g2
    have o8:(zh z n ps).length=n:=by
     have:∀(l:List (Nat×PV)) (es:List PV),(l.foldl (λes x=>es.set x.1 x.2) es).length=es.length:=by
      intro l
      induction l with
      |nil=>intro es;rfl
      |cons x l ih=>intro es;rw[List.foldl_cons,ih];simp
     unfold zh;rw[this];simp
    have gm:(Instr.buildSlice t n vs).run P w=.ok (.slice (some ⟨w.heap.size,0,none⟩) n n) (w.alloc (.cells jx el)):=by
     simp only[Instr.buildSlice,Sem.run_bind,bR hu,Result.andThen_ok,cI hs,Sem.run_ite];rw[if_neg (by omega)]
     by_cases h0:n * size=0
     ·have hnn:n=0:=by
       rcases Nat.mul_eq_zero.1 h0 with h |h;exact h;omega
      subst hnn;simp only[h0,if_true,Sem.run_pure,Result.andThen_ok,gS,List.range_zero,abx]at g1 ⊢;rw[g1];simp only[Sem.run_bind,newRow,run_newObj,Result.andThen_ok,Sem.run_pure]
      rfl
     ·simp only[h0,if_false,z1,Result.andThen_ok,Sem.run_pure,gS];rw[g1];simp only[Sem.run_bind,newRow,run_newObj,Result.andThen_ok,Sem.run_pure]
      rfl
    split at e
    ·rename_i hv
     obtain⟨rfl,rfl⟩:=abe (aa2 e);refine⟨_,_,Z,gm,.val ?_,H.I3 (dD.alloc w _),(dD.alloc w _).Cy h Z,λ_=>dD.alloc w _⟩
     have:=g2.aa (w':=w.alloc (.cells jx el)) (A':=Av F h Z) (b:=w.heap.size) (cap:=n) (full:=true) ov hv (λk hk _=>heap_alloc_old w _ k hk) (λk _ hk=>hk)
      (λhm=>by have:=Av.lt H hm;omega) (λk u hku=>by rw[World.cell?_alloc_new];simpa using hku) (by omega) (λ_=>by omega)
     rwa[o8]at this
    ·rename_i hv
     split at e
     ·obtain⟨rfl,rfl⟩:=abe (aa2 e)
      obtain⟨HH,S⟩:=ba.new H (w':=w.alloc (.cells jx el)) el jx {mu:=.m,ep:=0,bA:=size,es:=zh z n ps} n rfl rfl rfl rfl rfl (by simp[o8])
       (by have:=g2.1;simp[o8]at this;simp[this]) ov (λi e he=>by
        obtain⟨n1,n2⟩:=g2.2 i e he;exact⟨n1,λj p hp=>by obtain⟨u,m1,m2⟩:=n2 j p hp;exact⟨u,by simpa using m1,m2⟩⟩)
      exact⟨_,_,_,gm,H.v7,HH,S,λ_=>dD.alloc w _⟩
     cases e
   cases e
  cases e
 cases e
open Go.MapKept
theorem IB{A:Nat->Prop}{t:TypeId}{k:PV}{v:Value}(hk:zj P t k=true)(hv:aE w A Z h v k):∃d,P.underlying t=some d/\IsKey d v/\∀(k':PV) (v':Value) (b:Bool),rW k k'=some b->aE w A Z h v' k'->Instr.sameNow d v v'=some b/\(b=true->Instr.sameBits 10000 v' v=true/\aE w A Z h v k'):=by
 unfold zj at hk
 split at hk
 ·rename_i kd k n hu
  obtain rfl:=hv.dT;have hk:=of_decide_eq_true hk;refine⟨_,hu,by simpa[IsKey]using hk,λk' v' b hs Ll=>?_⟩
  cases k' <;>simp only[rW]at hs <;>try(cases hs;done)
  obtain rfl:=Ll.dT
  split at hs
  ·rename_i hkk
   subst hkk;obtain rfl:=aa2 hs;refine⟨by simp[Instr.sameNow],λhb=>?_⟩;have:=eq_of_beq hb;subst this;exact⟨by simp[Instr.sameBits],hv⟩
  cases hs
 ·rename_i s hu
  obtain rfl:=hv.j9;refine⟨_,hu,by simp[IsKey],λk' v' b hs Ll=>?_⟩
  cases k' <;>simp only[rW]at hs <;>try(cases hs;done)
  obtain rfl:=Ll.j9;obtain rfl:=aa2 hs;refine⟨by simp[Instr.sameNow],λhb=>?_⟩;have:=(bytes_beq _ _).1 hb;subst this;exact⟨by simp only[Instr.sameBits];exact hb,hv⟩
 ·rename_i b hu
  obtain rfl:=hv.gF;refine⟨_,hu,by simp[IsKey],λk' v' b hs Ll=>?_⟩
  cases k' <;>simp only[rW]at hs <;>try(cases hs;done)
  obtain rfl:=Ll.gF;obtain rfl:=aa2 hs;refine⟨by simp[Instr.sameNow],λhb=>?_⟩;have:=eq_of_beq hb;subst this;exact⟨by simp[Instr.sameBits],hv⟩
 cases hk
def EsR(w:World)(A:Nat->Prop)(Z:List (Nat×Nat))(h:ab)(l:List MapEntry)(ps:List PV):Prop:=
 l.length=ps.length/\∀(i:Nat) (e:PV),ps[i]?=some e->∃(k v:PV) (m:MapEntry),e=.agg [k,v]/\l[i]?=some m/\aE w A Z h m.key k/\aE w A Z h m.val v
theorem pY{A:Nat->Prop}{d:TypeDesc}{k:PV}{v:Value}(hs:∀(k':PV) (v':Value) (b:Bool),rW k k'=some b->aE w A Z h v' k'->Instr.sameNow d v v'=some b/\(b=true->Instr.sameBits 10000 v' v=true/\aE w A Z h v k')):
  ∀(l:List MapEntry) (ps:List PV) (n:Nat) (r:Option (Nat×PV)),EsR w A Z h l ps->mN k ps n=some r->
   match r with
   |none=>Instr.findNow d v l n=some none
   |some (j,p)=>∃(i:Nat) (m:MapEntry) (k':PV),j=n+i/\l[i]?=some m/\ps[i]?=some (.agg [k',p])/\Instr.findNow d v l n=some (some (j,m.val))/\aE w A Z h m.val p/\Instr.sameBits 10000 m.key v=true/\aE w A Z h v k'
 |[],ps,n,r,hR,e=>by
  obtain⟨h1,_⟩:=hR;have:ps=[]:=List.length_eq_zero_iff.1 h1.symm;subst this;simp only[mN]at e;obtain rfl:=aa2 e
  rfl
 |m::l,[],n,r,hR,e=>by
  obtain⟨h1,_⟩:=hR;simp at h1
 |m::l,p0::ps,n,r,hR,e=>by
  obtain⟨h1,h2⟩:=hR;obtain⟨k0,v0,m0,rfl,hm,Pu,C2⟩:=h2 0 p0 rfl;simp at hm;subst hm
  have hT:EsR w A Z h l ps:=⟨by simpa using h1,λi e he=>by
   obtain⟨k1,v1,m1,g1,g2,g3⟩:=h2 (i+1) e (by simpa using he);exact⟨k1,v1,m1,g1,by simpa using g2,g3⟩⟩
  simp only[mN]at e
  split at e
  ·rename_i zo
   obtain rfl:=aa2 e;obtain⟨q1,q2⟩:=hs k0 m.key true zo Pu;obtain⟨q3,q4⟩:=q2 rfl;exact⟨0,m,k0,rfl,rfl,rfl,by simp[Instr.findNow,q1],C2,q3,q4⟩
  ·rename_i zo
   obtain⟨q1,_⟩:=hs k0 m.key false zo Pu;have:=pY hs l ps (n+1) r hT e;have hf:Instr.findNow d v (m::l) n=Instr.findNow d v l (n+1):=by simp[Instr.findNow,q1]
   cases r with
   |none=>simpa[hf]using this
   |some jp=>
    obtain⟨j,p⟩:=jp;obtain⟨i,m1,k1,g1,g2,g3,g4,g5⟩:=this;exact⟨i+1,m1,k1,by omega,by simpa using g2,by simpa using g3,by rw[hf];exact g4,g5⟩
  cases e
theorem Ou{A:Nat->Prop}{es:Array MapEntry}{ps:List PV}(h1:es.size=ps.length)(h2:∀(i:Nat) (e:PV),ps[i]?=some e->∃(k v:PV) (m:MapEntry),e=.agg [k,v]/\es[i]?=some m/\aE w A Z h m.key k/\aE w A Z h m.val v):
  EsR w A Z h es.toList ps:=⟨by simpa using h1,λi e he=>by
 obtain⟨k,v,m,g1,g2,g3⟩:=h2 i e he;exact⟨k,v,m,g1,by simpa using g2,g3⟩⟩
theorem GK(H:ba w F Z h){vm vk:Value}{m k q:PV}{t:TypeId}{ok:Bool}(hm:aE w (Av F h Z) Z h vm m)(hk:aE w (Av F h Z) Z h vk k)(e:nN P h t m k ok=some q):
  ∃u,(Instr.lookup t vm vk ok).run P w=.ok u w/\aE w (Av F h Z) Z h u q:=by
 unfold nN at e
 split at e
 ·rename_i kt et hu
  split at e
  ·rename_i z hz
   split at e
   ·rename_i cQ
    obtain⟨d,hd,Ff,D8⟩:=IB cQ hk;obtain⟨vz,z1,z2⟩:=uv hz w (Av F h Z) Z h
    have Qv:∀{u:Value} {p:PV} (b:Bool),aE w (Av F h Z) Z h u p->aE w (Av F h Z) Z h (if ok then .tuple #[u,.bool b]else u) (gd ok p b):=by
     intro u p b hr
     unfold gd
     cases ok
     exact hr
     ·exact .cy [u,.bool b] [p,.bool b] rfl (λj hj=>by
       match j,hj with
       |0,_=>exact hr
       |1,_=>exact .val (.bool b))
    split at e
    ·obtain rfl:=aa2 e;obtain rfl:=hm.D9;refine⟨_,?_,Qv false z2⟩;simp only[Instr.lookup,Sem.run_bind,bR hu,Result.andThen_ok,Sem.run_pure,run_checkKey hd Ff,run_findKey (l:=(#[]:Array MapEntry).toList) hd (a:=none) rfl,z1]
    ·rename_i id
     split at e
     ·rename_i o ho
      obtain⟨bc,es,clock,rfl,k2,k3,k4⟩:=Ov H hm ho;have hE:=Ou k3 k4
      split at e
      ·rename_i j p hf
       obtain rfl:=aa2 e;obtain⟨i,me,k',g1,g2,g3,g4,g5,g6⟩:=pY D8 es.toList o.es 0 _ hE hf;refine⟨_,?_,Qv true g5⟩;simp only[Instr.lookup,Sem.run_bind,bR hu,Result.andThen_ok,Sem.run_pure,lO k2,run_checkKey hd Ff,run_findKey hd g4]
      ·rename_i hf
       obtain rfl:=aa2 e;have g4:=pY D8 es.toList o.es 0 _ hE hf;refine⟨_,?_,Qv false z2⟩;simp only[Instr.lookup,Sem.run_bind,bR hu,Result.andThen_ok,Sem.run_pure,lO k2,run_checkKey hd Ff,run_findKey hd g4,z1]
      cases e
     cases e
    cases e
   cases e
  cases e
 cases e
theorem Ea{lv:Nat}(H:ba w F Z h){t:TypeId}{r:Option PV}{vr:Option Value}(hr:vJ w (Av F h Z) Z h vr r){p:PV}{h':ab}(e:mO P lv h t r=some (p,h')):BM P lv w F Z h (Instr.makeMap t vr) p h':=by
 obtain⟨H1,S1⟩:=H.Vj
 have hv:aE (w.alloc (.map #[] 0)) (Av F (newObj h 0 []) (Z++[(w.heap.size,0)])) (Z++[(w.heap.size,0)]) (newObj h 0 []) (.map (some w.heap.size)) (.cM h.length):=
  .cM _ _ {mu:=.m,ep:=0,bA:=0,es:=[]} (w.heap.size,0) ⟨_,rfl⟩ (by simp[newObj]) (by rw[<-H.len];simp) (by simp) (λ_=>rfl)
 unfold mO at e
 split at e
 ·split at e
  ·obtain⟨rfl,rfl⟩:=abe (aa2 e)
   cases vr with
   |some v=>exact hr.elim
   |none=>exact⟨_,_,_,rfl,hv,H1,S1,λ_=>dD.alloc w _⟩
  ·rename_i k n kt et hu
   obtain⟨rfl,rfl⟩:=abe (aa2 e)
   cases vr with
   |none=>exact hr.elim
   |some v=>
    obtain rfl:=aE.dT hr;refine⟨_,_,_,?_,hv,H1,S1,λ_=>dD.alloc w _⟩;simp[Instr.makeMap,bR hu,asInt,asIntOf]
  ·cases e
 cases e
theorem yh(H:ba w F Z h){vm vk vx:Value}{m k x:PV}{t:TypeId}{h':ab}(hm:aE w (Av F h Z) Z h vm m)(hk:aE w (Av F h Z) Z h vk k)(hx:aE w (Av F h Z) Z h vx x)(e:nO P h t m k x=some h'):
  ∃w' Z',(Instr.mapUpdate t vm vk vx).run P w=.ok () w'/\ba w' F Z' h'/\dU w h Z w' h' Z':=by
 unfold nO at e
 split at e
 ·rename_i kt et id hu
  split at e
  ·rename_i o ho
   split at e
   ·rename_i hc
    obtain⟨cQ,oZ⟩:=hc;obtain⟨e1,e2,e3,e4⟩:=AQ ho;obtain⟨bc,hb⟩:=db H.len e1;obtain⟨_,es,clock,k2,k3,k4⟩:=(H.obj id o bc e1 hb e3).m e4;obtain rfl:=hm.Eb e1 hb e2;have hE:=Ou k3 k4;obtain⟨d,hd,Ff,D8⟩:=IB cQ hk;have cL:=(aby.1 k2).1
    have hZ:Z=Z.set id bc:=by
     apply ab8
     intro j
     by_cases hj:j=id
     subst hj;rw[aa7 (by have:=H.len;have:=ag e1;omega)];exact hb;rw[aa8 (abW hj)]
    have fin:∀(eB:Array MapEntry) (clock2:Nat) (ps:List PV),EsR w (Av F h Z) Z h eB.toList ps->
      ba {w with heap:=w.heap.setIfInBounds bc.1 (.map eB clock2)} F Z (h.set id {o with es:=ps})/\dU w h Z {w with heap:=w.heap.setIfInBounds bc.1 (.map eB clock2)} (h.set id {o with es:=ps}) Z:=by
     intro eB clock2 ps hR
     have cC:({w with heap:=w.heap.setIfInBounds bc.1 (.map eB clock2)}:World).heap[bc.1]?=some (.map eB clock2):=by
      simp[cL]
     have:=ba.Ym H e1 hb oZ (w':={w with heap:=w.heap.setIfInBounds bc.1 (.map eB clock2)}) ps o.ep bc (by simp) (λb tL bN=>by
      simp only[Array.getElem?_setIfInBounds];rw[if_neg (abW bN)]) (.inl ⟨rfl,λ_=>.inr e4⟩) (aa5 _) rfl rfl rfl (λhs=>.inr ⟨e4,eB,clock2,cC,by simpa using hR.1,λi e he=>by
       obtain⟨k,v,m,g1,g2,g3,g4⟩:=hR.2 i e he;exact⟨k,v,m,g1,by simpa using g2,g3.mono hs,g4.mono hs⟩⟩)
     rw[<-hZ]at this;exact this
    unfold Lv at e
    split at e
    ·rename_i es' RG
     obtain rfl:=aa2 e
     split at RG
     ·rename_i j p hf
      obtain rfl:=aa2 RG;obtain⟨i,me,k',g1,g2,g3,g4,g5,g6,g7⟩:=pY D8 es.toList o.es 0 _ hE hf;obtain rfl:j=i:=by omega
      have Xp:es[j]?=some me:=by simpa using g2
      obtain⟨HH,SS⟩:=fin (es.modify j λe=>{e with key:=vk,val:=vx}) clock (o.es.set j (.agg [k,x])) (by
       refine⟨by simp[k3],λi e he=>?_⟩
       by_cases hi:i=j
       ·subst hi;rw[aa7 (ag g3)]at he;obtain rfl:=aa2 he;refine⟨k,x,{me with key:=vk,val:=vx},rfl,?_,hk,hx⟩;rw[abD,ac0,if_pos rfl,Xp];rfl
       ·rw[aa8 (abW hi)]at he;obtain⟨k1,v1,m1,q1,q2,q3⟩:=k4 i e he;refine⟨k1,v1,m1,q1,?_,q3⟩;rw[abD,ac0,if_neg (abW hi)];exact q2)
      refine⟨_,Z,?_,HH,SS⟩;simp only[Instr.mapUpdate,Sem.run_bind,bR hu,Result.andThen_ok,lO k2,run_checkKey hd Ff,run_findKey hd g4,Instr.keyThatStays,Xp,abf,Option.getD_some,g6,if_true,Sem.run_pure,run_setObj_map _ k2]
     ·rename_i hf
      obtain rfl:=aa2 RG;have g4:=pY D8 es.toList o.es 0 _ hE hf
      obtain⟨HH,SS⟩:=fin (es.push {key:=vk,val:=vx,born:=clock}) (clock+1) (o.es++[.agg [k,x]]) (by
       refine⟨by simp[k3],λi e he=>?_⟩
       by_cases hi:i<o.es.length
       ·rw[aa3 hi]at he;obtain⟨k1,v1,m1,q1,q2,q3⟩:=k4 i e he;refine⟨k1,v1,m1,q1,?_,q3⟩;rw[abD,Array.getElem?_push,if_neg (by omega)];exact q2
       ·have hl:=ag he;simp at hl;obtain rfl:i=o.es.length:=by omega
        rw[abd (aa5 _)]at he;simp at he;subst he;refine⟨k,x,{key:=vk,val:=vx,born:=clock},rfl,?_,hk,hx⟩;rw[abD,<-k3];simp)
      refine⟨_,Z,?_,HH,SS⟩;simp only[Instr.mapUpdate,Sem.run_bind,bR hu,Result.andThen_ok,lO k2,run_checkKey hd Ff,run_findKey hd g4,run_setObj_map _ k2]
     cases RG
    cases e
   cases e
  cases e
 cases e
end Go.Pm
