/-
  A part of the library Pm (joined by program). Conditions: none.
-/
import Derived.Test.YtimogkojklpdnaaGreatDoorPyAA
import Derived.Laws.BytesArg
import Derived.MapKept
set_option linter.unusedVariables false
set_option linter.unusedSimpArgs false
set_option linter.unnecessarySimpa false
namespace Go.Pm
theorem pd{R:Nat->Value->Prop}:∀(n:Nat),(∀j,j<n->∃u,R j u)->∃vs:List Value,vs.length=n/\∀j,j<n->R j (vs.getD j undef)
 |0,_=>⟨[],rfl,λj hj=>absurd hj (Nat.not_lt_zero _)⟩
 |n+1,h=>by
  obtain⟨vs,hl,hr⟩:=pd n (λj hj=>h j (by omega));obtain⟨u,hu⟩:=h n (by omega);refine⟨vs++[u],by simp[hl],λj hj=>?_⟩
  by_cases Yw:j<n
  ·have:(vs++[u]).getD j undef=vs.getD j undef:=by simp[List.getD,Z0 (show j<vs.length by omega)]
   rw[this];exact hr j Yw
  ·obtain rfl:j=n:=by omega
   have:(vs++[u]).getD j undef=u:=by simp[List.getD,<-hl]
   rw[this];exact hu
theorem getM_some{h:ab}{id ep:Nat}{o:au}(e:getM h id ep=some o):h[id]?=some o/\o.ep=ep/\o.mu≠.x:=by
 unfold getM at e
 split at e
 ·rename_i o' ho
  split at e
  ·rename_i hc
   obtain rfl:=ZZ e;exact⟨ho,hc.1,hc.2⟩
  ·cases e
 ·cases e
theorem dn{h:ab}{β:List (Nat×Nat)}(hl:β.length=h.length){id:Nat}{o:au}(e:h[id]?=some o):∃bc,β[id]?=some bc:=by
 have:id<h.length:=by
  rcases aaD id h.length with h1 |h1
  ·exact h1
  ·rw[aag h1]at e;cases e
 exact⟨β[id]'(by omega),Z3 (by omega)⟩
theorem ag{α:Type}{l:List α}{i:Nat}{x:α}(h:l[i]?=some x):i<l.length:=by
 rcases aaD i l.length with h1 |h1
 ·exact h1
 ·rw[aag h1]at h;cases h
theorem Mb.lt{w:World}{F:Nat->Prop}{β:List (Nat×Nat)}{h:ab}(H:aZ w F β h){b:Nat}(m:Mb h β b):b<w.heap.size:=by
 obtain⟨id,o,bc,e1,e2,e3,rfl⟩:=m;exact(H.obj id o bc e1 e2 (by rw[e3];simp)).lt
theorem Av.lt{w:World}{F:Nat->Prop}{β:List (Nat×Nat)}{h:ab}(H:aZ w F β h){b:Nat}(m:Av F h β b):b<w.heap.size:=by
 rcases m with m |m
 ·exact H.fin b m
 ·exact Mb.lt H m
structure dF(w w':World):Prop where
 size:w.heap.size<=w'.heap.size
 aR:∀b,b<w.heap.size->w'.heap[b]?=w.heap[b]?
 os:w'.os=w.os
 tape:w'.tape=w.tape
 output:w'.output=w.output
 drawn:w.drawn<=w'.drawn
theorem dF.refl(w:World):dF w w:=⟨Z5 _,λ_ _=>rfl,rfl,rfl,rfl,Z5 _⟩
theorem dF.trans{a b c:World}(x:dF a b)(y:dF b c):dF a c:=
 ⟨aaQ x.size y.size,λk hk=>(y.aR k (aaK hk x.size)).trans (x.aR k hk),y.os.trans x.os,y.tape.trans x.tape,y.output.trans x.output,aaQ x.drawn y.drawn⟩
theorem dF.alloc(w:World)(o:Obj):dF w (w.alloc o):=⟨by simp,λb hb=>heap_alloc_old w o b hb,rfl,rfl,rfl,Z5 _⟩
theorem dF.drew(w:World):dF w w.drew:=⟨Z5 _,λ_ _=>rfl,rfl,rfl,rfl,abI _⟩
theorem dF.Qe{w w':World}(g:dF w w')(h:ab)(β:List (Nat×Nat)):dS w h β w' h β where
 size:=g.size
 len:=Z5 _
 aR b hb _:=g.aR b hb
 shr _ _ m:=m
 refs:=Gu.refl h β
 JD id o h1 _:=⟨h1,rfl⟩
 os:=g.os
 tape:=g.tape
 output:=g.output
 drawn:=g.drawn
theorem ke.mono{w w':World}{F:Nat->Prop}{h h':ab}{β β':List (Nat×Nat)}(s:dS w h β w' h' β'){o:au}{bc:Nat×Nat}(hb:w'.heap[bc.1]?=w.heap[bc.1]?)
  (r:ke w (Av F h β) β h o bc):ke w' (Av F h' β') β' h' o bc:=by
 rcases r with⟨T,cs,h1,h2,h3,h4,h5⟩|⟨h0,es,clock,h1,h2,h3⟩
 ·refine .inl ⟨T,cs,hb.trans h1,h2,h3,h4,λi e he=>⟨(h5 i e he).1,λj p hp=>?_⟩⟩;obtain⟨v,k1,k2⟩:=(h5 i e he).2 j p hp;exact⟨v,k1,k2.mono s⟩
 ·refine .inr ⟨h0,es,clock,hb.trans h1,h2,λi e he=>?_⟩;obtain⟨k,v,m,q1,q2,q3,q4⟩:=h3 i e he;exact⟨k,v,m,q1,q2,q3.mono s,q4.mono s⟩
theorem aZ.JY{w w':World}{F:Nat->Prop}{β:List (Nat×Nat)}{h:ab}(H:aZ w F β h)(g:dF w w'):aZ w' F β h where
 len:=H.len
 fin b hb:=aaK (H.fin b hb) g.size
 obj id o bc e1 e2 e3:=by
  have r:=H.obj id o bc e1 e2 e3;exact ke.mono (g.Qe h β) (g.aR _ r.lt) r
 ig:=H.ig
 out:=H.out
theorem aZ.VY{w w':World}{F:Nat->Prop}{β:List (Nat×Nat)}{h:ab}(H:aZ w F β h)(ob:Obj)(o:au)(cap:Nat)
  (hw:w'.heap=w.heap.push ob) (ho:w'.os=w.os) (ht:w'.tape=w.tape) (hu:w'.output=w.output)
  (hm:o.mu=.m)
  (hR:dS w h β w' (h++[o]) (β++[(w.heap.size,cap)])->w'.heap[w.heap.size]?=some ob->ke w' (Av F (h++[o]) (β++[(w.heap.size,cap)])) (β++[(w.heap.size,cap)]) (h++[o]) o (w.heap.size,cap))
  (hd:w.drawn<=w'.drawn:=by first |exact Z5 _ |exact abI _):
  aZ w' F (β++[(w.heap.size,cap)]) (h++[o])/\dS w h β w' (h++[o]) (β++[(w.heap.size,cap)]):=by
 have gv:w'.heap.size=w.heap.size+1:=by rw[hw];simp
 have hold:∀b,b<w.heap.size->w'.heap[b]?=w.heap[b]?:=λb hb=>by rw[hw,Array.getElem?_push,if_neg (by omega)]
 have Lb:w'.heap[w.heap.size]?=some ob:=by rw[hw];simp
 have hlen:=H.len
 have nM:∀id,id<h.length->(h++[o])[id]?=h[id]?/\(β++[(w.heap.size,cap)])[id]?=β[id]?:=λid bU=>
  ⟨Z0 bU,Z0 (by omega)⟩
 have at_new:(h++[o])[h.length]?=some o/\(β++[(w.heap.size,cap)])[h.length]?=some (w.heap.size,cap):=by
  constructor
  ·simp
  ·rw[<-hlen];simp
 have split:∀id (o':au) (de:Nat×Nat),(h++[o])[id]?=some o'->(β++[(w.heap.size,cap)])[id]?=some de->
   (id<h.length/\h[id]?=some o'/\β[id]?=some de)\/(id=h.length/\o'=o/\de=(w.heap.size,cap)):=by
  intro id o' de e1 e2
  by_cases bU:id<h.length
  ·left;rw[(nM id bU).1]at e1;rw[(nM id bU).2]at e2;exact⟨bU,e1,e2⟩
  ·right
   have:id<(h++[o]).length:=ag e1;obtain rfl:id=h.length:=by simp at this;omega
   rw[at_new.1]at e1;rw[at_new.2]at e2;exact⟨rfl,(ZZ e1).symm,(ZZ e2).symm⟩
 have hs:dS w h β w' (h++[o]) (β++[(w.heap.size,cap)]):=by
  refine⟨by omega,by simp,λb hb _=>hold b hb,?_,?_,?_,ho,ht,hu,hd⟩
  ·rintro b hb ⟨id,o',de,e1,e2,e3,rfl⟩;rcases split id o' de e1 e2 with⟨_,f1,f2⟩|⟨_,rfl,rfl⟩
   ·exact⟨id,o',de,f1,f2,e3,rfl⟩
   ·simp at hb
  ·intro id o' de e1 e2 e3
   have bU:=ag e1;exact⟨o',de,by rw[(nM id bU).1];exact e1,by rw[(nM id bU).2];exact e2,e3,⟨Z5 _,λh=>h⟩,λ_=>⟨rfl,λ_=>rfl,rfl⟩⟩
  ·intro id o' e1 _
   have bU:=ag e1;exact⟨by rw[(nM id bU).1];exact e1,(nM id bU).2⟩
 refine⟨⟨by simp[hlen],λb hb=>by have:=H.fin b hb;omega,?_,?_,?_⟩,hs⟩
 ·intro id o' de e1 e2 e3
  rcases split id o' de e1 e2 with⟨_,f1,f2⟩|⟨_,rfl,rfl⟩
  ·have r:=H.obj id o' de f1 f2 e3;exact ke.mono hs (hold _ r.lt) r
  ·exact hR hs Lb
 ·intro id dY o1 o2 NE EQ bJ e1 e2 e3 e4 m1 m2
  rcases split id o1 NE e1 e3 with⟨_,f1,f2⟩|⟨bU,rfl,rfl⟩ <;>rcases split dY o2 EQ e2 e4 with⟨_,g1,g2⟩|⟨SO,rfl,rfl⟩
  ·exact H.ig id dY o1 o2 NE EQ bJ f1 g1 f2 g2 m1 m2
  ·have:=Mb.lt H ⟨id,o1,NE,f1,f2,m1,rfl⟩;simp;omega
  ·have:=(H.obj dY o2 EQ g1 g2 m2).lt;simp;omega
  ·omega
 ·intro id o' de e1 e2 e3
  rcases split id o' de e1 e2 with⟨_,f1,f2⟩|⟨_,rfl,rfl⟩
  ·exact H.out id o' de f1 f2 e3
  ·intro hf;have:=H.fin _ hf;simp at this
theorem aZ.new{w w':World}{F:Nat->Prop}{β:List (Nat×Nat)}{h:ab}(H:aZ w F β h)(T:TypeId)(cs:Array Value)(o:au)(cap:Nat)
  (hw:w'.heap=w.heap.push (.cells cs T)) (ho:w'.os=w.os) (ht:w'.tape=w.tape) (hu:w'.output=w.output)
  (hm:o.mu=.m) (h1:o.es.length<=cap) (h2:cap * o.bC<=cs.size) (h3:0<o.bC)
  (h4:∀(i:Nat) (e:PV),o.es[i]?=some e->(cells e).length=o.bC/\∀(j:Nat) (p:PV),(cells e)[j]?=some p->∃v:Value,cs[i * o.bC+j]?=some v/\aD w (Av F h β) β h v p)
  (hd:w.drawn<=w'.drawn:=by first |exact Z5 _ |exact abI _):
  aZ w' F (β++[(w.heap.size,cap)]) (h++[o])/\dS w h β w' (h++[o]) (β++[(w.heap.size,cap)]):=
 H.VY (.cells cs T) o cap hw ho ht hu hm (λhs Lb=>.inl ⟨T,cs,Lb,h1,h2,h3,λi e he=>⟨(h4 i e he).1,λj p hp=>by
  obtain⟨v,k1,k2⟩:=(h4 i e he).2 j p hp;exact⟨v,k1,k2.mono hs⟩⟩⟩) hd
theorem aZ.SP{w:World}{F:Nat->Prop}{β:List (Nat×Nat)}{h:ab}(H:aZ w F β h):
  aZ (w.alloc (.map #[] 0)) F (β++[(w.heap.size,0)]) (newObj h 0 [])/\dS w h β (w.alloc (.map #[] 0)) (newObj h 0 []) (β++[(w.heap.size,0)]):=
 H.VY (w':=w.alloc (.map #[] 0)) (.map #[] 0) {mu:=.m,ep:=0,bC:=0,es:=[]} 0 rfl rfl rfl rfl rfl (λhs Lb=>.inr ⟨rfl,#[],0,Lb,rfl,λi e he=>by simp at he⟩)
theorem aZ.VZ{w w':World}{F:Nat->Prop}{β:List (Nat×Nat)}{h:ab}(H:aZ w F β h){id:Nat}{o:au}{bc:Nat×Nat}(eo:h[id]?=some o)(eb:β[id]?=some bc)(em:o.mu=.m)
  (eT:List PV) (h9:Nat) (de:Nat×Nat)
  (gv:w.heap.size<=w'.heap.size) (qY:∀b,b<w.heap.size->b≠bc.1->w'.heap[b]?=w.heap[b]?)
  (nh:(de=bc/\(o.ep=h9->eT.length=o.es.length\/o.bC=0))\/(w.heap.size<=de.1/\o.ep<h9))
  (RN:o.ep<=h9) (ho:w'.os=w.os) (ht:w'.tape=w.tape) (hu:w'.output=w.output)
  (hR:dS w h β w' (h.set id {o with es:=eT,ep:=h9}) (β.set id de)->ke w' (Av F (h.set id {o with es:=eT,ep:=h9}) (β.set id de)) (β.set id de) (h.set id {o with es:=eT,ep:=h9}) {o with es:=eT,ep:=h9} de)
  (hd:w.drawn<=w'.drawn:=by first |exact Z5 _ |exact abI _):
  aZ w' F (β.set id de) (h.set id {o with es:=eT,ep:=h9})/\dS w h β w' (h.set id {o with es:=eT,ep:=h9}) (β.set id de):=by
 have hlen:=H.len;have bU:=ag eo;have ZL:bc.1<w.heap.size:=Mb.lt H ⟨id,o,bc,eo,eb,em,rfl⟩;have mz:(h.set id {o with es:=eT,ep:=h9})[id]?=some {o with es:=eT,ep:=h9}:=by simp[bU]
 have bself:(β.set id de)[id]?=some de:=by simp[hlen,bU]
 have jW:∀k,k≠id->(h.set id {o with es:=eT,ep:=h9})[k]?=h[k]?:=λk hk=>Z7 (aaR hk)
 have both:∀k,k≠id->(β.set id de)[k]?=β[k]?:=λk hk=>Z7 (aaR hk)
 have hs:dS w h β w' (h.set id {o with es:=eT,ep:=h9}) (β.set id de):=by
  refine⟨gv,by simp,λb hb hm=>qY b hb (λe=>hm ⟨id,o,bc,eo,eb,em,e.symm⟩),?_,?_,?_,ho,ht,hu,hd⟩
  ·rintro b hb ⟨k,o',c',e1,e2,e3,rfl⟩
   by_cases hk:k=id
   ·subst hk;rw[bself]at e2;obtain rfl:=ZZ e2;rcases nh with⟨rfl,_⟩|⟨BZ,_⟩
    ·exact⟨k,o,de,eo,eb,em,rfl⟩
    ·omega
   ·rw[jW k hk]at e1;rw[both k hk]at e2;exact⟨k,o',c',e1,e2,e3,rfl⟩
  ·intro k o' c' e1 e2 e3
   by_cases hk:k=id
   ·subst hk;rw[eo]at e1;rw[eb]at e2;obtain rfl:=ZZ e1;obtain rfl:=ZZ e2;refine⟨_,de,mz,bself,by rw[em];simp,⟨RN,λh=>h⟩,λe=>⟨rfl,?_,?_⟩⟩
    ·intro hz
     rcases nh with⟨_,hl⟩|⟨_,cI⟩
     ·exact(hl e).resolve_right (by omega)
     ·simp at e;omega
    ·rcases nh with⟨hl,_⟩|⟨_,cI⟩
     ·exact hl
     ·simp at e;omega
   ·exact⟨o',c',by rw[jW k hk];exact e1,by rw[both k hk];exact e2,e3,⟨Z5 _,λh=>h⟩,λ_=>⟨rfl,λ_=>rfl,rfl⟩⟩
  ·intro k o' e1 e2
   have hk:k≠id:=by
    rintro rfl;rw[eo]at e1;obtain rfl:=ZZ e1;exact e2 em
   exact⟨by rw[jW k hk];exact e1,both k hk⟩
 refine⟨⟨by simp[hlen],λb hb=>aaK (H.fin b hb) gv,?_,?_,?_⟩,hs⟩
 ·intro k o' c' e1 e2 e3
  by_cases hk:k=id
  ·subst hk;rw[mz]at e1;rw[bself]at e2;obtain rfl:=ZZ e1;obtain rfl:=ZZ e2;exact hR hs
  ·rw[jW k hk]at e1;rw[both k hk]at e2;have r:=H.obj k o' c' e1 e2 e3;exact ke.mono hs (qY _ r.lt (λe=>H.ig id k o o' bc c' (aaR hk) eo e1 eb e2 em e3 e.symm)) r
 ·intro k k' o1 o2 NE EQ bJ e1 e2 e3 e4 m1 m2
  by_cases hk:k=id
  ·subst hk;have fB:k'≠k:=aaR bJ;rw[jW k' fB]at e2;rw[both k' fB]at e4;rw[bself]at e3;obtain rfl:=ZZ e3;rcases nh with⟨rfl,_⟩|⟨BZ,_⟩
   ·exact H.ig k k' o o2 de EQ bJ eo e2 eb e4 em m2
   ·have:=(H.obj k' o2 EQ e2 e4 m2).lt;omega
  ·rw[jW k hk]at e1;rw[both k hk]at e3
   by_cases fB:k'=id
   ·subst fB;rw[bself]at e4;obtain rfl:=ZZ e4;rcases nh with⟨rfl,_⟩|⟨BZ,_⟩
    ·exact λe=>H.ig k' k o o1 de NE (aaR bJ) eo e1 eb e3 em (by rw[m1];simp) e.symm
    ·have:=Mb.lt H ⟨k,o1,NE,e1,e3,m1,rfl⟩;omega
   ·rw[jW k' fB]at e2;rw[both k' fB]at e4;exact H.ig k k' o1 o2 NE EQ bJ e1 e2 e3 e4 m1 m2
 ·intro k o' c' e1 e2 e3
  by_cases hk:k=id
  ·subst hk;rw[bself]at e2;obtain rfl:=ZZ e2;rcases nh with⟨rfl,_⟩|⟨BZ,_⟩
   ·exact H.out k o de eo eb (.inl em)
   ·intro hf;have:=H.fin _ hf;omega
  ·rw[jW k hk]at e1;rw[both k hk]at e2;exact H.out k o' c' e1 e2 e3
theorem aZ.set{w w':World}{F:Nat->Prop}{β:List (Nat×Nat)}{h:ab}(H:aZ w F β h){id:Nat}{o:au}{bc:Nat×Nat}(eo:h[id]?=some o)(eb:β[id]?=some bc)(em:o.mu=.m)
  (T:TypeId) (cs:Array Value) (eT:List PV) (h9:Nat) (de:Nat×Nat)
  (gv:w.heap.size<=w'.heap.size) (cY:w'.heap[de.1]?=some (.cells cs T (0,0))) (qY:∀b,b<w.heap.size->b≠bc.1->w'.heap[b]?=w.heap[b]?)
  (nh:(de=bc/\(o.ep=h9->eT.length=o.es.length))\/(w.heap.size<=de.1/\o.ep<h9))
  (RN:o.ep<=h9) (ho:w'.os=w.os) (ht:w'.tape=w.tape) (hu:w'.output=w.output)
  (h1:eT.length<=de.2) (h2:de.2 * o.bC<=cs.size)
  (h4:∀(i:Nat) (e:PV),eT[i]?=some e->(cells e).length=o.bC/\∀(j:Nat) (p:PV),(cells e)[j]?=some p->∃v:Value,cs[i * o.bC+j]?=some v/\aD w (Av F h β) β h v p)
  (hd:w.drawn<=w'.drawn:=by first |exact Z5 _ |exact abI _) (V0:0<o.bC:=by first |assumption |omega):
  aZ w' F (β.set id de) (h.set id {o with es:=eT,ep:=h9})/\dS w h β w' (h.set id {o with es:=eT,ep:=h9}) (β.set id de):=by
 have SQ:0<o.bC:=V0
 exact H.VZ eo eb em eT h9 de gv qY (nh.imp (λh=>⟨h.1,λe=>.inl (h.2 e)⟩) (λh=>h)) RN ho ht hu (λhs=>.inl ⟨T,cs,cY,h1,h2,SQ,λi e he=>⟨(h4 i e he).1,λj p hp=>by
  obtain⟨v,k1,k2⟩:=(h4 i e he).2 j p hp;exact⟨v,k1,k2.mono hs⟩⟩⟩) hd
theorem aZ.vq{w w':World}{F A:Nat->Prop}{β:List (Nat×Nat)}{h:ab}(H:aZ w F β h){b cap len sz:Nat}{es:List PV}(hz:0<sz:=by first |assumption |omega):
  aD w' A (β++[(b,cap)]) (newObj h sz es) (.slice (some ⟨b,0,none⟩) len cap) (.ak h.length 0 0 len):=
 .ak _ _ _ _ _ {mu:=.m,ep:=0,bC:=sz,es} (b,cap) ⟨_,_,_,rfl⟩ (by simp[newObj]) (by rw[<-H.len];simp) (by simp) ⟨abm _,hz⟩ (λ_ _=>⟨cap,by simp,by simp⟩)
theorem aZ.SU{w w':World}{F A:Nat->Prop}{β:List (Nat×Nat)}{h:ab}(H:aZ w F β h){b cap sz:Nat}{es:List PV}(hz:0<sz:=by first |assumption |omega):
  aD w' A (β++[(b,cap)]) (newObj h sz es) (.pointer (some ⟨b,0,none⟩)) (.ptr h.length 0 0 0):=
 .ptr _ _ _ _ _ {mu:=.m,ep:=0,bC:=sz,es} (b,cap) ⟨_,rfl⟩ (by simp[newObj]) (by rw[<-H.len];simp) (by simp) ⟨abm _,hz⟩ (λ_=>by simp)
theorem aZ.Gv{w w':World}{F A:Nat->Prop}{β:List (Nat×Nat)}{h:ab}(H:aZ w F β h){id:Nat}{o:au}(eo:h[id]?=some o)(em:o.mu=.m){b cap len ep:Nat}{es:List PV}(hz:0<o.bC:=by first |assumption |omega):
  aD w' A (β.set id (b,cap)) (h.set id {o with es:=es,ep:=ep}) (.slice (some ⟨b,0,none⟩) len cap) (.ak id ep 0 len):=
 .ak _ _ _ _ _ {o with es:=es,ep:=ep} (b,cap) ⟨_,_,_,rfl⟩ (by simp[ag eo]) (by simp[H.len,ag eo]) (by simp[em]) ⟨Z5 _,hz⟩ (λ_ _=>⟨cap,by simp,by simp⟩)
def AN(P:Program)(lv:Nat)(w:World)(F:Nat->Prop)(β:List (Nat×Nat))(h:ab)(s:Sem Value)(p:PV)(h':ab):Prop:=
 ∃v w' β',s.run P w=.ok v w'/\aD w' (Av F h' β') β' h' v p/\aZ w' F β' h'/\dS w h β w' h' β'/\(lv<=1->dF w w')
theorem AN.still{P:Program}{lv:Nat}{w:World}{F:Nat->Prop}{β:List (Nat×Nat)}{h:ab}(H:aZ w F β h){s:Sem Value}{p:PV}{v:Value}(e:s.run P w=.ok v w)(r:aD w (Av F h β) β h v p):
  AN P lv w F β h s p h:=⟨v,w,β,e,r,H,dS.refl w h β,λ_=>dF.refl w⟩
variable{P:Program}{w:World}{F:Nat->Prop}{β:List (Nat×Nat)}{h:ab}
theorem cD{t:TypeId}{n:Nat}(e:cu P t=some n)(w:World):(sizeOf t).run P w=.ok n w:=by
 unfold cu at e
 cases hi:P.info? t with
 |none=>rw[hi]at e;simp at e
 |some i=>rw[hi]at e;simp at e;subst e;simp[sizeOf,typeInfo,hi]
theorem bL{t:TypeId}{d:TypeDesc}(e:P.underlying t=some d)(w:World):(underlying t).run P w=.ok d w:=by simp[underlying,e]
theorem sx{t:TypeId}{b:Bool}(e:Hl P t=some b)(w:World):(isAgg t).run P w=.ok b w:=by
 unfold Hl at e
 cases hu:P.underlying t with
 |none=>rw[hu]at e;simp at e
 |some d=>
  rw[hu]at e;simp at e;subst e;simp only[isAgg,Sem.run_bind,bL hu,Result.andThen_ok]
  split <;>rename_i h <;>simp_all
theorem GY(w:World)(A:Nat->Prop)(β:List (Nat×Nat))(h:ab)(v:Value):aD w A β h v (U1 v):=by
 unfold U1
 split
 ·exact .val (.int _ _)
 ·exact .val (.bool _)
 ·exact .val (.str _)
 ·exact .val (.gF none 0 true (λ_=>rfl))
 ·exact .val .ek
 ·exact .val .aG
 ·exact .val .gm
 ·exact .any _
theorem Fv(w:World)(A:Nat->Prop)(β:List (Nat×Nat))(h:ab)(v:Value):aD w A β h v (cv v):=by
 unfold cv
 split
 ·rename_i cs
  have:=aD.agg (w:=w) (A:=A) (β:=β) (h:=h) cs.toList (cs.toList.map U1) (by simp) (λj hj=>by
   have DR:j<cs.toList.length:=by simpa using hj
   simp only[List.getD,aaj];rw[Z3 DR];simpa using GY w A β h _)
  simpa using this
 ·exact GY w A β h _
theorem tG{t:TypeId}{z:PV}(e:iQ P t=some z)(w:World)(A:Nat->Prop)(β:List (Nat×Nat))(h:ab):∃v,(zeroValue t).run P w=.ok v w/\aD w A β h v z:=by
 unfold iQ at e
 cases hi:P.info? t with
 |none=>rw[hi]at e;simp at e
 |some i=>
  rw[hi]at e;simp only[Option.bind_some]at e
  cases hz:i.zero with
  |none=>rw[hz]at e;simp at e
  |some v=>
   rw[hz]at e;simp at e;subst e;exact⟨v,by simp[zeroValue,typeInfo,hi,hz],Fv w A β h v⟩
theorem aD.cells{A:Nat->Prop}{v:Value}{p:PV}(hv:aD w A β h v p)(hp:(Pm.cells p).all bI=true):
  v.cells.size=(Pm.cells p).length/\(∀(j:Nat) (q:PV),(Pm.cells p)[j]?=some q->∃u:Value,v.cells[j]?=some u/\aD w A β h u q/\u.oneCell'=true):=by
 have one:∀(u:Value) (q:PV),aD w A β h u q->bI q=true->u.oneCell'=true/\u.cells= #[u]:=by
  intro u q r ho
  cases r with
  |val hs=>cases hs <;>first |exact⟨rfl,rfl⟩|simp[bI]at ho
  |undef=>simp[bI]at ho
  |any=>simp[bI]at ho
  |ak v id ep off len o bc h0=>obtain⟨a,l,c,rfl⟩:=h0;exact⟨rfl,rfl⟩
  |ptr v id ep i off o bc h0=>obtain⟨a,rfl⟩:=h0;exact⟨rfl,rfl⟩
  |cB v id o bc h0=>obtain⟨a,rfl⟩:=h0;exact⟨rfl,rfl⟩
  |agg=>simp[bI]at ho
  |cx=>simp[bI]at ho
  |fn=>exact⟨rfl,rfl⟩
  |ni=>exact⟨rfl,rfl⟩
 have single:(∀cs,p≠.agg cs)->v.cells.size=(Pm.cells p).length/\(∀(j:Nat) (q:PV),(Pm.cells p)[j]?=some q->∃u:Value,v.cells[j]?=some u/\aD w A β h u q/\u.oneCell'=true):=by
  intro NX
  have hc:Pm.cells p=[p]:=by cases p <;>first |rfl |exact absurd rfl (NX _)
  rw[hc]at hp ⊢;obtain⟨h1,h2⟩:=one v p hv (by simpa using hp);rw[h2];refine⟨rfl,λj q hq=>?_⟩
  cases j with
  |zero=>simp at hq;subst hq;exact⟨v,rfl,hv,h1⟩
  |succ j=>simp at hq
 cases p with
 |agg cs=>
  obtain⟨vs,rfl,hl,hr⟩:=hv.rG;refine⟨by simpa[Value.cells,Pm.cells]using hl,λj q hq=>?_⟩;have WV:cs[j]?=some q:=hq;have hj:=ag WV;have tY:j<vs.length:=by omega
  have Tb:=hr j hj;have e1:vs.getD j Go.undef=vs[j]:=by simp[List.getD,tY]
  have e2:cs.getD j .any=q:=by simp[List.getD,WV]
  rw[e1,e2]at Tb;have ho:bI q=true:=Z1.1 hp q (aae WV);exact⟨vs[j],by simp[Value.cells,tY],Tb,(one _ _ Tb ho).1⟩
 |_=>exact single (λcs=>by simp)
theorem Aa(H:aZ w F β h){v:Value}{p:PV}{cs:List PV}(hv:aD w (Av F h β) β h v p)(e:cK h p=some cs):
  ∃b off,(cs≠[]->v=.pointer (some ⟨b,off,none⟩))/\∀(j:Nat) (q:PV),cs[j]?=some q->∃u:Value,w.cell? ⟨b,off+j,none⟩=some u/\aD w (Av F h β) β h u q:=by
 unfold cK at e
 split at e
 ·rename_i jo
  obtain rfl:=ZZ e;have hs:=hv.sy
  cases hs with
  |eH b off _ oI h1 h2 h3 h4=>
   refine⟨b,off,λ_=>rfl,λj q hq=>?_⟩;have hj:=ag hq;refine⟨oI j,h3 j hj,?_⟩;have:=h4 j hj;rw[aam,hq]at this;exact .val this
 ·rename_i id ep i off
  split at e
  ·rename_i o ho
   obtain⟨e1,e2,e3⟩:=getM_some ho
   split at e
   ·rename_i el cX
    obtain rfl:=ZZ e;obtain⟨bc,hb⟩:=dn H.len e1;obtain⟨h1,h2,h3⟩:=hv.Ax;have:=h3 o bc e1 hb e3 e2;obtain⟨T,cs,k1,k2,k3,k4,k5⟩:=(H.obj id o bc e1 hb e3).c (h2 o e1).2;refine⟨bc.1,i * o.bC+off,λ_=>this,λj q hq=>?_⟩;rw[aaB]at hq;obtain⟨u,m1,m2⟩:=(k5 i el cX).2 (off+j) q hq;refine⟨u,?_,m2⟩;rw[cell_of_row w bc.1 _ cs T (0,0) k1,abu];exact m1
   ·cases e
  ·cases e
 ·cases e
theorem eP(b off n:Nat):(⟨b,off,none⟩:Addr).add n=⟨b,off+n,none⟩:=by unfold Addr.add;split <;>simp_all
theorem xI(w:World)(b off n:Nat)(R:Nat->Value->Prop)(hc:∀j,j<n->∃u,w.cell? ⟨b,off+j,none⟩=some u/\R j u):
  ∃vs:List Value,vs.length=n/\(loadCells ⟨b,off,none⟩ n).run P w=.ok vs.toArray w/\∀j,j<n->R j (vs.getD j undef):=by
 obtain⟨vs,hl,hr⟩:=pd n hc;refine⟨vs,hl,?_,λj hj=>(hr j hj).2⟩
 have:=run_loadCells_list (P:=P) (w:=w) ⟨b,off,none⟩ vs (λj v hv=>by
  have hj:=ag hv;rw[eP];have:=(hr j (by omega)).1;rwa[aam,hv]at this)
 rwa[hl]at this
theorem Dm(H:aZ w F β h){v:Value}{p q:PV}{t:TypeId}(hv:aD w (Av F h β) β h v p)(e:iB P h t p=some q):
  ∃u,(Instr.loadAt t v).run P w=.ok u w/\aD w (Av F h β) β h u q:=by
 unfold iB at e
 split at e
 ·rename_i sz cs h1 h2 h3
  split at e
  ·rename_i hle
   obtain rfl:=ZZ e;obtain⟨b,off,k1,k2⟩:=Aa H hv h3
   by_cases hn:cs=[]
   ·subst hn;simp at hle;omega
   ·have hle:=hle.2;rw[k1 hn]
    obtain⟨vs,l1,l2,l3⟩:=xI (P:=P) w b off sz (λj u=>aD w (Av F h β) β h u (cs.getD j .any)) (λj hj=>by
     have DR:j<cs.length:=by omega
     obtain⟨u,m1,m2⟩:=k2 j cs[j] (Z3 DR);exact⟨u,m1,by simpa[List.getD,DR]using m2⟩)
    refine⟨.agg vs.toArray,?_,?_⟩
    ·simp only[Instr.loadAt,Instr.sureAddr,Sem.run_bind,Sem.run_pure,Result.andThen_ok,loadVar,sx h2,cD h1,l2,if_true]
    ·refine .agg vs _ (by simp;omega) (λj hj=>?_);simp at hj;have:=l3 j (by omega);simpa[List.getD,aai,show j<sz by omega]using this
  ·cases e
 ·rename_i sz cs h1 h2 h3
  obtain⟨b,off,k1,k2⟩:=Aa H hv h3
  cases cs with
  |nil=>simp at e
  |cons c r=>
   simp at e;subst e;obtain⟨u,m1,m2⟩:=k2 0 c rfl;rw[k1 (by simp)];refine⟨u,?_,m2⟩;simp only[Instr.loadAt,Instr.sureAddr,Sem.run_bind,Sem.run_pure,Result.andThen_ok,loadVar,sx h2,aad,if_false,run_load];rw[show(⟨b,off,none⟩:Addr)=⟨b,off+0,none⟩ by simp,m1]
 ·cases e
theorem sA{s:TypeId}{f off:Nat}{ft:TypeId}(e:ou P s f=some (off,ft))(a:Addr)(w:World):
  (Instr.fieldAt s (.pointer (some a)) f).run P w=.ok (.pointer (some (a.add off))) w:=by
 unfold ou at e
 split at e
 ·rename_i fs hu
  split at e
  ·rename_i fl hf
   split at e
   ·rename_i sz hs
    split at e
    ·cases e
    ·rename_i hz
     simp at e;obtain⟨rfl,rfl⟩:=e;simp[Instr.fieldAt,bL hu,hf,Instr.sureAddr,fieldPlace,cD hs,hz]
   ·cases e
  ·cases e
 ·cases e
theorem yO(H:aZ w F β h){v:Value}{p q:PV}{s:TypeId}{f:Nat}(hv:aD w (Av F h β) β h v p)(e:fU P s p f=some q):
  ∃u,(Instr.fieldAt s v f).run P w=.ok u w/\aD w (Av F h β) β h u q:=by
 unfold fU at e
 split at e
 ·rename_i off ft cs h1
  split at e
  ·rename_i cI
   obtain rfl:=ZZ e;have hs:=hv.sy
   cases hs with
   |eH b o _ oI k1 k2 k3 k4=>
    refine⟨_,sA h1 _ w,?_⟩;rw[eP];refine .val (.eH b (o+off) _ (λj=>oI (off+j)) ?_ k2 (λj hj=>?_) (λj hj=>?_))
    ·intro hn
     have:=congrArg List.length hn;simp at this;omega
    ·simp at hj;have:=k3 (off+j) (by omega);rwa[<-abu]at this
    ·simp at hj;have:=k4 (off+j) (by omega);simpa[List.getD,aaB]using this
  ·cases e
 ·rename_i off ft id ep i o h1
  obtain rfl:=ZZ e
  cases hv with
  |val hs=>cases hs
  |ptr _ _ _ _ _ oo bc h0 k1 k2 k3 k4 k5=>
   obtain⟨a,rfl⟩:=h0;refine⟨_,sA h1 _ w,.ptr _ id ep i (o+off) oo bc ⟨_,rfl⟩ k1 k2 k3 k4 (λn4=>?_)⟩;have:=k5 n4;simp at this;rw[this,eP,abu]
 ·cases e
theorem aD.part{A:Nat->Prop}{v:Value}{cs:List PV}(hv:aD w A β h v (.agg cs)){t:TypeId}{off:Nat}{q:PV}(e:vJ P t cs off=some q):
  ∃vs:Array Value,v=.agg vs/\∃u,(part t vs off).run P w=.ok u w/\aD w A β h u q:=by
 obtain⟨vs,rfl,hl,hr⟩:=hv.rG;refine⟨vs.toArray,rfl,?_⟩;unfold vJ at e
 split at e
 ·rename_i sz h1 h2
  split at e
  ·rename_i hle
   obtain rfl:=ZZ e;refine⟨.agg ((vs.drop off).take sz).toArray,?_,.agg _ _ (by simp;omega) (λj hj=>?_)⟩
   ·simp only[Go.part,Sem.run_bind,sx h1,cD h2,Result.andThen_ok,if_true,Sem.run_pure]
    congr 2
    apply abq;simp[List.extract_eq_take_drop]
   ·simp at hj;have:=hr (off+j) (by omega);simpa[List.getD,aai,aaB,show j<sz by omega]using this
  ·cases e
 ·rename_i sz h1 h2
  split at e
  ·rename_i c hc
   obtain rfl:=ZZ e;have hj:=ag hc;have:=hr off hj;refine⟨vs[off]'(by omega),?_,?_⟩
   ·simp[Go.part,sx h1,show off<vs.length by omega]
   ·simpa[List.getD,hc,show off<vs.length by omega]using this
  ·cases e
 ·cases e
theorem IX{v:Value}{p q:PV}{s:TypeId}{f:Nat}{A:Nat->Prop}(hv:aD w A β h v p)(e:Aq P s p f=some q):
  ∃u,(Instr.field s v f).run P w=.ok u w/\aD w A β h u q:=by
 unfold Aq at e
 split at e
 ·rename_i fs cs hu
  split at e
  ·rename_i fl hf
   obtain⟨vs,rfl,u,h1,h2⟩:=hv.part e;exact⟨u,by simp[Instr.field,bL hu,asAgg,hf,h1],h2⟩
  ·cases e
 ·cases e
theorem IY{v vi:Value}{p i q:PV}{t:TypeId}{A:Nat->Prop}(hv:aD w A β h v p)(hi:aD w A β h vi i)(e:vK P t p i=some q):
  ∃u,(Instr.index t v vi).run P w=.ok u w/\aD w A β h u q:=by
 unfold vK at e
 split at e
 ·rename_i n el cs k i hu
  obtain rfl:=hi.dK
  split at e
  ·rename_i sz hs
   split at e
   ·rename_i hc
    obtain⟨vs,rfl,u,h1,h2⟩:=hv.part e;exact⟨u,by simp[Instr.index,asIntOf,bL hu,hc,cD hs,h1],h2⟩
   ·cases e
  ·cases e
 ·rename_i s k i hu
  obtain rfl:=hi.dK;obtain rfl:=hv.l8
  split at e
  ·rename_i hc
   split at e
   ·rename_i b hb
    obtain rfl:=ZZ e;exact⟨_,by simp[Instr.index,asIntOf,bL hu,hc,hb],.val (.int _ _)⟩
   ·cases e
  ·cases e
 ·cases e
theorem cj.jY{A:Nat->Prop}{v:Value}{full:Bool}{es:List PV}(hv:cj w A v (.aa full es)):∃a cap,v=.slice a es.length cap/\es.length<=cap/\(full=true->cap=es.length):=by
 cases hv with
 |gF a cap _ hf=>exact⟨a,cap,rfl,abm _,hf⟩
 |aa b off cap sz _ _ oI h1 h2 h3=>exact⟨_,cap,rfl,h2,h3⟩
theorem yP(H:aZ w F β h){v vi:Value}{p i q:PV}{t:TypeId}(hv:aD w (Av F h β) β h v p)(hi:aD w (Av F h β) β h vi i)(e:cy P h t p i=some q):
  ∃u,(Instr.indexAt t v vi).run P w=.ok u w/\aD w (Av F h β) β h u q:=by
 unfold cy at e
 split at e
 ·rename_i el full es k i hu
  obtain rfl:=hi.dK
  split at e
  ·rename_i sz hs
   split at e
   ·rename_i hc
    split at e
    ·rename_i x hx
     split at e
     ·rename_i hz
      obtain rfl:=ZZ e;have cI:=ag hx;have UP:=hv.fv
      cases UP with
      |gF=>simp at cI
      |aa b off cap Ge _ _ oI k1 k2 k3 k4 k5 k6 k7 k8=>
       have gv:Ge=sz:=by
        have:=k6 i.toNat cI;rw[aam,hx]at this;exact this.symm.trans hz.2
       subst gv;refine⟨.pointer (some ⟨b,off+i.toNat * Ge,none⟩),?_,.val (.eH b _ _ (oI i.toNat) ?_ k4 (λj hj=>?_) (λj hj=>?_))⟩
       ·simp[Instr.indexAt,asIntOf,bL hu,hc,cD hs,eP]
       ·intro hn;rw[hn]at hz;simp at hz;omega
       ·rw[abu];exact k7 _ j cI (by omega)
       ·have:=k8 i.toNat j cI (by omega);rwa[aam (l:=es),hx]at this
     ·cases e
    ·cases e
   ·cases e
  ·cases e
 ·rename_i el id ep off len k i hu
  obtain rfl:=hi.dK
  split at e
  ·rename_i sz o hs ho
   split at e
   ·rename_i hc
    obtain rfl:=ZZ e;obtain⟨e1,e2,e3⟩:=getM_some ho;obtain⟨bc,hb⟩:=dn H.len e1;obtain⟨h1,h2,h3⟩:=hv.dL;obtain⟨cap,rfl,k2⟩:=h3 o bc e1 hb e3 e2 hc.2.2.2;obtain⟨Tt,JG,rfl,hc4⟩:=hc;refine⟨.pointer (some ⟨bc.1,off * o.bC+i.toNat * o.bC,none⟩),?_,.ptr _ id ep _ 0 o bc ⟨_,rfl⟩ e1 hb e3 (h2 o e1) (λn4=>?_)⟩
    ·simp[Instr.indexAt,asIntOf,bL hu,Tt,JG,cD hs,eP]
    ·rw[aaO];simp
   ·cases e
  ·cases e
 ·rename_i n el cs k i hu
  obtain rfl:=hi.dK
  split at e
  ·rename_i sz hs
   split at e
   ·rename_i hc
    obtain rfl:=ZZ e;have UP:=hv.sy
    cases UP with
    |eH b off _ oI k1 k2 k3 k4=>
     refine⟨.pointer (some ⟨b,off+i.toNat * sz,none⟩),?_,.val (.eH b _ _ (λj=>oI (i.toNat * sz+j)) ?_ k2 (λj hj=>?_) (λj hj=>?_))⟩
     ·simp[Instr.indexAt,asIntOf,bL hu,hc.1,hc.2.1,cD hs,eP,Instr.sureAddr]
     ·intro hn
      have:=congrArg List.length hn;simp at this;omega
     ·simp at hj;have:=k3 (i.toNat * sz+j) (by omega);rwa[<-abu]at this
     ·simp at hj;have:=k4 (i.toNat * sz+j) (by omega);simpa[List.getD,aaB]using this
   ·cases e
  ·cases e
 ·rename_i n el id ep kk o k i hu
  obtain rfl:=hi.dK
  split at e
  ·rename_i sz hs
   split at e
   ·rename_i hc
    obtain rfl:=ZZ e
    cases hv with
    |val hs=>cases hs
    |ptr _ _ _ _ _ oo bc h0 k1 k2 k3 k4 k5=>
     obtain⟨a,rfl⟩:=h0;refine⟨.pointer (some (a.add (i.toNat * sz))),?_,.ptr _ id ep kk _ oo bc ⟨_,rfl⟩ k1 k2 k3 k4 (λn4=>?_)⟩
     ·simp[Instr.indexAt,asIntOf,bL hu,hc.1,hc.2,cD hs,Instr.sureAddr]
     ·have:=k5 n4;simp at this;rw[this,eP,abu]
   ·cases e
  ·cases e
 ·cases e
theorem zW{h:ab}{id:Nat}{o:au}(e:BC h id=some o):h[id]?=some o/\o.ep=0/\o.mu≠.x/\o.bC=0:=by
 unfold BC at e
 split at e
 ·rename_i o' ho
  split at e
  ·rename_i hz
   obtain rfl:=ZZ e;obtain⟨h1,h2,h3⟩:=getM_some ho;exact⟨h1,h2,h3,hz⟩
  ·cases e
 ·cases e
theorem Mo(H:aZ w F β h){v:Value}{id:Nat}{o:au}(hv:aD w (Av F h β) β h v (.cB id))(ho:BC h id=some o):
  ∃(bc:Nat×Nat) (es:Array MapEntry) (clock:Nat),v=.map (some bc.1)/\w.heap[bc.1]?=some (.map es clock)/\es.size=o.es.length/\
   (∀(i:Nat) (e:PV),o.es[i]?=some e->∃(k v:PV) (m:MapEntry),e=.agg [k,v]/\es[i]?=some m/\aD w (Av F h β) β h m.key k/\aD w (Av F h β) β h m.val v):=by
 obtain⟨e1,e2,e3,e4⟩:=zW ho;obtain⟨bc,hb⟩:=dn H.len e1;obtain⟨_,es,clock,k1,k2,k3⟩:=(H.obj id o bc e1 hb e3).m e4;exact⟨bc,es,clock,hv.Db e1 hb e2,k1,k2,k3⟩
theorem lF{b clock:Nat}{es:Array MapEntry}(e:w.heap[b]?=some (.map es clock)):(getObj b).run P w=.ok (.map es clock) w:=by simp[getObj,Sem.run,e]
theorem Pu(H:aZ w F β h){v:Value}{p q:PV}{t:TypeId}{ts:Array TypeId}{ty:TypeId}{rest:List Value}(ht:ts[0]?=some t)(hv:aD w (Av F h β) β h v p)(e:ov P h t p=some q):
  (∃u,(Builtin.len_ ts ty (v::rest).toArray).run P w=.ok u w/\aD w (Av F h β) β h u q):=by
 unfold ov at e
 split at e
 ·rename_i s hu
  obtain rfl:=ZZ e;obtain rfl:=hv.l8;exact⟨_,by simp[Builtin.len_,ht,bL hu,goInt],.val (.int _ _)⟩
 ·rename_i n el hu
  obtain rfl:=ZZ e;refine⟨_,?_,.val (.int _ _)⟩
  cases v <;>simp[Builtin.len_,ht,bL hu,goInt]
 ·rename_i el full es hu
  obtain rfl:=ZZ e;obtain⟨a,cap,rfl,_⟩:=hv.fv.jY;exact⟨_,by simp[Builtin.len_,ht,bL hu,goInt],.val (.int _ _)⟩
 ·rename_i hu
  obtain rfl:=ZZ e;obtain rfl:=hv.C';exact⟨_,by simp[Builtin.len_,ht,bL hu,goInt],.val (.int _ _)⟩
 ·rename_i kt et id hu
  split at e
  ·rename_i o ho
   obtain rfl:=ZZ e;obtain⟨bc,es,clock,k1,k2,k3,k4⟩:=Mo H hv ho;subst k1;exact⟨_,by simp[Builtin.len_,ht,bL hu,goInt,lF k2,k3],.val (.int _ _)⟩
  ·cases e
 ·rename_i el id ep off len hu
  split at e
  ·rename_i o ho
   split at e
   ·rename_i hle
    obtain rfl:=ZZ e;obtain⟨e1,e2,e3⟩:=getM_some ho;obtain⟨bc,hb⟩:=dn H.len e1;obtain⟨h1,h2,h3⟩:=hv.dL;obtain⟨cap,rfl,k2⟩:=h3 o bc e1 hb e3 e2 hle;exact⟨_,by simp[Builtin.len_,ht,bL hu,goInt],.val (.int _ _)⟩
   ·cases e
  ·cases e
 ·cases e
theorem gk{α:Type}(l m:List α)(a k:Nat)(hl:a+m.length<=l.length):
  (l.take a++m++l.drop (a+m.length))[k]?=if k<a then l[k]? else if k<a+m.length then m[k - a]? else l[k]?:=by
 by_cases h1:k<a
 ·rw[if_pos h1,aat,Z0 (by simp;omega),aai,if_pos h1]
 ·rw[if_neg h1]
  by_cases h2:k<a+m.length
  ·rw[if_pos h2,aat,aac (by simp;omega)];have:(List.take a l).length=a:=by simp;omega
   rw[this,Z0 (by omega)]
  ·rw[if_neg h2,aac (by simp;omega),aaB]
   congr 1
   simp;omega
theorem Bi(off sz:Nat)(e v:PV)(hv:(Pm.cells v).length=sz):Pm.cells (eI off sz e v)=(Pm.cells e).take off++Pm.cells v++(Pm.cells e).drop (off+sz):=by
 unfold eI
 split
 ·rename_i hc
  obtain⟨rfl,h2⟩:=hc;simp[h2]
 ·rfl
theorem km{i k s:Nat}(h:i<k):i * s+s<=k * s:=by
 have:=aaC s (show i+1<=k from h);rwa[aaO,Nat.one_mul]at this
theorem TZ{A:Nat->Prop}{u:Value}{q:PV}(r:aD w A β h u q)(ho:bI q=true):u.oneCell'=true:=by
 cases r with
 |val hs=>cases hs <;>first |rfl |simp[bI]at ho
 |undef=>simp[bI]at ho
 |any=>simp[bI]at ho
 |ak v id ep off len o bc h0=>obtain⟨a,l,c,rfl⟩:=h0;rfl
 |ptr v id ep i off o bc h0=>obtain⟨a,rfl⟩:=h0;rfl
 |cB v id o bc h0=>obtain⟨a,rfl⟩:=h0;rfl
 |agg=>simp[bI]at ho
 |cx=>simp[bI]at ho
 |fn=>rfl
 |ni=>rfl
theorem IZ(H:aZ w F β h){v vx:Value}{p x:PV}{t:TypeId}{h':ab}(hv:aD w (Av F h β) β h v p)(hx:aD w (Av F h β) β h vx x)(e:gH P h t p x=some h'):
  ∃w' β',(Instr.storeAt t v vx).run P w=.ok () w'/\aZ w' F β' h'/\dS w h β w' h' β':=by
 unfold gH at e
 split at e
 ·rename_i id ep i off sz hs
  split at e
  ·rename_i o ho
   split at e
   ·rename_i el cX
    split at e
    ·rename_i hc
     obtain⟨c1,c2,c3,c4⟩:=hc;obtain rfl:=ZZ e;obtain⟨e1,e2,e3⟩:=getM_some ho;obtain⟨bc,hb⟩:=dn H.len e1;obtain⟨h1,h2,h3⟩:=hv.Ax;obtain rfl:=h3 o bc e1 hb e3 e2;obtain⟨T,cs,k1,k2,k3,k4,k5⟩:=(H.obj id o bc e1 hb e3).c (h2 o e1).2;obtain⟨x1,x2⟩:=hx.cells c3;have hi:=ag cX;have qR:=k5 i el cX;have AM:i * o.bC+o.bC<=cs.size:=aaQ (km hi) (aaQ (aaC _ k2) k3);have mP:i * o.bC+off+0+vx.cells.toList.length<=cs.size:=by simp[x1,c2];omega
     have yu:=run_storeCells_at P bc.1 (i * o.bC+off) T vx.cells.toList 0 cs w k1 mP (λu hu=>by
      obtain⟨j,hj⟩:=aaZ hu;have hjl:=ag hj;simp only[abl]at hjl;obtain⟨u',m1,m2,m3⟩:=x2 j (Pm.cells x)[j] (Z3 (by omega));have:vx.cells[j]?=some u:=by simpa using hj
      rw[m1]at this;obtain rfl:=ZZ this;exact m3)
     simp only[abx]at yu;have hlen:vx.cells.toList.length=sz:=by simp[x1,c2]
     rw[hlen]at yu;refine⟨w.setRow bc.1 (cs.toList.take (i * o.bC+off)++vx.cells.toList++cs.toList.drop (i * o.bC+off+sz)).toArray,β,?_,?_⟩
     ·simp only[Instr.storeAt,Instr.sureAddr,Sem.run_bind,Sem.run_pure,Result.andThen_ok,storeVar,cD hs];rw[if_neg (by simp[x1,c2])];exact yu
     ·have hβ:β=β.set id bc:=by
       apply aa2
       intro k
       by_cases hk:k=id
       ·subst hk;rw[Z6 (by have:=H.len;have:=ag e1;omega)];exact hb
       ·rw[Z7 (aaR hk)]
      have:=aZ.set H e1 hb c1 (w':=w.setRow bc.1 (cs.toList.take (i * o.bC+off)++vx.cells.toList++cs.toList.drop (i * o.bC+off+sz)).toArray) T
       (cs.toList.take (i * o.bC+off)++vx.cells.toList++cs.toList.drop (i * o.bC+off+sz)).toArray (o.es.set i (eI off sz el x)) o.ep bc (by simp)
       (setRow_heap w bc.1 cs _ T (0,0) k1) (λb hb bJ=>setRow_other w bc.1 b _ bJ) (.inl ⟨rfl,λ_=>by simp⟩) (Z5 _) rfl rfl rfl (by simpa using k2)
       (by simp;omega) (λi' e' UT=>?_)
      ·rw[<-hβ]at this;exact this
      ·by_cases OW:i'=i
       ·subst OW;rw[Z6 hi]at UT;obtain rfl:=ZZ UT;rw[Bi _ _ _ _ c2];refine⟨by simp[c2,qR.1];omega,λj q hq=>?_⟩;have c2':=c2.symm;subst c2';rw[gk _ _ _ _ (by omega)]at hq
        have key:(cs.toList.take (i' * o.bC+off)++vx.cells.toList++cs.toList.drop (i' * o.bC+off+(Pm.cells x).length)).toArray[i' * o.bC+j]?=if j<off then cs[i' * o.bC+j]? else if j<off+(Pm.cells x).length then vx.cells[j - off]? else cs[i' * o.bC+j]?:=by
         rw[abz,<-hlen,gk _ _ _ _ (by rw[hlen];simp;omega),hlen]
         by_cases q1:j<off
         ·rw[if_pos (by omega),if_pos q1];simp
         ·rw[if_neg (by omega),if_neg q1]
          by_cases q2:j<off+(Pm.cells x).length
          ·rw[if_pos (by omega),if_pos q2];rw[show i' * o.bC+j - (i' * o.bC+off)=j - off by omega];simp
          ·rw[if_neg (by omega),if_neg q2];simp
        rw[key]
        split at hq
        ·rename_i cI
         obtain⟨u,m1,m2⟩:=qR.2 j q hq;exact⟨u,by simp[cI,m1],m2⟩
        ·rename_i BZ
         split at hq
         ·rename_i cI
          obtain⟨u,m1,m2,m3⟩:=x2 (j - off) q hq;exact⟨u,by rw[if_neg BZ,if_pos cI];exact m1,m2⟩
         ·rename_i Zn
          obtain⟨u,m1,m2⟩:=qR.2 j q hq;exact⟨u,by rw[if_neg BZ,if_neg Zn];exact m1,m2⟩
       ·rw[Z7 (aaR OW)]at UT;obtain⟨q1,q2⟩:=k5 i' e' UT;refine⟨q1,λj q hq=>?_⟩;obtain⟨u,m1,m2⟩:=q2 j q hq;refine⟨u,?_,m2⟩;have hj:j<o.bC:=by rw[<-q1];exact ag hq
        rw[abz,<-hlen,gk _ _ _ _ (by rw[hlen];simp;omega),hlen];rcases Nat.lt_or_gt_of_ne OW with hl |hg
        ·have:=km (s:=o.bC) hl;rw[if_pos (by omega)];simpa using m1
        ·have:=km (s:=o.bC) hg;rw[if_neg (by omega),if_neg (by omega)];simpa using m1
    ·cases e
   ·cases e
  ·cases e
 ·cases e
theorem GZ{lv:Nat}(H:aZ w F β h){vx:Value}{x:PV}(t:TypeId)(hx:aD w (Av F h β) β h vx x)(h1:(Pm.cells x).all bI=true)(h2:0<(Pm.cells x).length):
  AN P lv w F β h (Instr.box t vx) (.ptr h.length 0 0 0) (newObj h (Pm.cells x).length [x]):=by
 obtain⟨x1,x2⟩:=hx.cells h1
 obtain⟨HH,S⟩:=aZ.new H (w':=w.alloc (.cells vx.cells t)) t vx.cells {mu:=.m,ep:=0,bC:=(Pm.cells x).length,es:=[x]} 1 rfl rfl rfl rfl rfl (by simp) (by simp[x1]) h2 (λi e he=>by
  cases i with
  |zero=>
   simp at he;subst he;refine⟨rfl,λj p hp=>?_⟩;obtain⟨u,m1,m2,m3⟩:=x2 j p hp;exact⟨u,by simpa using m1,m2⟩
  |succ i=>simp at he)
 refine⟨.pointer (some ⟨w.heap.size,0,none⟩),_,_,rfl,H.SU h2,HH,S,λ_=>dF.alloc w _⟩
theorem I0{lv:Nat}(H:aZ w F β h){z:PV}(t:TypeId)(e:iQ P t=some z)(h1:(Pm.cells z).all bI=true)(h2:0<(Pm.cells z).length):
  AN P lv w F β h (Instr.alloc t true (.tuple #[])) (.ptr h.length 0 0 0) (newObj h (Pm.cells z).length [z]):=by
 obtain⟨v,hz,hr⟩:=tG e w (Av F h β) β h;obtain⟨u,w',β',r1,r2⟩:=GZ (P:=P) (lv:=lv) H t hr h1 h2;refine⟨u,w',β',?_,r2⟩;simp only[Instr.alloc,Sem.run_bind,hz,Result.andThen_ok];exact r1
def Flat(w:World)(A:Nat->Prop)(β:List (Nat×Nat))(h:ab)(sz:Nat)(cs:List Value)(es:List PV):Prop:=
 cs.length=es.length * sz/\∀(i:Nat) (e:PV),es[i]?=some e->(Pm.cells e).length=sz/\∀(j:Nat) (q:PV),(Pm.cells e)[j]?=some q->∃u:Value,cs[i * sz+j]?=some u/\aD w A β h u q
theorem Flat.nil(w:World)(A:Nat->Prop)(β:List (Nat×Nat))(h:ab)(sz:Nat):Flat w A β h sz [] []:=⟨by simp,λi e he=>by simp at he⟩
theorem Flat.append{A:Nat->Prop}{sz:Nat}{cs jo:List Value}{es eT:List PV}(a:Flat w A β h sz cs es)(b:Flat w A β h sz jo eT):Flat w A β h sz (cs++jo) (es++eT):=by
 refine⟨by simp[a.1,b.1,aaO],λi e he=>?_⟩
 by_cases hi:i<es.length
 ·rw[Z0 hi]at he;obtain⟨h1,h2⟩:=a.2 i e he;refine⟨h1,λj q hq=>?_⟩;obtain⟨u,k1,k2⟩:=h2 j q hq;exact⟨u,by rw[Z0 (ag k1)];exact k1,k2⟩
 ·rw[aac (by omega)]at he;obtain⟨h1,h2⟩:=b.2 _ e he;refine⟨h1,λj q hq=>?_⟩;obtain⟨u,k1,k2⟩:=h2 j q hq;refine⟨u,?_,k2⟩;have hm:i * sz=(i - es.length) * sz+es.length * sz:=by rw[<-aaO];congr 1;omega
  rw[aac (by rw[a.1,hm];omega),a.1,hm];rw[show(i - es.length) * sz+es.length * sz+j - es.length * sz=(i - es.length) * sz+j by omega];exact k1
theorem Flat.take{A:Nat->Prop}{sz:Nat}{cs:List Value}{es:List PV}(a:Flat w A β h sz cs es)(n:Nat)(hn:n<=es.length):Flat w A β h sz (cs.take (n * sz)) (es.take n):=by
 have hle:n * sz<=es.length * sz:=aaC _ hn;refine⟨by simp only[aa0,a.1];rw[abG hn,abG hle],λi e he=>?_⟩;rw[aai]at he
 split at he
 ·rename_i hi
  obtain⟨h1,h2⟩:=a.2 i e he;refine⟨h1,λj q hq=>?_⟩;obtain⟨u,k1,k2⟩:=h2 j q hq;refine⟨u,?_,k2⟩;have hj:=ag hq;have:=km (s:=sz) hi;rw[aai,if_pos (by omega)];exact k1
 ·cases he
theorem Flat.Pv{A:Nat->Prop}{sz:Nat}{cs:List Value}{es:List PV}(a:Flat w A β h sz cs es)(hs:0<sz)(ho:es.all (λv=>decide ((Pm.cells v).length=sz)&& (Pm.cells v).all bI)=true):∀u∈cs,u.oneCell'=true:=by
 intro u hu
 obtain⟨k,hk⟩:=aaZ hu;have AE:=ag hk;rw[a.1]at AE;have hi:k / sz<es.length:=(Nat.div_lt_iff_lt_mul hs).2 AE;have cX:=Z3 hi;obtain⟨h1,h2⟩:=a.2 _ _ cX;have hj:k % sz<(Pm.cells es[k / sz]).length:=by rw[h1];exact abT _ hs
 obtain⟨u',m1,m2⟩:=h2 _ _ (Z3 hj);rw[acj,Nat.div_add_mod,hk]at m1;obtain rfl:=ZZ m1;have eF:=Z1.1 ho _ (aay hi);simp only[Z9]at eF;exact TZ m2 (Z1.1 eF.2 _ (aay hj))
theorem ly(H:aZ w F β h){v:Value}{p:PV}{ys:List PV}{sz:Nat}(hv:aD w (Av F h β) β h v p)(e:cw h p=some ys)(hz:∀y∈ys,(Pm.cells y).length=sz):
  ∃a cap,v=.slice a ys.length cap/\ys.length<=cap/\∃cs:List Value,Flat w (Av F h β) β h sz cs ys/\
   (∀w',w'.heap=w.heap->∀n,n<=ys.length->(Builtin.firstCells sz n v).run P w'=.ok (cs.take (n * sz)).toArray w'):=by
 have main:∀(b off cap:Nat) (R:Nat->Nat->Value->Prop),(∀i j,i<ys.length->j<sz->∃u,w.cell? ⟨b,off+(i * sz+j),none⟩=some u/\R i j u)->
   ∃cs:List Value,cs.length=ys.length * sz/\(∀i j,i<ys.length->j<sz->∃u,cs[i * sz+j]?=some u/\R i j u)/\
    ∀w',w'.heap=w.heap->∀n,n<=ys.length->(Builtin.firstCells sz n (.slice (some ⟨b,off,none⟩) ys.length cap)).run P w'=.ok (cs.take (n * sz)).toArray w':=by
  intro b off cap R hc
  obtain⟨cs,l1,l2⟩:=pd (R:=λk u=>w.cell? ⟨b,off+k,none⟩=some u/\R (k / sz) (k % sz) u) (ys.length * sz) (λk hk=>by
   have hs:0<sz:=by
    rcases Nat.eq_zero_or_pos sz with h0 |h0
    ·subst h0;simp at hk
    ·exact h0
   obtain⟨u,m1,m2⟩:=hc (k / sz) (k % sz) ((Nat.div_lt_iff_lt_mul hs).2 hk) (abT _ hs);refine⟨u,?_,m2⟩;rw[<-m1,acj,Nat.div_add_mod])
  have at_k:∀i j,i<ys.length->j<sz->i * sz+j<ys.length * sz:=λi j hi hj=>by have:=km (s:=sz) hi;omega
  refine⟨cs,l1,λi j hi hj=>?_,λw' D4 n hn=>?_⟩
  ·have hk:=at_k i j hi hj;have:=(l2 (i * sz+j) hk).2;have hs:0<sz:=by omega
   rw[show(i * sz+j) / sz=i by rw[acj,Nat.mul_add_div hs,Nat.div_eq_of_lt hj,abx],show(i * sz+j) % sz=j by rw[acj,Nat.mul_add_mod,Nat.mod_eq_of_lt hj]]at this;refine⟨cs[i * sz+j]'(by omega),Z3 _,?_⟩;simpa[List.getD,show i * sz+j<cs.length by omega]using this
  ·have hle:n * sz<=ys.length * sz:=aaC _ hn
   have:=run_firstCells_some (P:=P) w' sz n ⟨b,off,none⟩ ys.length cap (cs.take (n * sz)) (by simp only[aa0,l1];omega) (λj v hj=>by
    have hjl:=ag hj;simp only[aa0,l1]at hjl;rw[aai,if_pos (by omega)]at hj;have:=(l2 j (by omega)).1;rw[eP,mX (w:=w) (w':=w') (by rw[D4]),this];simp[List.getD,hj])
   exact this
 unfold cw at e
 split at e
 ·rename_i full es
  obtain rfl:=ZZ e;have hs:=hv.fv
  cases hs with
  |gF a cap _ hf=>
   refine⟨a,cap,rfl,abm _,[],Flat.nil _ _ _ _ _,λw' D4 n hn=>?_⟩
   ·obtain rfl:n=0:=by simpa using hn
    cases a <;>simp[Builtin.firstCells,loadCells,loadCellsFrom]
  |aa b off cap Ge _ _ oI k1 k2 k3 k4 k5 k6 k7 k8=>
   have gv:Ge=sz:=by
    have hp:0<es.length:=abE.2 k1;rw[<-k6 0 hp];apply hz;rw[aam,Z3 hp];exact aay hp
   subst gv;obtain⟨cs,l1,l2,l3⟩:=main b off cap (λi j u=>cj w (Av F h β) u ((Pm.cells (es.getD i .any)).getD j .any)) (λi j hi hj=>⟨oI i j,k7 i j hi hj,k8 i j hi hj⟩);refine⟨_,cap,rfl,k2,cs,⟨l1,λi e he=>?_⟩,l3⟩
   ·have hi:=ag he;have e1:es.getD i .any=e:=by simp[List.getD,he]
    have e2:=k6 i hi;rw[e1]at e2;refine⟨e2,λj q hq=>?_⟩;have hj:=ag hq;obtain⟨u,m1,m2⟩:=l2 i j hi (by omega);refine⟨u,m1,?_⟩;rw[e1]at m2;have e3:(Pm.cells e).getD j .any=q:=by simp[List.getD,hq]
    rw[e3]at m2;exact .val m2
 ·rename_i id ep off len
  split at e
  ·rename_i o ho
   split at e
   ·rename_i hle
    obtain rfl:=ZZ e;obtain⟨e1,e2,e3⟩:=getM_some ho;obtain⟨bc,hb⟩:=dn H.len e1;obtain⟨h1,h2,h3⟩:=hv.dL;obtain⟨cap,rfl,c2⟩:=h3 o bc e1 hb e3 e2 hle;obtain⟨T,sJ,k1,k2,k3,k4,k5⟩:=(H.obj id o bc e1 hb e3).c (h2 o e1).2;have hlen:((o.es.drop off).take len).length=len:=by simp;omega
    have at_i:∀i,i<len->∃e,((o.es.drop off).take len)[i]?=some e/\o.es[off+i]?=some e:=λi hi=>by
     refine⟨o.es[off+i]'(by omega),?_,Z3 (by omega)⟩;rw[aai,if_pos hi,aaB];exact Z3 (by omega)
    by_cases F5:len=0
    ·subst F5;refine⟨some ⟨bc.1,off * o.bC,none⟩,cap,by simp,by simp,[],by simpa using Flat.nil _ _ _ _ _,λw' D4 n hn=>?_⟩
     ·obtain rfl:n=0:=by simpa using hn
      simp[Builtin.firstCells,loadCells,loadCellsFrom]
    ·have gv:o.bC=sz:=by
      obtain⟨el,m1,m2⟩:=at_i 0 (by omega);rw[<-(k5 _ el m2).1];exact hz el (aae m1)
     subst gv
     obtain⟨cs,l1,l2,l3⟩:=main bc.1 (off * o.bC) cap (λi j u=>∀el q,o.es[off+i]?=some el->(Pm.cells el)[j]?=some q->aD w (Av F h β) β h u q) (λi j hi hj=>by
      rw[hlen]at hi;obtain⟨el,m1,m2⟩:=at_i i hi;obtain⟨n1,n2⟩:=k5 _ el m2;obtain⟨u,p1,p2⟩:=n2 j (Pm.cells el)[j] (Z3 (by omega));refine⟨u,?_,λql q r1 r2=>?_⟩
      ·rw[cell_of_row w bc.1 _ sJ T (0,0) k1,<-abu,<-aaO];exact p1
      ·rw[m2]at r1;obtain rfl:=ZZ r1;rw[Z3 (by omega)]at r2;obtain rfl:=ZZ r2;exact p2)
     rw[hlen]at l2 l3 ⊢;refine⟨_,cap,rfl,by omega,cs,⟨by rw[l1,hlen],λi el he=>?_⟩,λw' D4 n hn=>l3 w' D4 n hn⟩
     ·have hi:=ag he;rw[hlen]at hi;obtain⟨ql,m1,m2⟩:=at_i i hi;rw[m1]at he;obtain rfl:=ZZ he;obtain⟨n1,n2⟩:=k5 _ ql m2;refine⟨n1,λj q hq=>?_⟩;have hj:=ag hq;obtain⟨u,r1,r2⟩:=l2 i j hi (by omega);exact⟨u,r1,r2 ql q m2 hq⟩
   ·cases e
  ·cases e
 ·cases e
theorem qd{A:Nat->Prop}{vz:Value}{z:PV}{sz:Nat}(hz:aD w A β h vz z)(h1:(Pm.cells z).length=sz)(h2:(Pm.cells z).all bI=true)(hs:0<sz)(n:Nat):
  vz.cells.size=sz/\Flat w A β h sz (List.map (λi=>vz.cells[i % vz.cells.size]!) (List.range (n * sz))) (List.replicate n z):=by
 obtain⟨x1,x2⟩:=hz.cells h2;refine⟨by omega,by simp,λi e he=>?_⟩;have hi:=ag he;simp at hi;rw[List.getElem?_replicate,if_pos hi]at he;obtain rfl:=ZZ he;refine⟨h1,λj q hq=>?_⟩;have hj:=ag hq;obtain⟨u,m1,m2,m3⟩:=x2 j q hq;refine⟨u,?_,m2⟩;have hk:i * sz+j<n * sz:=by have:=km (s:=sz) hi;omega
 rw[aaj,acn hk];simp only[aab];rw[x1,h1,acj,Nat.mul_add_mod,Nat.mod_eq_of_lt (by omega)];rw[getElem!_def,m1]
theorem gB(n:Nat)(f:Nat->Value):((Array.range n).map f)=(List.map f (List.range n)).toArray:=by
 apply abq;simp
theorem rj{t:TypeId}{n:Nat}(e:mb P t=some n):∃i,P.info? t=some i/\i.bytes=n:=by
 unfold mb at e
 cases hi:P.info? t with
 |none=>rw[hi]at e;simp at e
 |some i=>rw[hi]at e;simp at e;exact⟨i,rfl,e⟩
def rk:TypeDesc->Bool | .int _=>true |_=>false
theorem sb(H:aZ w F β h){e st xt:TypeId}{sz bytes:Nat}{z:PV}{vz x:Value}{px:PV}{ys:List PV}(hs:cu P e=some sz)(hb:mb P e=some bytes)(hz:iQ P e=some z)(nQ:0<sz)(jn:bytes<=65536)
  (hx:aD w (Av F h β) β h x px) (ea:cG P h z xt px=some ys) (eF:ys.all (λv=>decide ((Pm.cells v).length=sz)&& (Pm.cells v).all bI)=true):
  ∃zb:Bool,∃d,P.underlying xt=some d/\zb=rk d/\
   ∃news:List Value,Flat w (Av F h β) β h sz news ys/\(∀u∈news,u.oneCell'=true)/\
    (zb=false->(Builtin.lenOf x).run P w=.ok ys.length w/\∀w',w'.heap=w.heap->(Builtin.firstCells sz ys.length x).run P w'=.ok news.toArray w')/\
    (zb=true->∃k,x=.int k ys.length/\ys.length<=1073741824/\∀w',(if ys.length * sz=0 then pure #[]else do pure (Builtin.zeroCells (<-zeroValue e).cells ys.length):Sem (Array Value)).run P w'=.ok news.toArray w'):=by
 unfold cG at ea
 split at ea
 ·rename_i ik k n hu
  split at ea
  ·rename_i hn
   obtain rfl:=ZZ ea;obtain rfl:=hx.dK;obtain⟨vz,r1,r2⟩:=tG hz w (Av F h β) β h
   by_cases h0:n.toNat=0
   ·refine⟨true,_,hu,rfl,[],by rw[h0];simpa using Flat.nil w (Av F h β) β h sz,by simp,by simp,λ_=>⟨k,by simp;omega,by simp;omega,λw'=>?_⟩⟩;simp[h0]
   ·have tv:=Z1.1 eF z (by simp;omega);simp only[Z9,decide_eq_true_eq]at tv;obtain⟨s1,s2⟩:=qd r2 tv.1 tv.2 nQ n.toNat;refine⟨true,_,hu,rfl,_,s2,s2.Pv nQ eF,by simp,λ_=>⟨k,by simp;omega,by simp;omega,λw'=>?_⟩⟩
    have bJ:¬(List.replicate n.toNat z).length * sz=0:=by
     rw[abo];exact Nat.mul_ne_zero h0 (by omega)
    have hzr:(zeroValue e).run P w'=.ok vz w':=by
     have:=r1;unfold zeroValue typeInfo at this ⊢;simp only[Sem.run_bind,run_program,Result.andThen_ok]at this ⊢
     cases hi:P.info? e with
     |none=>rw[hi]at this;simp at this
     |some i=>
      rw[hi]at this;simp at this ⊢
      cases hzz:i.zero with
      |none=>rw[hzz]at this;simp at this
      |some v=>rw[hzz]at this;simp at this ⊢;exact this
    rw[if_neg bJ];simp only[Sem.run_bind,hzr,Result.andThen_ok,Sem.run_pure,Builtin.zeroCells,gB,abo,s1]
  ·cases ea
 ·rename_i el hu
  have sM:∀y∈ys,(Pm.cells y).length=sz:=λy hy=>by
   have:=Z1.1 eF y hy;simp only[Z9,decide_eq_true_eq]at this;exact this.1
  obtain⟨a,cap,rfl,hle,cs,f1,f2⟩:=ly (P:=P) H hx ea sM;refine⟨false,_,hu,rfl,cs,f1,f1.Pv nQ eF,λ_=>⟨by simp[Builtin.lenOf],λw' D4=>?_⟩,by simp⟩;have:=f2 w' D4 ys.length (Z5 _);rwa[aar (by rw[f1.1];omega)]at this
 ·cases ea
theorem Flat.obj{A:Nat->Prop}{sz:Nat}{cs rest:List Value}{es:List PV}(a:Flat w A β h sz cs es)(i:Nat)(e:PV)(he:es[i]?=some e):
  (Pm.cells e).length=sz/\∀(j:Nat) (p:PV),(Pm.cells e)[j]?=some p->∃v:Value,(cs++rest).toArray[i * sz+j]?=some v/\aD w A β h v p:=by
 obtain⟨h1,h2⟩:=a.2 i e he;refine⟨h1,λj p hp=>?_⟩;obtain⟨u,k1,k2⟩:=h2 j p hp;exact⟨u,by rw[abz,Z0 (ag k1)];exact k1,k2⟩
theorem wrap_small{n:Nat}(h:n<=1073741824):IntKind.i64.wrap (n:Int)=n:=by
 simp[IntKind.wrap,IntKind.bits,IntKind.signed];omega
theorem max_i64:IntKind.i64.max=9223372036854775807:=by decide
theorem xJ{n b:Nat}(h:roomy n b=true):n * b<=17592186044416/\n<=17592186044416:=by
 simpa[roomy]using h
theorem l9{ts:Array TypeId}{ty st xt e:TypeId}{args:Array Value}{sz sLen sCap n:Nat}{base:Option Addr}{x:Value}{d:TypeDesc}{zb:Bool}{news:List Value}
  (h1:ts[0]?=some st) (h2:ts[1]?=some xt) (h3:args[0]?=some (.slice base sLen sCap)) (h4:args[1]?=some x) (hu:P.underlying st=some (.slice e)) (hs:cu P e=some sz)
  (hd:P.underlying xt=some d) (WW:zb=rk d) {bytes:Nat} (hb:mb P e=some bytes) (jn:bytes<=65536)
  (hf:zb=false->(Builtin.lenOf x).run P w=.ok n w/\∀w',w'.heap=w.heap->(Builtin.firstCells sz n x).run P w'=.ok news.toArray w')
  (ht:zb=true->∃k,x=.int k n/\n<=1073741824/\∀w',(if n * sz=0 then pure #[]else do pure (Builtin.zeroCells (<-zeroValue e).cells n):Sem (Array Value)).run P w'=.ok news.toArray w')
  (mP:sLen+n<=sCap):
  (Builtin.append_ ts ty args).run P w=(match base with |some a=>(storeCells (a.add (sLen * sz)) news).run P w |none=>.ok () w).andThen λ_ w'=>.ok (.slice base (sLen+n) sCap) w':=by
 obtain⟨i,hi,AM⟩:=rj hb;have UU:∀w,(typeInfo e).run P w=.ok i w:=λw=>by simp[typeInfo,hi]
 unfold Builtin.append_;simp only[h1,h3,h4,Sem.run_bind,bL hu,Result.andThen_ok,cD hs,h2,bL hd,Sem.run_pure]
 cases zb with
 |false=>
  obtain⟨f1,f2⟩:=hf rfl
  cases d with
  |int k=>simp[rk]at WW
  |_=>
   simp only[aad,if_false,f1,Result.andThen_ok,mP,if_true,Sem.run_bind,ab6,f2 w rfl]
   cases base <;>simp
 |true=>
  obtain⟨k,rfl,hn,t2⟩:=ht rfl
  have yr:¬((n:Int) * (bytes:Int)>2^48):=by
   have:n * bytes<=1073741824 * 65536:=ab8 hn jn;have h2:((n * bytes:Nat):Int)<=70368744177664:=by omega
   rw[Int.natCast_mul]at h2;omega
  have Mx:¬((n:Int)<0):=by omega
  cases d with
  |int k=>
   simp only[if_true,asInt,asIntOf,Sem.run_bind,Sem.run_pure,Result.andThen_ok,wrap_small hn,Sem.run_ite,Mx,if_false,UU,AM,yr,abi,mP,abU,aad];have:=t2 w;simp only[Sem.run_ite,Sem.run_bind,Sem.run_pure]at this;rw[this]
   cases base <;>simp
  |_=>simp[rk]at WW
theorem xK(w:World)(need old:Nat)(e:TypeId)(hn:need<=17592186044416):∃c,need<=c/\(choose (.appendCap need old e)).run P w=.ok c w.drew:=by
 refine⟨_,?_,by simp only[run_choose,Question.forced,aad,if_false];rfl⟩;simp[Question.cut]
theorem pq{ts:Array TypeId}{ty st xt e:TypeId}{args:Array Value}{sz sLen sCap n:Nat}{base:Option Addr}{x vz:Value}{d:TypeDesc}{zb:Bool}{news olds:List Value}
  (h1:ts[0]?=some st) (h2:ts[1]?=some xt) (h3:args[0]?=some (.slice base sLen sCap)) (h4:args[1]?=some x) (hu:P.underlying st=some (.slice e)) (hs:cu P e=some sz)
  (hd:P.underlying xt=some d) (WW:zb=rk d) {bytes:Nat} (hb:mb P e=some bytes) (jn:bytes<=65536) (hz:∀w,(zeroValue e).run P w=.ok vz w)
  (hf:zb=false->(Builtin.lenOf x).run P w=.ok n w/\∀w',w'.heap=w.heap->(Builtin.firstCells sz n x).run P w'=.ok news.toArray w')
  (ht:zb=true->∃k,x=.int k n/\n<=1073741824/\∀w',(if n * sz=0 then pure #[]else do pure (Builtin.zeroCells (<-zeroValue e).cells n):Sem (Array Value)).run P w'=.ok news.toArray w')
  (hold:∀w',w'.heap=w.heap->(Builtin.firstCells sz sLen (.slice base sLen sCap)).run P w'=.ok olds.toArray w')
  (mP:¬sLen+n<=sCap) (Tu:(sLen+n) * bytes<=17592186044416) (Ly:sLen+n<=17592186044416):
  ∃c,sLen+n<=c/\(Builtin.append_ ts ty args).run P w=.ok (.slice (some ⟨w.heap.size,0,none⟩) (sLen+n) c)
   (w.drew.alloc (.cells (olds.toArray++news.toArray++Builtin.zeroCells vz.cells (c - (sLen+n))) e)):=by
 obtain⟨i,hi,AM⟩:=rj hb;have UU:∀w,(typeInfo e).run P w=.ok i w:=λw=>by simp[typeInfo,hi]
 obtain⟨c,c1,c2⟩:=xK (P:=P) w (sLen+n) sCap e Ly;refine⟨c,c1,?_⟩;have EU:¬(((sLen+n:Nat):Int)>IntKind.i64.max):=by rw[max_i64];omega
 have hnx:¬(Builtin.nextslicecap (sLen+n) sCap * i.bytes>2^48):=by
  have:=growslice_fits (need:=sLen+n) (old:=sCap) (bytes:=i.bytes) (by omega) (by rw[AM];omega);omega
 unfold Builtin.append_;simp only[h1,h3,h4,Sem.run_bind,bL hu,Result.andThen_ok,cD hs,h2,bL hd,Sem.run_pure];have fin:((choose (.appendCap (sLen+n) sCap e)).run P w).andThen (λnewCap w'=>.ok newCap w')=.ok c w.drew:=by rw[c2];rfl
 cases zb with
 |false=>
  obtain⟨f1,f2⟩:=hf rfl
  cases d with
  |int k=>simp[rk]at WW
  |_=>
   simp only[aad,if_false,f1,Result.andThen_ok,mP,Sem.run_bind,ab6,UU,Sem.run_ite,EU,false_and,hnx,c2,run_askRoom,hold w.drew rfl,f2 w.drew rfl,if_true,hz,Sem.run_pure,newRow,run_newObj]
   rfl
 |true=>
  obtain⟨k,rfl,hn,t2⟩:=ht rfl
  have yr:¬((n:Int) * (bytes:Int)>2^48):=by
   have:n * bytes<=1073741824 * 65536:=ab8 hn jn;have h2:((n * bytes:Nat):Int)<=70368744177664:=by omega
   rw[Int.natCast_mul]at h2;omega
  have Mx:¬((n:Int)<0):=by omega
  cases d with
  |int k=>
   have t2':=t2 w.drew;simp only[Sem.run_ite,Sem.run_bind,Sem.run_pure,hz,Result.andThen_ok]at t2';rw[<-AM]at yr;simp only[if_true,asInt,asIntOf,Sem.run_bind,Sem.run_pure,Result.andThen_ok,wrap_small hn,Sem.run_ite,Mx,if_false,UU,yr,abi,mP,abU,aad,EU,false_and,hnx,c2,run_askRoom,hold w.drew rfl,hz,t2',newRow,run_newObj]
   rfl
  |_=>simp[rk]at WW
theorem jL{t:TypeId}{z:PV}(e:iQ P t=some z):∃v,(∀w,(zeroValue t).run P w=.ok v w)/\∀(w:World) (A:Nat->Prop) (β:List (Nat×Nat)) (h:ab),aD w A β h v z:=by
 unfold iQ at e
 cases hi:P.info? t with
 |none=>rw[hi]at e;simp at e
 |some i=>
  rw[hi]at e;simp only[Option.bind_some]at e
  cases hz:i.zero with
  |none=>rw[hz]at e;simp at e
  |some v=>
   rw[hz]at e;simp at e;subst e;exact⟨v,λw=>by simp[zeroValue,typeInfo,hi,hz],λw A β h=>Fv w A β h v⟩
theorem xL{id:Nat}{bc:Nat×Nat}(hb:β[id]?=some bc):β.set id bc=β:=by
 apply aa2
 intro k
 by_cases hk:k=id
 ·subst hk;rw[Z6 (ag hb)];exact hb.symm
 ·rw[Z7 (aaR hk)]
theorem rm(H:aZ w F β h){id:Nat}{o:au}{bc:Nat×Nat}(eo:h[id]?=some o)(eb:β[id]?=some bc)(em:o.mu=.m){news:List Value}{ys:List PV}(off:Nat)
  (hf:Flat w (Av F h β) β h o.bC news ys) (h1:∀u∈news,u.oneCell'=true) (hle:off+ys.length<=o.es.length) (hz:0<o.bC:=by first |assumption |omega):
  ∃w',(storeCells ⟨bc.1,off * o.bC,none⟩ news).run P w=.ok () w'/\
   aZ w' F β (h.set id {o with es:=o.es.take off++ys++o.es.drop (off+ys.length)})/\dS w h β w' (h.set id {o with es:=o.es.take off++ys++o.es.drop (off+ys.length)}) β:=by
 obtain⟨T,cs,k1,k2,k3,k4,k5⟩:=(H.obj id o bc eo eb (by rw[em];simp)).c hz;have hn:news.length=ys.length * o.bC:=hf.1
 have ET:off * o.bC+ys.length * o.bC<=cs.size:=by
  rw[<-aaO];exact aaQ (aaC _ (by omega)) k3
 have yu:=run_storeCells_at P bc.1 (off * o.bC) T news 0 cs w k1 (by omega) h1;simp only[abx]at yu
 have dp:(cs.toList.take (off * o.bC)++news++cs.toList.drop (off * o.bC+news.length)).length=cs.size:=by
  simp only[Z2,aa0,abS,abl];omega
 have cX:(o.es.take off++ys++o.es.drop (off+ys.length)).length=o.es.length:=by simp;omega
 refine⟨_,yu,?_⟩
 have:=aZ.set H eo eb em (w':=w.setRow bc.1 (cs.toList.take (off * o.bC)++news++cs.toList.drop (off * o.bC+news.length)).toArray) T
  (cs.toList.take (off * o.bC)++news++cs.toList.drop (off * o.bC+news.length)).toArray (o.es.take off++ys++o.es.drop (off+ys.length)) o.ep bc (by simp)
  (setRow_heap w bc.1 cs _ T (0,0) k1) (λb hb bJ=>setRow_other w bc.1 b _ bJ) (.inl ⟨rfl,λ_=>cX⟩) (Z5 _) rfl rfl rfl (by rw[cX];exact k2) (by rw[ab9,dp];exact k3) (λi e he=>?_)
 ·rw[xL eb]at this;exact this
 ·rw[gk _ _ _ _ hle]at he
  have hi:i<o.es.length:=by
   rcases aaD i o.es.length with hh |hh
   ·exact hh
   ·rw[if_neg (by omega),if_neg (by omega),aag hh]at he;cases he
  by_cases hA:off<=i/\i<off+ys.length
  ·rw[if_neg (by omega),if_pos hA.2]at he;obtain⟨n1,n2⟩:=hf.2 _ e he;refine⟨n1,λj q hq=>?_⟩;obtain⟨u,p1,p2⟩:=n2 j q hq;have hj:=ag hq;refine⟨u,?_,p2⟩;have e1:i * o.bC=off * o.bC+(i - off) * o.bC:=by rw[<-aaO];congr 1;omega
   have e2:=km (s:=o.bC) (show i - off<ys.length by omega);rw[abz,gk _ _ _ _ (by rw[hn];simpa using ET),if_neg (by omega),if_pos (by rw[hn];omega),e1];rw[show off * o.bC+(i - off) * o.bC+j - off * o.bC=(i - off) * o.bC+j by omega];exact p1
  ·have UT:o.es[i]?=some e:=by
    by_cases hB:i<off
    ·rwa[if_pos hB]at he
    ·rwa[if_neg hB,if_neg (by omega)]at he
   obtain⟨n1,n2⟩:=k5 i e UT;refine⟨n1,λj q hq=>?_⟩;obtain⟨u,p1,p2⟩:=n2 j q hq;have hj:=ag hq;refine⟨u,?_,p2⟩;rw[abz,gk _ _ _ _ (by rw[hn];simpa using ET)]
   by_cases hB:i<off
   ·have:=km (s:=o.bC) hB;rw[if_pos (by omega)];simpa using p1
   ·have:(off+ys.length) * o.bC<=i * o.bC:=aaC _ (by omega);rw[aaO]at this;rw[if_neg (by omega),if_neg (by rw[hn];omega)];simpa using p1
theorem Fw(H:aZ w F β h){ts:Array TypeId}{ty st xt:TypeId}{args:Array Value}{lv:Nat}{sv x:Value}{s px r:PV}{h':ab}
  (h1:ts[0]?=some st) (h2:ts[1]?=some xt) (h3:args[0]?=some sv) (h4:args[1]?=some x) (hs:aD w (Av F h β) β h sv s) (hx:aD w (Av F h β) β h x px)
  (e:bQ P lv h st xt s px=some (r,h')):AN P lv w F β h (Builtin.append_ ts ty args) r h':=by
 unfold bQ at e
 split at e
 ·rename_i el hu
  split at e
  ·rename_i sz bytes z q1 q2 q3
   split at e
   ·rename_i ys hy
    split at e
    ·rename_i hc
     obtain⟨nQ,jn,hzc,eF⟩:=hc;obtain⟨vz,z1,z2⟩:=jL (P:=P) q3;obtain⟨zb,d,a1,a2,news,a3,a4,a5,a6⟩:=sb (st:=st) (vz:=vz) H q1 q2 q3 nQ jn hx hy eF;have zsz:vz.cells.size=sz:=by rw[((z2 w (Av F h β) β h).cells hzc.2).1];exact hzc.1
     have arr:∀(cs:List Value) (n:Nat),cs.toArray++news.toArray++Builtin.zeroCells vz.cells n=(cs++news++(Builtin.zeroCells vz.cells n).toList).toArray:=λcs n=>by apply abq;simp
     have arrsz:∀(cs:List Value) (k m c:Nat),cs.length=k * sz->k+m<=c->news.length=m * sz->c * sz<=(cs.toArray++news.toArray++Builtin.zeroCells vz.cells (c - (k+m))).size:=λcs k m c e1 e2 e3=>by
      simp only[Array.size_append,ab9,size_zeroCells,zsz,e1,e3,<-aaO];rw[show k+m+(c - (k+m))=c by omega];exact Z5 _
     split at e
     ·-- a snapshot
      rename_i full es
      obtain⟨a,cap,rfl,hle,uw⟩:=hs.fv.jY
      split at e
      ·rename_i Ps
       obtain rfl:ys=[]:=by simpa using Ps
       obtain⟨rfl,rfl⟩:=aaa (ZZ e);have hn:news=[]:=aaf (by simpa using a3.1);subst hn;have:=l9 (P:=P) (w:=w) (ty:=ty) h1 h2 h3 h4 hu q1 a1 a2 q2 jn (n:=0) a5 a6 (by omega);refine AN.still H (v:=.slice a es.length cap) ?_ hs;rw[this]
       cases a <;>simp[storeCells]
      ·rename_i bJ
       split at e
       ·rename_i JG
        obtain⟨rfl,yJ,Fx,iU⟩:=JG;obtain⟨rfl,rfl⟩:=aaa (ZZ e);obtain⟨b1,b2⟩:=xJ Fx
        have hy0:0<ys.length:=by
         cases ys with
         |nil=>simp at bJ
         |cons=>simp
        have AW:=uw rfl
        have hez:∀y∈es,(Pm.cells y).length=sz:=λy hy=>by
         have:=Z1.1 iU y hy;simp only[Z9,decide_eq_true_eq]at this;exact this.1
        obtain⟨a',Ea,ev,_,cs,f1,f2⟩:=ly (P:=P) H hs (show cw h (.aa true es)=some es from rfl) hez
        obtain⟨c,c1,c2⟩:=pq (P:=P) (w:=w) (ty:=ty) (sLen:=es.length) h1 h2 h3 h4 hu q1 a1 a2 q2 jn z1 a5 a6 (λw' D4=>by
         have:=f2 w' D4 es.length (Z5 _);rwa[aar (by rw[f1.1];omega)]at this) (by omega) b1 b2
        have JI:=f1.append a3
        obtain⟨HH,S⟩:=aZ.new H (w':=w.drew.alloc (.cells (cs.toArray++news.toArray++Builtin.zeroCells vz.cells (c - (es.length+ys.length))) el)) el
         (cs.toArray++news.toArray++Builtin.zeroCells vz.cells (c - (es.length+ys.length))) {mu:=.m,ep:=0,bC:=sz,es:=es++ys} c rfl rfl rfl rfl rfl (by simpa using c1)
         (arrsz cs _ _ c f1.1 c1 a3.1) nQ (λi e he=>by
          rw[arr];exact JI.obj (rest:=(Builtin.zeroCells vz.cells (c - (es.length+ys.length))).toList) i e he)
        exact⟨_,_,_,c2,H.vq,HH,S,λ_=>(dF.drew w).trans (dF.alloc _ _)⟩
       ·cases e
     ·-- a reference
      rename_i id ep off len
      split at e
      ·rename_i o ho
       obtain⟨e1,e2,e3⟩:=getM_some ho;obtain⟨bc,hb⟩:=dn H.len e1;obtain⟨m1,m2,m3⟩:=hs.dL
       split at e
       ·rename_i JG
        obtain⟨hle,gv⟩:=JG;obtain⟨cap,rfl,c2⟩:=m3 o bc e1 hb e3 e2 hle;obtain⟨T,sJ,k1,k2,k3,k4,k5⟩:=(H.obj id o bc e1 hb e3).c (m2 o e1).2
        split at e
        ·rename_i Ps
         obtain rfl:ys=[]:=by simpa using Ps
         obtain⟨rfl,rfl⟩:=aaa (ZZ e);have hn:news=[]:=aaf (by simpa using a3.1);subst hn;have:=l9 (P:=P) (w:=w) (ty:=ty) h1 h2 h3 h4 hu q1 a1 a2 q2 jn (n:=0) a5 a6 (by omega);refine AN.still H (v:=.slice (some ⟨bc.1,off * o.bC,none⟩) len cap) ?_ hs;rw[this];simp[storeCells]
        ·rename_i bJ
         split at e
         ·rename_i hc3
          obtain⟨rfl,yJ,uO,_,jr⟩:=hc3;obtain⟨rfl,rfl⟩:=aaa (ZZ e);subst gv;have fP:=l9 (P:=P) (w:=w) (ty:=ty) h1 h2 h3 h4 hu q1 a1 a2 q2 jn a5 a6 (show len+ys.length<=cap by omega);obtain⟨w',s1,s2,s3⟩:=rm (P:=P) H e1 hb uO len a3 a4 jr;simp only[abD,eP,aan]at fP;rw[s1]at fP;simp only[Result.andThen_ok]at fP;refine⟨_,w',β,fP,?_,s2,s3,λhh=>by omega⟩;refine .ak _ id ep 0 (len+ys.length) {o with es:=o.es.take len++ys++o.es.drop (len+ys.length)} bc ⟨_,_,_,rfl⟩ (Z6 (ag e1)) hb (by show o.mu≠.x;rw[uO];simp) ⟨by show ep<=o.ep;omega,k4⟩ (λ_ _=>⟨cap,by simp,c2⟩)
         split at e
         ·rename_i hc3
          obtain⟨rfl,yJ,uO,Fx⟩:=hc3;obtain⟨rfl,rfl⟩:=aaa (ZZ e);obtain⟨b1,b2⟩:=xJ Fx
          have hy0:0<ys.length:=by
           cases ys with
           |nil=>simp at bJ
           |cons=>simp
          subst gv;have iU:cw h (.ak id ep 0 len)=some ((o.es.drop 0).take len):=by simp only[cw,ho,if_pos hle]
          have Ey:((o.es.drop 0).take len).length=len:=by simp;omega
          obtain⟨a',Ea,ev,_,cs,f1,f2⟩:=ly (P:=P) (sz:=o.bC) H hs iU (λy hy=>by
           obtain⟨k,hk⟩:=aaZ hy;rw[aai]at hk
           split at hk
           ·simp at hk;exact(k5 k y hk).1
           ·cases hk)
          simp only[aaV]at f1 Ey f2;have Qd:len<=o.es.length:=by omega
          by_cases mP:len+ys.length<=cap
          ·-- there is room
           have fP:=l9 (P:=P) (w:=w) (ty:=ty) h1 h2 h3 h4 hu q1 a1 a2 q2 jn a5 a6 mP;have hk3:(len+ys.length) * o.bC<=sJ.size:=aaQ (aaC _ (by omega)) k3;rw[aaO]at hk3;have yu:=run_storeCells_at P bc.1 (0 * o.bC+len * o.bC) T news 0 sJ w k1 (by rw[a3.1];omega) a4;simp only[abD,aan,abx]at yu fP;rw[eP,aan,yu]at fP;simp only[Result.andThen_ok]at fP
           have T0:Flat w (Av F h β) β h o.bC (sJ.toList.take (len * o.bC)) (o.es.take len):=by
            refine⟨by simp only[aa0,abl];rw[abG Qd,abG (by omega)],λi e he=>?_⟩;rw[aai]at he
            split at he
            ·rename_i hi
             obtain⟨n1,n2⟩:=k5 i e he;refine⟨n1,λj q hq=>?_⟩;obtain⟨u,p1,p2⟩:=n2 j q hq;have hj:=ag hq;have:=km (s:=o.bC) hi;exact⟨u,by rw[aai,if_pos (by omega)];simpa using p1,p2⟩
            ·cases he
           have JI:=T0.append a3
           have DT:(sJ.toList.take (len * o.bC)++news++sJ.toList.drop (len * o.bC+news.length)).length=sJ.size:=by
            simp only[Z2,aa0,abS,abl,a3.1];omega
           obtain⟨HH,S⟩:=aZ.set H e1 hb uO (w':=w.setRow bc.1 (sJ.toList.take (len * o.bC)++news++sJ.toList.drop (len * o.bC+news.length)).toArray) T
            (sJ.toList.take (len * o.bC)++news++sJ.toList.drop (len * o.bC+news.length)).toArray (o.es.take len++ys) (ep+1) bc (by simp)
            (setRow_heap w bc.1 sJ _ T (0,0) k1) (λb hb bJ=>setRow_other w bc.1 b _ bJ) (.inl ⟨rfl,λhe=>by omega⟩) (by omega) rfl rfl rfl (by simp;omega)
            (by rw[ab9,DT];exact k3) (λi e he=>JI.obj i e he)
           exact⟨_,_,_,fP,by have:=H.Gv (w':=w.setRow bc.1 (sJ.toList.take (len * o.bC)++news++sJ.toList.drop (len * o.bC+news.length)).toArray) (A:=Av F (h.set id {o with es:=o.es.take len++ys,ep:=ep+1}) (β.set id bc)) e1 uO (b:=bc.1) (cap:=cap) (len:=len+ys.length) (ep:=ep+1) (es:=o.es.take len++ys);simpa[show cap=bc.2 by omega]using this,HH,S,λhh=>by omega⟩
          ·-- it moves
           obtain⟨c,c1,fP⟩:=pq (P:=P) (w:=w) (ty:=ty) (olds:=cs) h1 h2 h3 h4 hu q1 a1 a2 q2 jn z1 a5 a6 (λw' D4=>by
            have e3:(.slice (some ⟨bc.1,0 * o.bC,none⟩) len cap:Value)=.slice (some ⟨bc.1,0 * o.bC,none⟩) len cap:=rfl;have:=f2 w' D4 len (by omega);rwa[aar (by rw[f1.1,Ey];exact Z5 _)]at this) mP b1 b2
           have JI:=f1.append a3
           obtain⟨HH,S⟩:=aZ.set H e1 hb uO (w':=w.drew.alloc (.cells (cs.toArray++news.toArray++Builtin.zeroCells vz.cells (c - (len+ys.length))) el)) el
            (cs.toArray++news.toArray++Builtin.zeroCells vz.cells (c - (len+ys.length))) (o.es.take len++ys) (ep+1) (w.heap.size,c) (by simp)
            (heap_alloc_new w.drew _) (λb hb bJ=>heap_alloc_old w.drew _ b hb) (.inr ⟨Z5 _,by omega⟩) (by omega) rfl rfl rfl (by simp;omega)
            (arrsz cs _ _ c (by rw[f1.1,Ey]) c1 a3.1) (λi e he=>by
             rw[arr];exact JI.obj (rest:=(Builtin.zeroCells vz.cells (c - (len+ys.length))).toList) i e he)
           exact⟨_,_,_,fP,H.Gv e1 uO,HH,S,λhh=>by omega⟩
         ·cases e
       ·cases e
      ·cases e
     ·cases e
    ·cases e
   ·cases e
  ·cases e
 ·cases e
theorem My(H:aZ w F β h){ts:Array TypeId}{ty dt:TypeId}{args:Array Value}{lv:Nat}{dv x:Value}{d px r:PV}{h':ab}
  (h1:ts[0]?=some dt) (h3:args[0]?=some dv) (h4:args[1]?=some x) (hd:aD w (Av F h β) β h dv d) (hx:aD w (Av F h β) β h x px)
  (e:yT P lv h dt d px=some (r,h')):AN P lv w F β h (Builtin.copy_ ts ty args) r h':=by
 unfold yT at e
 split at e
 ·rename_i el id ep off len ys hu hy
  split at e
  ·rename_i sz o hs ho
   split at e
   ·rename_i hc
    obtain⟨yJ,uO,rfl,hle,eF,WX⟩:=hc;obtain⟨rfl,rfl⟩:=aaa (ZZ e);obtain⟨e1,e2,e3⟩:=getM_some ho;obtain⟨bc,hb⟩:=dn H.len e1;obtain⟨m1,m2,m3⟩:=hd.dL;obtain⟨cap,rfl,c2⟩:=m3 o bc e1 hb e3 e2 hle
    obtain⟨a,Ea,rfl,ZW,cs,f1,f2⟩:=ly (P:=P) (sz:=o.bC) H hx hy (λy hy=>by
     have:=Z1.1 eF y hy;simpa only[decide_eq_true_eq]using this)
    obtain⟨T,sJ,k1,k2,k3,k4,k5⟩:=(H.obj id o bc e1 hb e3).c (m2 o e1).2;have hn:min ys.length len<=ys.length:=Nat.min_le_left _ _;have ft:=f1.take (min ys.length len) hn;have Ey:(ys.take (min ys.length len)).length=min ys.length len:=by simp only[aa0];omega
    obtain⟨w',r1,r2,r3⟩:=rm (P:=P) H e1 hb uO off ft (λu hu=>ft.Pv k4 WX u hu) (by rw[Ey];omega);rw[Ey]at r2 r3;refine⟨.int .i64 (min ys.length len:Nat),w',β,?_,.val (.int _ _),r2,r3,λhh=>by omega⟩;have fP:=f2 w rfl (min ys.length len) hn;simp only[Builtin.copy_,h1,h3,h4,Sem.run_bind,bL hu,Result.andThen_ok,Builtin.lenOf,Sem.run_pure,cD hs,goInt];have e0:Nat.min ys.length len=min ys.length len:=rfl;rw[e0,fP];simp only[Result.andThen_ok];rw[r1];simp
   ·cases e
  ·cases e
 ·cases e
theorem I1(H:aZ w F β h){ts:Array TypeId}{ty t:TypeId}{args:Array Value}{lv:Nat}{dv:Value}{d r:PV}{h':ab}
  (h1:ts[0]?=some t) (h3:args[0]?=some dv) (hd:aD w (Av F h β) β h dv d)
  (e:mf P lv h t d=some (r,h')):AN P lv w F β h (Builtin.clear_ ts ty args) r h':=by
 unfold mf at e
 split at e
 ·rename_i el id ep off len hu
  split at e
  ·rename_i sz z o hs hz ho
   split at e
   ·rename_i hc
    obtain⟨yJ,uO,rfl,hle,NI,zF⟩:=hc;obtain⟨rfl,rfl⟩:=aaa (ZZ e);obtain⟨e1,e2,e3⟩:=getM_some ho;obtain⟨bc,hb⟩:=dn H.len e1;obtain⟨m1,m2,m3⟩:=hd.dL;obtain⟨cap,rfl,c2⟩:=m3 o bc e1 hb e3 e2 hle;obtain⟨T,sJ,k1,k2,k3,k4,k5⟩:=(H.obj id o bc e1 hb e3).c (m2 o e1).2;obtain⟨vz,z1,z2⟩:=jL (P:=P) hz;obtain⟨s1,s2⟩:=qd (z2 w (Av F h β) β h) NI zF k4 len
    have eF:(List.replicate len z).all (λv=>decide ((Pm.cells v).length=o.bC)&& (Pm.cells v).all bI)=true:=by
     rw[Z1]
     intro x hx
     rw[abF]at hx;simp[hx.2,NI,zF]
    obtain⟨w',r1,r2,r3⟩:=rm (P:=P) H e1 hb uO off s2 (s2.Pv k4 eF) (by simpa using hle);simp only[abo]at r2 r3
    by_cases hl:len=0
    ·subst hl;refine⟨.tuple #[],w,β,?_,.val (.cx [] [] rfl (by simp)),?_⟩
     ·simp only[Builtin.clear_,h1,h3,Sem.run_bind,bL hu,Result.andThen_ok,Sem.run_pure]
     ·simp[storeCells]at r1;subst r1;exact⟨r2,r3,λ_=>dF.refl _⟩
    ·refine⟨.tuple #[],w',β,?_,.val (.cx [] [] rfl (by simp)),r2,r3,λhh=>by omega⟩;obtain⟨n,rfl⟩:∃n,len=n+1:=⟨len - 1,by omega⟩;simp only[Builtin.clear_,h1,h3,Sem.run_bind,bL hu,Result.andThen_ok,z1,Builtin.zeroCells,gB,s1];rw[s1]at r1;rw[r1];simp
   ·cases e
  ·cases e
 ·rename_i el full hu
  obtain⟨rfl,rfl⟩:=aaa (ZZ e);obtain⟨a,cap,rfl,_⟩:=hd.fv.jY;refine AN.still H (v:=.tuple #[]) ?_ (.val (.cx [] [] rfl (by simp)))
  cases a <;>simp[Builtin.clear_,h1,h3,bL hu]
 ·cases e
theorem Mz(H:aZ w F β h){t:TypeId}{lv:Nat}{vl vc:Value}{l c r:PV}{h':ab}(hl:aD w (Av F h β) β h vl l)(hc:aD w (Av F h β) β h vc c)
  (e:jy P lv h t l c=some (r,h')):AN P lv w F β h (Instr.makeSlice t vl vc) r h':=by
 unfold jy at e
 split at e
 ·rename_i el k1 n k2 c hu
  obtain rfl:=hl.dK;obtain rfl:=hc.dK
  split at e
  ·rename_i sz bytes z hs hb hz
   split at e
   ·rename_i DS
    obtain⟨yJ,hn,hnc,qL,nQ,jn,NI,zF⟩:=DS;obtain⟨rfl,rfl⟩:=aaa (ZZ e);obtain⟨vz,z1,z2⟩:=jL (P:=P) hz;obtain⟨s1,s2⟩:=qd (z2 w (Av F h β) β h) NI zF nQ n.toNat;obtain⟨i,hi,AM⟩:=rj hb;have UU:∀w,(typeInfo el).run P w=.ok i w:=λw=>by simp[typeInfo,hi]
    obtain⟨cn,rfl⟩:=abg (show 0<=c by omega);obtain⟨ln,rfl⟩:=abg hn;have Ya:cn<=1073741824:=by omega
    have yi:ln<=1073741824:=by omega
    have nh:¬((i.bytes:Int) * (cn:Int)>2^48):=by
     have:bytes * cn<=65536 * 1073741824:=ab8 jn Ya;have h2:((bytes * cn:Nat):Int)<=70368744177664:=by omega
     rw[Int.natCast_mul]at h2;rw[AM];omega
    have uw:List.map (λi=>vz.cells[i % vz.cells.size]!) (List.range (cn * sz))=List.map (λi=>vz.cells[i % vz.cells.size]!) (List.range (ln * sz))++List.drop (ln * sz) (List.map (λi=>vz.cells[i % vz.cells.size]!) (List.range (cn * sz))):=by
     have hle:ln * sz<=cn * sz:=aaC _ (by omega)
     have:List.map (λi=>vz.cells[i % vz.cells.size]!) (List.range (ln * sz))=List.take (ln * sz) (List.map (λi=>vz.cells[i % vz.cells.size]!) (List.range (cn * sz))):=by
      rw[<-List.map_take,List.take_range,abG hle]
     rw[this,abM]
    obtain⟨HH,S⟩:=aZ.new H (w':=w.alloc (.cells (List.map (λi=>vz.cells[i % vz.cells.size]!) (List.range (cn * sz))).toArray el)) el
     (List.map (λi=>vz.cells[i % vz.cells.size]!) (List.range (cn * sz))).toArray {mu:=.m,ep:=0,bC:=sz,es:=List.replicate ln z} cn rfl rfl rfl rfl rfl (by simp;omega) (by simp) nQ (λi e he=>by
      rw[uw];exact s2.obj i e (by simpa using he))
    refine⟨.slice (some ⟨w.heap.size,0,none⟩) ln cn,_,_,?_,H.vq,HH,S,λ_=>dF.alloc w _⟩
    ·have Mx:¬((cn:Int)<0):=by omega
     have WY:¬((ln:Int)<0):=by omega
     have hgt:¬((ln:Int)>(cn:Int)):=by omega
     simp only[Instr.makeSlice,Sem.run_bind,bL hu,Result.andThen_ok,asInt,asIntOf,Sem.run_pure,UU,wrap_small Ya,wrap_small yi,Sem.run_ite,Mx,WY,hgt,nh,decide_false,Bool.or_self,aad,if_false,run_askRoom,cD hs,abi,z1,newRow,run_newObj]
     by_cases Di:cn * sz=0
     ·simp only[Di,if_true,gB,List.range_zero,aas]
      rfl
     ·simp only[Di,if_false,gB]
      rfl
   ·cases e
  ·cases e
 ·cases e
theorem Px{args:List Value}{ps:List PV}{r:PV}{ts:Array TypeId}{ty:TypeId}{A:Nat->Prop}(hr:L2 (aD w A β h) args ps)(e:JP ps=some r):
  ∃u,(Builtin.max_ ts ty args.toArray).run P w=.ok u w/\aD w A β h u r:=by
 unfold JP at e
 split at e
 ·rename_i k a k' b
  obtain rfl:=ZZ e;obtain⟨hl,hh⟩:=hr
  match args,hl with
  |[x,y],_=>
   have h0:=hh 0 (by simp);have h1:=hh 1 (by simp);simp only[abW,abX]at h0 h1;obtain rfl:=h0.dK;obtain rfl:=h1.dK;exact⟨_,by simp[Builtin.max_,Builtin.max2],.val (.int _ _)⟩
 ·cases e
theorem Py{args:List Value}{ps:List PV}{r:PV}{ts:Array TypeId}{ty:TypeId}{A:Nat->Prop}(hr:L2 (aD w A β h) args ps)(e:NR ps=some r):
  ∃u,(Builtin.min_ ts ty args.toArray).run P w=.ok u w/\aD w A β h u r:=by
 unfold NR at e
 split at e
 ·rename_i k a k' b
  obtain rfl:=ZZ e;obtain⟨hl,hh⟩:=hr
  match args,hl with
  |[x,y],_=>
   have h0:=hh 0 (by simp);have h1:=hh 1 (by simp);simp only[abW,abX]at h0 h1;obtain rfl:=h0.dK;obtain rfl:=h1.dK;exact⟨_,by simp[Builtin.min_,Builtin.min2],.val (.int _ _)⟩
 ·cases e
theorem Bj(d:Nat){t:TypeId}(hu:P.underlying t=some .bool)(a b:Bool)(w:World):(Op.equalIn (d+1) t (.bool a) (.bool b)).run P w=.ok (a==b) w:=by
 simp[Op.equalIn,bL hu]
theorem xM{t:TypeId}(hu:P.underlying t=some .bool)(a b:Bool)(w:World):(Op.equal t (.bool a) (.bool b)).run P w=.ok (a==b) w:=Bj 9999 hu a b w
theorem Pz{op:BinOp}{t:TypeId}{x y:Value}{px py r:PV}{ox oy:Operand}{A:Nat->Prop}(hx:aD w A β h x px)(hy:aD w A β h y py)(e:fj P op t px py=some r):
  ∃u,((do eqGuard op t ox oy x y;binOp op t x y:Sem Value)).run P w=.ok u w/\aD w A β h u r:=by
 unfold fj at e
 split at e
 ·rename_i k a k' b
  obtain rfl:=hx.dK;obtain rfl:=hy.dK
  have guard:(eqGuard op t ox oy (.int k a) (.int k' b)).run P w=.ok () w:=by
   cases op <;>simp[eqGuard]
  simp only[Sem.run_bind,guard,Result.andThen_ok]
  split at e
  ·unfold pP at e
   split at e
   ·cases e
   ·rename_i hb
    obtain rfl:=ZZ e;refine⟨_,?_,.val (.int _ _)⟩;simp[binOp,Op.shift,hb]
  ·unfold pP at e
   split at e
   ·cases e
   ·rename_i hb
    obtain rfl:=ZZ e;refine⟨_,?_,.val (.int _ _)⟩;simp[binOp,Op.shift,hb]
  ·rename_i n1 n2
   split at e
   ·rename_i hk
    subst hk;unfold gD at e
    split at e
    all_goals first
     |(obtain rfl:=ZZ e;refine⟨_,?_,.val (.int _ _)⟩;simp[binOp,Op.intArith,Op.intBits];done)
     |(obtain rfl:=ZZ e;refine⟨_,?_,.val (.bool _)⟩;simp[binOp,Op.intCmp];done)
     |(split at e;cases e;rename_i hb;obtain rfl:=ZZ e;refine⟨_,?_,.val (.int _ _)⟩;simp[binOp,Op.intDiv,hb];done)
     |cases e
   ·cases e
 ·rename_i a b
  obtain rfl:=hx.l8;obtain rfl:=hy.l8
  have guard:(eqGuard op t ox oy (.string a) (.string b)).run P w=.ok () w:=by
   cases op <;>simp[eqGuard]
  simp only[Sem.run_bind,guard,Result.andThen_ok];unfold lR at e
  split at e
  all_goals first
   |(obtain rfl:=ZZ e;refine⟨_,?_,.val (.bool _)⟩;simp[binOp,Op.stringOp];done)
   |(split at e;cases e;rename_i hb;obtain rfl:=ZZ e;refine⟨_,?_,.val (.str _)⟩;simp only[binOp,Op.stringOp];rw[if_neg hb];rfl)
   |cases e
 ·rename_i a b
  obtain rfl:=hx.gd;obtain rfl:=hy.gd
  have guard:(eqGuard op t ox oy (.bool a) (.bool b)).run P w=.ok () w:=by
   cases op <;>simp[eqGuard]
  simp only[Sem.run_bind,guard,Result.andThen_ok]
  split at e
  ·rename_i hu
   split at e
   ·obtain rfl:=ZZ e;refine⟨_,?_,.val (.bool _)⟩;simp only[binOp,Sem.run_bind,xM hu,Result.andThen_ok,Sem.run_pure]
   ·obtain rfl:=ZZ e;refine⟨_,?_,.val (.bool _)⟩;simp only[binOp,Sem.run_bind,xM hu,Result.andThen_ok,Sem.run_pure]
   ·cases e
  ·cases e
 ·cases e
theorem T1{op:UnOp}{x:Value}{px r:PV}{A:Nat->Prop}(hx:aD w A β h x px)(e:P9 op px=some r):
  ∃u,(Op.unary op x).run P w=.ok u w/\aD w A β h u r:=by
 unfold P9 at e
 split at e
 ·obtain rfl:=ZZ e;obtain rfl:=hx.dK;exact⟨_,by simp[Op.unary,Op.intArith],.val (.int _ _)⟩
 ·obtain rfl:=ZZ e;obtain rfl:=hx.gd;exact⟨_,by simp[Op.unary],.val (.bool _)⟩
 ·cases e
theorem MA{c:PV}{n:Int}(h:JN c=some n):c=.int .u8 n:=by
 unfold JN at h
 split at h
 ·cases h;rfl
 ·cases h
theorem ux{c:PV}{r:List PV}{l:List Int}(e:nk (c::r)=some l):∃n l',c=.int .u8 n/\nk r=some l'/\l=n::l':=by
 unfold nk at e
 split at e
 ·rename_i n h1
  split at e
  ·rename_i l' h2
   exact⟨n,l',MA h1,h2,(ZZ e).symm⟩
  ·cases e
 ·cases e
theorem xN:∀{es:List PV} {l:List Int},nk es=some l->l.length=es.length
 |[],l,e=>by cases e;rfl
 |c::r,l,e=>by
  obtain⟨n,l',_,h,rfl⟩:=ux e;simp[xN h]
theorem tH:∀{es:List PV} {l:List Int},nk es=some l->∀i,i<es.length->es.getD i .any=.int .u8 (l.getD i 0)
 |[],l,e,i,h=>by simp at h
 |c::r,l,e,i,h=>by
  obtain⟨n,l',rfl,h1,rfl⟩:=ux e
  cases i with
  |zero=>rfl
  |succ i=>simpa using tH h1 i (by simpa using h)
theorem I2{s d t:TypeId}{x:Value}{full:Bool}{es:List PV}{l:List Int}{A:Nat->Prop}(hx:aD w A β h x (.aa full es))(h1:P.underlying s=some (.slice t))(h2:P.underlying d=some .string)(h3:P.underlying t=some (.int .u8))(h4:nk es=some l):
  (convert s d x).run P w=.ok (.string (Q8 l)) w:=by
 cases hx with
 |val hs=>
  cases hs with
  |gF a cap _ hc=>
   cases h4
   rw[run_convert_bytes_string w s d t a 0 cap h1 h3 h2]
   cases a with
   |none=>simp[Conv.bytesToString];rfl
   |some a=>exact run_bytesToString w a 0 cap [] (by simp[loadCells,loadCellsFrom])
  |aa b off cap sz _ _ oI bJ hle hf hA gv hlen kr Zo=>
   have hl:=xN h4;have h0:0<es.length:=abE.2 bJ
   have HB:sz=1:=by
    have:=hlen 0 h0;rw[tH h4 0 h0]at this;exact this.symm
   subst HB
   have hc:∀i,i<es.length->w.cell? ⟨b,off+i,none⟩=some (.int .u8 (l.getD i 0)):=λi hi=>by
    have r1:=kr i 0 hi (by omega);have r2:=Zo i 0 hi (by omega);rw[tH h4 i hi]at r2;simp only[cells,abW]at r2
    cases hv:oI i 0 with
    |int k n=>rw[hv]at r2 r1;cases r2;simpa using r1
    |_=>rw[hv]at r2;cases r2
   exact run_convert_bytes_arg w s t h1 h3 b off es.length cap l hl hc d h2
theorem MB{s d:TypeId}{x:Value}{px r:PV}{A:Nat->Prop}(hx:aD w A β h x px)(e:vI P s d px=some r):
  ∃u,(convert s d x).run P w=.ok u w/\aD w A β h u r:=by
 unfold vI at e
 split at e
 ·rename_i ds k k' n h1 h2
  obtain rfl:=ZZ e;obtain rfl:=hx.dK;refine⟨_,?_,.val (.int _ _)⟩;simp only[convert,Sem.run_bind,bL h1,bL h2,Result.andThen_ok]
  cases ds <;>simp[Conv.intToInt]
 ·rename_i ds st h1 h2
  obtain rfl:=ZZ e;obtain rfl:=hx.l8;refine⟨_,?_,.val (.str _)⟩;simp only[convert,Sem.run_bind,bL h1,bL h2,Result.andThen_ok]
  cases ds <;>simp
 ·rename_i h1 h2
  split at e
  ·rename_i h3 h4
   obtain rfl:=ZZ e;exact⟨_,I2 hx h1 h2 h3 h4,.val (.str _)⟩
  ·cases e
 ·cases e
def vw(w:World)(A:Nat->Prop)(β:List (Nat×Nat))(h:ab):Option Value->Option PV->Prop
 |none,none=>True
 |some v,some p=>aD w A β h v p
 |_,_=>False
theorem fH{A:Nat->Prop}{v:Value}{p:PV}{d t n:Nat}{code:BoundsCode}(hr:aD w A β h v p)(e:cF (some p) d t=some n):
  n<=t/\∀t',t<=t'->(Instr.sliceBound v t' code).run P w=.ok n w:=by
 unfold cF at e
 split at e
 ·rename_i hn;cases hn
 ·rename_i k i hp
  obtain rfl:=ZZ hp;obtain rfl:=hr.dK
  split at e
  ·rename_i hc
   obtain rfl:=ZZ e;refine⟨by omega,λt' ht=>?_⟩;have sG:0<=i/\i<=(t':Int):=by omega
   simp[Instr.sliceBound,asIntOf,sG]
  ·cases e
 ·cases e
theorem iy{d t n:Nat}(e:cF none d t=some n):n=d:=by
 simpa[cF]using e.symm
theorem Fy{A:Nat->Prop}{len cap m b a:Nat}{lo hi mx:Option Value}{plo phi pmx:Option PV}(yn:vw w A β h lo plo)(yo:vw w A β h hi phi)(EU:vw w A β h mx pmx)
  (hle:len<=cap) (e1:cF pmx len len=some m) (e2:cF phi len m=some b) (e3:cF plo 0 b=some a) (e4:(pmx.isSome&&phi.isNone)=false):
  ∃mc,(Instr.sliceBounds true len cap lo hi mx).run P w=.ok (a,b,mc) w/\a<=b/\b<=len/\b<=mc/\(pmx=none->mc=cap)/\(pmx≠none->mc=m):=by
 have h3:a<=b/\∀c,(match lo with |some v=>Instr.sliceBound v b c |none=>pure 0:Sem Nat).run P w=.ok a w:=by
  cases plo with
  |none=>cases lo with
   |none=>obtain rfl:=iy e3;exact⟨abm _,λc=>rfl⟩
   |some _=>simp[vw]at yn
  |some pl=>cases lo with
   |none=>simp[vw]at yn
   |some vl=>
    refine⟨(fH (P:=P) (code:=.sliceB) (show aD w A β h vl pl from yn) e3).1,λc=>?_⟩;exact(fH (P:=P) (show aD w A β h vl pl from yn) e3).2 _ (Z5 _)
 cases pmx with
 |none=>
  cases mx with
  |some _=>simp[vw]at EU
  |none=>
   obtain rfl:=iy e1;refine⟨cap,?_,h3.1,?_,?_,λ_=>rfl,λhh=>absurd rfl hh⟩
   ·cases phi with
    |none=>cases hi with
     |none=>
      obtain rfl:=iy e2;simp only[Instr.sliceBounds,Sem.run_bind,Sem.run_pure,Result.andThen_ok];have:=h3.2 .sliceB
      cases lo <;>simp_all
     |some _=>simp[vw]at yo
    |some ph=>cases hi with
     |none=>simp[vw]at yo
     |some vh=>
      have hb:=(fH (P:=P) (code:=.sliceAcap) (show aD w A β h vh ph from yo) e2).2 cap hle;simp only[Instr.sliceBounds,Sem.run_bind,Sem.run_pure,Result.andThen_ok,if_true,hb];have:=h3.2 .sliceB
      cases lo <;>simp_all
   ·cases phi with
    |none=>obtain rfl:=iy e2;exact Z5 _
    |some ph=>cases hi with
     |none=>simp[vw]at yo
     |some vh=>exact(fH (P:=P) (code:=.sliceAcap) (show aD w A β h vh ph from yo) e2).1
   ·cases phi with
    |none=>obtain rfl:=iy e2;exact hle
    |some ph=>cases hi with
     |none=>simp[vw]at yo
     |some vh=>exact aaQ (fH (P:=P) (code:=.sliceAcap) (show aD w A β h vh ph from yo) e2).1 hle
 |some pm=>
  cases mx with
  |none=>simp[vw]at EU
  |some vm=>
   obtain⟨m1,m2⟩:=fH (P:=P) (code:=.slice3Acap) (show aD w A β h vm pm from EU) e1
   cases phi with
   |none=>simp at e4
   |some ph=>cases hi with
    |none=>simp[vw]at yo
    |some vh=>
     obtain⟨b1,b2⟩:=fH (P:=P) (code:=.slice3B) (show aD w A β h vh ph from yo) e2;refine⟨m,?_,h3.1,by omega,b1,(λhh=>by cases hh),(λ_=>rfl)⟩;simp only[Instr.sliceBounds,Sem.run_bind,Result.andThen_ok,if_true,m2 cap hle,b2 m (Z5 _)];have:=h3.2 .slice3C
     cases lo <;>simp_all
theorem cj.sO{A:Nat->Prop}{v:Value}{full:Bool}{es:List PV}(hv:cj w A v (.aa full es)):es=[]\/
  ∃b off cap sz,∃oI:Nat->Nat->Value,v=.slice (some ⟨b,off,none⟩) es.length cap/\¬A b/\0<sz/\(∀i,i<es.length->(Pm.cells (es.getD i .any)).length=sz)/\
   (∀i j,i<es.length->j<sz->w.cell? ⟨b,off+(i * sz+j),none⟩=some (oI i j))/\
   (∀i j,i<es.length->j<sz->cj w A (oI i j) ((Pm.cells (es.getD i .any)).getD j .any)):=by
 cases hv with
 |gF a cap _ hf=>exact .inl rfl
 |aa b off cap sz _ _ oI h1 h2 h3 h4 h5 h6 h7 h8=>exact .inr ⟨b,off,cap,sz,oI,rfl,h4,h5,h6,h7,h8⟩
theorem I3(H:aZ w F β h){t:TypeId}{x:Value}{px r:PV}{lo hi mx:Option Value}{plo phi pmx:Option PV}(hx:aD w (Av F h β) β h x px)
  (yn:vw w (Av F h β) β h lo plo) (yo:vw w (Av F h β) β h hi phi) (EU:vw w (Av F h β) β h mx pmx) (e:cg P h t px plo phi pmx=some r):
  ∃u,(Instr.sliceAt t x lo hi mx).run P w=.ok u w/\aD w (Av F h β) β h u r:=by
 unfold cg at e
 split at e
 ·-- a string
  rename_i s hu
  obtain rfl:=hx.l8
  split at e
  ·cases e
  ·rename_i hm
   obtain rfl:pmx=none:=by simpa using hm
   obtain rfl:mx=none:=by cases mx <;>simp_all[vw]
   split at e
   ·rename_i b hb
    split at e
    ·rename_i a ha
     obtain rfl:=ZZ e
     have h1:∃dO,(match hi with |some v=>Instr.sliceBound v s.size .sliceAlen |none=>pure s.size:Sem Nat).run P w=.ok b w/\dO=b:=by
      cases phi with
      |none=>cases hi with
       |none=>exact⟨b,by simp[iy hb],rfl⟩
       |some _=>simp[vw]at yo
      |some ph=>cases hi with
       |none=>simp[vw]at yo
       |some vh=>exact⟨b,(fH (P:=P) (show aD w _ β h vh ph from yo) hb).2 _ (Z5 _),rfl⟩
     have h2:(match lo with |some v=>Instr.sliceBound v b .sliceB |none=>pure 0:Sem Nat).run P w=.ok a w:=by
      cases plo with
      |none=>cases lo with
       |none=>simp[iy ha]
       |some _=>simp[vw]at yn
      |some pl=>cases lo with
       |none=>simp[vw]at yn
       |some vl=>exact(fH (P:=P) (show aD w _ β h vl pl from yn) ha).2 _ (Z5 _)
     obtain⟨_,h1,_⟩:=h1;refine⟨.string (s.extract a b),?_,.val (.str _)⟩;simp only[Instr.sliceAt,Sem.run_bind,bL hu,Result.andThen_ok,Instr.slice,Instr.sliceBounds]
     cases hi <;>cases lo <;>simp_all
    ·cases e
   ·cases e
 ·-- a snapshot
  rename_i el full es hu
  split at e
  ·rename_i sz hs
   split at e
   ·rename_i m hm
    split at e
    ·rename_i b hb
     split at e
     ·rename_i a ha
      split at e
      ·rename_i hc
       obtain⟨Az,tv⟩:=hc;obtain rfl:=ZZ e;obtain⟨ad,cap,rfl,hle,uw⟩:=hx.fv.jY;obtain⟨mc,r1,r2,r3,r4,r5,r6⟩:=Fy (P:=P) yn yo EU hle hm hb ha Az
       have fP:(Instr.sliceAt t (.slice ad es.length cap) lo hi mx).run P w=.ok (.slice (if mc=a then ad else ad.map (·.add (a * sz))) (b - a) (mc - a)) w:=by
        simp only[Instr.sliceAt,Sem.run_bind,bL hu,Result.andThen_ok,Instr.slice,r1,cD hs,Sem.run_pure]
       refine⟨_,fP,.val ?_⟩
       have Yb:((if pmx.isSome then m==b else full&&b==es.length)=true->mc - a=b - a):=by
        intro hh
        cases pmx with
        |none=>
         simp at hh;have h1:=r5 rfl;have h2:=uw hh.1;omega
        |some pm=>
         simp at hh;have h1:=r6 (by simp);omega
       by_cases Ru:b - a=0
       ·rw[Ru];have:(es.drop a).take 0=[]:=by simp
        rw[this];exact .gF _ _ _ (λhh=>by have:=Yb hh;omega)
       ·have hmc:mc≠a:=by omega
        rw[if_neg hmc];rcases hx.fv.sO with rfl |⟨b0,off,Ea,Ge,oI,ev,k4,k5,k6,k7,k8⟩
        ·simp at r3;omega
        ·simp at ev;obtain⟨rfl,rfl⟩:=ev
         have gv:Ge=sz:=by
          have:=k6 a (by omega);have Gd:es[a]?=some es[a]:=Z3 (by omega);rw[Gd]at tv;simp[List.getD,show a<es.length by omega]at this tv;omega
         subst gv;have hlen:((es.drop a).take (b - a)).length=b - a:=by simp;omega
         have uI:∀i,i<b - a->((es.drop a).take (b - a)).getD i .any=es.getD (a+i) .any:=λi hi=>by
          simp[List.getD,aaB,hi]
         have:=cj.aa (w:=w) (A:=Av F h β) b0 (off+a * Ge) (mc - a) Ge (if pmx.isSome then m==b else full&&b==es.length) ((es.drop a).take (b - a)) (λi j=>oI (a+i) j)
          (by intro hn;rw[hn]at hlen;simp at hlen;omega) (by rw[hlen];omega) (λhh=>by rw[hlen];exact Yb hh) k4 k5
          (λi hi=>by rw[hlen]at hi;rw[uI i hi];exact k6 (a+i) (by omega))
          (λi j hi hj=>by
           rw[hlen]at hi;have:=k7 (a+i) j (by omega) hj;rw[aaO]at this;rw[show off+a * Ge+(i * Ge+j)=off+(a * Ge+i * Ge+j) by omega];exact this)
          (λi j hi hj=>by rw[hlen]at hi;rw[uI i hi];exact k8 (a+i) j (by omega) hj)
         rw[hlen]at this;simpa[eP]using this
      ·cases e
     ·cases e
    ·cases e
   ·cases e
  ·cases e
 ·-- a reference
  rename_i el id ep off len hu
  split at e
  ·rename_i sz o hs ho
   split at e
   ·rename_i hc
    obtain⟨rfl,hle⟩:=hc;obtain⟨e1,e2,e3⟩:=getM_some ho;obtain⟨bc,Oo⟩:=dn H.len e1;obtain⟨m1,m2,m3⟩:=hx.dL;obtain⟨cap,rfl,c2⟩:=m3 o bc e1 Oo e3 e2 hle;obtain⟨T,sJ,k1,k2,k3,k4,k5⟩:=(H.obj id o bc e1 Oo e3).c (m2 o e1).2
    split at e
    ·rename_i b I4
     split at e
     ·rename_i a ha
      obtain⟨Zp,kk,ii,Zq,hgt,QG⟩:pmx=none/\∃kk ii,phi=some (.int kk ii)/\(len:Int)<ii/\cF (some (.int kk ii)) 0 (o.es.length - off)=some b:=by
       unfold beyond at I4
       split at I4
       ·rename_i kk ii
        split at I4
        ·exact⟨rfl,kk,ii,rfl,by assumption,I4⟩
        ·cases I4
       ·cases I4
      subst Zp;subst Zq;obtain⟨mc,r1,r2,r3,r4,r5,r6⟩:=Fy (P:=P) (len:=o.es.length - off) (cap:=cap) (m:=o.es.length - off) yn yo EU (by omega) rfl QG ha rfl;have Zr:mx=none:=by cases mx with |none=>rfl |some _=>simp[vw]at EU
      subst Zr
      have r1':(Instr.sliceBounds true len cap lo hi none).run P w=.ok (a,b,mc) w:=by
       cases hi with
       |none=>simp[vw]at yo
       |some vh=>exact r1
      have fP:(Instr.sliceAt t (.slice (some ⟨bc.1,off * o.bC,none⟩) len cap) lo hi none).run P w=.ok (.slice (if mc=a then some ⟨bc.1,off * o.bC,none⟩else some ⟨bc.1,off * o.bC+a * o.bC,none⟩) (b - a) (mc - a)) w:=by
       simp only[Instr.sliceAt,Sem.run_bind,bL hu,Result.andThen_ok,Instr.slice,r1',cD hs,Sem.run_pure,aab,eP]
      refine⟨_,fP,?_⟩;have h1:=r5 rfl
      split at e
      ·rename_i QF
       subst QF;obtain rfl:=ZZ e;refine .ak _ id ep off b o bc ⟨_,_,_,rfl⟩ e1 Oo e3 (m2 o e1) (λ_ _=>?_);exact⟨cap,by rw[h1];split <;>simp,c2⟩
      ·rename_i QF
       split at e
       ·rename_i hz
        obtain rfl:=ZZ e;rw[hz];exact .val (.gF _ _ _ (λhh=>by cases hh))
       ·rename_i hz
        obtain rfl:=ZZ e;rw[if_neg (by omega)];refine .ak _ id ep (off+a) (b - a) o bc ⟨_,_,_,rfl⟩ e1 Oo e3 (m2 o e1) (λ_ _=>?_);exact⟨cap - a,by rw[h1,aaO],by omega⟩
     ·cases e
    split at e
    ·rename_i m hm
     split at e
     ·rename_i b hb
      split at e
      ·rename_i a ha
       split at e
       ·rename_i Az
        obtain⟨mc,r1,r2,r3,r4,r5,r6⟩:=Fy (P:=P) (cap:=cap) yn yo EU (by omega) hm hb ha Az
        have fP:(Instr.sliceAt t (.slice (some ⟨bc.1,off * o.bC,none⟩) len cap) lo hi mx).run P w=.ok (.slice (if mc=a then some ⟨bc.1,off * o.bC,none⟩else some ⟨bc.1,off * o.bC+a * o.bC,none⟩) (b - a) (mc - a)) w:=by
         simp only[Instr.sliceAt,Sem.run_bind,bL hu,Result.andThen_ok,Instr.slice,r1,cD hs,Sem.run_pure,aab,eP]
        refine⟨_,fP,?_⟩
        split at e
        ·rename_i hms
         split at e
         ·rename_i hma
          obtain rfl:=ZZ e;have h1:=r6 (by intro hh;rw[hh]at hms;simp at hms);have:b - a=0:=by omega
          rw[this];exact .val (.gF _ _ _ (λ_=>by omega))
         ·obtain rfl:=ZZ e;exact .any _
        ·rename_i hms
         have h1:=r5 (by cases pmx <;>simp_all)
         split at e
         ·rename_i QF
          subst QF;obtain rfl:=ZZ e;refine .ak _ id ep off b o bc ⟨_,_,_,rfl⟩ e1 Oo e3 (m2 o e1) (λ_ _=>?_);exact⟨cap,by rw[h1];split <;>simp,c2⟩
         ·rename_i QF
          split at e
          ·rename_i hz
           obtain rfl:=ZZ e;rw[hz];exact .val (.gF _ _ _ (λhh=>by cases hh))
          ·rename_i hz
           obtain rfl:=ZZ e;rw[if_neg (by omega)];refine .ak _ id ep (off+a) (b - a) o bc ⟨_,_,_,rfl⟩ e1 Oo e3 (m2 o e1) (λ_ _=>?_);exact⟨cap - a,by rw[h1,aaO],by omega⟩
       ·cases e
      ·cases e
     ·cases e
    ·cases e
   ·cases e
  ·cases e
 ·cases e
theorem I5(l:List Value):∀(i off:Nat) (cs:Array Value),off+i+l.length<=cs.size->
  ((l.zipIdx i).foldl (λcs (x:Value×Nat)=>cs.setIfInBounds (off+x.2) x.1) cs).size=cs.size/\
  ∀k,((l.zipIdx i).foldl (λcs (x:Value×Nat)=>cs.setIfInBounds (off+x.2) x.1) cs)[k]?=if off+i<=k/\k<off+i+l.length then l[k - (off+i)]? else cs[k]?:=by
 induction l with
 |nil=>intro i off cs _;exact⟨rfl,λk=>by rw[if_neg (by simp only[aaE];omega)];rfl⟩
 |cons v r ih=>
  intro i off cs hl
  simp only[Z4]at hl;obtain⟨h1,h2⟩:=ih (i+1) off (cs.setIfInBounds (off+i) v) (by simp;omega);refine⟨by simpa[List.zipIdx_cons]using h1,λk=>?_⟩;rw[List.zipIdx_cons,List.foldl_cons,h2 k]
  by_cases hA:off+i=k
  ·subst hA;rw[if_neg (by omega),if_pos (by simp only[Z4];omega)];rw[Array.getElem?_setIfInBounds_self_of_lt (by omega)];simp
  ·by_cases hB:off+(i+1)<=k/\k<off+(i+1)+r.length
   ·rw[if_pos hB,if_pos (by simp only[Z4];omega)];obtain⟨m,hm⟩:∃m,k - (off+i)=m+1:=⟨k - (off+i) - 1,by omega⟩;rw[hm,List.getElem?_cons_succ]
    congr 1
    omega
   ·rw[if_neg hB,if_neg (by simp only[Z4];omega),Array.getElem?_setIfInBounds_ne hA]
theorem Dn(v:Value)(off:Nat)(cs:Array Value)(hl:off+v.cells.size<=cs.size):
  (v.cells.zipIdx.foldl (λcs (x:Value×Nat)=>cs.setIfInBounds (off+x.2) x.1) cs).size=cs.size/\
  ∀k,(v.cells.zipIdx.foldl (λcs (x:Value×Nat)=>cs.setIfInBounds (off+x.2) x.1) cs)[k]?=if off<=k/\k<off+v.cells.size then v.cells[k - off]? else cs[k]?:=by
 have:=I5 v.cells.toList 0 off cs (by simpa using hl);simp only[abx,abl,aaw]at this;rw[<-Array.foldl_toList,Array.toList_zipIdx];exact this
def mo(w:World)(A:Nat->Prop)(β:List (Nat×Nat))(h:ab)(vs:List (Nat×Value))(ps:List (Nat×PV)):Prop:=
 vs.length=ps.length/\∀(k:Nat) (x:Nat×PV),ps[k]?=some x->∃v:Value,vs[k]?=some (x.1,v)/\aD w A β h v x.2
theorem mo.G4{A:Nat->Prop}{vs:List (Nat×Value)}(r:mo w A β h vs []):vs=[]:=aaf r.1
theorem mo.cons_inv{A:Nat->Prop}{vs:List (Nat×Value)}{x:Nat×PV}{ps:List (Nat×PV)}(r:mo w A β h vs (x::ps)):∃v FA,vs=(x.1,v)::FA/\aD w A β h v x.2/\mo w A β h FA ps:=by
 obtain⟨h1,h2⟩:=r;obtain⟨v,h3,h4⟩:=h2 0 x rfl
 match vs,h1,h3 with
 |y::FA,h1,h3=>
  simp at h3;subst h3;exact⟨v,FA,rfl,h4,by simpa using h1,λk x hx=>by simpa using h2 (k+1) x (by simpa using hx)⟩
def xO(w:World)(A:Nat->Prop)(β:List (Nat×Nat))(h:ab)(cs:Array Value)(ps:List PV):Prop:=
 cs.size=ps.length/\∀(k:Nat) (q:PV),ps[k]?=some q->∃u:Value,cs[k]?=some u/\aD w A β h u q
theorem Dp{A:Nat->Prop}{pl:Nat->Option (Nat×Nat)}{pl':Nat->Option (Nat×Nat)}(nI:∀i x,pl i=some x->pl' i=some x):∀(ps:List (Nat×PV)) (vs:List (Nat×Value)) (cs:Array Value) (cps r:List PV),
  mo w A β h vs ps->xO w A β h cs cps->jU pl cps ps=some r->∃jo,Instr.fill pl' cs vs=some jo/\xO w A β h jo r:=by
 intro ps
 induction ps with
 |nil=>
  intro vs cs cps r hp hc e
  obtain rfl:=hp.G4;simp[jU]at e;subst e;exact⟨cs,by simp[Instr.fill],hc⟩
 |cons x ps ih=>
  intro vs cs cps r hp hc e
  obtain⟨v,FA,rfl,h1,h2⟩:=hp.cons_inv;obtain⟨i,p⟩:=x;simp only[jU]at e
  split at e
  ·cases e
  ·rename_i off size hi
   split at e
   ·rename_i DS
    obtain⟨c1,c2,c3⟩:=DS;obtain⟨x1,x2⟩:=h1.cells c2;simp only at x1 x2 c1;have gv:=hc.1;obtain⟨f1,f2⟩:=Dn v off cs (by omega)
    obtain⟨jo,g1,g2⟩:=ih FA _ (ry cps off (Pm.cells p)) r h2 (by
     refine⟨by rw[f1];simp[ry];omega,λk q hq=>?_⟩;rw[ry,gk _ _ _ _ (by omega)]at hq;rw[f2 k]
     by_cases hA:k<off
     ·rw[if_pos hA]at hq;obtain⟨u,m1,m2⟩:=hc.2 k q hq;exact⟨u,by rw[if_neg (by omega)];exact m1,m2⟩
     ·rw[if_neg hA]at hq
      by_cases hB:k<off+(Pm.cells p).length
      ·rw[if_pos hB]at hq;obtain⟨u,m1,m2,_⟩:=x2 _ q hq;exact⟨u,by rw[if_pos (by omega)];exact m1,m2⟩
      ·rw[if_neg hB]at hq;obtain⟨u,m1,m2⟩:=hc.2 k q hq;exact⟨u,by rw[if_neg (by omega)];exact m1,m2⟩) e
    refine⟨jo,?_,g2⟩;simp only[Instr.fill,nI i _ hi];rw[if_neg (by simp;omega)];exact g1
   ·cases e
theorem Dq(fs:Array Field)(eF:fs.toList.all (λf=>(cu P f.type).isSome)=true)(w:World):
  ∃pl:Array (Nat×Nat),(fs.mapM (λf=>do pure (f.offset,<-sizeOf f.type)):Sem (Array (Nat×Nat))).run P w=.ok pl w/\∀i x,iC P fs i=some x->pl[i]?=some x:=by
 have main:∀(l:List Field),l.all (λf=>(cu P f.type).isSome)=true->
   ∃pl:List (Nat×Nat),(l.mapM (λf=>do pure (f.offset,<-sizeOf f.type)):Sem (List (Nat×Nat))).run P w=.ok pl w/\∀(i:Nat) (f:Field),l[i]?=some f->∃s,cu P f.type=some s/\pl[i]?=some (f.offset,s):=by
  intro l
  induction l with
  |nil=>intro _;exact⟨[],by simp,λi f hf=>by simp at hf⟩
  |cons f r ih=>
   intro ha
   simp at ha;obtain⟨s,hs⟩:=ab2.1 ha.1;obtain⟨pl,h1,h2⟩:=ih (by simpa using ha.2);refine⟨(f.offset,s)::pl,?_,λi g hg=>?_⟩
   ·simp only[List.mapM_cons,Sem.run_bind,cD hs,Result.andThen_ok,Sem.run_pure,h1]
   ·cases i with
    |zero=>simp at hg;subst hg;exact⟨s,hs,rfl⟩
    |succ i=>simpa using h2 i g (by simpa using hg)
 obtain⟨pl,h1,h2⟩:=main fs.toList eF;refine⟨pl.toArray,?_,λi x hx=>?_⟩
 ·rw[<-Array.toArray_toList (xs:=fs),List.mapM_toArray];simp only[Sem.run_map,h1,Result.andThen_ok]
 ·unfold iC at hx
  split at hx
  ·rename_i f hf
   obtain⟨s,g1,g2⟩:=h2 i f (by simpa using hf);rw[g1]at hx;simp at hx;subst hx;simpa using g2
  ·cases hx
theorem xO.agg{A:Nat->Prop}{cs:Array Value}{ps:List PV}(r:xO w A β h cs ps):aD w A β h (.agg cs) (.agg ps):=by
 have:=aD.agg (w:=w) (A:=A) (β:=β) (h:=h) cs.toList ps (by simpa using r.1) (λj hj=>by
  obtain⟨u,m1,m2⟩:=r.2 j ps[j] (Z3 hj);have e1:cs.toList.getD j Go.undef=u:=by simp[List.getD,m1]
  have e2:ps.getD j .any=ps[j]:=by simp[List.getD,hj]
  rw[e1,e2];exact m2)
 simpa using this
theorem uy{A:Nat->Prop}{t:TypeId}{z:PV}(e:iQ P t=some z)(h1:(Pm.cells z).all bI=true)(w:World)(β:List (Nat×Nat))(h:ab):∃v,(∀w,(zeroValue t).run P w=.ok v w)/\xO w A β h v.cells (Pm.cells z):=by
 obtain⟨v,z1,z2⟩:=jL (P:=P) e;obtain⟨x1,x2⟩:=(z2 w A β h).cells h1;exact⟨v,z1,x1,λk q hq=>by obtain⟨u,m1,m2,_⟩:=x2 k q hq;exact⟨u,m1,m2⟩⟩
theorem I6{A:Nat->Prop}{t:TypeId}{vs:Array (Nat×Value)}{ps:List (Nat×PV)}{r:PV}(hp:mo w A β h vs.toList ps)(e:vH P t ps=some r):
  ∃u,(Instr.build t vs).run P w=.ok u w/\aD w A β h u r:=by
 unfold vH at e
 split at e
 ·rename_i z fs hz hu
  split at e
  ·rename_i eF
   obtain⟨eF,tv⟩:=eF
   cases hf:jU (iC P fs) (Pm.cells z) ps with
   |none=>rw[hf]at e;simp at e
   |some q=>
    rw[hf]at e;simp at e;subst e;obtain⟨v,z1,z2⟩:=uy (P:=P) (A:=A) hz tv w β h;obtain⟨pl,p1,p2⟩:=Dq fs eF w;obtain⟨jo,g1,g2⟩:=Dp (pl':=λi=>pl[i]?) p2 ps vs.toList v.cells (Pm.cells z) q hp z2 hf;refine⟨.agg jo,?_,g2.agg⟩;simp only[Instr.build,Sem.run_bind,z1,Result.andThen_ok,bL hu,p1,g1,Sem.run_pure]
  ·cases e
 ·rename_i z n el hz hu
  split at e
  ·rename_i size hs
   split at e
   ·rename_i tv
    cases hf:jU (λi=>some (i * size,size)) (Pm.cells z) ps with
    |none=>rw[hf]at e;simp at e
    |some q=>
     rw[hf]at e;simp at e;subst e;obtain⟨v,z1,z2⟩:=uy (P:=P) (A:=A) hz tv w β h;obtain⟨jo,g1,g2⟩:=Dp (pl':=λi=>some (i * size,size)) (λ_ _ hx=>hx) ps vs.toList v.cells (Pm.cells z) q hp z2 hf;refine⟨.agg jo,?_,g2.agg⟩;simp only[Instr.build,Sem.run_bind,z1,Result.andThen_ok,bL hu,cD hs,g1,Sem.run_pure]
   ·cases e
  ·cases e
 ·cases e
theorem Flat.set{A:Nat->Prop}{sz:Nat}{cs jo:Array Value}{es:List PV}(a:Flat w A β h sz cs.toList es){v:Value}{p:PV}(hv:aD w A β h v p)(h1:(Pm.cells p).length=sz)(h2:(Pm.cells p).all bI=true)
  (i:Nat) (hi:i<es.length) (gv:jo.size=cs.size) (hk:∀k,jo[k]?=if i * sz<=k/\k<i * sz+v.cells.size then v.cells[k - i * sz]? else cs[k]?):Flat w A β h sz jo.toList (es.set i p):=by
 obtain⟨x1,x2⟩:=hv.cells h2;refine⟨by have:=a.1;simp at this ⊢;omega,λk e he=>?_⟩
 by_cases Qf:k=i
 ·subst Qf;rw[Z6 hi]at he;obtain rfl:=ZZ he;refine⟨h1,λj q hq=>?_⟩;have hj:=ag hq;obtain⟨u,m1,m2,_⟩:=x2 j q hq;refine⟨u,?_,m2⟩;rw[aaw,hk,if_pos (by omega),show k * sz+j - k * sz=j by omega];exact m1
 ·rw[Z7 (aaR Qf)]at he;obtain⟨n1,n2⟩:=a.2 k e he;refine⟨n1,λj q hq=>?_⟩;have hj:=ag hq;obtain⟨u,m1,m2⟩:=n2 j q hq;refine⟨u,?_,m2⟩;rw[aaw,hk,if_neg]
  ·simpa using m1
  ·rcases Nat.lt_or_gt_of_ne Qf with hl |hg
   ·have:=km (s:=sz) hl;omega
   ·have:=km (s:=sz) hg;omega
theorem I7{A:Nat->Prop}{sz:Nat}:∀(ps:List (Nat×PV)) (vs:List (Nat×Value)) (cs:Array Value) (es:List PV),mo w A β h vs ps->Flat w A β h sz cs.toList es->
  (∀x∈ps,(Pm.cells x.2).length=sz/\(Pm.cells x.2).all bI=true/\x.1<es.length)->
  ∃jo,Instr.fill (λi=>some (i * sz,sz)) cs vs=some jo/\Flat w A β h sz jo.toList (ps.foldl (λes x=>es.set x.1 x.2) es):=by
 intro ps
 induction ps with
 |nil=>
  intro vs cs es hp hf _
  obtain rfl:=hp.G4;exact⟨cs,by simp[Instr.fill],hf⟩
 |cons x ps ih=>
  intro vs cs es hp hf eF
  obtain⟨v,FA,rfl,h1,h2⟩:=hp.cons_inv;obtain⟨c1,c2,c3⟩:=eF x (by simp);obtain⟨x1,_⟩:=h1.cells c2;have hl:=hf.1;have hm:=km (s:=sz) c3;simp at hl;obtain⟨f1,f2⟩:=Dn v (x.1 * sz) cs (by omega);have Yb:=hf.set h1 c1 c2 x.1 c3 f1 f2
  obtain⟨jo,g1,g2⟩:=ih FA _ _ h2 Yb (λy hy=>by
   obtain⟨d1,d2,d3⟩:=eF y (by simp[hy]);exact⟨d1,d2,by simpa using d3⟩)
  refine⟨jo,?_,g2⟩;simp only[Instr.fill];rw[if_neg (by simp;omega)];exact g1
theorem Flat.aa{A:Nat->Prop}{sz:Nat}{cs:List Value}{es:List PV}(a:Flat w A β h sz cs es)(hs:0<sz)(hv:ao es=true){w':World}{A':Nat->Prop}{b cap:Nat}{full:Bool}
  (hw:∀k,k<w.heap.size->¬A k->w'.heap[k]?=w.heap[k]?) (hA:∀k,k<w.heap.size->¬A k->¬A' k) (hb:¬A' b) (hc:∀(k:Nat) (u:Value),cs[k]?=some u->w'.cell? ⟨b,k,none⟩=some u) (AW:es.length<=cap) (uw:full=true->cap=es.length):
  cj w' A' (.slice (some ⟨b,0,none⟩) es.length cap) (.aa full es):=by
 by_cases hn:es=[]
 ·subst hn;exact .gF _ _ _ (λhh=>by simpa using uw hh)
 ·have isv:∀(l:List PV),ao l=true->∀e∈l,aV e=true:=by
   intro l
   induction l with
   |nil=>intro _ e he;cases he
   |cons c r ih=>
    intro hl e he
    simp[ao]at hl;rcases Z'.1 he with rfl |he
    ·exact hl.1
    ·exact ih hl.2 e he
  have Ht:∀(e:PV),aV e=true->∀q∈Pm.cells e,aV q=true:=by
   intro e he q hq
   cases e <;>first
    |(simp only[Pm.cells,aav]at hq;subst hq;exact he)
    |(simp[aV]at he;exact isv _ he q hq)
  have at_:∀i j,i<es.length->j<sz->∃u,cs[i * sz+j]?=some u/\cj w A u ((Pm.cells (es.getD i .any)).getD j .any):=by
   intro i j hi hj
   have he:=Z3 hi;obtain⟨n1,n2⟩:=a.2 i _ he;have hq:=Z3 (show j<(Pm.cells es[i]).length by omega);obtain⟨u,m1,m2⟩:=n2 j _ hq;have e1:es.getD i .any=es[i]:=by simp[List.getD,hi]
   refine⟨u,m1,?_⟩;rw[e1];have e2:(Pm.cells es[i]).getD j .any=(Pm.cells es[i])[j]'(by omega):=by simp[List.getD,hq]
   rw[e2];exact m2.Hu (Ht _ (isv es hv _ (aay hi)) _ (aay _))
  refine .aa b 0 cap sz full es (λi j=>cs.getD (i * sz+j) Go.undef) hn AW uw hb hs (λi hi=>?_) (λi j hi hj=>?_) (λi j hi hj=>?_)
  ·have e1:es.getD i .any=es[i]:=by simp[List.getD,hi]
   rw[e1];exact(a.2 i _ (Z3 hi)).1
  ·obtain⟨u,m1,m2⟩:=at_ i j hi hj;rw[aan,hc _ u m1];simp[List.getD,m1]
  ·obtain⟨u,m1,m2⟩:=at_ i j hi hj;have:cs.getD (i * sz+j) Go.undef=u:=by simp[List.getD,m1]
   rw[this];exact m2.mono hw hA
theorem xP(H:aZ w F β h){lv:Nat}{t:TypeId}{n:Nat}{vs:Array (Nat×Value)}{ps:List (Nat×PV)}{r:PV}{h':ab}(hp:mo w (Av F h β) β h vs.toList ps)(e:dy P lv h t n ps=some (r,h')):
  AN P lv w F β h (Instr.buildSlice t n vs) r h':=by
 unfold dy at e
 split at e
 ·rename_i el hu
  split at e
  ·rename_i size z hs hz
   split at e
   ·rename_i hc
    obtain⟨nQ,Tu,NI,zF,eF⟩:=hc;obtain⟨vz,z1,z2⟩:=jL (P:=P) hz;obtain⟨s1,s2⟩:=qd (z2 w (Av F h β) β h) NI zF nQ n
    obtain⟨jo,g1,g2⟩:=I7 (sz:=size) ps vs.toList (List.map (λi=>vz.cells[i % vz.cells.size]!) (List.range (n * size))).toArray (List.replicate n z) hp (by simpa using s2) (λx hx=>by
     have:=Z1.1 eF x hx;simp only[Z9,decide_eq_true_eq]at this;exact⟨this.1.1,this.1.2,by simpa using this.2⟩)
    have Zs:ps.foldl (λes x=>es.set x.1 x.2) (List.replicate n z)=yv z n ps:=rfl;rw[Zs]at g2
    have ua:(yv z n ps).length=n:=by
     have:∀(l:List (Nat×PV)) (es:List PV),(l.foldl (λes x=>es.set x.1 x.2) es).length=es.length:=by
      intro l
      induction l with
      |nil=>intro es;rfl
      |cons x l ih=>intro es;rw[List.foldl_cons,ih];simp
     unfold yv;rw[this];simp
    have fP:(Instr.buildSlice t n vs).run P w=.ok (.slice (some ⟨w.heap.size,0,none⟩) n n) (w.alloc (.cells jo el)):=by
     simp only[Instr.buildSlice,Sem.run_bind,bL hu,Result.andThen_ok,cD hs,Sem.run_ite];rw[if_neg (by omega)]
     by_cases h0:n * size=0
     ·have hnn:n=0:=by
       rcases Nat.mul_eq_zero.1 h0 with h |h
       ·exact h
       ·omega
      subst hnn;simp only[h0,if_true,Sem.run_pure,Result.andThen_ok,gB,List.range_zero,aas]at g1 ⊢;rw[g1];simp only[Sem.run_bind,newRow,run_newObj,Result.andThen_ok,Sem.run_pure]
      rfl
     ·simp only[h0,if_false,z1,Result.andThen_ok,Sem.run_pure,gB];rw[g1];simp only[Sem.run_bind,newRow,run_newObj,Result.andThen_ok,Sem.run_pure]
      rfl
    split at e
    ·rename_i hv
     obtain⟨rfl,rfl⟩:=aaa (ZZ e);refine⟨_,_,β,fP,.val ?_,H.JY (dF.alloc w _),(dF.alloc w _).Qe h β,λ_=>dF.alloc w _⟩
     have:=g2.aa (w':=w.alloc (.cells jo el)) (A':=Av F h β) (b:=w.heap.size) (cap:=n) (full:=true) nQ hv (λk hk _=>heap_alloc_old w _ k hk) (λk _ hk=>hk)
      (λhm=>by have:=Av.lt H hm;omega) (λk u hku=>by rw[World.cell?_alloc_new];simpa using hku) (by omega) (λ_=>by omega)
     rwa[ua]at this
    ·rename_i hv
     split at e
     ·obtain⟨rfl,rfl⟩:=aaa (ZZ e)
      obtain⟨HH,S⟩:=aZ.new H (w':=w.alloc (.cells jo el)) el jo {mu:=.m,ep:=0,bC:=size,es:=yv z n ps} n rfl rfl rfl rfl rfl (by simp[ua])
       (by have:=g2.1;simp[ua]at this;simp[this]) nQ (λi e he=>by
        obtain⟨n1,n2⟩:=g2.2 i e he;exact⟨n1,λj p hp=>by obtain⟨u,m1,m2⟩:=n2 j p hp;exact⟨u,by simpa using m1,m2⟩⟩)
      exact⟨_,_,_,fP,H.vq,HH,S,λ_=>dF.alloc w _⟩
     ·cases e
   ·cases e
  ·cases e
 ·cases e
open Go.MapKept
theorem GV{A:Nat->Prop}{t:TypeId}{k:PV}{v:Value}(hk:yw P t k=true)(hv:aD w A β h v k):∃d,P.underlying t=some d/\IsKey d v/\∀(k':PV) (v':Value) (b:Bool),rz k k'=some b->aD w A β h v' k'->Instr.sameNow d v v'=some b/\(b=true->Instr.sameBits 10000 v' v=true/\aD w A β h v k'):=by
 unfold yw at hk
 split at hk
 ·rename_i kd k n hu
  obtain rfl:=hv.dK;have hk:=of_decide_eq_true hk;refine⟨_,hu,by simpa[IsKey]using hk,λk' v' b hs BM=>?_⟩
  cases k' <;>simp only[rz]at hs <;>try(cases hs;done)
  obtain rfl:=BM.dK
  split at hs
  ·rename_i hkk
   subst hkk;obtain rfl:=ZZ hs;refine⟨by simp[Instr.sameNow],λhb=>?_⟩;have:=eq_of_beq hb;subst this;exact⟨by simp[Instr.sameBits],hv⟩
  ·cases hs
 ·rename_i s hu
  obtain rfl:=hv.l8;refine⟨_,hu,by simp[IsKey],λk' v' b hs BM=>?_⟩
  cases k' <;>simp only[rz]at hs <;>try(cases hs;done)
  obtain rfl:=BM.l8;obtain rfl:=ZZ hs;refine⟨by simp[Instr.sameNow],λhb=>?_⟩;have:=(bytes_beq _ _).1 hb;subst this;exact⟨by simp only[Instr.sameBits];exact hb,hv⟩
 ·rename_i b hu
  obtain rfl:=hv.gd;refine⟨_,hu,by simp[IsKey],λk' v' b hs BM=>?_⟩
  cases k' <;>simp only[rz]at hs <;>try(cases hs;done)
  obtain rfl:=BM.gd;obtain rfl:=ZZ hs;refine⟨by simp[Instr.sameNow],λhb=>?_⟩;have:=eq_of_beq hb;subst this;exact⟨by simp[Instr.sameBits],hv⟩
 ·cases hk
def X9(w:World)(A:Nat->Prop)(β:List (Nat×Nat))(h:ab)(l:List MapEntry)(ps:List PV):Prop:=
 l.length=ps.length/\∀(i:Nat) (e:PV),ps[i]?=some e->∃(k v:PV) (m:MapEntry),e=.agg [k,v]/\l[i]?=some m/\aD w A β h m.key k/\aD w A β h m.val v
theorem pB{A:Nat->Prop}{d:TypeDesc}{k:PV}{v:Value}(hs:∀(k':PV) (v':Value) (b:Bool),rz k k'=some b->aD w A β h v' k'->Instr.sameNow d v v'=some b/\(b=true->Instr.sameBits 10000 v' v=true/\aD w A β h v k')):
  ∀(l:List MapEntry) (ps:List PV) (n:Nat) (r:Option (Nat×PV)),X9 w A β h l ps->mr k ps n=some r->
   match r with
   |none=>Instr.findNow d v l n=some none
   |some (j,p)=>∃(i:Nat) (m:MapEntry) (k':PV),j=n+i/\l[i]?=some m/\ps[i]?=some (.agg [k',p])/\Instr.findNow d v l n=some (some (j,m.val))/\aD w A β h m.val p/\Instr.sameBits 10000 m.key v=true/\aD w A β h v k'
 |[],ps,n,r,hR,e=>by
  obtain⟨h1,_⟩:=hR;have:ps=[]:=List.length_eq_zero_iff.1 h1.symm;subst this;simp only[mr]at e;obtain rfl:=ZZ e
  rfl
 |m::l,[],n,r,hR,e=>by
  obtain⟨h1,_⟩:=hR;simp at h1
 |m::l,p0::ps,n,r,hR,e=>by
  obtain⟨h1,h2⟩:=hR;obtain⟨k0,v0,m0,rfl,hm,UR,Bw⟩:=h2 0 p0 rfl;simp at hm;subst hm
  have hT:X9 w A β h l ps:=⟨by simpa using h1,λi e he=>by
   obtain⟨k1,v1,m1,g1,g2,g3⟩:=h2 (i+1) e (by simpa using he);exact⟨k1,v1,m1,g1,by simpa using g2,g3⟩⟩
  simp only[mr]at e
  split at e
  ·rename_i yC
   obtain rfl:=ZZ e;obtain⟨q1,q2⟩:=hs k0 m.key true yC UR;obtain⟨q3,q4⟩:=q2 rfl;exact⟨0,m,k0,rfl,rfl,rfl,by simp[Instr.findNow,q1],Bw,q3,q4⟩
  ·rename_i yC
   obtain⟨q1,_⟩:=hs k0 m.key false yC UR;have:=pB hs l ps (n+1) r hT e;have hf:Instr.findNow d v (m::l) n=Instr.findNow d v l (n+1):=by simp[Instr.findNow,q1]
   cases r with
   |none=>simpa[hf]using this
   |some jp=>
    obtain⟨j,p⟩:=jp;obtain⟨i,m1,k1,g1,g2,g3,g4,g5⟩:=this;exact⟨i+1,m1,k1,by omega,by simpa using g2,by simpa using g3,by rw[hf];exact g4,g5⟩
  ·cases e
theorem Mn{A:Nat->Prop}{es:Array MapEntry}{ps:List PV}(h1:es.size=ps.length)(h2:∀(i:Nat) (e:PV),ps[i]?=some e->∃(k v:PV) (m:MapEntry),e=.agg [k,v]/\es[i]?=some m/\aD w A β h m.key k/\aD w A β h m.val v):
  X9 w A β h es.toList ps:=⟨by simpa using h1,λi e he=>by
 obtain⟨k,v,m,g1,g2,g3⟩:=h2 i e he;exact⟨k,v,m,g1,by simpa using g2,g3⟩⟩
theorem Fo(H:aZ w F β h){vm vk:Value}{m k q:PV}{t:TypeId}{ok:Bool}(hm:aD w (Av F h β) β h vm m)(hk:aD w (Av F h β) β h vk k)(e:nm P h t m k ok=some q):
  ∃u,(Instr.lookup t vm vk ok).run P w=.ok u w/\aD w (Av F h β) β h u q:=by
 unfold nm at e
 split at e
 ·rename_i kt et hu
  split at e
  ·rename_i z hz
   split at e
   ·rename_i cU
    obtain⟨d,hd,D5,C9⟩:=GV cU hk;obtain⟨vz,z1,z2⟩:=tG hz w (Av F h β) β h
    have Ov:∀{u:Value} {p:PV} (b:Bool),aD w (Av F h β) β h u p->aD w (Av F h β) β h (if ok then .tuple #[u,.bool b]else u) (gp ok p b):=by
     intro u p b hr
     unfold gp
     cases ok
     ·exact hr
     ·exact .cx [u,.bool b] [p,.bool b] rfl (λj hj=>by
       match j,hj with
       |0,_=>exact hr
       |1,_=>exact .val (.bool b))
    split at e
    ·obtain rfl:=ZZ e;obtain rfl:=hm.C';refine⟨_,?_,Ov false z2⟩;simp only[Instr.lookup,Sem.run_bind,bL hu,Result.andThen_ok,Sem.run_pure,run_checkKey hd D5,run_findKey (l:=(#[]:Array MapEntry).toList) hd (a:=none) rfl,z1]
    ·rename_i id
     split at e
     ·rename_i o ho
      obtain⟨bc,es,clock,rfl,k2,k3,k4⟩:=Mo H hm ho;have hE:=Mn k3 k4
      split at e
      ·rename_i j p hf
       obtain rfl:=ZZ e;obtain⟨i,me,k',g1,g2,g3,g4,g5,g6⟩:=pB C9 es.toList o.es 0 _ hE hf;refine⟨_,?_,Ov true g5⟩;simp only[Instr.lookup,Sem.run_bind,bL hu,Result.andThen_ok,Sem.run_pure,lF k2,run_checkKey hd D5,run_findKey hd g4]
      ·rename_i hf
       obtain rfl:=ZZ e;have g4:=pB C9 es.toList o.es 0 _ hE hf;refine⟨_,?_,Ov false z2⟩;simp only[Instr.lookup,Sem.run_bind,bL hu,Result.andThen_ok,Sem.run_pure,lF k2,run_checkKey hd D5,run_findKey hd g4,z1]
      ·cases e
     ·cases e
    ·cases e
   ·cases e
  ·cases e
 ·cases e
theorem Da{lv:Nat}(H:aZ w F β h){t:TypeId}{r:Option PV}{vr:Option Value}(hr:vw w (Av F h β) β h vr r){p:PV}{h':ab}(e:ms P lv h t r=some (p,h')):AN P lv w F β h (Instr.makeMap t vr) p h':=by
 obtain⟨H1,S1⟩:=H.SP
 have hv:aD (w.alloc (.map #[] 0)) (Av F (newObj h 0 []) (β++[(w.heap.size,0)])) (β++[(w.heap.size,0)]) (newObj h 0 []) (.map (some w.heap.size)) (.cB h.length):=
  .cB _ _ {mu:=.m,ep:=0,bC:=0,es:=[]} (w.heap.size,0) ⟨_,rfl⟩ (by simp[newObj]) (by rw[<-H.len];simp) (by simp) (λ_=>rfl)
 unfold ms at e
 split at e
 ·split at e
  ·obtain⟨rfl,rfl⟩:=aaa (ZZ e)
   cases vr with
   |some v=>exact hr.elim
   |none=>exact⟨_,_,_,rfl,hv,H1,S1,λ_=>dF.alloc w _⟩
  ·rename_i k n kt et hu
   obtain⟨rfl,rfl⟩:=aaa (ZZ e)
   cases vr with
   |none=>exact hr.elim
   |some v=>
    obtain rfl:=aD.dK hr;refine⟨_,_,_,?_,hv,H1,S1,λ_=>dF.alloc w _⟩;simp[Instr.makeMap,bL hu,asInt,asIntOf]
  ·cases e
 ·cases e
theorem xA(H:aZ w F β h){vm vk vx:Value}{m k x:PV}{t:TypeId}{h':ab}(hm:aD w (Av F h β) β h vm m)(hk:aD w (Av F h β) β h vk k)(hx:aD w (Av F h β) β h vx x)(e:np P h t m k x=some h'):
  ∃w' β',(Instr.mapUpdate t vm vk vx).run P w=.ok () w'/\aZ w' F β' h'/\dS w h β w' h' β':=by
 unfold np at e
 split at e
 ·rename_i kt et id hu
  split at e
  ·rename_i o ho
   split at e
   ·rename_i hc
    obtain⟨cU,uO⟩:=hc;obtain⟨e1,e2,e3,e4⟩:=zW ho;obtain⟨bc,hb⟩:=dn H.len e1;obtain⟨_,es,clock,k2,k3,k4⟩:=(H.obj id o bc e1 hb e3).m e4;obtain rfl:=hm.Db e1 hb e2;have hE:=Mn k3 k4;obtain⟨d,hd,D5,C9⟩:=GV cU hk;have cI:=(aap.1 k2).1
    have hβ:β=β.set id bc:=by
     apply aa2
     intro j
     by_cases hj:j=id
     ·subst hj;rw[Z6 (by have:=H.len;have:=ag e1;omega)];exact hb
     ·rw[Z7 (aaR hj)]
    have fin:∀(dA:Array MapEntry) (clock2:Nat) (ps:List PV),X9 w (Av F h β) β h dA.toList ps->
      aZ {w with heap:=w.heap.setIfInBounds bc.1 (.map dA clock2)} F β (h.set id {o with es:=ps})/\dS w h β {w with heap:=w.heap.setIfInBounds bc.1 (.map dA clock2)} (h.set id {o with es:=ps}) β:=by
     intro dA clock2 ps hR
     have cY:({w with heap:=w.heap.setIfInBounds bc.1 (.map dA clock2)}:World).heap[bc.1]?=some (.map dA clock2):=by
      simp[cI]
     have:=aZ.VZ H e1 hb uO (w':={w with heap:=w.heap.setIfInBounds bc.1 (.map dA clock2)}) ps o.ep bc (by simp) (λb yy bJ=>by
      simp only[Array.getElem?_setIfInBounds];rw[if_neg (aaR bJ)]) (.inl ⟨rfl,λ_=>.inr e4⟩) (Z5 _) rfl rfl rfl (λhs=>.inr ⟨e4,dA,clock2,cY,by simpa using hR.1,λi e he=>by
       obtain⟨k,v,m,g1,g2,g3,g4⟩:=hR.2 i e he;exact⟨k,v,m,g1,by simpa using g2,g3.mono hs,g4.mono hs⟩⟩)
     rw[<-hβ]at this;exact this
    unfold JO at e
    split at e
    ·rename_i eT Pr
     obtain rfl:=ZZ e
     split at Pr
     ·rename_i j p hf
      obtain rfl:=ZZ Pr;obtain⟨i,me,k',g1,g2,g3,g4,g5,g6,g7⟩:=pB C9 es.toList o.es 0 _ hE hf;obtain rfl:j=i:=by omega
      have Ve:es[j]?=some me:=by simpa using g2
      obtain⟨HH,SS⟩:=fin (es.modify j λe=>{e with key:=vk,val:=vx}) clock (o.es.set j (.agg [k,x])) (by
       refine⟨by simp[k3],λi e he=>?_⟩
       by_cases hi:i=j
       ·subst hi;rw[Z6 (ag g3)]at he;obtain rfl:=ZZ he;refine⟨k,x,{me with key:=vk,val:=vx},rfl,?_,hk,hx⟩;rw[aaw,abP,if_pos rfl,Ve];rfl
       ·rw[Z7 (aaR hi)]at he;obtain⟨k1,v1,m1,q1,q2,q3⟩:=k4 i e he;refine⟨k1,v1,m1,q1,?_,q3⟩;rw[aaw,abP,if_neg (aaR hi)];exact q2)
      refine⟨_,β,?_,HH,SS⟩;simp only[Instr.mapUpdate,Sem.run_bind,bL hu,Result.andThen_ok,lF k2,run_checkKey hd D5,run_findKey hd g4,Instr.keyThatStays,Ve,aab,Option.getD_some,g6,if_true,Sem.run_pure,run_setObj_map _ k2]
     ·rename_i hf
      obtain rfl:=ZZ Pr;have g4:=pB C9 es.toList o.es 0 _ hE hf
      obtain⟨HH,SS⟩:=fin (es.push {key:=vk,val:=vx,born:=clock}) (clock+1) (o.es++[.agg [k,x]]) (by
       refine⟨by simp[k3],λi e he=>?_⟩
       by_cases hi:i<o.es.length
       ·rw[Z0 hi]at he;obtain⟨k1,v1,m1,q1,q2,q3⟩:=k4 i e he;refine⟨k1,v1,m1,q1,?_,q3⟩;rw[aaw,Array.getElem?_push,if_neg (by omega)];exact q2
       ·have hl:=ag he;simp at hl;obtain rfl:i=o.es.length:=by omega
        rw[aac (Z5 _)]at he;simp at he;subst he;refine⟨k,x,{key:=vk,val:=vx,born:=clock},rfl,?_,hk,hx⟩;rw[aaw,<-k3];simp)
      refine⟨_,β,?_,HH,SS⟩;simp only[Instr.mapUpdate,Sem.run_bind,bL hu,Result.andThen_ok,lF k2,run_checkKey hd D5,run_findKey hd g4,run_setObj_map _ k2]
     ·cases Pr
    ·cases e
   ·cases e
  ·cases e
 ·cases e
end Go.Pm
