/-
  Pm, a part. Conditions: none.
-/
import Derived.Test.YtimogkojklpdnaaGreatDoorPxAA
import Derived.Laws.BytesArg
import Derived.MapKept
set_option linter.unusedVariables false
set_option linter.unusedSimpArgs false
set_option linter.unnecessarySimpa false
namespace Go.Pm
theorem pZ{R:Nat->Value->Prop}:∀(n:Nat),(∀j,j<n->∃u,R j u)->∃vs:List Value,vs.length=n/\∀j,j<n->R j (vs.getD j undef)
 |0,_=>⟨[],rfl,λj hj=>absurd hj (Nat.not_lt_zero _)⟩
 |n+1,h=>by
  obtain⟨vs,hl,hr⟩:=pZ n (λj hj=>h j (by omega));obtain⟨u,hu⟩:=h n (by omega);refine⟨vs++[u],by simp[hl],λj hj=>?_⟩
  by_cases hjn:j<n
  ·have:(vs++[u]).getD j undef=vs.getD j undef:=by simp[List.getD,abj (show j<vs.length by omega)]
   rw[this];exact hr j hjn
  ·obtain rfl:j=n:=by omega
   have:(vs++[u]).getD j undef=u:=by simp[List.getD,<-hl]
   rw[this];exact hu
theorem getM_some{h:ab}{id ep:Nat}{o:aw}(e:getM h id ep=some o):h[id]?=some o/\o.ep=ep/\o.mu≠.x:=by
 unfold getM at e
 split at e
 ·rename_i o' ho
  split at e
  ·rename_i hc
   obtain rfl:=abi e;exact⟨ho,hc.1,hc.2⟩
  ·cases e
 ·cases e
theorem du{h:ab}{β:List (Nat×Nat)}(hl:β.length=h.length){id:Nat}{o:aw}(e:h[id]?=some o):∃bc,β[id]?=some bc:=by
 have:id<h.length:=by
  rcases ab0 id h.length with h1 |h1
  ·exact h1
  ·rw[abC h1]at e;cases e
 exact⟨β[id]'(by omega),abo (by omega)⟩
theorem ag{α:Type}{l:List α}{i:Nat}{x:α}(h:l[i]?=some x):i<l.length:=by
 rcases ab0 i l.length with h1 |h1
 ·exact h1
 ·rw[abC h1]at h;cases h
theorem Mb.lt{w:World}{F:Nat->Prop}{β:List (Nat×Nat)}{h:ab}(H:bm w F β h){b:Nat}(m:Mb h β b):b<w.heap.size:=by
 obtain⟨id,o,bc,e1,e2,e3,rfl⟩:=m;exact(H.obj id o bc e1 e2 (by rw[e3];simp)).lt
theorem Av.lt{w:World}{F:Nat->Prop}{β:List (Nat×Nat)}{h:ab}(H:bm w F β h){b:Nat}(m:Av F h β b):b<w.heap.size:=by
 rcases m with m |m
 ·exact H.fin b m
 ·exact Mb.lt H m
structure dH(w w':World):Prop where
 size:w.heap.size<=w'.heap.size
 aU:∀b,b<w.heap.size->w'.heap[b]?=w.heap[b]?
 os:w'.os=w.os
 tape:w'.tape=w.tape
 output:w'.output=w.output
 drawn:w.drawn<=w'.drawn
theorem dH.refl(w:World):dH w w:=⟨abn _,λ_ _=>rfl,rfl,rfl,rfl,abn _⟩
theorem dH.trans{a b c:World}(x:dH a b)(y:dH b c):dH a c:=
 ⟨acb x.size y.size,λk hk=>(y.aU k (ab5 hk x.size)).trans (x.aU k hk),y.os.trans x.os,y.tape.trans x.tape,y.output.trans x.output,acb x.drawn y.drawn⟩
theorem dH.alloc(w:World)(o:Obj):dH w (w.alloc o):=⟨by simp,λb hb=>heap_alloc_old w o b hb,rfl,rfl,rfl,abn _⟩
theorem dH.drew(w:World):dH w w.drew:=⟨abn _,λ_ _=>rfl,rfl,rfl,rfl,ade _⟩
theorem dH.SZ{w w':World}(g:dH w w')(h:ab)(β:List (Nat×Nat)):eg w h β w' h β where
 size:=g.size
 len:=abn _
 aU b hb _:=g.aU b hb
 shr _ _ m:=m
 refs:=IK.refl h β
 LN id o h1 _:=⟨h1,rfl⟩
 os:=g.os
 tape:=g.tape
 output:=g.output
 drawn:=g.drawn
theorem kY.mono{w w':World}{F:Nat->Prop}{h h':ab}{β β':List (Nat×Nat)}(s:eg w h β w' h' β'){o:aw}{bc:Nat×Nat}(hb:w'.heap[bc.1]?=w.heap[bc.1]?)
  (r:kY w (Av F h β) β h o bc):kY w' (Av F h' β') β' h' o bc:=by
 rcases r with⟨T,cs,h1,h2,h3,h4,h5⟩|⟨h0,es,clock,h1,h2,h3⟩
 ·refine .inl ⟨T,cs,hb.trans h1,h2,h3,h4,λi e he=>⟨(h5 i e he).1,λj p hp=>?_⟩⟩;obtain⟨v,k1,k2⟩:=(h5 i e he).2 j p hp;exact⟨v,k1,k2.mono s⟩
 ·refine .inr ⟨h0,es,clock,hb.trans h1,h2,λi e he=>?_⟩;obtain⟨k,v,m,q1,q2,q3,q4⟩:=h3 i e he;exact⟨k,v,m,q1,q2,q3.mono s,q4.mono s⟩
theorem bm.Mq{w w':World}{F:Nat->Prop}{β:List (Nat×Nat)}{h:ab}(H:bm w F β h)(g:dH w w'):bm w' F β h where
 len:=H.len
 fin b hb:=ab5 (H.fin b hb) g.size
 obj id o bc e1 e2 e3:=by
  have r:=H.obj id o bc e1 e2 e3;exact kY.mono (g.SZ h β) (g.aU _ r.lt) r
 iL:=H.iL
 out:=H.out
theorem bm.Ym{w w':World}{F:Nat->Prop}{β:List (Nat×Nat)}{h:ab}(H:bm w F β h)(ob:Obj)(o:aw)(cap:Nat)
  (hw:w'.heap=w.heap.push ob) (ho:w'.os=w.os) (ht:w'.tape=w.tape) (hu:w'.output=w.output)
  (hm:o.mu=.m)
  (hR:eg w h β w' (h++[o]) (β++[(w.heap.size,cap)])->w'.heap[w.heap.size]?=some ob->kY w' (Av F (h++[o]) (β++[(w.heap.size,cap)])) (β++[(w.heap.size,cap)]) (h++[o]) o (w.heap.size,cap))
  (hd:w.drawn<=w'.drawn:=by first |exact abn _ |exact ade _):
  bm w' F (β++[(w.heap.size,cap)]) (h++[o])/\eg w h β w' (h++[o]) (β++[(w.heap.size,cap)]):=by
 have gM:w'.heap.size=w.heap.size+1:=by rw[hw];simp
 have hold:∀b,b<w.heap.size->w'.heap[b]?=w.heap[b]?:=λb hb=>by rw[hw,Array.getElem?_push,if_neg (by omega)]
 have NB:w'.heap[w.heap.size]?=some ob:=by rw[hw];simp
 have hlen:=H.len
 have oY:∀id,id<h.length->(h++[o])[id]?=h[id]?/\(β++[(w.heap.size,cap)])[id]?=β[id]?:=λid bW=>
  ⟨abj bW,abj (by omega)⟩
 have at_new:(h++[o])[h.length]?=some o/\(β++[(w.heap.size,cap)])[h.length]?=some (w.heap.size,cap):=by
  constructor
  ·simp
  ·rw[<-hlen];simp
 have split:∀id (o':aw) (dm:Nat×Nat),(h++[o])[id]?=some o'->(β++[(w.heap.size,cap)])[id]?=some dm->
   (id<h.length/\h[id]?=some o'/\β[id]?=some dm)\/(id=h.length/\o'=o/\dm=(w.heap.size,cap)):=by
  intro id o' dm e1 e2
  by_cases bW:id<h.length
  ·left;rw[(oY id bW).1]at e1;rw[(oY id bW).2]at e2;exact⟨bW,e1,e2⟩
  ·right
   have:id<(h++[o]).length:=ag e1;obtain rfl:id=h.length:=by simp at this;omega
   rw[at_new.1]at e1;rw[at_new.2]at e2;exact⟨rfl,(abi e1).symm,(abi e2).symm⟩
 have hs:eg w h β w' (h++[o]) (β++[(w.heap.size,cap)]):=by
  refine⟨by omega,by simp,λb hb _=>hold b hb,?_,?_,?_,ho,ht,hu,hd⟩
  ·rintro b hb ⟨id,o',dm,e1,e2,e3,rfl⟩;rcases split id o' dm e1 e2 with⟨_,f1,f2⟩|⟨_,rfl,rfl⟩
   ·exact⟨id,o',dm,f1,f2,e3,rfl⟩
   ·simp at hb
  ·intro id o' dm e1 e2 e3
   have bW:=ag e1;exact⟨o',dm,by rw[(oY id bW).1];exact e1,by rw[(oY id bW).2];exact e2,e3,⟨abn _,λh=>h⟩,λ_=>⟨rfl,λ_=>rfl,rfl⟩⟩
  ·intro id o' e1 _
   have bW:=ag e1;exact⟨by rw[(oY id bW).1];exact e1,(oY id bW).2⟩
 refine⟨⟨by simp[hlen],λb hb=>by have:=H.fin b hb;omega,?_,?_,?_⟩,hs⟩
 ·intro id o' dm e1 e2 e3
  rcases split id o' dm e1 e2 with⟨_,f1,f2⟩|⟨_,rfl,rfl⟩
  ·have r:=H.obj id o' dm f1 f2 e3;exact kY.mono hs (hold _ r.lt) r
  ·exact hR hs NB
 ·intro id eA o1 o2 PR GD bN e1 e2 e3 e4 m1 m2
  rcases split id o1 PR e1 e3 with⟨_,f1,f2⟩|⟨bW,rfl,rfl⟩ <;>rcases split eA o2 GD e2 e4 with⟨_,g1,g2⟩|⟨Vi,rfl,rfl⟩
  ·exact H.iL id eA o1 o2 PR GD bN f1 g1 f2 g2 m1 m2
  ·have:=Mb.lt H ⟨id,o1,PR,f1,f2,m1,rfl⟩;simp;omega
  ·have:=(H.obj eA o2 GD g1 g2 m2).lt;simp;omega
  ·omega
 ·intro id o' dm e1 e2 e3
  rcases split id o' dm e1 e2 with⟨_,f1,f2⟩|⟨_,rfl,rfl⟩
  ·exact H.out id o' dm f1 f2 e3
  ·intro hf;have:=H.fin _ hf;simp at this
theorem bm.new{w w':World}{F:Nat->Prop}{β:List (Nat×Nat)}{h:ab}(H:bm w F β h)(T:TypeId)(cs:Array Value)(o:aw)(cap:Nat)
  (hw:w'.heap=w.heap.push (.cells cs T)) (ho:w'.os=w.os) (ht:w'.tape=w.tape) (hu:w'.output=w.output)
  (hm:o.mu=.m) (h1:o.es.length<=cap) (h2:cap * o.bM<=cs.size) (h3:0<o.bM)
  (h4:∀(i:Nat) (e:PV),o.es[i]?=some e->(cells e).length=o.bM/\∀(j:Nat) (p:PV),(cells e)[j]?=some p->∃v:Value,cs[i * o.bM+j]?=some v/\aE w (Av F h β) β h v p)
  (hd:w.drawn<=w'.drawn:=by first |exact abn _ |exact ade _):
  bm w' F (β++[(w.heap.size,cap)]) (h++[o])/\eg w h β w' (h++[o]) (β++[(w.heap.size,cap)]):=
 H.Ym (.cells cs T) o cap hw ho ht hu hm (λhs NB=>.inl ⟨T,cs,NB,h1,h2,h3,λi e he=>⟨(h4 i e he).1,λj p hp=>by
  obtain⟨v,k1,k2⟩:=(h4 i e he).2 j p hp;exact⟨v,k1,k2.mono hs⟩⟩⟩) hd
theorem bm.Vj{w:World}{F:Nat->Prop}{β:List (Nat×Nat)}{h:ab}(H:bm w F β h):
  bm (w.alloc (.map #[] 0)) F (β++[(w.heap.size,0)]) (newObj h 0 [])/\eg w h β (w.alloc (.map #[] 0)) (newObj h 0 []) (β++[(w.heap.size,0)]):=
 H.Ym (w':=w.alloc (.map #[] 0)) (.map #[] 0) {mu:=.m,ep:=0,bM:=0,es:=[]} 0 rfl rfl rfl rfl rfl (λhs NB=>.inr ⟨rfl,#[],0,NB,rfl,λi e he=>by simp at he⟩)
theorem bm.Yn{w w':World}{F:Nat->Prop}{β:List (Nat×Nat)}{h:ab}(H:bm w F β h){id:Nat}{o:aw}{bc:Nat×Nat}(eo:h[id]?=some o)(eb:β[id]?=some bc)(em:o.mu=.m)
  (fA:List PV) (im:Nat) (dm:Nat×Nat)
  (gM:w.heap.size<=w'.heap.size) (sb:∀b,b<w.heap.size->b≠bc.1->w'.heap[b]?=w.heap[b]?)
  (ot:(dm=bc/\(o.ep=im->fA.length=o.es.length\/o.bM=0))\/(w.heap.size<=dm.1/\o.ep<im))
  (Ux:o.ep<=im) (ho:w'.os=w.os) (ht:w'.tape=w.tape) (hu:w'.output=w.output)
  (hR:eg w h β w' (h.set id {o with es:=fA,ep:=im}) (β.set id dm)->kY w' (Av F (h.set id {o with es:=fA,ep:=im}) (β.set id dm)) (β.set id dm) (h.set id {o with es:=fA,ep:=im}) {o with es:=fA,ep:=im} dm)
  (hd:w.drawn<=w'.drawn:=by first |exact abn _ |exact ade _):
  bm w' F (β.set id dm) (h.set id {o with es:=fA,ep:=im})/\eg w h β w' (h.set id {o with es:=fA,ep:=im}) (β.set id dm):=by
 have hlen:=H.len;have bW:=ag eo;have aa2:bc.1<w.heap.size:=Mb.lt H ⟨id,o,bc,eo,eb,em,rfl⟩;have nC:(h.set id {o with es:=fA,ep:=im})[id]?=some {o with es:=fA,ep:=im}:=by simp[bW]
 have bself:(β.set id dm)[id]?=some dm:=by simp[hlen,bW]
 have kE:∀k,k≠id->(h.set id {o with es:=fA,ep:=im})[k]?=h[k]?:=λk hk=>abm (acd hk)
 have both:∀k,k≠id->(β.set id dm)[k]?=β[k]?:=λk hk=>abm (acd hk)
 have hs:eg w h β w' (h.set id {o with es:=fA,ep:=im}) (β.set id dm):=by
  refine⟨gM,by simp,λb hb hm=>sb b hb (λe=>hm ⟨id,o,bc,eo,eb,em,e.symm⟩),?_,?_,?_,ho,ht,hu,hd⟩
  ·rintro b hb ⟨k,o',c',e1,e2,e3,rfl⟩
   by_cases hk:k=id
   ·subst hk;rw[bself]at e2;obtain rfl:=abi e2;rcases ot with⟨rfl,_⟩|⟨Ac,_⟩
    ·exact⟨k,o,dm,eo,eb,em,rfl⟩
    ·omega
   ·rw[kE k hk]at e1;rw[both k hk]at e2;exact⟨k,o',c',e1,e2,e3,rfl⟩
  ·intro k o' c' e1 e2 e3
   by_cases hk:k=id
   ·subst hk;rw[eo]at e1;rw[eb]at e2;obtain rfl:=abi e1;obtain rfl:=abi e2;refine⟨_,dm,nC,bself,by rw[em];simp,⟨Ux,λh=>h⟩,λe=>⟨rfl,?_,?_⟩⟩
    ·intro hz
     rcases ot with⟨_,hl⟩|⟨_,cG⟩
     ·exact(hl e).resolve_right (by omega)
     ·simp at e;omega
    ·rcases ot with⟨hl,_⟩|⟨_,cG⟩
     ·exact hl
     ·simp at e;omega
   ·exact⟨o',c',by rw[kE k hk];exact e1,by rw[both k hk];exact e2,e3,⟨abn _,λh=>h⟩,λ_=>⟨rfl,λ_=>rfl,rfl⟩⟩
  ·intro k o' e1 e2
   have hk:k≠id:=by
    rintro rfl;rw[eo]at e1;obtain rfl:=abi e1;exact e2 em
   exact⟨by rw[kE k hk];exact e1,both k hk⟩
 refine⟨⟨by simp[hlen],λb hb=>ab5 (H.fin b hb) gM,?_,?_,?_⟩,hs⟩
 ·intro k o' c' e1 e2 e3
  by_cases hk:k=id
  ·subst hk;rw[nC]at e1;rw[bself]at e2;obtain rfl:=abi e1;obtain rfl:=abi e2;exact hR hs
  ·rw[kE k hk]at e1;rw[both k hk]at e2;have r:=H.obj k o' c' e1 e2 e3;exact kY.mono hs (sb _ r.lt (λe=>H.iL id k o o' bc c' (acd hk) eo e1 eb e2 em e3 e.symm)) r
 ·intro k k' o1 o2 PR GD bN e1 e2 e3 e4 m1 m2
  by_cases hk:k=id
  ·subst hk;have gv:k'≠k:=acd bN;rw[kE k' gv]at e2;rw[both k' gv]at e4;rw[bself]at e3;obtain rfl:=abi e3;rcases ot with⟨rfl,_⟩|⟨Ac,_⟩
   ·exact H.iL k k' o o2 dm GD bN eo e2 eb e4 em m2
   ·have:=(H.obj k' o2 GD e2 e4 m2).lt;omega
  ·rw[kE k hk]at e1;rw[both k hk]at e3
   by_cases gv:k'=id
   ·subst gv;rw[bself]at e4;obtain rfl:=abi e4;rcases ot with⟨rfl,_⟩|⟨Ac,_⟩
    ·exact λe=>H.iL k' k o o1 dm PR (acd bN) eo e1 eb e3 em (by rw[m1];simp) e.symm
    ·have:=Mb.lt H ⟨k,o1,PR,e1,e3,m1,rfl⟩;omega
   ·rw[kE k' gv]at e2;rw[both k' gv]at e4;exact H.iL k k' o1 o2 PR GD bN e1 e2 e3 e4 m1 m2
 ·intro k o' c' e1 e2 e3
  by_cases hk:k=id
  ·subst hk;rw[bself]at e2;obtain rfl:=abi e2;rcases ot with⟨rfl,_⟩|⟨Ac,_⟩
   ·exact H.out k o dm eo eb (.inl em)
   ·intro hf;have:=H.fin _ hf;omega
  ·rw[kE k hk]at e1;rw[both k hk]at e2;exact H.out k o' c' e1 e2 e3
theorem bm.set{w w':World}{F:Nat->Prop}{β:List (Nat×Nat)}{h:ab}(H:bm w F β h){id:Nat}{o:aw}{bc:Nat×Nat}(eo:h[id]?=some o)(eb:β[id]?=some bc)(em:o.mu=.m)
  (T:TypeId) (cs:Array Value) (fA:List PV) (im:Nat) (dm:Nat×Nat)
  (gM:w.heap.size<=w'.heap.size) (cm:w'.heap[dm.1]?=some (.cells cs T (0,0))) (sb:∀b,b<w.heap.size->b≠bc.1->w'.heap[b]?=w.heap[b]?)
  (ot:(dm=bc/\(o.ep=im->fA.length=o.es.length))\/(w.heap.size<=dm.1/\o.ep<im))
  (Ux:o.ep<=im) (ho:w'.os=w.os) (ht:w'.tape=w.tape) (hu:w'.output=w.output)
  (h1:fA.length<=dm.2) (h2:dm.2 * o.bM<=cs.size)
  (h4:∀(i:Nat) (e:PV),fA[i]?=some e->(cells e).length=o.bM/\∀(j:Nat) (p:PV),(cells e)[j]?=some p->∃v:Value,cs[i * o.bM+j]?=some v/\aE w (Av F h β) β h v p)
  (hd:w.drawn<=w'.drawn:=by first |exact abn _ |exact ade _) (hz0:0<o.bM:=by first |assumption |omega):
  bm w' F (β.set id dm) (h.set id {o with es:=fA,ep:=im})/\eg w h β w' (h.set id {o with es:=fA,ep:=im}) (β.set id dm):=by
 have Vk:0<o.bM:=hz0
 exact H.Yn eo eb em fA im dm gM sb (ot.imp (λh=>⟨h.1,λe=>.inl (h.2 e)⟩) (λh=>h)) Ux ho ht hu (λhs=>.inl ⟨T,cs,cm,h1,h2,Vk,λi e he=>⟨(h4 i e he).1,λj p hp=>by
  obtain⟨v,k1,k2⟩:=(h4 i e he).2 j p hp;exact⟨v,k1,k2.mono hs⟩⟩⟩) hd
theorem bm.xa{w w':World}{F A:Nat->Prop}{β:List (Nat×Nat)}{h:ab}(H:bm w F β h){b cap len sz:Nat}{es:List PV}(hz:0<sz:=by first |assumption |omega):
  aE w' A (β++[(b,cap)]) (newObj h sz es) (.slice (some ⟨b,0,none⟩) len cap) (.ak h.length 0 0 len):=
 .ak _ _ _ _ _ {mu:=.m,ep:=0,bM:=sz,es} (b,cap) ⟨_,_,_,rfl⟩ (by simp[newObj]) (by rw[<-H.len];simp) (by simp) ⟨acM _,hz⟩ (λ_ _=>⟨cap,by simp,by simp⟩)
theorem bm.Vl{w w':World}{F A:Nat->Prop}{β:List (Nat×Nat)}{h:ab}(H:bm w F β h){b cap sz:Nat}{es:List PV}(hz:0<sz:=by first |assumption |omega):
  aE w' A (β++[(b,cap)]) (newObj h sz es) (.pointer (some ⟨b,0,none⟩)) (.ptr h.length 0 0 0):=
 .ptr _ _ _ _ _ {mu:=.m,ep:=0,bM:=sz,es} (b,cap) ⟨_,rfl⟩ (by simp[newObj]) (by rw[<-H.len];simp) (by simp) ⟨acM _,hz⟩ (λ_=>by simp)
theorem bm.IL{w w':World}{F A:Nat->Prop}{β:List (Nat×Nat)}{h:ab}(H:bm w F β h){id:Nat}{o:aw}(eo:h[id]?=some o)(em:o.mu=.m){b cap len ep:Nat}{es:List PV}(hz:0<o.bM:=by first |assumption |omega):
  aE w' A (β.set id (b,cap)) (h.set id {o with es:=es,ep:=ep}) (.slice (some ⟨b,0,none⟩) len cap) (.ak id ep 0 len):=
 .ak _ _ _ _ _ {o with es:=es,ep:=ep} (b,cap) ⟨_,_,_,rfl⟩ (by simp[ag eo]) (by simp[H.len,ag eo]) (by simp[em]) ⟨abn _,hz⟩ (λ_ _=>⟨cap,by simp,by simp⟩)
def Cn(P:Program)(lv:Nat)(w:World)(F:Nat->Prop)(β:List (Nat×Nat))(h:ab)(s:Sem Value)(p:PV)(h':ab):Prop:=
 ∃v w' β',s.run P w=.ok v w'/\aE w' (Av F h' β') β' h' v p/\bm w' F β' h'/\eg w h β w' h' β'/\(lv<=1->dH w w')
theorem Cn.still{P:Program}{lv:Nat}{w:World}{F:Nat->Prop}{β:List (Nat×Nat)}{h:ab}(H:bm w F β h){s:Sem Value}{p:PV}{v:Value}(e:s.run P w=.ok v w)(r:aE w (Av F h β) β h v p):
  Cn P lv w F β h s p h:=⟨v,w,β,e,r,H,eg.refl w h β,λ_=>dH.refl w⟩
variable{P:Program}{w:World}{F:Nat->Prop}{β:List (Nat×Nat)}{h:ab}
theorem cH{t:TypeId}{n:Nat}(e:cA P t=some n)(w:World):(sizeOf t).run P w=.ok n w:=by
 unfold cA at e
 cases hi:P.info? t with
 |none=>rw[hi]at e;simp at e
 |some i=>rw[hi]at e;simp at e;subst e;simp[sizeOf,typeInfo,hi]
theorem bQ{t:TypeId}{d:TypeDesc}(e:P.underlying t=some d)(w:World):(underlying t).run P w=.ok d w:=by simp[underlying,e]
theorem tI{t:TypeId}{b:Bool}(e:Jx P t=some b)(w:World):(isAgg t).run P w=.ok b w:=by
 unfold Jx at e
 cases hu:P.underlying t with
 |none=>rw[hu]at e;simp at e
 |some d=>
  rw[hu]at e;simp at e;subst e;simp only[isAgg,Sem.run_bind,bQ hu,Result.andThen_ok]
  split <;>rename_i h <;>simp_all
theorem I'(w:World)(A:Nat->Prop)(β:List (Nat×Nat))(h:ab)(v:Value):aE w A β h v (Xl v):=by
 unfold Xl
 split
 ·exact .val (.int _ _)
 ·exact .val (.bool _)
 ·exact .val (.str _)
 ·exact .val (.gY none 0 true (λ_=>rfl))
 ·exact .val .eE
 ·exact .val .aG
 ·exact .val .gN
 ·exact .any _
theorem Hq(w:World)(A:Nat->Prop)(β:List (Nat×Nat))(h:ab)(v:Value):aE w A β h v (cv v):=by
 unfold cv
 split
 ·rename_i cs
  have:=aE.agg (w:=w) (A:=A) (β:=β) (h:=h) cs.toList (cs.toList.map Xl) (by simp) (λj hj=>by
   have FC:j<cs.toList.length:=by simpa using hj
   simp only[List.getD,abB];rw[abo FC];simpa using I' w A β h _)
  simpa using this
 ·exact I' w A β h _
theorem uP{t:TypeId}{z:PV}(e:jq P t=some z)(w:World)(A:Nat->Prop)(β:List (Nat×Nat))(h:ab):∃v,(zeroValue t).run P w=.ok v w/\aE w A β h v z:=by
 unfold jq at e
 cases hi:P.info? t with
 |none=>rw[hi]at e;simp at e
 |some i=>
  rw[hi]at e;simp only[Option.bind_some]at e
  cases hz:i.zero with
  |none=>rw[hz]at e;simp at e
  |some v=>
   rw[hz]at e;simp at e;subst e;exact⟨v,by simp[zeroValue,typeInfo,hi,hz],Hq w A β h v⟩
theorem aE.cells{A:Nat->Prop}{v:Value}{p:PV}(hv:aE w A β h v p)(hp:(Pm.cells p).all bH=true):
  v.cells.size=(Pm.cells p).length/\(∀(j:Nat) (q:PV),(Pm.cells p)[j]?=some q->∃u:Value,v.cells[j]?=some u/\aE w A β h u q/\u.oneCell'=true):=by
 have one:∀(u:Value) (q:PV),aE w A β h u q->bH q=true->u.oneCell'=true/\u.cells= #[u]:=by
  intro u q r ho
  cases r with
  |val hs=>cases hs <;>first |exact⟨rfl,rfl⟩|simp[bH]at ho
  |undef=>simp[bH]at ho
  |any=>simp[bH]at ho
  |ak v id ep off len o bc h0=>obtain⟨a,l,c,rfl⟩:=h0;exact⟨rfl,rfl⟩
  |ptr v id ep i off o bc h0=>obtain⟨a,rfl⟩:=h0;exact⟨rfl,rfl⟩
  |cD v id o bc h0=>obtain⟨a,rfl⟩:=h0;exact⟨rfl,rfl⟩
  |agg=>simp[bH]at ho
  |ct=>simp[bH]at ho
  |fn=>exact⟨rfl,rfl⟩
  |ou=>exact⟨rfl,rfl⟩
 have single:(∀cs,p≠.agg cs)->v.cells.size=(Pm.cells p).length/\(∀(j:Nat) (q:PV),(Pm.cells p)[j]?=some q->∃u:Value,v.cells[j]?=some u/\aE w A β h u q/\u.oneCell'=true):=by
  intro Qd
  have hc:Pm.cells p=[p]:=by cases p <;>first |rfl |exact absurd rfl (Qd _)
  rw[hc]at hp ⊢;obtain⟨h1,h2⟩:=one v p hv (by simpa using hp);rw[h2];refine⟨rfl,λj q hq=>?_⟩
  cases j with
  |zero=>simp at hq;subst hq;exact⟨v,rfl,hv,h1⟩
  |succ j=>simp at hq
 cases p with
 |agg cs=>
  obtain⟨vs,rfl,hl,hr⟩:=hv.sM;refine⟨by simpa[Value.cells,Pm.cells]using hl,λj q hq=>?_⟩;have hq':cs[j]?=some q:=hq;have hj:=ag hq';have vu:j<vs.length:=by omega
  have Vt:=hr j hj;have e1:vs.getD j Go.undef=vs[j]:=by simp[List.getD,vu]
  have e2:cs.getD j .any=q:=by simp[List.getD,hq']
  rw[e1,e2]at Vt;have ho:bH q=true:=abk.1 hp q (aby hq');exact⟨vs[j],by simp[Value.cells,vu],Vt,(one _ _ Vt ho).1⟩
 |_=>exact single (λcs=>by simp)
theorem BE(H:bm w F β h){v:Value}{p:PV}{cs:List PV}(hv:aE w (Av F h β) β h v p)(e:cN h p=some cs):
  ∃b off,(cs≠[]->v=.pointer (some ⟨b,off,none⟩))/\∀(j:Nat) (q:PV),cs[j]?=some q->∃u:Value,w.cell? ⟨b,off+j,none⟩=some u/\aE w (Av F h β) β h u q:=by
 unfold cN at e
 split at e
 ·rename_i jH
  obtain rfl:=abi e;have hs:=hv.tJ
  cases hs with
  |eQ b off _ pN h1 h2 h3 h4=>
   refine⟨b,off,λ_=>rfl,λj q hq=>?_⟩;have hj:=ag hq;refine⟨pN j,h3 j hj,?_⟩;have:=h4 j hj;rw[abK,hq]at this;exact .val this
 ·rename_i id ep i off
  split at e
  ·rename_i o ho
   obtain⟨e1,e2,e3⟩:=getM_some ho
   split at e
   ·rename_i el cr
    obtain rfl:=abi e;obtain⟨bc,hb⟩:=du H.len e1;obtain⟨h1,h2,h3⟩:=hv.B1;have:=h3 o bc e1 hb e3 e2;obtain⟨T,cs,k1,k2,k3,k4,k5⟩:=(H.obj id o bc e1 hb e3).c (h2 o e1).2;refine⟨bc.1,i * o.bM+off,λ_=>this,λj q hq=>?_⟩;rw[abS]at hq;obtain⟨u,m1,m2⟩:=(k5 i el cr).2 (off+j) q hq;refine⟨u,?_,m2⟩;rw[cell_of_row w bc.1 _ cs T (0,0) k1,acW];exact m1
   ·cases e
  ·cases e
 ·cases e
theorem eX(b off n:Nat):(⟨b,off,none⟩:Addr).add n=⟨b,off+n,none⟩:=by unfold Addr.add;split <;>simp_all
theorem yX(w:World)(b off n:Nat)(R:Nat->Value->Prop)(hc:∀j,j<n->∃u,w.cell? ⟨b,off+j,none⟩=some u/\R j u):
  ∃vs:List Value,vs.length=n/\(loadCells ⟨b,off,none⟩ n).run P w=.ok vs.toArray w/\∀j,j<n->R j (vs.getD j undef):=by
 obtain⟨vs,hl,hr⟩:=pZ n hc;refine⟨vs,hl,?_,λj hj=>(hr j hj).2⟩
 have:=run_loadCells_list (P:=P) (w:=w) ⟨b,off,none⟩ vs (λj v hv=>by
  have hj:=ag hv;rw[eX];have:=(hr j (by omega)).1;rwa[abK,hv]at this)
 rwa[hl]at this
theorem EU(H:bm w F β h){v:Value}{p q:PV}{t:TypeId}(hv:aE w (Av F h β) β h v p)(e:iU P h t p=some q):
  ∃u,(Instr.loadAt t v).run P w=.ok u w/\aE w (Av F h β) β h u q:=by
 unfold iU at e
 split at e
 ·rename_i sz cs h1 h2 h3
  split at e
  ·rename_i hle
   obtain rfl:=abi e;obtain⟨b,off,k1,k2⟩:=BE H hv h3
   by_cases hn:cs=[]
   ·subst hn;simp at hle;omega
   ·have hle:=hle.2;rw[k1 hn]
    obtain⟨vs,l1,l2,l3⟩:=yX (P:=P) w b off sz (λj u=>aE w (Av F h β) β h u (cs.getD j .any)) (λj hj=>by
     have FC:j<cs.length:=by omega
     obtain⟨u,m1,m2⟩:=k2 j cs[j] (abo FC);exact⟨u,m1,by simpa[List.getD,FC]using m2⟩)
    refine⟨.agg vs.toArray,?_,?_⟩
    ·simp only[Instr.loadAt,Instr.sureAddr,Sem.run_bind,Sem.run_pure,Result.andThen_ok,loadVar,tI h2,cH h1,l2,if_true]
    ·refine .agg vs _ (by simp;omega) (λj hj=>?_);simp at hj;have:=l3 j (by omega);simpa[List.getD,abF,show j<sz by omega]using this
  ·cases e
 ·rename_i sz cs h1 h2 h3
  obtain⟨b,off,k1,k2⟩:=BE H hv h3
  cases cs with
  |nil=>simp at e
  |cons c r=>
   simp at e;subst e;obtain⟨u,m1,m2⟩:=k2 0 c rfl;rw[k1 (by simp)];refine⟨u,?_,m2⟩;simp only[Instr.loadAt,Instr.sureAddr,Sem.run_bind,Sem.run_pure,Result.andThen_ok,loadVar,tI h2,abz,if_false,run_load];rw[show(⟨b,off,none⟩:Addr)=⟨b,off+0,none⟩ by simp,m1]
 ·cases e
theorem tK{s:TypeId}{f off:Nat}{ft:TypeId}(e:pD P s f=some (off,ft))(a:Addr)(w:World):
  (Instr.fieldAt s (.pointer (some a)) f).run P w=.ok (.pointer (some (a.add off))) w:=by
 unfold pD at e
 split at e
 ·rename_i fs hu
  split at e
  ·rename_i fl hf
   split at e
   ·rename_i sz hs
    split at e
    ·cases e
    ·rename_i hz
     simp at e;obtain⟨rfl,rfl⟩:=e;simp[Instr.fieldAt,bQ hu,hf,Instr.sureAddr,fieldPlace,cH hs,hz]
   ·cases e
  ·cases e
 ·cases e
theorem Aw(H:bm w F β h){v:Value}{p q:PV}{s:TypeId}{f:Nat}(hv:aE w (Av F h β) β h v p)(e:gy P s p f=some q):
  ∃u,(Instr.fieldAt s v f).run P w=.ok u w/\aE w (Av F h β) β h u q:=by
 unfold gy at e
 split at e
 ·rename_i off ft cs h1
  split at e
  ·rename_i cG
   obtain rfl:=abi e;have hs:=hv.tJ
   cases hs with
   |eQ b o _ pN k1 k2 k3 k4=>
    refine⟨_,tK h1 _ w,?_⟩;rw[eX];refine .val (.eQ b (o+off) _ (λj=>pN (off+j)) ?_ k2 (λj hj=>?_) (λj hj=>?_))
    ·intro hn
     have:=congrArg List.length hn;simp at this;omega
    ·simp at hj;have:=k3 (off+j) (by omega);rwa[<-acW]at this
    ·simp at hj;have:=k4 (off+j) (by omega);simpa[List.getD,abS]using this
  ·cases e
 ·rename_i off ft id ep i o h1
  obtain rfl:=abi e
  cases hv with
  |val hs=>cases hs
  |ptr _ _ _ _ _ oo bc h0 k1 k2 k3 k4 k5=>
   obtain⟨a,rfl⟩:=h0;refine⟨_,tK h1 _ w,.ptr _ id ep i (o+off) oo bc ⟨_,rfl⟩ k1 k2 k3 k4 (λn4=>?_)⟩;have:=k5 n4;simp at this;rw[this,eX,acW]
 ·cases e
theorem aE.part{A:Nat->Prop}{v:Value}{cs:List PV}(hv:aE w A β h v (.agg cs)){t:TypeId}{off:Nat}{q:PV}(e:xr P t cs off=some q):
  ∃vs:Array Value,v=.agg vs/\∃u,(part t vs off).run P w=.ok u w/\aE w A β h u q:=by
 obtain⟨vs,rfl,hl,hr⟩:=hv.sM;refine⟨vs.toArray,rfl,?_⟩;unfold xr at e
 split at e
 ·rename_i sz h1 h2
  split at e
  ·rename_i hle
   obtain rfl:=abi e;refine⟨.agg ((vs.drop off).take sz).toArray,?_,.agg _ _ (by simp;omega) (λj hj=>?_)⟩
   ·simp only[Go.part,Sem.run_bind,tI h1,cH h2,Result.andThen_ok,if_true,Sem.run_pure]
    congr 2
    apply acT;simp[List.extract_eq_take_drop]
   ·simp at hj;have:=hr (off+j) (by omega);simpa[List.getD,abF,abS,show j<sz by omega]using this
  ·cases e
 ·rename_i sz h1 h2
  split at e
  ·rename_i c hc
   obtain rfl:=abi e;have hj:=ag hc;have:=hr off hj;refine⟨vs[off]'(by omega),?_,?_⟩
   ·simp[Go.part,tI h1,show off<vs.length by omega]
   ·simpa[List.getD,hc,show off<vs.length by omega]using this
  ·cases e
 ·cases e
theorem KN{v:Value}{p q:PV}{s:TypeId}{f:Nat}{A:Nat->Prop}(hv:aE w A β h v p)(e:BW P s p f=some q):
  ∃u,(Instr.field s v f).run P w=.ok u w/\aE w A β h u q:=by
 unfold BW at e
 split at e
 ·rename_i fs cs hu
  split at e
  ·rename_i fl hf
   obtain⟨vs,rfl,u,h1,h2⟩:=hv.part e;exact⟨u,by simp[Instr.field,bQ hu,asAgg,hf,h1],h2⟩
  ·cases e
 ·cases e
theorem KO{v vi:Value}{p i q:PV}{t:TypeId}{A:Nat->Prop}(hv:aE w A β h v p)(hi:aE w A β h vi i)(e:xu P t p i=some q):
  ∃u,(Instr.index t v vi).run P w=.ok u w/\aE w A β h u q:=by
 unfold xu at e
 split at e
 ·rename_i n el cs k i hu
  obtain rfl:=hi.dN
  split at e
  ·rename_i sz hs
   split at e
   ·rename_i hc
    obtain⟨vs,rfl,u,h1,h2⟩:=hv.part e;exact⟨u,by simp[Instr.index,asIntOf,bQ hu,hc,cH hs,h1],h2⟩
   ·cases e
  ·cases e
 ·rename_i s k i hu
  obtain rfl:=hi.dN;obtain rfl:=hv.mT
  split at e
  ·rename_i hc
   split at e
   ·rename_i b hb
    obtain rfl:=abi e;exact⟨_,by simp[Instr.index,asIntOf,bQ hu,hc,hb],.val (.int _ _)⟩
   ·cases e
  ·cases e
 ·cases e
theorem ch.kG{A:Nat->Prop}{v:Value}{full:Bool}{es:List PV}(hv:ch w A v (.aa full es)):∃a cap,v=.slice a es.length cap/\es.length<=cap/\(full=true->cap=es.length):=by
 cases hv with
 |gY a cap _ hf=>exact⟨a,cap,rfl,acM _,hf⟩
 |aa b off cap sz _ _ pN h1 h2 h3=>exact⟨_,cap,rfl,h2,h3⟩
theorem Ax(H:bm w F β h){v vi:Value}{p i q:PV}{t:TypeId}(hv:aE w (Av F h β) β h v p)(hi:aE w (Av F h β) β h vi i)(e:cE P h t p i=some q):
  ∃u,(Instr.indexAt t v vi).run P w=.ok u w/\aE w (Av F h β) β h u q:=by
 unfold cE at e
 split at e
 ·rename_i el full es k i hu
  obtain rfl:=hi.dN
  split at e
  ·rename_i sz hs
   split at e
   ·rename_i hc
    split at e
    ·rename_i x hx
     split at e
     ·rename_i hz
      obtain rfl:=abi e;have cG:=ag hx;have W3:=hv.fN
      cases W3 with
      |gY=>simp at cG
      |aa b off cap Iw _ _ pN k1 k2 k3 k4 k5 k6 k7 k8=>
       have gM:Iw=sz:=by
        have:=k6 i.toNat cG;rw[abK,hx]at this;exact this.symm.trans hz.2
       subst gM;refine⟨.pointer (some ⟨b,off+i.toNat * Iw,none⟩),?_,.val (.eQ b _ _ (pN i.toNat) ?_ k4 (λj hj=>?_) (λj hj=>?_))⟩
       ·simp[Instr.indexAt,asIntOf,bQ hu,hc,cH hs,eX]
       ·intro hn;rw[hn]at hz;simp at hz;omega
       ·rw[acW];exact k7 _ j cG (by omega)
       ·have:=k8 i.toNat j cG (by omega);rwa[abK (l:=es),hx]at this
     ·cases e
    ·cases e
   ·cases e
  ·cases e
 ·rename_i el id ep off len k i hu
  obtain rfl:=hi.dN
  split at e
  ·rename_i sz o hs ho
   split at e
   ·rename_i hc
    obtain rfl:=abi e;obtain⟨e1,e2,e3⟩:=getM_some ho;obtain⟨bc,hb⟩:=du H.len e1;obtain⟨h1,h2,h3⟩:=hv.dP;obtain⟨cap,rfl,k2⟩:=h3 o bc e1 hb e3 e2 hc.2.2.2;obtain⟨Q7,LS,rfl,hc4⟩:=hc;refine⟨.pointer (some ⟨bc.1,off * o.bM+i.toNat * o.bM,none⟩),?_,.ptr _ id ep _ 0 o bc ⟨_,rfl⟩ e1 hb e3 (h2 o e1) (λn4=>?_)⟩
    ·simp[Instr.indexAt,asIntOf,bQ hu,Q7,LS,cH hs,eX]
    ·rw[ab9];simp
   ·cases e
  ·cases e
 ·rename_i n el cs k i hu
  obtain rfl:=hi.dN
  split at e
  ·rename_i sz hs
   split at e
   ·rename_i hc
    obtain rfl:=abi e;have W3:=hv.tJ
    cases W3 with
    |eQ b off _ pN k1 k2 k3 k4=>
     refine⟨.pointer (some ⟨b,off+i.toNat * sz,none⟩),?_,.val (.eQ b _ _ (λj=>pN (i.toNat * sz+j)) ?_ k2 (λj hj=>?_) (λj hj=>?_))⟩
     ·simp[Instr.indexAt,asIntOf,bQ hu,hc.1,hc.2.1,cH hs,eX,Instr.sureAddr]
     ·intro hn
      have:=congrArg List.length hn;simp at this;omega
     ·simp at hj;have:=k3 (i.toNat * sz+j) (by omega);rwa[<-acW]at this
     ·simp at hj;have:=k4 (i.toNat * sz+j) (by omega);simpa[List.getD,abS]using this
   ·cases e
  ·cases e
 ·rename_i n el id ep kk o k i hu
  obtain rfl:=hi.dN
  split at e
  ·rename_i sz hs
   split at e
   ·rename_i hc
    obtain rfl:=abi e
    cases hv with
    |val hs=>cases hs
    |ptr _ _ _ _ _ oo bc h0 k1 k2 k3 k4 k5=>
     obtain⟨a,rfl⟩:=h0;refine⟨.pointer (some (a.add (i.toNat * sz))),?_,.ptr _ id ep kk _ oo bc ⟨_,rfl⟩ k1 k2 k3 k4 (λn4=>?_)⟩
     ·simp[Instr.indexAt,asIntOf,bQ hu,hc.1,hc.2,cH hs,Instr.sureAddr]
     ·have:=k5 n4;simp at this;rw[this,eX,acW]
   ·cases e
  ·cases e
 ·cases e
theorem By{h:ab}{id:Nat}{o:aw}(e:Da h id=some o):h[id]?=some o/\o.ep=0/\o.mu≠.x/\o.bM=0:=by
 unfold Da at e
 split at e
 ·rename_i o' ho
  split at e
  ·rename_i hz
   obtain rfl:=abi e;obtain⟨h1,h2,h3⟩:=getM_some ho;exact⟨h1,h2,h3,hz⟩
  ·cases e
 ·cases e
theorem Oz(H:bm w F β h){v:Value}{id:Nat}{o:aw}(hv:aE w (Av F h β) β h v (.cD id))(ho:Da h id=some o):
  ∃(bc:Nat×Nat) (es:Array MapEntry) (clock:Nat),v=.map (some bc.1)/\w.heap[bc.1]?=some (.map es clock)/\es.size=o.es.length/\
   (∀(i:Nat) (e:PV),o.es[i]?=some e->∃(k v:PV) (m:MapEntry),e=.agg [k,v]/\es[i]?=some m/\aE w (Av F h β) β h m.key k/\aE w (Av F h β) β h m.val v):=by
 obtain⟨e1,e2,e3,e4⟩:=By ho;obtain⟨bc,hb⟩:=du H.len e1;obtain⟨_,es,clock,k1,k2,k3⟩:=(H.obj id o bc e1 hb e3).m e4;exact⟨bc,es,clock,hv.EL e1 hb e2,k1,k2,k3⟩
theorem mn{b clock:Nat}{es:Array MapEntry}(e:w.heap[b]?=some (.map es clock)):(getObj b).run P w=.ok (.map es clock) w:=by simp[getObj,Sem.run,e]
theorem RS(H:bm w F β h){v:Value}{p q:PV}{t:TypeId}{ts:Array TypeId}{ty:TypeId}{rest:List Value}(ht:ts[0]?=some t)(hv:aE w (Av F h β) β h v p)(e:pE P h t p=some q):
  (∃u,(Builtin.len_ ts ty (v::rest).toArray).run P w=.ok u w/\aE w (Av F h β) β h u q):=by
 unfold pE at e
 split at e
 ·rename_i s hu
  obtain rfl:=abi e;obtain rfl:=hv.mT;exact⟨_,by simp[Builtin.len_,ht,bQ hu,goInt],.val (.int _ _)⟩
 ·rename_i n el hu
  obtain rfl:=abi e;refine⟨_,?_,.val (.int _ _)⟩
  cases v <;>simp[Builtin.len_,ht,bQ hu,goInt]
 ·rename_i el full es hu
  obtain rfl:=abi e;obtain⟨a,cap,rfl,_⟩:=hv.fN.kG;exact⟨_,by simp[Builtin.len_,ht,bQ hu,goInt],.val (.int _ _)⟩
 ·rename_i hu
  obtain rfl:=abi e;obtain rfl:=hv.EJ;exact⟨_,by simp[Builtin.len_,ht,bQ hu,goInt],.val (.int _ _)⟩
 ·rename_i kt et id hu
  split at e
  ·rename_i o ho
   obtain rfl:=abi e;obtain⟨bc,es,clock,k1,k2,k3,k4⟩:=Oz H hv ho;subst k1;exact⟨_,by simp[Builtin.len_,ht,bQ hu,goInt,mn k2,k3],.val (.int _ _)⟩
  ·cases e
 ·rename_i el id ep off len hu
  split at e
  ·rename_i o ho
   split at e
   ·rename_i hle
    obtain rfl:=abi e;obtain⟨e1,e2,e3⟩:=getM_some ho;obtain⟨bc,hb⟩:=du H.len e1;obtain⟨h1,h2,h3⟩:=hv.dP;obtain⟨cap,rfl,k2⟩:=h3 o bc e1 hb e3 e2 hle;exact⟨_,by simp[Builtin.len_,ht,bQ hu,goInt],.val (.int _ _)⟩
   ·cases e
  ·cases e
 ·cases e
theorem gK{α:Type}(l m:List α)(a k:Nat)(hl:a+m.length<=l.length):
  (l.take a++m++l.drop (a+m.length))[k]?=if k<a then l[k]? else if k<a+m.length then m[k - a]? else l[k]?:=by
 by_cases h1:k<a
 ·rw[if_pos h1,abI,abj (by simp;omega),abF,if_pos h1]
 ·rw[if_neg h1]
  by_cases h2:k<a+m.length
  ·rw[if_pos h2,abI,abt (by simp;omega)];have:(List.take a l).length=a:=by simp;omega
   rw[this,abj (by omega)]
  ·rw[if_neg h2,abt (by simp;omega),abS]
   congr 1
   simp;omega
theorem CJ(off sz:Nat)(e v:PV)(hv:(Pm.cells v).length=sz):Pm.cells (eR off sz e v)=(Pm.cells e).take off++Pm.cells v++(Pm.cells e).drop (off+sz):=by
 unfold eR
 split
 ·rename_i hc
  obtain⟨rfl,h2⟩:=hc;simp[h2]
 ·rfl
theorem lf{i k s:Nat}(h:i<k):i * s+s<=k * s:=by
 have:=abY s (show i+1<=k from h);rwa[ab9,Nat.one_mul]at this
theorem V8{A:Nat->Prop}{u:Value}{q:PV}(r:aE w A β h u q)(ho:bH q=true):u.oneCell'=true:=by
 cases r with
 |val hs=>cases hs <;>first |rfl |simp[bH]at ho
 |undef=>simp[bH]at ho
 |any=>simp[bH]at ho
 |ak v id ep off len o bc h0=>obtain⟨a,l,c,rfl⟩:=h0;rfl
 |ptr v id ep i off o bc h0=>obtain⟨a,rfl⟩:=h0;rfl
 |cD v id o bc h0=>obtain⟨a,rfl⟩:=h0;rfl
 |agg=>simp[bH]at ho
 |ct=>simp[bH]at ho
 |fn=>rfl
 |ou=>rfl
theorem KP(H:bm w F β h){v vx:Value}{p x:PV}{t:TypeId}{h':ab}(hv:aE w (Av F h β) β h v p)(hx:aE w (Av F h β) β h vx x)(e:hZ P h t p x=some h'):
  ∃w' β',(Instr.storeAt t v vx).run P w=.ok () w'/\bm w' F β' h'/\eg w h β w' h' β':=by
 unfold hZ at e
 split at e
 ·rename_i id ep i off sz hs
  split at e
  ·rename_i o ho
   split at e
   ·rename_i el cr
    split at e
    ·rename_i hc
     obtain⟨c1,c2,c3,c4⟩:=hc;obtain rfl:=abi e;obtain⟨e1,e2,e3⟩:=getM_some ho;obtain⟨bc,hb⟩:=du H.len e1;obtain⟨h1,h2,h3⟩:=hv.B1;obtain rfl:=h3 o bc e1 hb e3 e2;obtain⟨T,cs,k1,k2,k3,k4,k5⟩:=(H.obj id o bc e1 hb e3).c (h2 o e1).2;obtain⟨x1,x2⟩:=hx.cells c3;have hi:=ag cr;have oS:=k5 i el cr;have Cm:i * o.bM+o.bM<=cs.size:=acb (lf hi) (acb (abY _ k2) k3);have nR:i * o.bM+off+0+vx.cells.toList.length<=cs.size:=by simp[x1,c2];omega
     have Bp:=run_storeCells_at P bc.1 (i * o.bM+off) T vx.cells.toList 0 cs w k1 nR (λu hu=>by
      obtain⟨j,hj⟩:=aco hu;have hjl:=ag hj;simp only[acL]at hjl;obtain⟨u',m1,m2,m3⟩:=x2 j (Pm.cells x)[j] (abo (by omega));have:vx.cells[j]?=some u:=by simpa using hj
      rw[m1]at this;obtain rfl:=abi this;exact m3)
     simp only[acY]at Bp;have hlen:vx.cells.toList.length=sz:=by simp[x1,c2]
     rw[hlen]at Bp;refine⟨w.setRow bc.1 (cs.toList.take (i * o.bM+off)++vx.cells.toList++cs.toList.drop (i * o.bM+off+sz)).toArray,β,?_,?_⟩
     ·simp only[Instr.storeAt,Instr.sureAddr,Sem.run_bind,Sem.run_pure,Result.andThen_ok,storeVar,cH hs];rw[if_neg (by simp[x1,c2])];exact Bp
     ·have hβ:β=β.set id bc:=by
       apply acr
       intro k
       by_cases hk:k=id
       ·subst hk;rw[abl (by have:=H.len;have:=ag e1;omega)];exact hb
       ·rw[abm (acd hk)]
      have:=bm.set H e1 hb c1 (w':=w.setRow bc.1 (cs.toList.take (i * o.bM+off)++vx.cells.toList++cs.toList.drop (i * o.bM+off+sz)).toArray) T
       (cs.toList.take (i * o.bM+off)++vx.cells.toList++cs.toList.drop (i * o.bM+off+sz)).toArray (o.es.set i (eR off sz el x)) o.ep bc (by simp)
       (setRow_heap w bc.1 cs _ T (0,0) k1) (λb hb bN=>setRow_other w bc.1 b _ bN) (.inl ⟨rfl,λ_=>by simp⟩) (abn _) rfl rfl rfl (by simpa using k2)
       (by simp;omega) (λi' e' W7=>?_)
      ·rw[<-hβ]at this;exact this
      ·by_cases Q9:i'=i
       ·subst Q9;rw[abl hi]at W7;obtain rfl:=abi W7;rw[CJ _ _ _ _ c2];refine⟨by simp[c2,oS.1];omega,λj q hq=>?_⟩;have c2':=c2.symm;subst c2';rw[gK _ _ _ _ (by omega)]at hq
        have key:(cs.toList.take (i' * o.bM+off)++vx.cells.toList++cs.toList.drop (i' * o.bM+off+(Pm.cells x).length)).toArray[i' * o.bM+j]?=if j<off then cs[i' * o.bM+j]? else if j<off+(Pm.cells x).length then vx.cells[j - off]? else cs[i' * o.bM+j]?:=by
         rw[ac1,<-hlen,gK _ _ _ _ (by rw[hlen];simp;omega),hlen]
         by_cases q1:j<off
         ·rw[if_pos (by omega),if_pos q1];simp
         ·rw[if_neg (by omega),if_neg q1]
          by_cases q2:j<off+(Pm.cells x).length
          ·rw[if_pos (by omega),if_pos q2];rw[show i' * o.bM+j - (i' * o.bM+off)=j - off by omega];simp
          ·rw[if_neg (by omega),if_neg q2];simp
        rw[key]
        split at hq
        ·rename_i cG
         obtain⟨u,m1,m2⟩:=oS.2 j q hq;exact⟨u,by simp[cG,m1],m2⟩
        ·rename_i Ac
         split at hq
         ·rename_i cG
          obtain⟨u,m1,m2,m3⟩:=x2 (j - off) q hq;exact⟨u,by rw[if_neg Ac,if_pos cG];exact m1,m2⟩
         ·rename_i aax
          obtain⟨u,m1,m2⟩:=oS.2 j q hq;exact⟨u,by rw[if_neg Ac,if_neg aax];exact m1,m2⟩
       ·rw[abm (acd Q9)]at W7;obtain⟨q1,q2⟩:=k5 i' e' W7;refine⟨q1,λj q hq=>?_⟩;obtain⟨u,m1,m2⟩:=q2 j q hq;refine⟨u,?_,m2⟩;have hj:j<o.bM:=by rw[<-q1];exact ag hq
        rw[ac1,<-hlen,gK _ _ _ _ (by rw[hlen];simp;omega),hlen];rcases Nat.lt_or_gt_of_ne Q9 with hl |hg
        ·have:=lf (s:=o.bM) hl;rw[if_pos (by omega)];simpa using m1
        ·have:=lf (s:=o.bM) hg;rw[if_neg (by omega),if_neg (by omega)];simpa using m1
    ·cases e
   ·cases e
  ·cases e
 ·cases e
theorem Ja{lv:Nat}(H:bm w F β h){vx:Value}{x:PV}(t:TypeId)(hx:aE w (Av F h β) β h vx x)(h1:(Pm.cells x).all bH=true)(h2:0<(Pm.cells x).length):
  Cn P lv w F β h (Instr.box t vx) (.ptr h.length 0 0 0) (newObj h (Pm.cells x).length [x]):=by
 obtain⟨x1,x2⟩:=hx.cells h1
 obtain⟨HH,S⟩:=bm.new H (w':=w.alloc (.cells vx.cells t)) t vx.cells {mu:=.m,ep:=0,bM:=(Pm.cells x).length,es:=[x]} 1 rfl rfl rfl rfl rfl (by simp) (by simp[x1]) h2 (λi e he=>by
  cases i with
  |zero=>
   simp at he;subst he;refine⟨rfl,λj p hp=>?_⟩;obtain⟨u,m1,m2,m3⟩:=x2 j p hp;exact⟨u,by simpa using m1,m2⟩
  |succ i=>simp at he)
 refine⟨.pointer (some ⟨w.heap.size,0,none⟩),_,_,rfl,H.Vl h2,HH,S,λ_=>dH.alloc w _⟩
theorem KQ{lv:Nat}(H:bm w F β h){z:PV}(t:TypeId)(e:jq P t=some z)(h1:(Pm.cells z).all bH=true)(h2:0<(Pm.cells z).length):
  Cn P lv w F β h (Instr.alloc t true (.tuple #[])) (.ptr h.length 0 0 0) (newObj h (Pm.cells z).length [z]):=by
 obtain⟨v,hz,hr⟩:=uP e w (Av F h β) β h;obtain⟨u,w',β',r1,r2⟩:=Ja (P:=P) (lv:=lv) H t hr h1 h2;refine⟨u,w',β',?_,r2⟩;simp only[Instr.alloc,Sem.run_bind,hz,Result.andThen_ok];exact r1
def Flat(w:World)(A:Nat->Prop)(β:List (Nat×Nat))(h:ab)(sz:Nat)(cs:List Value)(es:List PV):Prop:=
 cs.length=es.length * sz/\∀(i:Nat) (e:PV),es[i]?=some e->(Pm.cells e).length=sz/\∀(j:Nat) (q:PV),(Pm.cells e)[j]?=some q->∃u:Value,cs[i * sz+j]?=some u/\aE w A β h u q
theorem Flat.nil(w:World)(A:Nat->Prop)(β:List (Nat×Nat))(h:ab)(sz:Nat):Flat w A β h sz [] []:=⟨by simp,λi e he=>by simp at he⟩
theorem Flat.append{A:Nat->Prop}{sz:Nat}{cs jH:List Value}{es fA:List PV}(a:Flat w A β h sz cs es)(b:Flat w A β h sz jH fA):Flat w A β h sz (cs++jH) (es++fA):=by
 refine⟨by simp[a.1,b.1,ab9],λi e he=>?_⟩
 by_cases hi:i<es.length
 ·rw[abj hi]at he;obtain⟨h1,h2⟩:=a.2 i e he;refine⟨h1,λj q hq=>?_⟩;obtain⟨u,k1,k2⟩:=h2 j q hq;exact⟨u,by rw[abj (ag k1)];exact k1,k2⟩
 ·rw[abt (by omega)]at he;obtain⟨h1,h2⟩:=b.2 _ e he;refine⟨h1,λj q hq=>?_⟩;obtain⟨u,k1,k2⟩:=h2 j q hq;refine⟨u,?_,k2⟩;have hm:i * sz=(i - es.length) * sz+es.length * sz:=by rw[<-ab9];congr 1;omega
  rw[abt (by rw[a.1,hm];omega),a.1,hm];rw[show(i - es.length) * sz+es.length * sz+j - es.length * sz=(i - es.length) * sz+j by omega];exact k1
theorem Flat.take{A:Nat->Prop}{sz:Nat}{cs:List Value}{es:List PV}(a:Flat w A β h sz cs es)(n:Nat)(hn:n<=es.length):Flat w A β h sz (cs.take (n * sz)) (es.take n):=by
 have hle:n * sz<=es.length * sz:=abY _ hn;refine⟨by simp only[ab7,a.1];rw[ac9 hn,ac9 hle],λi e he=>?_⟩;rw[abF]at he
 split at he
 ·rename_i hi
  obtain⟨h1,h2⟩:=a.2 i e he;refine⟨h1,λj q hq=>?_⟩;obtain⟨u,k1,k2⟩:=h2 j q hq;refine⟨u,?_,k2⟩;have hj:=ag hq;have:=lf (s:=sz) hi;rw[abF,if_pos (by omega)];exact k1
 ·cases he
theorem Flat.RT{A:Nat->Prop}{sz:Nat}{cs:List Value}{es:List PV}(a:Flat w A β h sz cs es)(hs:0<sz)(ho:es.all (λv=>decide ((Pm.cells v).length=sz)&& (Pm.cells v).all bH)=true):∀u∈cs,u.oneCell'=true:=by
 intro u hu
 obtain⟨k,hk⟩:=aco hu;have Ae:=ag hk;rw[a.1]at Ae;have hi:k / sz<es.length:=(Nat.div_lt_iff_lt_mul hs).2 Ae;have cr:=abo hi;obtain⟨h1,h2⟩:=a.2 _ _ cr;have hj:k % sz<(Pm.cells es[k / sz]).length:=by rw[h1];exact ado _ hs
 obtain⟨u',m1,m2⟩:=h2 _ _ (abo hj);rw[adN,Nat.div_add_mod,hk]at m1;obtain rfl:=abi m1;have eK:=abk.1 ho _ (abV hi);simp only[abq]at eK;exact V8 m2 (abk.1 eK.2 _ (abV hj))
theorem l8(H:bm w F β h){v:Value}{p:PV}{ys:List PV}{sz:Nat}(hv:aE w (Av F h β) β h v p)(e:cu h p=some ys)(hz:∀y∈ys,(Pm.cells y).length=sz):
  ∃a cap,v=.slice a ys.length cap/\ys.length<=cap/\∃cs:List Value,Flat w (Av F h β) β h sz cs ys/\
   (∀w',w'.heap=w.heap->∀n,n<=ys.length->(Builtin.firstCells sz n v).run P w'=.ok (cs.take (n * sz)).toArray w'):=by
 have main:∀(b off cap:Nat) (R:Nat->Nat->Value->Prop),(∀i j,i<ys.length->j<sz->∃u,w.cell? ⟨b,off+(i * sz+j),none⟩=some u/\R i j u)->
   ∃cs:List Value,cs.length=ys.length * sz/\(∀i j,i<ys.length->j<sz->∃u,cs[i * sz+j]?=some u/\R i j u)/\
    ∀w',w'.heap=w.heap->∀n,n<=ys.length->(Builtin.firstCells sz n (.slice (some ⟨b,off,none⟩) ys.length cap)).run P w'=.ok (cs.take (n * sz)).toArray w':=by
  intro b off cap R hc
  obtain⟨cs,l1,l2⟩:=pZ (R:=λk u=>w.cell? ⟨b,off+k,none⟩=some u/\R (k / sz) (k % sz) u) (ys.length * sz) (λk hk=>by
   have hs:0<sz:=by
    rcases Nat.eq_zero_or_pos sz with h0 |h0
    ·subst h0;simp at hk
    ·exact h0
   obtain⟨u,m1,m2⟩:=hc (k / sz) (k % sz) ((Nat.div_lt_iff_lt_mul hs).2 hk) (ado _ hs);refine⟨u,?_,m2⟩;rw[<-m1,adN,Nat.div_add_mod])
  have at_k:∀i j,i<ys.length->j<sz->i * sz+j<ys.length * sz:=λi j hi hj=>by have:=lf (s:=sz) hi;omega
  refine⟨cs,l1,λi j hi hj=>?_,λw' B0 n hn=>?_⟩
  ·have hk:=at_k i j hi hj;have:=(l2 (i * sz+j) hk).2;have hs:0<sz:=by omega
   rw[show(i * sz+j) / sz=i by rw[adN,Nat.mul_add_div hs,Nat.div_eq_of_lt hj,acY],show(i * sz+j) % sz=j by rw[adN,Nat.mul_add_mod,Nat.mod_eq_of_lt hj]]at this;refine⟨cs[i * sz+j]'(by omega),abo _,?_⟩;simpa[List.getD,show i * sz+j<cs.length by omega]using this
  ·have hle:n * sz<=ys.length * sz:=abY _ hn
   have:=run_firstCells_some (P:=P) w' sz n ⟨b,off,none⟩ ys.length cap (cs.take (n * sz)) (by simp only[ab7,l1];omega) (λj v hj=>by
    have hjl:=ag hj;simp only[ab7,l1]at hjl;rw[abF,if_pos (by omega)]at hj;have:=(l2 j (by omega)).1;rw[eX,nZ (w:=w) (w':=w') (by rw[B0]),this];simp[List.getD,hj])
   exact this
 unfold cu at e
 split at e
 ·rename_i full es
  obtain rfl:=abi e;have hs:=hv.fN
  cases hs with
  |gY a cap _ hf=>
   refine⟨a,cap,rfl,acM _,[],Flat.nil _ _ _ _ _,λw' B0 n hn=>?_⟩
   ·obtain rfl:n=0:=by simpa using hn
    cases a <;>simp[Builtin.firstCells,loadCells,loadCellsFrom]
  |aa b off cap Iw _ _ pN k1 k2 k3 k4 k5 k6 k7 k8=>
   have gM:Iw=sz:=by
    have hp:0<es.length:=ac7.2 k1;rw[<-k6 0 hp];apply hz;rw[abK,abo hp];exact abV hp
   subst gM;obtain⟨cs,l1,l2,l3⟩:=main b off cap (λi j u=>ch w (Av F h β) u ((Pm.cells (es.getD i .any)).getD j .any)) (λi j hi hj=>⟨pN i j,k7 i j hi hj,k8 i j hi hj⟩);refine⟨_,cap,rfl,k2,cs,⟨l1,λi e he=>?_⟩,l3⟩
   ·have hi:=ag he;have e1:es.getD i .any=e:=by simp[List.getD,he]
    have e2:=k6 i hi;rw[e1]at e2;refine⟨e2,λj q hq=>?_⟩;have hj:=ag hq;obtain⟨u,m1,m2⟩:=l2 i j hi (by omega);refine⟨u,m1,?_⟩;rw[e1]at m2;have e3:(Pm.cells e).getD j .any=q:=by simp[List.getD,hq]
    rw[e3]at m2;exact .val m2
 ·rename_i id ep off len
  split at e
  ·rename_i o ho
   split at e
   ·rename_i hle
    obtain rfl:=abi e;obtain⟨e1,e2,e3⟩:=getM_some ho;obtain⟨bc,hb⟩:=du H.len e1;obtain⟨h1,h2,h3⟩:=hv.dP;obtain⟨cap,rfl,c2⟩:=h3 o bc e1 hb e3 e2 hle;obtain⟨T,ue,k1,k2,k3,k4,k5⟩:=(H.obj id o bc e1 hb e3).c (h2 o e1).2;have hlen:((o.es.drop off).take len).length=len:=by simp;omega
    have at_i:∀i,i<len->∃e,((o.es.drop off).take len)[i]?=some e/\o.es[off+i]?=some e:=λi hi=>by
     refine⟨o.es[off+i]'(by omega),?_,abo (by omega)⟩;rw[abF,if_pos hi,abS];exact abo (by omega)
    by_cases Im:len=0
    ·subst Im;refine⟨some ⟨bc.1,off * o.bM,none⟩,cap,by simp,by simp,[],by simpa using Flat.nil _ _ _ _ _,λw' B0 n hn=>?_⟩
     ·obtain rfl:n=0:=by simpa using hn
      simp[Builtin.firstCells,loadCells,loadCellsFrom]
    ·have gM:o.bM=sz:=by
      obtain⟨el,m1,m2⟩:=at_i 0 (by omega);rw[<-(k5 _ el m2).1];exact hz el (aby m1)
     subst gM
     obtain⟨cs,l1,l2,l3⟩:=main bc.1 (off * o.bM) cap (λi j u=>∀el q,o.es[off+i]?=some el->(Pm.cells el)[j]?=some q->aE w (Av F h β) β h u q) (λi j hi hj=>by
      rw[hlen]at hi;obtain⟨el,m1,m2⟩:=at_i i hi;obtain⟨n1,n2⟩:=k5 _ el m2;obtain⟨u,p1,p2⟩:=n2 j (Pm.cells el)[j] (abo (by omega));refine⟨u,?_,λrk q r1 r2=>?_⟩
      ·rw[cell_of_row w bc.1 _ ue T (0,0) k1,<-acW,<-ab9];exact p1
      ·rw[m2]at r1;obtain rfl:=abi r1;rw[abo (by omega)]at r2;obtain rfl:=abi r2;exact p2)
     rw[hlen]at l2 l3 ⊢;refine⟨_,cap,rfl,by omega,cs,⟨by rw[l1,hlen],λi el he=>?_⟩,λw' B0 n hn=>l3 w' B0 n hn⟩
     ·have hi:=ag he;rw[hlen]at hi;obtain⟨rk,m1,m2⟩:=at_i i hi;rw[m1]at he;obtain rfl:=abi he;obtain⟨n1,n2⟩:=k5 _ rk m2;refine⟨n1,λj q hq=>?_⟩;have hj:=ag hq;obtain⟨u,r1,r2⟩:=l2 i j hi (by omega);exact⟨u,r1,r2 rk q m2 hq⟩
   ·cases e
  ·cases e
 ·cases e
theorem qX{A:Nat->Prop}{vz:Value}{z:PV}{sz:Nat}(hz:aE w A β h vz z)(h1:(Pm.cells z).length=sz)(h2:(Pm.cells z).all bH=true)(hs:0<sz)(n:Nat):
  vz.cells.size=sz/\Flat w A β h sz (List.map (λi=>vz.cells[i % vz.cells.size]!) (List.range (n * sz))) (List.replicate n z):=by
 obtain⟨x1,x2⟩:=hz.cells h2;refine⟨by omega,by simp,λi e he=>?_⟩;have hi:=ag he;simp at hi;rw[List.getElem?_replicate,if_pos hi]at he;obtain rfl:=abi he;refine⟨h1,λj q hq=>?_⟩;have hj:=ag hq;obtain⟨u,m1,m2,m3⟩:=x2 j q hq;refine⟨u,?_,m2⟩;have hk:i * sz+j<n * sz:=by have:=lf (s:=sz) hi;omega
 rw[abB,adP hk];simp only[abw];rw[x1,h1,adN,Nat.mul_add_mod,Nat.mod_eq_of_lt (by omega)];rw[getElem!_def,m1]
theorem gU(n:Nat)(f:Nat->Value):((Array.range n).map f)=(List.map f (List.range n)).toArray:=by
 apply acT;simp
theorem sq{t:TypeId}{n:Nat}(e:mW P t=some n):∃i,P.info? t=some i/\i.bytes=n:=by
 unfold mW at e
 cases hi:P.info? t with
 |none=>rw[hi]at e;simp at e
 |some i=>rw[hi]at e;simp at e;exact⟨i,rfl,e⟩
def ss:TypeDesc->Bool | .int _=>true |_=>false
theorem ti(H:bm w F β h){e st xt:TypeId}{sz bytes:Nat}{z:PV}{vz x:Value}{px:PV}{ys:List PV}(hs:cA P e=some sz)(hb:mW P e=some bytes)(hz:jq P e=some z)(ni:0<sz)(jo:bytes<=65536)
  (hx:aE w (Av F h β) β h x px) (ea:cC P h z xt px=some ys) (eK:ys.all (λv=>decide ((Pm.cells v).length=sz)&& (Pm.cells v).all bH)=true):
  ∃zb:Bool,∃d,P.underlying xt=some d/\zb=ss d/\
   ∃news:List Value,Flat w (Av F h β) β h sz news ys/\(∀u∈news,u.oneCell'=true)/\
    (zb=false->(Builtin.lenOf x).run P w=.ok ys.length w/\∀w',w'.heap=w.heap->(Builtin.firstCells sz ys.length x).run P w'=.ok news.toArray w')/\
    (zb=true->∃k,x=.int k ys.length/\ys.length<=1073741824/\∀w',(if ys.length * sz=0 then pure #[]else do pure (Builtin.zeroCells (<-zeroValue e).cells ys.length):Sem (Array Value)).run P w'=.ok news.toArray w'):=by
 unfold cC at ea
 split at ea
 ·rename_i ik k n hu
  split at ea
  ·rename_i hn
   obtain rfl:=abi ea;obtain rfl:=hx.dN;obtain⟨vz,r1,r2⟩:=uP hz w (Av F h β) β h
   by_cases h0:n.toNat=0
   ·refine⟨true,_,hu,rfl,[],by rw[h0];simpa using Flat.nil w (Av F h β) β h sz,by simp,by simp,λ_=>⟨k,by simp;omega,by simp;omega,λw'=>?_⟩⟩;simp[h0]
   ·have uI:=abk.1 eK z (by simp;omega);simp only[abq,decide_eq_true_eq]at uI;obtain⟨s1,s2⟩:=qX r2 uI.1 uI.2 ni n.toNat;refine⟨true,_,hu,rfl,_,s2,s2.RT ni eK,by simp,λ_=>⟨k,by simp;omega,by simp;omega,λw'=>?_⟩⟩
    have bN:¬(List.replicate n.toNat z).length * sz=0:=by
     rw[acQ];exact Nat.mul_ne_zero h0 (by omega)
    have hzr:(zeroValue e).run P w'=.ok vz w':=by
     have:=r1;unfold zeroValue typeInfo at this ⊢;simp only[Sem.run_bind,run_program,Result.andThen_ok]at this ⊢
     cases hi:P.info? e with
     |none=>rw[hi]at this;simp at this
     |some i=>
      rw[hi]at this;simp at this ⊢
      cases hzz:i.zero with
      |none=>rw[hzz]at this;simp at this
      |some v=>rw[hzz]at this;simp at this ⊢;exact this
    rw[if_neg bN];simp only[Sem.run_bind,hzr,Result.andThen_ok,Sem.run_pure,Builtin.zeroCells,gU,acQ,s1]
  ·cases ea
 ·rename_i el hu
  have JL:∀y∈ys,(Pm.cells y).length=sz:=λy hy=>by
   have:=abk.1 eK y hy;simp only[abq,decide_eq_true_eq]at this;exact this.1
  obtain⟨a,cap,rfl,hle,cs,f1,f2⟩:=l8 (P:=P) H hx ea JL;refine⟨false,_,hu,rfl,cs,f1,f1.RT ni eK,λ_=>⟨by simp[Builtin.lenOf],λw' B0=>?_⟩,by simp⟩;have:=f2 w' B0 ys.length (abn _);rwa[abO (by rw[f1.1];omega)]at this
 ·cases ea
theorem Flat.obj{A:Nat->Prop}{sz:Nat}{cs rest:List Value}{es:List PV}(a:Flat w A β h sz cs es)(i:Nat)(e:PV)(he:es[i]?=some e):
  (Pm.cells e).length=sz/\∀(j:Nat) (p:PV),(Pm.cells e)[j]?=some p->∃v:Value,(cs++rest).toArray[i * sz+j]?=some v/\aE w A β h v p:=by
 obtain⟨h1,h2⟩:=a.2 i e he;refine⟨h1,λj p hp=>?_⟩;obtain⟨u,k1,k2⟩:=h2 j p hp;exact⟨u,by rw[ac1,abj (ag k1)];exact k1,k2⟩
theorem wrap_small{n:Nat}(h:n<=1073741824):IntKind.i64.wrap (n:Int)=n:=by
 simp[IntKind.wrap,IntKind.bits,IntKind.signed];omega
theorem max_i64:IntKind.i64.max=9223372036854775807:=by decide
theorem yY{n b:Nat}(h:roomy n b=true):n * b<=17592186044416/\n<=17592186044416:=by
 simpa[roomy]using h
theorem mU{ts:Array TypeId}{ty st xt e:TypeId}{args:Array Value}{sz sLen sCap n:Nat}{base:Option Addr}{x:Value}{d:TypeDesc}{zb:Bool}{news:List Value}
  (h1:ts[0]?=some st) (h2:ts[1]?=some xt) (h3:args[0]?=some (.slice base sLen sCap)) (h4:args[1]?=some x) (hu:P.underlying st=some (.slice e)) (hs:cA P e=some sz)
  (hd:P.underlying xt=some d) (hzb:zb=ss d) {bytes:Nat} (hb:mW P e=some bytes) (jo:bytes<=65536)
  (hf:zb=false->(Builtin.lenOf x).run P w=.ok n w/\∀w',w'.heap=w.heap->(Builtin.firstCells sz n x).run P w'=.ok news.toArray w')
  (ht:zb=true->∃k,x=.int k n/\n<=1073741824/\∀w',(if n * sz=0 then pure #[]else do pure (Builtin.zeroCells (<-zeroValue e).cells n):Sem (Array Value)).run P w'=.ok news.toArray w')
  (nR:sLen+n<=sCap):
  (Builtin.append_ ts ty args).run P w=(match base with |some a=>(storeCells (a.add (sLen * sz)) news).run P w |none=>.ok () w).andThen λ_ w'=>.ok (.slice base (sLen+n) sCap) w':=by
 obtain⟨i,hi,Cm⟩:=sq hb;have W8:∀w,(typeInfo e).run P w=.ok i w:=λw=>by simp[typeInfo,hi]
 unfold Builtin.append_;simp only[h1,h3,h4,Sem.run_bind,bQ hu,Result.andThen_ok,cH hs,h2,bQ hd,Sem.run_pure]
 cases zb with
 |false=>
  obtain⟨f1,f2⟩:=hf rfl
  cases d with
  |int k=>simp[ss]at hzb
  |_=>
   simp only[abz,if_false,f1,Result.andThen_ok,nR,if_true,Sem.run_bind,adB,f2 w rfl]
   cases base <;>simp
 |true=>
  obtain⟨k,rfl,hn,t2⟩:=ht rfl
  have sC:¬((n:Int) * (bytes:Int)>2^48):=by
   have:n * bytes<=1073741824 * 65536:=adi hn jo;have h2:((n * bytes:Nat):Int)<=70368744177664:=by omega
   rw[Int.natCast_mul]at h2;omega
  have OH:¬((n:Int)<0):=by omega
  cases d with
  |int k=>
   simp only[if_true,asInt,asIntOf,Sem.run_bind,Sem.run_pure,Result.andThen_ok,wrap_small hn,Sem.run_ite,OH,if_false,W8,Cm,sC,acI,nR,adp,abz];have:=t2 w;simp only[Sem.run_ite,Sem.run_bind,Sem.run_pure]at this;rw[this]
   cases base <;>simp
  |_=>simp[ss]at hzb
theorem yZ(w:World)(need old:Nat)(e:TypeId)(hn:need<=17592186044416):∃c,need<=c/\(choose (.appendCap need old e)).run P w=.ok c w.drew:=by
 refine⟨_,?_,by simp only[run_choose,Question.forced,abz,if_false];rfl⟩;simp[Question.cut]
theorem qa{ts:Array TypeId}{ty st xt e:TypeId}{args:Array Value}{sz sLen sCap n:Nat}{base:Option Addr}{x vz:Value}{d:TypeDesc}{zb:Bool}{news olds:List Value}
  (h1:ts[0]?=some st) (h2:ts[1]?=some xt) (h3:args[0]?=some (.slice base sLen sCap)) (h4:args[1]?=some x) (hu:P.underlying st=some (.slice e)) (hs:cA P e=some sz)
  (hd:P.underlying xt=some d) (hzb:zb=ss d) {bytes:Nat} (hb:mW P e=some bytes) (jo:bytes<=65536) (hz:∀w,(zeroValue e).run P w=.ok vz w)
  (hf:zb=false->(Builtin.lenOf x).run P w=.ok n w/\∀w',w'.heap=w.heap->(Builtin.firstCells sz n x).run P w'=.ok news.toArray w')
  (ht:zb=true->∃k,x=.int k n/\n<=1073741824/\∀w',(if n * sz=0 then pure #[]else do pure (Builtin.zeroCells (<-zeroValue e).cells n):Sem (Array Value)).run P w'=.ok news.toArray w')
  (hold:∀w',w'.heap=w.heap->(Builtin.firstCells sz sLen (.slice base sLen sCap)).run P w'=.ok olds.toArray w')
  (nR:¬sLen+n<=sCap) (VB:(sLen+n) * bytes<=17592186044416) (NM:sLen+n<=17592186044416):
  ∃c,sLen+n<=c/\(Builtin.append_ ts ty args).run P w=.ok (.slice (some ⟨w.heap.size,0,none⟩) (sLen+n) c)
   (w.drew.alloc (.cells (olds.toArray++news.toArray++Builtin.zeroCells vz.cells (c - (sLen+n))) e)):=by
 obtain⟨i,hi,Cm⟩:=sq hb;have W8:∀w,(typeInfo e).run P w=.ok i w:=λw=>by simp[typeInfo,hi]
 obtain⟨c,c1,c2⟩:=yZ (P:=P) w (sLen+n) sCap e NM;refine⟨c,c1,?_⟩;have GH:¬(((sLen+n:Nat):Int)>IntKind.i64.max):=by rw[max_i64];omega
 have hnx:¬(Builtin.nextslicecap (sLen+n) sCap * i.bytes>2^48):=by
  have:=growslice_fits (need:=sLen+n) (old:=sCap) (bytes:=i.bytes) (by omega) (by rw[Cm];omega);omega
 unfold Builtin.append_;simp only[h1,h3,h4,Sem.run_bind,bQ hu,Result.andThen_ok,cH hs,h2,bQ hd,Sem.run_pure];have fin:((choose (.appendCap (sLen+n) sCap e)).run P w).andThen (λnewCap w'=>.ok newCap w')=.ok c w.drew:=by rw[c2];rfl
 cases zb with
 |false=>
  obtain⟨f1,f2⟩:=hf rfl
  cases d with
  |int k=>simp[ss]at hzb
  |_=>
   simp only[abz,if_false,f1,Result.andThen_ok,nR,Sem.run_bind,adB,W8,Sem.run_ite,GH,false_and,hnx,c2,run_askRoom,hold w.drew rfl,f2 w.drew rfl,if_true,hz,Sem.run_pure,newRow,run_newObj]
   rfl
 |true=>
  obtain⟨k,rfl,hn,t2⟩:=ht rfl
  have sC:¬((n:Int) * (bytes:Int)>2^48):=by
   have:n * bytes<=1073741824 * 65536:=adi hn jo;have h2:((n * bytes:Nat):Int)<=70368744177664:=by omega
   rw[Int.natCast_mul]at h2;omega
  have OH:¬((n:Int)<0):=by omega
  cases d with
  |int k=>
   have t2':=t2 w.drew;simp only[Sem.run_ite,Sem.run_bind,Sem.run_pure,hz,Result.andThen_ok]at t2';rw[<-Cm]at sC;simp only[if_true,asInt,asIntOf,Sem.run_bind,Sem.run_pure,Result.andThen_ok,wrap_small hn,Sem.run_ite,OH,if_false,W8,sC,acI,nR,adp,abz,GH,false_and,hnx,c2,run_askRoom,hold w.drew rfl,hz,t2',newRow,run_newObj]
   rfl
  |_=>simp[ss]at hzb
theorem jW{t:TypeId}{z:PV}(e:jq P t=some z):∃v,(∀w,(zeroValue t).run P w=.ok v w)/\∀(w:World) (A:Nat->Prop) (β:List (Nat×Nat)) (h:ab),aE w A β h v z:=by
 unfold jq at e
 cases hi:P.info? t with
 |none=>rw[hi]at e;simp at e
 |some i=>
  rw[hi]at e;simp only[Option.bind_some]at e
  cases hz:i.zero with
  |none=>rw[hz]at e;simp at e
  |some v=>
   rw[hz]at e;simp at e;subst e;exact⟨v,λw=>by simp[zeroValue,typeInfo,hi,hz],λw A β h=>Hq w A β h v⟩
theorem y8{id:Nat}{bc:Nat×Nat}(hb:β[id]?=some bc):β.set id bc=β:=by
 apply acr
 intro k
 by_cases hk:k=id
 ·subst hk;rw[abl (ag hb)];exact hb.symm
 ·rw[abm (acd hk)]
theorem su(H:bm w F β h){id:Nat}{o:aw}{bc:Nat×Nat}(eo:h[id]?=some o)(eb:β[id]?=some bc)(em:o.mu=.m){news:List Value}{ys:List PV}(off:Nat)
  (hf:Flat w (Av F h β) β h o.bM news ys) (h1:∀u∈news,u.oneCell'=true) (hle:off+ys.length<=o.es.length) (hz:0<o.bM:=by first |assumption |omega):
  ∃w',(storeCells ⟨bc.1,off * o.bM,none⟩ news).run P w=.ok () w'/\
   bm w' F β (h.set id {o with es:=o.es.take off++ys++o.es.drop (off+ys.length)})/\eg w h β w' (h.set id {o with es:=o.es.take off++ys++o.es.drop (off+ys.length)}) β:=by
 obtain⟨T,cs,k1,k2,k3,k4,k5⟩:=(H.obj id o bc eo eb (by rw[em];simp)).c hz;have hn:news.length=ys.length * o.bM:=hf.1
 have GG:off * o.bM+ys.length * o.bM<=cs.size:=by
  rw[<-ab9];exact acb (abY _ (by omega)) k3
 have Bp:=run_storeCells_at P bc.1 (off * o.bM) T news 0 cs w k1 (by omega) h1;simp only[acY]at Bp
 have dw:(cs.toList.take (off * o.bM)++news++cs.toList.drop (off * o.bM+news.length)).length=cs.size:=by
  simp only[abr,ab7,acX,acL];omega
 have cr:(o.es.take off++ys++o.es.drop (off+ys.length)).length=o.es.length:=by simp;omega
 refine⟨_,Bp,?_⟩
 have:=bm.set H eo eb em (w':=w.setRow bc.1 (cs.toList.take (off * o.bM)++news++cs.toList.drop (off * o.bM+news.length)).toArray) T
  (cs.toList.take (off * o.bM)++news++cs.toList.drop (off * o.bM+news.length)).toArray (o.es.take off++ys++o.es.drop (off+ys.length)) o.ep bc (by simp)
  (setRow_heap w bc.1 cs _ T (0,0) k1) (λb hb bN=>setRow_other w bc.1 b _ bN) (.inl ⟨rfl,λ_=>cr⟩) (abn _) rfl rfl rfl (by rw[cr];exact k2) (by rw[adE,dw];exact k3) (λi e he=>?_)
 ·rw[y8 eb]at this;exact this
 ·rw[gK _ _ _ _ hle]at he
  have hi:i<o.es.length:=by
   rcases ab0 i o.es.length with hh |hh
   ·exact hh
   ·rw[if_neg (by omega),if_neg (by omega),abC hh]at he;cases he
  by_cases hA:off<=i/\i<off+ys.length
  ·rw[if_neg (by omega),if_pos hA.2]at he;obtain⟨n1,n2⟩:=hf.2 _ e he;refine⟨n1,λj q hq=>?_⟩;obtain⟨u,p1,p2⟩:=n2 j q hq;have hj:=ag hq;refine⟨u,?_,p2⟩;have e1:i * o.bM=off * o.bM+(i - off) * o.bM:=by rw[<-ab9];congr 1;omega
   have e2:=lf (s:=o.bM) (show i - off<ys.length by omega);rw[ac1,gK _ _ _ _ (by rw[hn];simpa using GG),if_neg (by omega),if_pos (by rw[hn];omega),e1];rw[show off * o.bM+(i - off) * o.bM+j - off * o.bM=(i - off) * o.bM+j by omega];exact p1
  ·have W7:o.es[i]?=some e:=by
    by_cases hB:i<off
    ·rwa[if_pos hB]at he
    ·rwa[if_neg hB,if_neg (by omega)]at he
   obtain⟨n1,n2⟩:=k5 i e W7;refine⟨n1,λj q hq=>?_⟩;obtain⟨u,p1,p2⟩:=n2 j q hq;have hj:=ag hq;refine⟨u,?_,p2⟩;rw[ac1,gK _ _ _ _ (by rw[hn];simpa using GG)]
   by_cases hB:i<off
   ·have:=lf (s:=o.bM) hB;rw[if_pos (by omega)];simpa using p1
   ·have:(off+ys.length) * o.bM<=i * o.bM:=abY _ (by omega);rw[ab9]at this;rw[if_neg (by omega),if_neg (by rw[hn];omega)];simpa using p1
theorem Hr(H:bm w F β h){ts:Array TypeId}{ty st xt:TypeId}{args:Array Value}{lv:Nat}{sv x:Value}{s px r:PV}{h':ab}
  (h1:ts[0]?=some st) (h2:ts[1]?=some xt) (h3:args[0]?=some sv) (h4:args[1]?=some x) (hs:aE w (Av F h β) β h sv s) (hx:aE w (Av F h β) β h x px)
  (e:bP P lv h st xt s px=some (r,h')):Cn P lv w F β h (Builtin.append_ ts ty args) r h':=by
 unfold bP at e
 split at e
 ·rename_i el hu
  split at e
  ·rename_i sz bytes z q1 q2 q3
   split at e
   ·rename_i ys hy
    split at e
    ·rename_i hc
     obtain⟨ni,jo,hzc,eK⟩:=hc;obtain⟨vz,z1,z2⟩:=jW (P:=P) q3;obtain⟨zb,d,a1,a2,news,a3,a4,a5,a6⟩:=ti (st:=st) (vz:=vz) H q1 q2 q3 ni jo hx hy eK;have zsz:vz.cells.size=sz:=by rw[((z2 w (Av F h β) β h).cells hzc.2).1];exact hzc.1
     have arr:∀(cs:List Value) (n:Nat),cs.toArray++news.toArray++Builtin.zeroCells vz.cells n=(cs++news++(Builtin.zeroCells vz.cells n).toList).toArray:=λcs n=>by apply acT;simp
     have arrsz:∀(cs:List Value) (k m c:Nat),cs.length=k * sz->k+m<=c->news.length=m * sz->c * sz<=(cs.toArray++news.toArray++Builtin.zeroCells vz.cells (c - (k+m))).size:=λcs k m c e1 e2 e3=>by
      simp only[Array.size_append,adE,size_zeroCells,zsz,e1,e3,<-ab9];rw[show k+m+(c - (k+m))=c by omega];exact abn _
     split at e
     ·-- a snapshot
      rename_i full es
      obtain⟨a,cap,rfl,hle,vP⟩:=hs.fN.kG
      split at e
      ·rename_i RP
       obtain rfl:ys=[]:=by simpa using RP
       obtain⟨rfl,rfl⟩:=abv (abi e);have hn:news=[]:=abA (by simpa using a3.1);subst hn;have:=mU (P:=P) (w:=w) (ty:=ty) h1 h2 h3 h4 hu q1 a1 a2 q2 jo (n:=0) a5 a6 (by omega);refine Cn.still H (v:=.slice a es.length cap) ?_ hs;rw[this]
       cases a <;>simp[storeCells]
      ·rename_i bN
       split at e
       ·rename_i LS
        obtain⟨rfl,FH,Hs,iK⟩:=LS;obtain⟨rfl,rfl⟩:=abv (abi e);obtain⟨b1,b2⟩:=yY Hs
        have hy0:0<ys.length:=by
         cases ys with
         |nil=>simp at bN
         |cons=>simp
        have Cs:=vP rfl
        have hez:∀y∈es,(Pm.cells y).length=sz:=λy hy=>by
         have:=abk.1 iK y hy;simp only[abq,decide_eq_true_eq]at this;exact this.1
        obtain⟨a',FZ,ev,_,cs,f1,f2⟩:=l8 (P:=P) H hs (show cu h (.aa true es)=some es from rfl) hez
        obtain⟨c,c1,c2⟩:=qa (P:=P) (w:=w) (ty:=ty) (sLen:=es.length) h1 h2 h3 h4 hu q1 a1 a2 q2 jo z1 a5 a6 (λw' B0=>by
         have:=f2 w' B0 es.length (abn _);rwa[abO (by rw[f1.1];omega)]at this) (by omega) b1 b2
        have IN:=f1.append a3
        obtain⟨HH,S⟩:=bm.new H (w':=w.drew.alloc (.cells (cs.toArray++news.toArray++Builtin.zeroCells vz.cells (c - (es.length+ys.length))) el)) el
         (cs.toArray++news.toArray++Builtin.zeroCells vz.cells (c - (es.length+ys.length))) {mu:=.m,ep:=0,bM:=sz,es:=es++ys} c rfl rfl rfl rfl rfl (by simpa using c1)
         (arrsz cs _ _ c f1.1 c1 a3.1) ni (λi e he=>by
          rw[arr];exact IN.obj (rest:=(Builtin.zeroCells vz.cells (c - (es.length+ys.length))).toList) i e he)
        exact⟨_,_,_,c2,H.xa,HH,S,λ_=>(dH.drew w).trans (dH.alloc _ _)⟩
       ·cases e
     ·-- a reference
      rename_i id ep off len
      split at e
      ·rename_i o ho
       obtain⟨e1,e2,e3⟩:=getM_some ho;obtain⟨bc,hb⟩:=du H.len e1;obtain⟨m1,m2,m3⟩:=hs.dP
       split at e
       ·rename_i LS
        obtain⟨hle,gM⟩:=LS;obtain⟨cap,rfl,c2⟩:=m3 o bc e1 hb e3 e2 hle;obtain⟨T,ue,k1,k2,k3,k4,k5⟩:=(H.obj id o bc e1 hb e3).c (m2 o e1).2
        split at e
        ·rename_i RP
         obtain rfl:ys=[]:=by simpa using RP
         obtain⟨rfl,rfl⟩:=abv (abi e);have hn:news=[]:=abA (by simpa using a3.1);subst hn;have:=mU (P:=P) (w:=w) (ty:=ty) h1 h2 h3 h4 hu q1 a1 a2 q2 jo (n:=0) a5 a6 (by omega);refine Cn.still H (v:=.slice (some ⟨bc.1,off * o.bM,none⟩) len cap) ?_ hs;rw[this];simp[storeCells]
        ·rename_i bN
         split at e
         ·rename_i hc3
          obtain⟨rfl,FH,Aa,_,jJ⟩:=hc3;obtain⟨rfl,rfl⟩:=abv (abi e);subst gM;have gp:=mU (P:=P) (w:=w) (ty:=ty) h1 h2 h3 h4 hu q1 a1 a2 q2 jo a5 a6 (show len+ys.length<=cap by omega);obtain⟨w',s1,s2,s3⟩:=su (P:=P) H e1 hb Aa len a3 a4 jJ;simp only[ac6,eX,abE]at gp;rw[s1]at gp;simp only[Result.andThen_ok]at gp;refine⟨_,w',β,gp,?_,s2,s3,λhh=>by omega⟩;refine .ak _ id ep 0 (len+ys.length) {o with es:=o.es.take len++ys++o.es.drop (len+ys.length)} bc ⟨_,_,_,rfl⟩ (abl (ag e1)) hb (by show o.mu≠.x;rw[Aa];simp) ⟨by show ep<=o.ep;omega,k4⟩ (λ_ _=>⟨cap,by simp,c2⟩)
         split at e
         ·rename_i hc3
          obtain⟨rfl,FH,Aa,Hs⟩:=hc3;obtain⟨rfl,rfl⟩:=abv (abi e);obtain⟨b1,b2⟩:=yY Hs
          have hy0:0<ys.length:=by
           cases ys with
           |nil=>simp at bN
           |cons=>simp
          subst gM;have iK:cu h (.ak id ep 0 len)=some ((o.es.drop 0).take len):=by simp only[cu,ho,if_pos hle]
          have uk:((o.es.drop 0).take len).length=len:=by simp;omega
          obtain⟨a',FZ,ev,_,cs,f1,f2⟩:=l8 (P:=P) (sz:=o.bM) H hs iK (λy hy=>by
           obtain⟨k,hk⟩:=aco hy;rw[abF]at hk
           split at hk
           ·simp at hk;exact(k5 k y hk).1
           ·cases hk)
          simp only[acv]at f1 uk f2;have SY:len<=o.es.length:=by omega
          by_cases nR:len+ys.length<=cap
          ·-- there is room
           have gp:=mU (P:=P) (w:=w) (ty:=ty) h1 h2 h3 h4 hu q1 a1 a2 q2 jo a5 a6 nR;have hk3:(len+ys.length) * o.bM<=ue.size:=acb (abY _ (by omega)) k3;rw[ab9]at hk3;have Bp:=run_storeCells_at P bc.1 (0 * o.bM+len * o.bM) T news 0 ue w k1 (by rw[a3.1];omega) a4;simp only[ac6,abE,acY]at Bp gp;rw[eX,abE,Bp]at gp;simp only[Result.andThen_ok]at gp
           have V9:Flat w (Av F h β) β h o.bM (ue.toList.take (len * o.bM)) (o.es.take len):=by
            refine⟨by simp only[ab7,acL];rw[ac9 SY,ac9 (by omega)],λi e he=>?_⟩;rw[abF]at he
            split at he
            ·rename_i hi
             obtain⟨n1,n2⟩:=k5 i e he;refine⟨n1,λj q hq=>?_⟩;obtain⟨u,p1,p2⟩:=n2 j q hq;have hj:=ag hq;have:=lf (s:=o.bM) hi;exact⟨u,by rw[abF,if_pos (by omega)];simpa using p1,p2⟩
            ·cases he
           have IN:=V9.append a3
           have Iz:(ue.toList.take (len * o.bM)++news++ue.toList.drop (len * o.bM+news.length)).length=ue.size:=by
            simp only[abr,ab7,acX,acL,a3.1];omega
           obtain⟨HH,S⟩:=bm.set H e1 hb Aa (w':=w.setRow bc.1 (ue.toList.take (len * o.bM)++news++ue.toList.drop (len * o.bM+news.length)).toArray) T
            (ue.toList.take (len * o.bM)++news++ue.toList.drop (len * o.bM+news.length)).toArray (o.es.take len++ys) (ep+1) bc (by simp)
            (setRow_heap w bc.1 ue _ T (0,0) k1) (λb hb bN=>setRow_other w bc.1 b _ bN) (.inl ⟨rfl,λhe=>by omega⟩) (by omega) rfl rfl rfl (by simp;omega)
            (by rw[adE,Iz];exact k3) (λi e he=>IN.obj i e he)
           exact⟨_,_,_,gp,by have:=H.IL (w':=w.setRow bc.1 (ue.toList.take (len * o.bM)++news++ue.toList.drop (len * o.bM+news.length)).toArray) (A:=Av F (h.set id {o with es:=o.es.take len++ys,ep:=ep+1}) (β.set id bc)) e1 Aa (b:=bc.1) (cap:=cap) (len:=len+ys.length) (ep:=ep+1) (es:=o.es.take len++ys);simpa[show cap=bc.2 by omega]using this,HH,S,λhh=>by omega⟩
          ·-- it moves
           obtain⟨c,c1,gp⟩:=qa (P:=P) (w:=w) (ty:=ty) (olds:=cs) h1 h2 h3 h4 hu q1 a1 a2 q2 jo z1 a5 a6 (λw' B0=>by
            have e3:(.slice (some ⟨bc.1,0 * o.bM,none⟩) len cap:Value)=.slice (some ⟨bc.1,0 * o.bM,none⟩) len cap:=rfl;have:=f2 w' B0 len (by omega);rwa[abO (by rw[f1.1,uk];exact abn _)]at this) nR b1 b2
           have IN:=f1.append a3
           obtain⟨HH,S⟩:=bm.set H e1 hb Aa (w':=w.drew.alloc (.cells (cs.toArray++news.toArray++Builtin.zeroCells vz.cells (c - (len+ys.length))) el)) el
            (cs.toArray++news.toArray++Builtin.zeroCells vz.cells (c - (len+ys.length))) (o.es.take len++ys) (ep+1) (w.heap.size,c) (by simp)
            (heap_alloc_new w.drew _) (λb hb bN=>heap_alloc_old w.drew _ b hb) (.inr ⟨abn _,by omega⟩) (by omega) rfl rfl rfl (by simp;omega)
            (arrsz cs _ _ c (by rw[f1.1,uk]) c1 a3.1) (λi e he=>by
             rw[arr];exact IN.obj (rest:=(Builtin.zeroCells vz.cells (c - (len+ys.length))).toList) i e he)
           exact⟨_,_,_,gp,H.IL e1 Aa,HH,S,λhh=>by omega⟩
         ·cases e
       ·cases e
      ·cases e
     ·cases e
    ·cases e
   ·cases e
  ·cases e
 ·cases e
theorem OI(H:bm w F β h){ts:Array TypeId}{ty dt:TypeId}{args:Array Value}{lv:Nat}{dv x:Value}{d px r:PV}{h':ab}
  (h1:ts[0]?=some dt) (h3:args[0]?=some dv) (h4:args[1]?=some x) (hd:aE w (Av F h β) β h dv d) (hx:aE w (Av F h β) β h x px)
  (e:AF P lv h dt d px=some (r,h')):Cn P lv w F β h (Builtin.copy_ ts ty args) r h':=by
 unfold AF at e
 split at e
 ·rename_i el id ep off len ys hu hy
  split at e
  ·rename_i sz o hs ho
   split at e
   ·rename_i hc
    obtain⟨FH,Aa,rfl,hle,eK,Za⟩:=hc;obtain⟨rfl,rfl⟩:=abv (abi e);obtain⟨e1,e2,e3⟩:=getM_some ho;obtain⟨bc,hb⟩:=du H.len e1;obtain⟨m1,m2,m3⟩:=hd.dP;obtain⟨cap,rfl,c2⟩:=m3 o bc e1 hb e3 e2 hle
    obtain⟨a,FZ,rfl,abb,cs,f1,f2⟩:=l8 (P:=P) (sz:=o.bM) H hx hy (λy hy=>by
     have:=abk.1 eK y hy;simpa only[decide_eq_true_eq]using this)
    obtain⟨T,ue,k1,k2,k3,k4,k5⟩:=(H.obj id o bc e1 hb e3).c (m2 o e1).2;have hn:min ys.length len<=ys.length:=Nat.min_le_left _ _;have ft:=f1.take (min ys.length len) hn;have uk:(ys.take (min ys.length len)).length=min ys.length len:=by simp only[ab7];omega
    obtain⟨w',r1,r2,r3⟩:=su (P:=P) H e1 hb Aa off ft (λu hu=>ft.RT k4 Za u hu) (by rw[uk];omega);rw[uk]at r2 r3;refine⟨.int .i64 (min ys.length len:Nat),w',β,?_,.val (.int _ _),r2,r3,λhh=>by omega⟩;have gp:=f2 w rfl (min ys.length len) hn;simp only[Builtin.copy_,h1,h3,h4,Sem.run_bind,bQ hu,Result.andThen_ok,Builtin.lenOf,Sem.run_pure,cH hs,goInt];have e0:Nat.min ys.length len=min ys.length len:=rfl;rw[e0,gp];simp only[Result.andThen_ok];rw[r1];simp
   ·cases e
  ·cases e
 ·cases e
theorem KR(H:bm w F β h){ts:Array TypeId}{ty t:TypeId}{args:Array Value}{lv:Nat}{dv:Value}{d r:PV}{h':ab}
  (h1:ts[0]?=some t) (h3:args[0]?=some dv) (hd:aE w (Av F h β) β h dv d)
  (e:mX P lv h t d=some (r,h')):Cn P lv w F β h (Builtin.clear_ ts ty args) r h':=by
 unfold mX at e
 split at e
 ·rename_i el id ep off len hu
  split at e
  ·rename_i sz z o hs hz ho
   split at e
   ·rename_i hc
    obtain⟨FH,Aa,rfl,hle,Ty,Gy⟩:=hc;obtain⟨rfl,rfl⟩:=abv (abi e);obtain⟨e1,e2,e3⟩:=getM_some ho;obtain⟨bc,hb⟩:=du H.len e1;obtain⟨m1,m2,m3⟩:=hd.dP;obtain⟨cap,rfl,c2⟩:=m3 o bc e1 hb e3 e2 hle;obtain⟨T,ue,k1,k2,k3,k4,k5⟩:=(H.obj id o bc e1 hb e3).c (m2 o e1).2;obtain⟨vz,z1,z2⟩:=jW (P:=P) hz;obtain⟨s1,s2⟩:=qX (z2 w (Av F h β) β h) Ty Gy k4 len
    have eK:(List.replicate len z).all (λv=>decide ((Pm.cells v).length=o.bM)&& (Pm.cells v).all bH)=true:=by
     rw[abk]
     intro x hx
     rw[ac8]at hx;simp[hx.2,Ty,Gy]
    obtain⟨w',r1,r2,r3⟩:=su (P:=P) H e1 hb Aa off s2 (s2.RT k4 eK) (by simpa using hle);simp only[acQ]at r2 r3
    by_cases hl:len=0
    ·subst hl;refine⟨.tuple #[],w,β,?_,.val (.ct [] [] rfl (by simp)),?_⟩
     ·simp only[Builtin.clear_,h1,h3,Sem.run_bind,bQ hu,Result.andThen_ok,Sem.run_pure]
     ·simp[storeCells]at r1;subst r1;exact⟨r2,r3,λ_=>dH.refl _⟩
    ·refine⟨.tuple #[],w',β,?_,.val (.ct [] [] rfl (by simp)),r2,r3,λhh=>by omega⟩;obtain⟨n,rfl⟩:∃n,len=n+1:=⟨len - 1,by omega⟩;simp only[Builtin.clear_,h1,h3,Sem.run_bind,bQ hu,Result.andThen_ok,z1,Builtin.zeroCells,gU,s1];rw[s1]at r1;rw[r1];simp
   ·cases e
  ·cases e
 ·rename_i el full hu
  obtain⟨rfl,rfl⟩:=abv (abi e);obtain⟨a,cap,rfl,_⟩:=hd.fN.kG;refine Cn.still H (v:=.tuple #[]) ?_ (.val (.ct [] [] rfl (by simp)))
  cases a <;>simp[Builtin.clear_,h1,h3,bQ hu]
 ·cases e
theorem OJ(H:bm w F β h){t:TypeId}{lv:Nat}{vl vc:Value}{l c r:PV}{h':ab}(hl:aE w (Av F h β) β h vl l)(hc:aE w (Av F h β) β h vc c)
  (e:jM P lv h t l c=some (r,h')):Cn P lv w F β h (Instr.makeSlice t vl vc) r h':=by
 unfold jM at e
 split at e
 ·rename_i el k1 n k2 c hu
  obtain rfl:=hl.dN;obtain rfl:=hc.dN
  split at e
  ·rename_i sz bytes z hs hb hz
   split at e
   ·rename_i FE
    obtain⟨FH,hn,hnc,rR,ni,jo,Ty,Gy⟩:=FE;obtain⟨rfl,rfl⟩:=abv (abi e);obtain⟨vz,z1,z2⟩:=jW (P:=P) hz;obtain⟨s1,s2⟩:=qX (z2 w (Av F h β) β h) Ty Gy ni n.toNat;obtain⟨i,hi,Cm⟩:=sq hb;have W8:∀w,(typeInfo el).run P w=.ok i w:=λw=>by simp[typeInfo,hi]
    obtain⟨cn,rfl⟩:=acF (show 0<=c by omega);obtain⟨ln,rfl⟩:=acF hn;have TT:cn<=1073741824:=by omega
    have zJ:ln<=1073741824:=by omega
    have ot:¬((i.bytes:Int) * (cn:Int)>2^48):=by
     have:bytes * cn<=65536 * 1073741824:=adi jo TT;have h2:((bytes * cn:Nat):Int)<=70368744177664:=by omega
     rw[Int.natCast_mul]at h2;rw[Cm];omega
    have vP:List.map (λi=>vz.cells[i % vz.cells.size]!) (List.range (cn * sz))=List.map (λi=>vz.cells[i % vz.cells.size]!) (List.range (ln * sz))++List.drop (ln * sz) (List.map (λi=>vz.cells[i % vz.cells.size]!) (List.range (cn * sz))):=by
     have hle:ln * sz<=cn * sz:=abY _ (by omega)
     have:List.map (λi=>vz.cells[i % vz.cells.size]!) (List.range (ln * sz))=List.take (ln * sz) (List.map (λi=>vz.cells[i % vz.cells.size]!) (List.range (cn * sz))):=by
      rw[<-List.map_take,List.take_range,ac9 hle]
     rw[this,ac0]
    obtain⟨HH,S⟩:=bm.new H (w':=w.alloc (.cells (List.map (λi=>vz.cells[i % vz.cells.size]!) (List.range (cn * sz))).toArray el)) el
     (List.map (λi=>vz.cells[i % vz.cells.size]!) (List.range (cn * sz))).toArray {mu:=.m,ep:=0,bM:=sz,es:=List.replicate ln z} cn rfl rfl rfl rfl rfl (by simp;omega) (by simp) ni (λi e he=>by
      rw[vP];exact s2.obj i e (by simpa using he))
    refine⟨.slice (some ⟨w.heap.size,0,none⟩) ln cn,_,_,?_,H.xa,HH,S,λ_=>dH.alloc w _⟩
    ·have OH:¬((cn:Int)<0):=by omega
     have Zb:¬((ln:Int)<0):=by omega
     have hgt:¬((ln:Int)>(cn:Int)):=by omega
     simp only[Instr.makeSlice,Sem.run_bind,bQ hu,Result.andThen_ok,asInt,asIntOf,Sem.run_pure,W8,wrap_small TT,wrap_small zJ,Sem.run_ite,OH,Zb,hgt,ot,decide_false,Bool.or_self,abz,if_false,run_askRoom,cH hs,acI,z1,newRow,run_newObj]
     by_cases Au:cn * sz=0
     ·simp only[Au,if_true,gU,List.range_zero,abM]
      rfl
     ·simp only[Au,if_false,gU]
      rfl
   ·cases e
  ·cases e
 ·cases e
theorem RU{args:List Value}{ps:List PV}{r:PV}{ts:Array TypeId}{ty:TypeId}{A:Nat->Prop}(hr:L2 (aE w A β h) args ps)(e:Mg ps=some r):
  ∃u,(Builtin.max_ ts ty args.toArray).run P w=.ok u w/\aE w A β h u r:=by
 unfold Mg at e
 split at e
 ·rename_i k a k' b
  obtain rfl:=abi e;obtain⟨hl,hh⟩:=hr
  match args,hl with
  |[x,y],_=>
   have h0:=hh 0 (by simp);have h1:=hh 1 (by simp);simp only[adr,ads]at h0 h1;obtain rfl:=h0.dN;obtain rfl:=h1.dN;exact⟨_,by simp[Builtin.max_,Builtin.max2],.val (.int _ _)⟩
 ·cases e
theorem RV{args:List Value}{ps:List PV}{r:PV}{ts:Array TypeId}{ty:TypeId}{A:Nat->Prop}(hr:L2 (aE w A β h) args ps)(e:P7 ps=some r):
  ∃u,(Builtin.min_ ts ty args.toArray).run P w=.ok u w/\aE w A β h u r:=by
 unfold P7 at e
 split at e
 ·rename_i k a k' b
  obtain rfl:=abi e;obtain⟨hl,hh⟩:=hr
  match args,hl with
  |[x,y],_=>
   have h0:=hh 0 (by simp);have h1:=hh 1 (by simp);simp only[adr,ads]at h0 h1;obtain rfl:=h0.dN;obtain rfl:=h1.dN;exact⟨_,by simp[Builtin.min_,Builtin.min2],.val (.int _ _)⟩
 ·cases e
theorem CK(d:Nat){t:TypeId}(hu:P.underlying t=some .bool)(a b:Bool)(w:World):(Op.equalIn (d+1) t (.bool a) (.bool b)).run P w=.ok (a==b) w:=by
 simp[Op.equalIn,bQ hu]
theorem y9{t:TypeId}(hu:P.underlying t=some .bool)(a b:Bool)(w:World):(Op.equal t (.bool a) (.bool b)).run P w=.ok (a==b) w:=CK 9999 hu a b w
theorem RW{op:BinOp}{t:TypeId}{x y:Value}{px py r:PV}{ox oy:Operand}{A:Nat->Prop}(hx:aE w A β h x px)(hy:aE w A β h y py)(e:fE P op t px py=some r):
  ∃u,((do eqGuard op t ox oy x y;binOp op t x y:Sem Value)).run P w=.ok u w/\aE w A β h u r:=by
 unfold fE at e
 split at e
 ·rename_i k a k' b
  obtain rfl:=hx.dN;obtain rfl:=hy.dN
  have guard:(eqGuard op t ox oy (.int k a) (.int k' b)).run P w=.ok () w:=by
   cases op <;>simp[eqGuard]
  simp only[Sem.run_bind,guard,Result.andThen_ok]
  split at e
  ·unfold qB at e
   split at e
   ·cases e
   ·rename_i hb
    obtain rfl:=abi e;refine⟨_,?_,.val (.int _ _)⟩;simp[binOp,Op.shift,hb]
  ·unfold qB at e
   split at e
   ·cases e
   ·rename_i hb
    obtain rfl:=abi e;refine⟨_,?_,.val (.int _ _)⟩;simp[binOp,Op.shift,hb]
  ·rename_i n1 n2
   split at e
   ·rename_i hk
    subst hk;unfold gW at e
    split at e
    all_goals first
     |(obtain rfl:=abi e;refine⟨_,?_,.val (.int _ _)⟩;simp[binOp,Op.intArith,Op.intBits];done)
     |(obtain rfl:=abi e;refine⟨_,?_,.val (.bool _)⟩;simp[binOp,Op.intCmp];done)
     |(split at e;cases e;rename_i hb;obtain rfl:=abi e;refine⟨_,?_,.val (.int _ _)⟩;simp[binOp,Op.intDiv,hb];done)
     |cases e
   ·cases e
 ·rename_i a b
  obtain rfl:=hx.mT;obtain rfl:=hy.mT
  have guard:(eqGuard op t ox oy (.string a) (.string b)).run P w=.ok () w:=by
   cases op <;>simp[eqGuard]
  simp only[Sem.run_bind,guard,Result.andThen_ok];unfold mE at e
  split at e
  all_goals first
   |(obtain rfl:=abi e;refine⟨_,?_,.val (.bool _)⟩;simp[binOp,Op.stringOp];done)
   |(split at e;cases e;rename_i hb;obtain rfl:=abi e;refine⟨_,?_,.val (.str _)⟩;simp only[binOp,Op.stringOp];rw[if_neg hb];rfl)
   |cases e
 ·rename_i a b
  obtain rfl:=hx.gG;obtain rfl:=hy.gG
  have guard:(eqGuard op t ox oy (.bool a) (.bool b)).run P w=.ok () w:=by
   cases op <;>simp[eqGuard]
  simp only[Sem.run_bind,guard,Result.andThen_ok]
  split at e
  ·rename_i hu
   split at e
   ·obtain rfl:=abi e;refine⟨_,?_,.val (.bool _)⟩;simp only[binOp,Sem.run_bind,y9 hu,Result.andThen_ok,Sem.run_pure]
   ·obtain rfl:=abi e;refine⟨_,?_,.val (.bool _)⟩;simp only[binOp,Sem.run_bind,y9 hu,Result.andThen_ok,Sem.run_pure]
   ·cases e
  ·cases e
 ·cases e
theorem V'{op:UnOp}{x:Value}{px r:PV}{A:Nat->Prop}(hx:aE w A β h x px)(e:SQ op px=some r):
  ∃u,(Op.unary op x).run P w=.ok u w/\aE w A β h u r:=by
 unfold SQ at e
 split at e
 ·obtain rfl:=abi e;obtain rfl:=hx.dN;exact⟨_,by simp[Op.unary,Op.intArith],.val (.int _ _)⟩
 ·obtain rfl:=abi e;obtain rfl:=hx.gG;exact⟨_,by simp[Op.unary],.val (.bool _)⟩
 ·cases e
theorem OK{c:PV}{n:Int}(h:Me c=some n):c=.int .u8 n:=by
 unfold Me at h
 split at h
 ·cases h;rfl
 ·cases h
theorem vQ{c:PV}{r:List PV}{l:List Int}(e:ov (c::r)=some l):∃n l',c=.int .u8 n/\ov r=some l'/\l=n::l':=by
 unfold ov at e
 split at e
 ·rename_i n h1
  split at e
  ·rename_i l' h2
   exact⟨n,l',OK h1,h2,(abi e).symm⟩
  ·cases e
 ·cases e
theorem zc:∀{es:List PV} {l:List Int},ov es=some l->l.length=es.length
 |[],l,e=>by cases e;rfl
 |c::r,l,e=>by
  obtain⟨n,l',_,h,rfl⟩:=vQ e;simp[zc h]
theorem uQ:∀{es:List PV} {l:List Int},ov es=some l->∀i,i<es.length->es.getD i .any=.int .u8 (l.getD i 0)
 |[],l,e,i,h=>by simp at h
 |c::r,l,e,i,h=>by
  obtain⟨n,l',rfl,h1,rfl⟩:=vQ e
  cases i with
  |zero=>rfl
  |succ i=>simpa using uQ h1 i (by simpa using h)
theorem KT{s d t:TypeId}{x:Value}{full:Bool}{es:List PV}{l:List Int}{A:Nat->Prop}(hx:aE w A β h x (.aa full es))(h1:P.underlying s=some (.slice t))(h2:P.underlying d=some .string)(h3:P.underlying t=some (.int .u8))(h4:ov es=some l):
  (convert s d x).run P w=.ok (.string (uc l)) w:=by
 cases hx with
 |val hs=>
  cases hs with
  |gY a cap _ hc=>
   cases h4
   rw[run_convert_bytes_string w s d t a 0 cap h1 h3 h2]
   cases a with
   |none=>simp[Conv.bytesToString];rfl
   |some a=>exact run_bytesToString w a 0 cap [] (by simp[loadCells,loadCellsFrom])
  |aa b off cap sz _ _ pN bN hle hf hA gM hlen ll aay=>
   have hl:=zc h4;have h0:0<es.length:=ac7.2 bN
   have xL:sz=1:=by
    have:=hlen 0 h0;rw[uQ h4 0 h0]at this;exact this.symm
   subst xL
   have hc:∀i,i<es.length->w.cell? ⟨b,off+i,none⟩=some (.int .u8 (l.getD i 0)):=λi hi=>by
    have r1:=ll i 0 hi (by omega);have r2:=aay i 0 hi (by omega);rw[uQ h4 i hi]at r2;simp only[cells,adr]at r2
    cases hv:pN i 0 with
    |int k n=>rw[hv]at r2 r1;cases r2;simpa using r1
    |_=>rw[hv]at r2;cases r2
   exact run_convert_bytes_arg w s t h1 h3 b off es.length cap l hl hc d h2
theorem OL{s d:TypeId}{x:Value}{px r:PV}{A:Nat->Prop}(hx:aE w A β h x px)(e:xq P s d px=some r):
  ∃u,(convert s d x).run P w=.ok u w/\aE w A β h u r:=by
 unfold xq at e
 split at e
 ·rename_i ds k k' n h1 h2
  obtain rfl:=abi e;obtain rfl:=hx.dN;refine⟨_,?_,.val (.int _ _)⟩;simp only[convert,Sem.run_bind,bQ h1,bQ h2,Result.andThen_ok]
  cases ds <;>simp[Conv.intToInt]
 ·rename_i ds st h1 h2
  obtain rfl:=abi e;obtain rfl:=hx.mT;refine⟨_,?_,.val (.str _)⟩;simp only[convert,Sem.run_bind,bQ h1,bQ h2,Result.andThen_ok]
  cases ds <;>simp
 ·rename_i h1 h2
  split at e
  ·rename_i h3 h4
   obtain rfl:=abi e;exact⟨_,KT hx h1 h2 h3 h4,.val (.str _)⟩
  ·cases e
 ·cases e
def tC(w:World)(A:Nat->Prop)(β:List (Nat×Nat))(h:ab):Option Value->Option PV->Prop
 |none,none=>True
 |some v,some p=>aE w A β h v p
 |_,_=>False
theorem fY{A:Nat->Prop}{v:Value}{p:PV}{d t n:Nat}{code:BoundsCode}(hr:aE w A β h v p)(e:cJ (some p) d t=some n):
  n<=t/\∀t',t<=t'->(Instr.sliceBound v t' code).run P w=.ok n w:=by
 unfold cJ at e
 split at e
 ·rename_i hn;cases hn
 ·rename_i k i hp
  obtain rfl:=abi hp;obtain rfl:=hr.dN
  split at e
  ·rename_i hc
   obtain rfl:=abi e;refine⟨by omega,λt' ht=>?_⟩;have tX:0<=i/\i<=(t':Int):=by omega
   simp[Instr.sliceBound,asIntOf,tX]
  ·cases e
 ·cases e
theorem iS{d t n:Nat}(e:cJ none d t=some n):n=d:=by
 simpa[cJ]using e.symm
theorem Ht{A:Nat->Prop}{len cap m b a:Nat}{lo hi mx:Option Value}{plo phi pmx:Option PV}(zP:tC w A β h lo plo)(zQ:tC w A β h hi phi)(GH:tC w A β h mx pmx)
  (hle:len<=cap) (e1:cJ pmx len len=some m) (e2:cJ phi len m=some b) (e3:cJ plo 0 b=some a) (e4:(pmx.isSome&&phi.isNone)=false):
  ∃mc,(Instr.sliceBounds true len cap lo hi mx).run P w=.ok (a,b,mc) w/\a<=b/\b<=len/\b<=mc/\(pmx=none->mc=cap)/\(pmx≠none->mc=m):=by
 have h3:a<=b/\∀c,(match lo with |some v=>Instr.sliceBound v b c |none=>pure 0:Sem Nat).run P w=.ok a w:=by
  cases plo with
  |none=>cases lo with
   |none=>obtain rfl:=iS e3;exact⟨acM _,λc=>rfl⟩
   |some _=>simp[tC]at zP
  |some pl=>cases lo with
   |none=>simp[tC]at zP
   |some vl=>
    refine⟨(fY (P:=P) (code:=.sliceB) (show aE w A β h vl pl from zP) e3).1,λc=>?_⟩;exact(fY (P:=P) (show aE w A β h vl pl from zP) e3).2 _ (abn _)
 cases pmx with
 |none=>
  cases mx with
  |some _=>simp[tC]at GH
  |none=>
   obtain rfl:=iS e1;refine⟨cap,?_,h3.1,?_,?_,λ_=>rfl,λhh=>absurd rfl hh⟩
   ·cases phi with
    |none=>cases hi with
     |none=>
      obtain rfl:=iS e2;simp only[Instr.sliceBounds,Sem.run_bind,Sem.run_pure,Result.andThen_ok];have:=h3.2 .sliceB
      cases lo <;>simp_all
     |some _=>simp[tC]at zQ
    |some ph=>cases hi with
     |none=>simp[tC]at zQ
     |some vh=>
      have hb:=(fY (P:=P) (code:=.sliceAcap) (show aE w A β h vh ph from zQ) e2).2 cap hle;simp only[Instr.sliceBounds,Sem.run_bind,Sem.run_pure,Result.andThen_ok,if_true,hb];have:=h3.2 .sliceB
      cases lo <;>simp_all
   ·cases phi with
    |none=>obtain rfl:=iS e2;exact abn _
    |some ph=>cases hi with
     |none=>simp[tC]at zQ
     |some vh=>exact(fY (P:=P) (code:=.sliceAcap) (show aE w A β h vh ph from zQ) e2).1
   ·cases phi with
    |none=>obtain rfl:=iS e2;exact hle
    |some ph=>cases hi with
     |none=>simp[tC]at zQ
     |some vh=>exact acb (fY (P:=P) (code:=.sliceAcap) (show aE w A β h vh ph from zQ) e2).1 hle
 |some pm=>
  cases mx with
  |none=>simp[tC]at GH
  |some vm=>
   obtain⟨m1,m2⟩:=fY (P:=P) (code:=.slice3Acap) (show aE w A β h vm pm from GH) e1
   cases phi with
   |none=>simp at e4
   |some ph=>cases hi with
    |none=>simp[tC]at zQ
    |some vh=>
     obtain⟨b1,b2⟩:=fY (P:=P) (code:=.slice3B) (show aE w A β h vh ph from zQ) e2;refine⟨m,?_,h3.1,by omega,b1,(λhh=>by cases hh),(λ_=>rfl)⟩;simp only[Instr.sliceBounds,Sem.run_bind,Result.andThen_ok,if_true,m2 cap hle,b2 m (abn _)];have:=h3.2 .slice3C
     cases lo <;>simp_all
theorem ch.uh{A:Nat->Prop}{v:Value}{full:Bool}{es:List PV}(hv:ch w A v (.aa full es)):es=[]\/
  ∃b off cap sz,∃pN:Nat->Nat->Value,v=.slice (some ⟨b,off,none⟩) es.length cap/\¬A b/\0<sz/\(∀i,i<es.length->(Pm.cells (es.getD i .any)).length=sz)/\
   (∀i j,i<es.length->j<sz->w.cell? ⟨b,off+(i * sz+j),none⟩=some (pN i j))/\
   (∀i j,i<es.length->j<sz->ch w A (pN i j) ((Pm.cells (es.getD i .any)).getD j .any)):=by
 cases hv with
 |gY a cap _ hf=>exact .inl rfl
 |aa b off cap sz _ _ pN h1 h2 h3 h4 h5 h6 h7 h8=>exact .inr ⟨b,off,cap,sz,pN,rfl,h4,h5,h6,h7,h8⟩
theorem KU(H:bm w F β h){t:TypeId}{x:Value}{px r:PV}{lo hi mx:Option Value}{plo phi pmx:Option PV}(hx:aE w (Av F h β) β h x px)
  (zP:tC w (Av F h β) β h lo plo) (zQ:tC w (Av F h β) β h hi phi) (GH:tC w (Av F h β) β h mx pmx) (e:cf P h t px plo phi pmx=some r):
  ∃u,(Instr.sliceAt t x lo hi mx).run P w=.ok u w/\aE w (Av F h β) β h u r:=by
 unfold cf at e
 split at e
 ·-- a string
  rename_i s hu
  obtain rfl:=hx.mT
  split at e
  ·cases e
  ·rename_i hm
   obtain rfl:pmx=none:=by simpa using hm
   obtain rfl:mx=none:=by cases mx <;>simp_all[tC]
   split at e
   ·rename_i b hb
    split at e
    ·rename_i a ha
     obtain rfl:=abi e
     have h1:∃dS,(match hi with |some v=>Instr.sliceBound v s.size .sliceAlen |none=>pure s.size:Sem Nat).run P w=.ok b w/\dS=b:=by
      cases phi with
      |none=>cases hi with
       |none=>exact⟨b,by simp[iS hb],rfl⟩
       |some _=>simp[tC]at zQ
      |some ph=>cases hi with
       |none=>simp[tC]at zQ
       |some vh=>exact⟨b,(fY (P:=P) (show aE w _ β h vh ph from zQ) hb).2 _ (abn _),rfl⟩
     have h2:(match lo with |some v=>Instr.sliceBound v b .sliceB |none=>pure 0:Sem Nat).run P w=.ok a w:=by
      cases plo with
      |none=>cases lo with
       |none=>simp[iS ha]
       |some _=>simp[tC]at zP
      |some pl=>cases lo with
       |none=>simp[tC]at zP
       |some vl=>exact(fY (P:=P) (show aE w _ β h vl pl from zP) ha).2 _ (abn _)
     obtain⟨_,h1,_⟩:=h1;refine⟨.string (s.extract a b),?_,.val (.str _)⟩;simp only[Instr.sliceAt,Sem.run_bind,bQ hu,Result.andThen_ok,Instr.slice,Instr.sliceBounds]
     cases hi <;>cases lo <;>simp_all
    ·cases e
   ·cases e
 ·-- a snapshot
  rename_i el full es hu
  split at e
  ·rename_i sz hs
   split at e
   ·rename_i m hm
    split at e
    ·rename_i b hb
     split at e
     ·rename_i a ha
      split at e
      ·rename_i hc
       obtain⟨zM,uI⟩:=hc;obtain rfl:=abi e;obtain⟨ad,cap,rfl,hle,vP⟩:=hx.fN.kG;obtain⟨mc,r1,r2,r3,r4,r5,r6⟩:=Ht (P:=P) zP zQ GH hle hm hb ha zM
       have gp:(Instr.sliceAt t (.slice ad es.length cap) lo hi mx).run P w=.ok (.slice (if mc=a then ad else ad.map (·.add (a * sz))) (b - a) (mc - a)) w:=by
        simp only[Instr.sliceAt,Sem.run_bind,bQ hu,Result.andThen_ok,Instr.slice,r1,cH hs,Sem.run_pure]
       refine⟨_,gp,.val ?_⟩
       have hf':((if pmx.isSome then m==b else full&&b==es.length)=true->mc - a=b - a):=by
        intro hh
        cases pmx with
        |none=>
         simp at hh;have h1:=r5 rfl;have h2:=vP hh.1;omega
        |some pm=>
         simp at hh;have h1:=r6 (by simp);omega
       by_cases PK:b - a=0
       ·rw[PK];have:(es.drop a).take 0=[]:=by simp
        rw[this];exact .gY _ _ _ (λhh=>by have:=hf' hh;omega)
       ·have hmc:mc≠a:=by omega
        rw[if_neg hmc];rcases hx.fN.uh with rfl |⟨b0,off,FZ,Iw,pN,ev,k4,k5,k6,k7,k8⟩
        ·simp at r3;omega
        ·simp at ev;obtain⟨rfl,rfl⟩:=ev
         have gM:Iw=sz:=by
          have:=k6 a (by omega);have Iv:es[a]?=some es[a]:=abo (by omega);rw[Iv]at uI;simp[List.getD,show a<es.length by omega]at this uI;omega
         subst gM;have hlen:((es.drop a).take (b - a)).length=b - a:=by simp;omega
         have wb:∀i,i<b - a->((es.drop a).take (b - a)).getD i .any=es.getD (a+i) .any:=λi hi=>by
          simp[List.getD,abS,hi]
         have:=ch.aa (w:=w) (A:=Av F h β) b0 (off+a * Iw) (mc - a) Iw (if pmx.isSome then m==b else full&&b==es.length) ((es.drop a).take (b - a)) (λi j=>pN (a+i) j)
          (by intro hn;rw[hn]at hlen;simp at hlen;omega) (by rw[hlen];omega) (λhh=>by rw[hlen];exact hf' hh) k4 k5
          (λi hi=>by rw[hlen]at hi;rw[wb i hi];exact k6 (a+i) (by omega))
          (λi j hi hj=>by
           rw[hlen]at hi;have:=k7 (a+i) j (by omega) hj;rw[ab9]at this;rw[show off+a * Iw+(i * Iw+j)=off+(a * Iw+i * Iw+j) by omega];exact this)
          (λi j hi hj=>by rw[hlen]at hi;rw[wb i hi];exact k8 (a+i) j (by omega) hj)
         rw[hlen]at this;simpa[eX]using this
      ·cases e
     ·cases e
    ·cases e
   ·cases e
  ·cases e
 ·-- a reference
  rename_i el id ep off len hu
  split at e
  ·rename_i sz o hs ho
   split at e
   ·rename_i hc
    obtain⟨rfl,hle⟩:=hc;obtain⟨e1,e2,e3⟩:=getM_some ho;obtain⟨bc,QE⟩:=du H.len e1;obtain⟨m1,m2,m3⟩:=hx.dP;obtain⟨cap,rfl,c2⟩:=m3 o bc e1 QE e3 e2 hle;obtain⟨T,ue,k1,k2,k3,k4,k5⟩:=(H.obj id o bc e1 QE e3).c (m2 o e1).2
    split at e
    ·rename_i b KW
     split at e
     ·rename_i a ha
      obtain⟨aaz,kk,ii,aaA,hgt,LX⟩:pmx=none/\∃kk ii,phi=some (.int kk ii)/\(len:Int)<ii/\cJ (some (.int kk ii)) 0 (o.es.length - off)=some b:=by
       unfold beyond at KW
       split at KW
       ·rename_i kk ii
        split at KW
        ·exact⟨rfl,kk,ii,rfl,by assumption,KW⟩
        ·cases KW
       ·cases KW
      subst aaz;subst aaA;obtain⟨mc,r1,r2,r3,r4,r5,r6⟩:=Ht (P:=P) (len:=o.es.length - off) (cap:=cap) (m:=o.es.length - off) zP zQ GH (by omega) rfl LX ha rfl;have aaB:mx=none:=by cases mx with |none=>rfl |some _=>simp[tC]at GH
      subst aaB
      have r1':(Instr.sliceBounds true len cap lo hi none).run P w=.ok (a,b,mc) w:=by
       cases hi with
       |none=>simp[tC]at zQ
       |some vh=>exact r1
      have gp:(Instr.sliceAt t (.slice (some ⟨bc.1,off * o.bM,none⟩) len cap) lo hi none).run P w=.ok (.slice (if mc=a then some ⟨bc.1,off * o.bM,none⟩else some ⟨bc.1,off * o.bM+a * o.bM,none⟩) (b - a) (mc - a)) w:=by
       simp only[Instr.sliceAt,Sem.run_bind,bQ hu,Result.andThen_ok,Instr.slice,r1',cH hs,Sem.run_pure,abw,eX]
      refine⟨_,gp,?_⟩;have h1:=r5 rfl
      split at e
      ·rename_i TN
       subst TN;obtain rfl:=abi e;refine .ak _ id ep off b o bc ⟨_,_,_,rfl⟩ e1 QE e3 (m2 o e1) (λ_ _=>?_);exact⟨cap,by rw[h1];split <;>simp,c2⟩
      ·rename_i TN
       split at e
       ·rename_i hz
        obtain rfl:=abi e;rw[hz];exact .val (.gY _ _ _ (λhh=>by cases hh))
       ·rename_i hz
        obtain rfl:=abi e;rw[if_neg (by omega)];refine .ak _ id ep (off+a) (b - a) o bc ⟨_,_,_,rfl⟩ e1 QE e3 (m2 o e1) (λ_ _=>?_);exact⟨cap - a,by rw[h1,ab9],by omega⟩
     ·cases e
    split at e
    ·rename_i m hm
     split at e
     ·rename_i b hb
      split at e
      ·rename_i a ha
       split at e
       ·rename_i zM
        obtain⟨mc,r1,r2,r3,r4,r5,r6⟩:=Ht (P:=P) (cap:=cap) zP zQ GH (by omega) hm hb ha zM
        have gp:(Instr.sliceAt t (.slice (some ⟨bc.1,off * o.bM,none⟩) len cap) lo hi mx).run P w=.ok (.slice (if mc=a then some ⟨bc.1,off * o.bM,none⟩else some ⟨bc.1,off * o.bM+a * o.bM,none⟩) (b - a) (mc - a)) w:=by
         simp only[Instr.sliceAt,Sem.run_bind,bQ hu,Result.andThen_ok,Instr.slice,r1,cH hs,Sem.run_pure,abw,eX]
        refine⟨_,gp,?_⟩
        split at e
        ·rename_i hms
         split at e
         ·rename_i hma
          obtain rfl:=abi e;have h1:=r6 (by intro hh;rw[hh]at hms;simp at hms);have:b - a=0:=by omega
          rw[this];exact .val (.gY _ _ _ (λ_=>by omega))
         ·obtain rfl:=abi e;exact .any _
        ·rename_i hms
         have h1:=r5 (by cases pmx <;>simp_all)
         split at e
         ·rename_i TN
          subst TN;obtain rfl:=abi e;refine .ak _ id ep off b o bc ⟨_,_,_,rfl⟩ e1 QE e3 (m2 o e1) (λ_ _=>?_);exact⟨cap,by rw[h1];split <;>simp,c2⟩
         ·rename_i TN
          split at e
          ·rename_i hz
           obtain rfl:=abi e;rw[hz];exact .val (.gY _ _ _ (λhh=>by cases hh))
          ·rename_i hz
           obtain rfl:=abi e;rw[if_neg (by omega)];refine .ak _ id ep (off+a) (b - a) o bc ⟨_,_,_,rfl⟩ e1 QE e3 (m2 o e1) (λ_ _=>?_);exact⟨cap - a,by rw[h1,ab9],by omega⟩
       ·cases e
      ·cases e
     ·cases e
    ·cases e
   ·cases e
  ·cases e
 ·cases e
theorem KX(l:List Value):∀(i off:Nat) (cs:Array Value),off+i+l.length<=cs.size->
  ((l.zipIdx i).foldl (λcs (x:Value×Nat)=>cs.setIfInBounds (off+x.2) x.1) cs).size=cs.size/\
  ∀k,((l.zipIdx i).foldl (λcs (x:Value×Nat)=>cs.setIfInBounds (off+x.2) x.1) cs)[k]?=if off+i<=k/\k<off+i+l.length then l[k - (off+i)]? else cs[k]?:=by
 induction l with
 |nil=>intro i off cs _;exact⟨rfl,λk=>by rw[if_neg (by simp only[abX];omega)];rfl⟩
 |cons v r ih=>
  intro i off cs hl
  simp only[abx]at hl;obtain⟨h1,h2⟩:=ih (i+1) off (cs.setIfInBounds (off+i) v) (by simp;omega);refine⟨by simpa[List.zipIdx_cons]using h1,λk=>?_⟩;rw[List.zipIdx_cons,List.foldl_cons,h2 k]
  by_cases hA:off+i=k
  ·subst hA;rw[if_neg (by omega),if_pos (by simp only[abx];omega)];rw[Array.getElem?_setIfInBounds_self_of_lt (by omega)];simp
  ·by_cases hB:off+(i+1)<=k/\k<off+(i+1)+r.length
   ·rw[if_pos hB,if_pos (by simp only[abx];omega)];obtain⟨m,hm⟩:∃m,k - (off+i)=m+1:=⟨k - (off+i) - 1,by omega⟩;rw[hm,List.getElem?_cons_succ]
    congr 1
    omega
   ·rw[if_neg hB,if_neg (by simp only[abx];omega),Array.getElem?_setIfInBounds_ne hA]
theorem EV(v:Value)(off:Nat)(cs:Array Value)(hl:off+v.cells.size<=cs.size):
  (v.cells.zipIdx.foldl (λcs (x:Value×Nat)=>cs.setIfInBounds (off+x.2) x.1) cs).size=cs.size/\
  ∀k,(v.cells.zipIdx.foldl (λcs (x:Value×Nat)=>cs.setIfInBounds (off+x.2) x.1) cs)[k]?=if off<=k/\k<off+v.cells.size then v.cells[k - off]? else cs[k]?:=by
 have:=KX v.cells.toList 0 off cs (by simpa using hl);simp only[acY,acL,abQ]at this;rw[<-Array.foldl_toList,Array.toList_zipIdx];exact this
def nr(w:World)(A:Nat->Prop)(β:List (Nat×Nat))(h:ab)(vs:List (Nat×Value))(ps:List (Nat×PV)):Prop:=
 vs.length=ps.length/\∀(k:Nat) (x:Nat×PV),ps[k]?=some x->∃v:Value,vs[k]?=some (x.1,v)/\aE w A β h v x.2
theorem nr.Jb{A:Nat->Prop}{vs:List (Nat×Value)}(r:nr w A β h vs []):vs=[]:=abA r.1
theorem nr.cons_inv{A:Nat->Prop}{vs:List (Nat×Value)}{x:Nat×PV}{ps:List (Nat×PV)}(r:nr w A β h vs (x::ps)):∃v Hu,vs=(x.1,v)::Hu/\aE w A β h v x.2/\nr w A β h Hu ps:=by
 obtain⟨h1,h2⟩:=r;obtain⟨v,h3,h4⟩:=h2 0 x rfl
 match vs,h1,h3 with
 |y::Hu,h1,h3=>
  simp at h3;subst h3;exact⟨v,Hu,rfl,h4,by simpa using h1,λk x hx=>by simpa using h2 (k+1) x (by simpa using hx)⟩
def zd(w:World)(A:Nat->Prop)(β:List (Nat×Nat))(h:ab)(cs:Array Value)(ps:List PV):Prop:=
 cs.size=ps.length/\∀(k:Nat) (q:PV),ps[k]?=some q->∃u:Value,cs[k]?=some u/\aE w A β h u q
theorem EW{A:Nat->Prop}{pl:Nat->Option (Nat×Nat)}{pl':Nat->Option (Nat×Nat)}(kH:∀i x,pl i=some x->pl' i=some x):∀(ps:List (Nat×PV)) (vs:List (Nat×Value)) (cs:Array Value) (cps r:List PV),
  nr w A β h vs ps->zd w A β h cs cps->kC pl cps ps=some r->∃jH,Instr.fill pl' cs vs=some jH/\zd w A β h jH r:=by
 intro ps
 induction ps with
 |nil=>
  intro vs cs cps r hp hc e
  obtain rfl:=hp.Jb;simp[kC]at e;subst e;exact⟨cs,by simp[Instr.fill],hc⟩
 |cons x ps ih=>
  intro vs cs cps r hp hc e
  obtain⟨v,Hu,rfl,h1,h2⟩:=hp.cons_inv;obtain⟨i,p⟩:=x;simp only[kC]at e
  split at e
  ·cases e
  ·rename_i off size hi
   split at e
   ·rename_i FE
    obtain⟨c1,c2,c3⟩:=FE;obtain⟨x1,x2⟩:=h1.cells c2;simp only at x1 x2 c1;have gM:=hc.1;obtain⟨f1,f2⟩:=EV v off cs (by omega)
    obtain⟨jH,g1,g2⟩:=ih Hu _ (sD cps off (Pm.cells p)) r h2 (by
     refine⟨by rw[f1];simp[sD];omega,λk q hq=>?_⟩;rw[sD,gK _ _ _ _ (by omega)]at hq;rw[f2 k]
     by_cases hA:k<off
     ·rw[if_pos hA]at hq;obtain⟨u,m1,m2⟩:=hc.2 k q hq;exact⟨u,by rw[if_neg (by omega)];exact m1,m2⟩
     ·rw[if_neg hA]at hq
      by_cases hB:k<off+(Pm.cells p).length
      ·rw[if_pos hB]at hq;obtain⟨u,m1,m2,_⟩:=x2 _ q hq;exact⟨u,by rw[if_pos (by omega)];exact m1,m2⟩
      ·rw[if_neg hB]at hq;obtain⟨u,m1,m2⟩:=hc.2 k q hq;exact⟨u,by rw[if_neg (by omega)];exact m1,m2⟩) e
    refine⟨jH,?_,g2⟩;simp only[Instr.fill,kH i _ hi];rw[if_neg (by simp;omega)];exact g1
   ·cases e
theorem EX(fs:Array Field)(eK:fs.toList.all (λf=>(cA P f.type).isSome)=true)(w:World):
  ∃pl:Array (Nat×Nat),(fs.mapM (λf=>do pure (f.offset,<-sizeOf f.type)):Sem (Array (Nat×Nat))).run P w=.ok pl w/\∀i x,iV P fs i=some x->pl[i]?=some x:=by
 have main:∀(l:List Field),l.all (λf=>(cA P f.type).isSome)=true->
   ∃pl:List (Nat×Nat),(l.mapM (λf=>do pure (f.offset,<-sizeOf f.type)):Sem (List (Nat×Nat))).run P w=.ok pl w/\∀(i:Nat) (f:Field),l[i]?=some f->∃s,cA P f.type=some s/\pl[i]?=some (f.offset,s):=by
  intro l
  induction l with
  |nil=>intro _;exact⟨[],by simp,λi f hf=>by simp at hf⟩
  |cons f r ih=>
   intro ha
   simp at ha;obtain⟨s,hs⟩:=adx.1 ha.1;obtain⟨pl,h1,h2⟩:=ih (by simpa using ha.2);refine⟨(f.offset,s)::pl,?_,λi g hg=>?_⟩
   ·simp only[List.mapM_cons,Sem.run_bind,cH hs,Result.andThen_ok,Sem.run_pure,h1]
   ·cases i with
    |zero=>simp at hg;subst hg;exact⟨s,hs,rfl⟩
    |succ i=>simpa using h2 i g (by simpa using hg)
 obtain⟨pl,h1,h2⟩:=main fs.toList eK;refine⟨pl.toArray,?_,λi x hx=>?_⟩
 ·rw[<-Array.toArray_toList (xs:=fs),List.mapM_toArray];simp only[Sem.run_map,h1,Result.andThen_ok]
 ·unfold iV at hx
  split at hx
  ·rename_i f hf
   obtain⟨s,g1,g2⟩:=h2 i f (by simpa using hf);rw[g1]at hx;simp at hx;subst hx;simpa using g2
  ·cases hx
theorem zd.agg{A:Nat->Prop}{cs:Array Value}{ps:List PV}(r:zd w A β h cs ps):aE w A β h (.agg cs) (.agg ps):=by
 have:=aE.agg (w:=w) (A:=A) (β:=β) (h:=h) cs.toList ps (by simpa using r.1) (λj hj=>by
  obtain⟨u,m1,m2⟩:=r.2 j ps[j] (abo hj);have e1:cs.toList.getD j Go.undef=u:=by simp[List.getD,m1]
  have e2:ps.getD j .any=ps[j]:=by simp[List.getD,hj]
  rw[e1,e2];exact m2)
 simpa using this
theorem vR{A:Nat->Prop}{t:TypeId}{z:PV}(e:jq P t=some z)(h1:(Pm.cells z).all bH=true)(w:World)(β:List (Nat×Nat))(h:ab):∃v,(∀w,(zeroValue t).run P w=.ok v w)/\zd w A β h v.cells (Pm.cells z):=by
 obtain⟨v,z1,z2⟩:=jW (P:=P) e;obtain⟨x1,x2⟩:=(z2 w A β h).cells h1;exact⟨v,z1,x1,λk q hq=>by obtain⟨u,m1,m2,_⟩:=x2 k q hq;exact⟨u,m1,m2⟩⟩
theorem KY{A:Nat->Prop}{t:TypeId}{vs:Array (Nat×Value)}{ps:List (Nat×PV)}{r:PV}(hp:nr w A β h vs.toList ps)(e:xp P t ps=some r):
  ∃u,(Instr.build t vs).run P w=.ok u w/\aE w A β h u r:=by
 unfold xp at e
 split at e
 ·rename_i z fs hz hu
  split at e
  ·rename_i eK
   obtain⟨eK,uI⟩:=eK
   cases hf:kC (iV P fs) (Pm.cells z) ps with
   |none=>rw[hf]at e;simp at e
   |some q=>
    rw[hf]at e;simp at e;subst e;obtain⟨v,z1,z2⟩:=vR (P:=P) (A:=A) hz uI w β h;obtain⟨pl,p1,p2⟩:=EX fs eK w;obtain⟨jH,g1,g2⟩:=EW (pl':=λi=>pl[i]?) p2 ps vs.toList v.cells (Pm.cells z) q hp z2 hf;refine⟨.agg jH,?_,g2.agg⟩;simp only[Instr.build,Sem.run_bind,z1,Result.andThen_ok,bQ hu,p1,g1,Sem.run_pure]
  ·cases e
 ·rename_i z n el hz hu
  split at e
  ·rename_i size hs
   split at e
   ·rename_i uI
    cases hf:kC (λi=>some (i * size,size)) (Pm.cells z) ps with
    |none=>rw[hf]at e;simp at e
    |some q=>
     rw[hf]at e;simp at e;subst e;obtain⟨v,z1,z2⟩:=vR (P:=P) (A:=A) hz uI w β h;obtain⟨jH,g1,g2⟩:=EW (pl':=λi=>some (i * size,size)) (λ_ _ hx=>hx) ps vs.toList v.cells (Pm.cells z) q hp z2 hf;refine⟨.agg jH,?_,g2.agg⟩;simp only[Instr.build,Sem.run_bind,z1,Result.andThen_ok,bQ hu,cH hs,g1,Sem.run_pure]
   ·cases e
  ·cases e
 ·cases e
theorem Flat.set{A:Nat->Prop}{sz:Nat}{cs jH:Array Value}{es:List PV}(a:Flat w A β h sz cs.toList es){v:Value}{p:PV}(hv:aE w A β h v p)(h1:(Pm.cells p).length=sz)(h2:(Pm.cells p).all bH=true)
  (i:Nat) (hi:i<es.length) (gM:jH.size=cs.size) (hk:∀k,jH[k]?=if i * sz<=k/\k<i * sz+v.cells.size then v.cells[k - i * sz]? else cs[k]?):Flat w A β h sz jH.toList (es.set i p):=by
 obtain⟨x1,x2⟩:=hv.cells h2;refine⟨by have:=a.1;simp at this ⊢;omega,λk e he=>?_⟩
 by_cases Ta:k=i
 ·subst Ta;rw[abl hi]at he;obtain rfl:=abi he;refine⟨h1,λj q hq=>?_⟩;have hj:=ag hq;obtain⟨u,m1,m2,_⟩:=x2 j q hq;refine⟨u,?_,m2⟩;rw[abQ,hk,if_pos (by omega),show k * sz+j - k * sz=j by omega];exact m1
 ·rw[abm (acd Ta)]at he;obtain⟨n1,n2⟩:=a.2 k e he;refine⟨n1,λj q hq=>?_⟩;have hj:=ag hq;obtain⟨u,m1,m2⟩:=n2 j q hq;refine⟨u,?_,m2⟩;rw[abQ,hk,if_neg]
  ·simpa using m1
  ·rcases Nat.lt_or_gt_of_ne Ta with hl |hg
   ·have:=lf (s:=sz) hl;omega
   ·have:=lf (s:=sz) hg;omega
theorem KZ{A:Nat->Prop}{sz:Nat}:∀(ps:List (Nat×PV)) (vs:List (Nat×Value)) (cs:Array Value) (es:List PV),nr w A β h vs ps->Flat w A β h sz cs.toList es->
  (∀x∈ps,(Pm.cells x.2).length=sz/\(Pm.cells x.2).all bH=true/\x.1<es.length)->
  ∃jH,Instr.fill (λi=>some (i * sz,sz)) cs vs=some jH/\Flat w A β h sz jH.toList (ps.foldl (λes x=>es.set x.1 x.2) es):=by
 intro ps
 induction ps with
 |nil=>
  intro vs cs es hp hf _
  obtain rfl:=hp.Jb;exact⟨cs,by simp[Instr.fill],hf⟩
 |cons x ps ih=>
  intro vs cs es hp hf eK
  obtain⟨v,Hu,rfl,h1,h2⟩:=hp.cons_inv;obtain⟨c1,c2,c3⟩:=eK x (by simp);obtain⟨x1,_⟩:=h1.cells c2;have hl:=hf.1;have hm:=lf (s:=sz) c3;simp at hl;obtain⟨f1,f2⟩:=EV v (x.1 * sz) cs (by omega);have hf':=hf.set h1 c1 c2 x.1 c3 f1 f2
  obtain⟨jH,g1,g2⟩:=ih Hu _ _ h2 hf' (λy hy=>by
   obtain⟨d1,d2,d3⟩:=eK y (by simp[hy]);exact⟨d1,d2,by simpa using d3⟩)
  refine⟨jH,?_,g2⟩;simp only[Instr.fill];rw[if_neg (by simp;omega)];exact g1
theorem Flat.aa{A:Nat->Prop}{sz:Nat}{cs:List Value}{es:List PV}(a:Flat w A β h sz cs es)(hs:0<sz)(hv:ar es=true){w':World}{A':Nat->Prop}{b cap:Nat}{full:Bool}
  (hw:∀k,k<w.heap.size->¬A k->w'.heap[k]?=w.heap[k]?) (hA:∀k,k<w.heap.size->¬A k->¬A' k) (hb:¬A' b) (hc:∀(k:Nat) (u:Value),cs[k]?=some u->w'.cell? ⟨b,k,none⟩=some u) (Cs:es.length<=cap) (vP:full=true->cap=es.length):
  ch w' A' (.slice (some ⟨b,0,none⟩) es.length cap) (.aa full es):=by
 by_cases hn:es=[]
 ·subst hn;exact .gY _ _ _ (λhh=>by simpa using vP hh)
 ·have isv:∀(l:List PV),ar l=true->∀e∈l,aW e=true:=by
   intro l
   induction l with
   |nil=>intro _ e he;cases he
   |cons c r ih=>
    intro hl e he
    simp[ar]at hl;rcases abu.1 he with rfl |he
    ·exact hl.1
    ·exact ih hl.2 e he
  have JD:∀(e:PV),aW e=true->∀q∈Pm.cells e,aW q=true:=by
   intro e he q hq
   cases e <;>first
    |(simp only[Pm.cells,abP]at hq;subst hq;exact he)
    |(simp[aW]at he;exact isv _ he q hq)
  have at_:∀i j,i<es.length->j<sz->∃u,cs[i * sz+j]?=some u/\ch w A u ((Pm.cells (es.getD i .any)).getD j .any):=by
   intro i j hi hj
   have he:=abo hi;obtain⟨n1,n2⟩:=a.2 i _ he;have hq:=abo (show j<(Pm.cells es[i]).length by omega);obtain⟨u,m1,m2⟩:=n2 j _ hq;have e1:es.getD i .any=es[i]:=by simp[List.getD,hi]
   refine⟨u,m1,?_⟩;rw[e1];have e2:(Pm.cells es[i]).getD j .any=(Pm.cells es[i])[j]'(by omega):=by simp[List.getD,hq]
   rw[e2];exact m2.JE (JD _ (isv es hv _ (abV hi)) _ (abV _))
  refine .aa b 0 cap sz full es (λi j=>cs.getD (i * sz+j) Go.undef) hn Cs vP hb hs (λi hi=>?_) (λi j hi hj=>?_) (λi j hi hj=>?_)
  ·have e1:es.getD i .any=es[i]:=by simp[List.getD,hi]
   rw[e1];exact(a.2 i _ (abo hi)).1
  ·obtain⟨u,m1,m2⟩:=at_ i j hi hj;rw[abE,hc _ u m1];simp[List.getD,m1]
  ·obtain⟨u,m1,m2⟩:=at_ i j hi hj;have:cs.getD (i * sz+j) Go.undef=u:=by simp[List.getD,m1]
   rw[this];exact m2.mono hw hA
theorem ze(H:bm w F β h){lv:Nat}{t:TypeId}{n:Nat}{vs:Array (Nat×Value)}{ps:List (Nat×PV)}{r:PV}{h':ab}(hp:nr w (Av F h β) β h vs.toList ps)(e:dB P lv h t n ps=some (r,h')):
  Cn P lv w F β h (Instr.buildSlice t n vs) r h':=by
 unfold dB at e
 split at e
 ·rename_i el hu
  split at e
  ·rename_i size z hs hz
   split at e
   ·rename_i hc
    obtain⟨ni,VB,Ty,Gy,eK⟩:=hc;obtain⟨vz,z1,z2⟩:=jW (P:=P) hz;obtain⟨s1,s2⟩:=qX (z2 w (Av F h β) β h) Ty Gy ni n
    obtain⟨jH,g1,g2⟩:=KZ (sz:=size) ps vs.toList (List.map (λi=>vz.cells[i % vz.cells.size]!) (List.range (n * size))).toArray (List.replicate n z) hp (by simpa using s2) (λx hx=>by
     have:=abk.1 eK x hx;simp only[abq,decide_eq_true_eq]at this;exact⟨this.1.1,this.1.2,by simpa using this.2⟩)
    have aaC:ps.foldl (λes x=>es.set x.1 x.2) (List.replicate n z)=zS z n ps:=rfl;rw[aaC]at g2
    have tY:(zS z n ps).length=n:=by
     have:∀(l:List (Nat×PV)) (es:List PV),(l.foldl (λes x=>es.set x.1 x.2) es).length=es.length:=by
      intro l
      induction l with
      |nil=>intro es;rfl
      |cons x l ih=>intro es;rw[List.foldl_cons,ih];simp
     unfold zS;rw[this];simp
    have gp:(Instr.buildSlice t n vs).run P w=.ok (.slice (some ⟨w.heap.size,0,none⟩) n n) (w.alloc (.cells jH el)):=by
     simp only[Instr.buildSlice,Sem.run_bind,bQ hu,Result.andThen_ok,cH hs,Sem.run_ite];rw[if_neg (by omega)]
     by_cases h0:n * size=0
     ·have hnn:n=0:=by
       rcases Nat.mul_eq_zero.1 h0 with h |h
       ·exact h
       ·omega
      subst hnn;simp only[h0,if_true,Sem.run_pure,Result.andThen_ok,gU,List.range_zero,abM]at g1 ⊢;rw[g1];simp only[Sem.run_bind,newRow,run_newObj,Result.andThen_ok,Sem.run_pure]
      rfl
     ·simp only[h0,if_false,z1,Result.andThen_ok,Sem.run_pure,gU];rw[g1];simp only[Sem.run_bind,newRow,run_newObj,Result.andThen_ok,Sem.run_pure]
      rfl
    split at e
    ·rename_i hv
     obtain⟨rfl,rfl⟩:=abv (abi e);refine⟨_,_,β,gp,.val ?_,H.Mq (dH.alloc w _),(dH.alloc w _).SZ h β,λ_=>dH.alloc w _⟩
     have:=g2.aa (w':=w.alloc (.cells jH el)) (A':=Av F h β) (b:=w.heap.size) (cap:=n) (full:=true) ni hv (λk hk _=>heap_alloc_old w _ k hk) (λk _ hk=>hk)
      (λhm=>by have:=Av.lt H hm;omega) (λk u hku=>by rw[World.cell?_alloc_new];simpa using hku) (by omega) (λ_=>by omega)
     rwa[tY]at this
    ·rename_i hv
     split at e
     ·obtain⟨rfl,rfl⟩:=abv (abi e)
      obtain⟨HH,S⟩:=bm.new H (w':=w.alloc (.cells jH el)) el jH {mu:=.m,ep:=0,bM:=size,es:=zS z n ps} n rfl rfl rfl rfl rfl (by simp[tY])
       (by have:=g2.1;simp[tY]at this;simp[this]) ni (λi e he=>by
        obtain⟨n1,n2⟩:=g2.2 i e he;exact⟨n1,λj p hp=>by obtain⟨u,m1,m2⟩:=n2 j p hp;exact⟨u,by simpa using m1,m2⟩⟩)
      exact⟨_,_,_,gp,H.xa,HH,S,λ_=>dH.alloc w _⟩
     ·cases e
   ·cases e
  ·cases e
 ·cases e
open Go.MapKept
theorem I7{A:Nat->Prop}{t:TypeId}{k:PV}{v:Value}(hk:zT P t k=true)(hv:aE w A β h v k):∃d,P.underlying t=some d/\IsKey d v/\∀(k':PV) (v':Value) (b:Bool),ve k k'=some b->aE w A β h v' k'->Instr.sameNow d v v'=some b/\(b=true->Instr.sameBits 10000 v' v=true/\aE w A β h v k'):=by
 unfold zT at hk
 split at hk
 ·rename_i kd k n hu
  obtain rfl:=hv.dN;have hk:=of_decide_eq_true hk;refine⟨_,hu,by simpa[IsKey]using hk,λk' v' b hs C5=>?_⟩
  cases k' <;>simp only[ve]at hs <;>try(cases hs;done)
  obtain rfl:=C5.dN
  split at hs
  ·rename_i hkk
   subst hkk;obtain rfl:=abi hs;refine⟨by simp[Instr.sameNow],λhb=>?_⟩;have:=eq_of_beq hb;subst this;exact⟨by simp[Instr.sameBits],hv⟩
  ·cases hs
 ·rename_i s hu
  obtain rfl:=hv.mT;refine⟨_,hu,by simp[IsKey],λk' v' b hs C5=>?_⟩
  cases k' <;>simp only[ve]at hs <;>try(cases hs;done)
  obtain rfl:=C5.mT;obtain rfl:=abi hs;refine⟨by simp[Instr.sameNow],λhb=>?_⟩;have:=(bytes_beq _ _).1 hb;subst this;exact⟨by simp only[Instr.sameBits];exact hb,hv⟩
 ·rename_i b hu
  obtain rfl:=hv.gG;refine⟨_,hu,by simp[IsKey],λk' v' b hs C5=>?_⟩
  cases k' <;>simp only[ve]at hs <;>try(cases hs;done)
  obtain rfl:=C5.gG;obtain rfl:=abi hs;refine⟨by simp[Instr.sameNow],λhb=>?_⟩;have:=eq_of_beq hb;subst this;exact⟨by simp[Instr.sameBits],hv⟩
 ·cases hk
def EsR(w:World)(A:Nat->Prop)(β:List (Nat×Nat))(h:ab)(l:List MapEntry)(ps:List PV):Prop:=
 l.length=ps.length/\∀(i:Nat) (e:PV),ps[i]?=some e->∃(k v:PV) (m:MapEntry),e=.agg [k,v]/\l[i]?=some m/\aE w A β h m.key k/\aE w A β h m.val v
theorem qi{A:Nat->Prop}{d:TypeDesc}{k:PV}{v:Value}(hs:∀(k':PV) (v':Value) (b:Bool),ve k k'=some b->aE w A β h v' k'->Instr.sameNow d v v'=some b/\(b=true->Instr.sameBits 10000 v' v=true/\aE w A β h v k')):
  ∀(l:List MapEntry) (ps:List PV) (n:Nat) (r:Option (Nat×PV)),EsR w A β h l ps->ru k ps n=some r->
   match r with
   |none=>Instr.findNow d v l n=some none
   |some (j,p)=>∃(i:Nat) (m:MapEntry) (k':PV),j=n+i/\l[i]?=some m/\ps[i]?=some (.agg [k',p])/\Instr.findNow d v l n=some (some (j,m.val))/\aE w A β h m.val p/\Instr.sameBits 10000 m.key v=true/\aE w A β h v k'
 |[],ps,n,r,hR,e=>by
  obtain⟨h1,_⟩:=hR;have:ps=[]:=List.length_eq_zero_iff.1 h1.symm;subst this;simp only[ru]at e;obtain rfl:=abi e
  rfl
 |m::l,[],n,r,hR,e=>by
  obtain⟨h1,_⟩:=hR;simp at h1
 |m::l,p0::ps,n,r,hR,e=>by
  obtain⟨h1,h2⟩:=hR;obtain⟨k0,v0,m0,rfl,hm,P4,Dw⟩:=h2 0 p0 rfl;simp at hm;subst hm
  have hT:EsR w A β h l ps:=⟨by simpa using h1,λi e he=>by
   obtain⟨k1,v1,m1,g1,g2,g3⟩:=h2 (i+1) e (by simpa using he);exact⟨k1,v1,m1,g1,by simpa using g2,g3⟩⟩
  simp only[ru]at e
  split at e
  ·rename_i z7
   obtain rfl:=abi e;obtain⟨q1,q2⟩:=hs k0 m.key true z7 P4;obtain⟨q3,q4⟩:=q2 rfl;exact⟨0,m,k0,rfl,rfl,rfl,by simp[Instr.findNow,q1],Dw,q3,q4⟩
  ·rename_i z7
   obtain⟨q1,_⟩:=hs k0 m.key false z7 P4;have:=qi hs l ps (n+1) r hT e;have hf:Instr.findNow d v (m::l) n=Instr.findNow d v l (n+1):=by simp[Instr.findNow,q1]
   cases r with
   |none=>simpa[hf]using this
   |some jp=>
    obtain⟨j,p⟩:=jp;obtain⟨i,m1,k1,g1,g2,g3,g4,g5⟩:=this;exact⟨i+1,m1,k1,by omega,by simpa using g2,by simpa using g3,by rw[hf];exact g4,g5⟩
  ·cases e
theorem Oy{A:Nat->Prop}{es:Array MapEntry}{ps:List PV}(h1:es.size=ps.length)(h2:∀(i:Nat) (e:PV),ps[i]?=some e->∃(k v:PV) (m:MapEntry),e=.agg [k,v]/\es[i]?=some m/\aE w A β h m.key k/\aE w A β h m.val v):
  EsR w A β h es.toList ps:=⟨by simpa using h1,λi e he=>by
 obtain⟨k,v,m,g1,g2,g3⟩:=h2 i e he;exact⟨k,v,m,g1,by simpa using g2,g3⟩⟩
theorem Hj(H:bm w F β h){vm vk:Value}{m k q:PV}{t:TypeId}{ok:Bool}(hm:aE w (Av F h β) β h vm m)(hk:aE w (Av F h β) β h vk k)(e:oz P h t m k ok=some q):
  ∃u,(Instr.lookup t vm vk ok).run P w=.ok u w/\aE w (Av F h β) β h u q:=by
 unfold oz at e
 split at e
 ·rename_i kt et hu
  split at e
  ·rename_i z hz
   split at e
   ·rename_i cT
    obtain⟨d,hd,FV,EI⟩:=I7 cT hk;obtain⟨vz,z1,z2⟩:=uP hz w (Av F h β) β h
    have QI:∀{u:Value} {p:PV} (b:Bool),aE w (Av F h β) β h u p->aE w (Av F h β) β h (if ok then .tuple #[u,.bool b]else u) (fI ok p b):=by
     intro u p b hr
     unfold fI
     cases ok
     ·exact hr
     ·exact .ct [u,.bool b] [p,.bool b] rfl (λj hj=>by
       match j,hj with
       |0,_=>exact hr
       |1,_=>exact .val (.bool b))
    split at e
    ·obtain rfl:=abi e;obtain rfl:=hm.EJ;refine⟨_,?_,QI false z2⟩;simp only[Instr.lookup,Sem.run_bind,bQ hu,Result.andThen_ok,Sem.run_pure,run_checkKey hd FV,run_findKey (l:=(#[]:Array MapEntry).toList) hd (a:=none) rfl,z1]
    ·rename_i id
     split at e
     ·rename_i o ho
      obtain⟨bc,es,clock,rfl,k2,k3,k4⟩:=Oz H hm ho;have hE:=Oy k3 k4
      split at e
      ·rename_i j p hf
       obtain rfl:=abi e;obtain⟨i,me,k',g1,g2,g3,g4,g5,g6⟩:=qi EI es.toList o.es 0 _ hE hf;refine⟨_,?_,QI true g5⟩;simp only[Instr.lookup,Sem.run_bind,bQ hu,Result.andThen_ok,Sem.run_pure,mn k2,run_checkKey hd FV,run_findKey hd g4]
      ·rename_i hf
       obtain rfl:=abi e;have g4:=qi EI es.toList o.es 0 _ hE hf;refine⟨_,?_,QI false z2⟩;simp only[Instr.lookup,Sem.run_bind,bQ hu,Result.andThen_ok,Sem.run_pure,mn k2,run_checkKey hd FV,run_findKey hd g4,z1]
      ·cases e
     ·cases e
    ·cases e
   ·cases e
  ·cases e
 ·cases e
theorem EK{lv:Nat}(H:bm w F β h){t:TypeId}{r:Option PV}{vr:Option Value}(hr:tC w (Av F h β) β h vr r){p:PV}{h':ab}(e:nu P lv h t r=some (p,h')):Cn P lv w F β h (Instr.makeMap t vr) p h':=by
 obtain⟨H1,S1⟩:=H.Vj
 have hv:aE (w.alloc (.map #[] 0)) (Av F (newObj h 0 []) (β++[(w.heap.size,0)])) (β++[(w.heap.size,0)]) (newObj h 0 []) (.map (some w.heap.size)) (.cD h.length):=
  .cD _ _ {mu:=.m,ep:=0,bM:=0,es:=[]} (w.heap.size,0) ⟨_,rfl⟩ (by simp[newObj]) (by rw[<-H.len];simp) (by simp) (λ_=>rfl)
 unfold nu at e
 split at e
 ·split at e
  ·obtain⟨rfl,rfl⟩:=abv (abi e)
   cases vr with
   |some v=>exact hr.elim
   |none=>exact⟨_,_,_,rfl,hv,H1,S1,λ_=>dH.alloc w _⟩
  ·rename_i k n kt et hu
   obtain⟨rfl,rfl⟩:=abv (abi e)
   cases vr with
   |none=>exact hr.elim
   |some v=>
    obtain rfl:=aE.dN hr;refine⟨_,_,_,?_,hv,H1,S1,λ_=>dH.alloc w _⟩;simp[Instr.makeMap,bQ hu,asInt,asIntOf]
  ·cases e
 ·cases e
theorem yO(H:bm w F β h){vm vk vx:Value}{m k x:PV}{t:TypeId}{h':ab}(hm:aE w (Av F h β) β h vm m)(hk:aE w (Av F h β) β h vk k)(hx:aE w (Av F h β) β h vx x)(e:oA P h t m k x=some h'):
  ∃w' β',(Instr.mapUpdate t vm vk vx).run P w=.ok () w'/\bm w' F β' h'/\eg w h β w' h' β':=by
 unfold oA at e
 split at e
 ·rename_i kt et id hu
  split at e
  ·rename_i o ho
   split at e
   ·rename_i hc
    obtain⟨cT,Aa⟩:=hc;obtain⟨e1,e2,e3,e4⟩:=By ho;obtain⟨bc,hb⟩:=du H.len e1;obtain⟨_,es,clock,k2,k3,k4⟩:=(H.obj id o bc e1 hb e3).m e4;obtain rfl:=hm.EL e1 hb e2;have hE:=Oy k3 k4;obtain⟨d,hd,FV,EI⟩:=I7 cT hk;have cG:=(abL.1 k2).1
    have hβ:β=β.set id bc:=by
     apply acr
     intro j
     by_cases hj:j=id
     ·subst hj;rw[abl (by have:=H.len;have:=ag e1;omega)];exact hb
     ·rw[abm (acd hj)]
    have fin:∀(dL:Array MapEntry) (clock2:Nat) (ps:List PV),EsR w (Av F h β) β h dL.toList ps->
      bm {w with heap:=w.heap.setIfInBounds bc.1 (.map dL clock2)} F β (h.set id {o with es:=ps})/\eg w h β {w with heap:=w.heap.setIfInBounds bc.1 (.map dL clock2)} (h.set id {o with es:=ps}) β:=by
     intro dL clock2 ps hR
     have cm:({w with heap:=w.heap.setIfInBounds bc.1 (.map dL clock2)}:World).heap[bc.1]?=some (.map dL clock2):=by
      simp[cG]
     have:=bm.Yn H e1 hb Aa (w':={w with heap:=w.heap.setIfInBounds bc.1 (.map dL clock2)}) ps o.ep bc (by simp) (λb zW bN=>by
      simp only[Array.getElem?_setIfInBounds];rw[if_neg (acd bN)]) (.inl ⟨rfl,λ_=>.inr e4⟩) (abn _) rfl rfl rfl (λhs=>.inr ⟨e4,dL,clock2,cm,by simpa using hR.1,λi e he=>by
       obtain⟨k,v,m,g1,g2,g3,g4⟩:=hR.2 i e he;exact⟨k,v,m,g1,by simpa using g2,g3.mono hs,g4.mono hs⟩⟩)
     rw[<-hβ]at this;exact this
    unfold Mf at e
    split at e
    ·rename_i fA KJ
     obtain rfl:=abi e
     split at KJ
     ·rename_i j p hf
      obtain rfl:=abi KJ;obtain⟨i,me,k',g1,g2,g3,g4,g5,g6,g7⟩:=qi EI es.toList o.es 0 _ hE hf;obtain rfl:j=i:=by omega
      have Tb:es[j]?=some me:=by simpa using g2
      obtain⟨HH,SS⟩:=fin (es.modify j λe=>{e with key:=vk,val:=vx}) clock (o.es.set j (.agg [k,x])) (by
       refine⟨by simp[k3],λi e he=>?_⟩
       by_cases hi:i=j
       ·subst hi;rw[abl (ag g3)]at he;obtain rfl:=abi he;refine⟨k,x,{me with key:=vk,val:=vx},rfl,?_,hk,hx⟩;rw[abQ,adj,if_pos rfl,Tb];rfl
       ·rw[abm (acd hi)]at he;obtain⟨k1,v1,m1,q1,q2,q3⟩:=k4 i e he;refine⟨k1,v1,m1,q1,?_,q3⟩;rw[abQ,adj,if_neg (acd hi)];exact q2)
      refine⟨_,β,?_,HH,SS⟩;simp only[Instr.mapUpdate,Sem.run_bind,bQ hu,Result.andThen_ok,mn k2,run_checkKey hd FV,run_findKey hd g4,Instr.keyThatStays,Tb,abw,Option.getD_some,g6,if_true,Sem.run_pure,run_setObj_map _ k2]
     ·rename_i hf
      obtain rfl:=abi KJ;have g4:=qi EI es.toList o.es 0 _ hE hf
      obtain⟨HH,SS⟩:=fin (es.push {key:=vk,val:=vx,born:=clock}) (clock+1) (o.es++[.agg [k,x]]) (by
       refine⟨by simp[k3],λi e he=>?_⟩
       by_cases hi:i<o.es.length
       ·rw[abj hi]at he;obtain⟨k1,v1,m1,q1,q2,q3⟩:=k4 i e he;refine⟨k1,v1,m1,q1,?_,q3⟩;rw[abQ,Array.getElem?_push,if_neg (by omega)];exact q2
       ·have hl:=ag he;simp at hl;obtain rfl:i=o.es.length:=by omega
        rw[abt (abn _)]at he;simp at he;subst he;refine⟨k,x,{key:=vk,val:=vx,born:=clock},rfl,?_,hk,hx⟩;rw[abQ,<-k3];simp)
      refine⟨_,β,?_,HH,SS⟩;simp only[Instr.mapUpdate,Sem.run_bind,bQ hu,Result.andThen_ok,mn k2,run_checkKey hd FV,run_findKey hd g4,run_setObj_map _ k2]
     ·cases KJ
    ·cases e
   ·cases e
  ·cases e
 ·cases e
end Go.Pm
