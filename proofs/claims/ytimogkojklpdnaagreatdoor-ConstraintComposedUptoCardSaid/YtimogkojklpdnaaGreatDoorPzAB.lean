/-
  A part of the library Pm (joined by program). Conditions: none.
-/
import Derived.Test.YtimogkojklpdnaaGreatDoorPzAA
import Derived.Laws.BytesArg
import Derived.MapKept
set_option linter.unusedVariables false
set_option linter.unusedSimpArgs false
set_option linter.unnecessarySimpa false
namespace Go.Pm
theorem oM{R:Nat->Value->Prop}:∀(n:Nat),(∀j,j<n->∃u,R j u)->∃vs:List Value,vs.length=n/\∀j,j<n->R j (vs.getD j undef)
 |0,_=>⟨[],rfl,λj hj=>absurd hj (Nat.not_lt_zero _)⟩
 |n+1,h=>by
  obtain⟨vs,hl,hr⟩:=oM n (λj hj=>h j (by omega));obtain⟨u,hu⟩:=h n (by omega);refine⟨vs++[u],by simp[hl],λj hj=>?_⟩
  by_cases Xn:j<n
  ·have:(vs++[u]).getD j undef=vs.getD j undef:=by simp[List.getD,Zv (show j<vs.length by omega)]
   rw[this];exact hr j Xn
  ·obtain rfl:j=n:=by omega
   have:(vs++[u]).getD j undef=u:=by simp[List.getD,<-hl]
   rw[this];exact hu
theorem getM_some{h:ab}{id ep:Nat}{o:au}(e:getM h id ep=some o):h[id]?=some o/\o.ep=ep/\o.mu≠.x:=by
 unfold getM at e
 split at e
 ·rename_i o' ho
  split at e
  ·rename_i hc
   obtain rfl:=Zu e;exact⟨ho,hc.1,hc.2⟩
  ·cases e
 ·cases e
theorem dg{h:ab}{β:List (Nat×Nat)}(hl:β.length=h.length){id:Nat}{o:au}(e:h[id]?=some o):∃bc,β[id]?=some bc:=by
 have:id<h.length:=by
  rcases Z8 id h.length with h1 |h1
  ·exact h1
  ·rw[ZM h1]at e;cases e
 exact⟨β[id]'(by omega),Zy (by omega)⟩
theorem ag{α:Type}{l:List α}{i:Nat}{x:α}(h:l[i]?=some x):i<l.length:=by
 rcases Z8 i l.length with h1 |h1
 ·exact h1
 ·rw[ZM h1]at h;cases h
theorem Mb.lt{w:World}{F:Nat->Prop}{β:List (Nat×Nat)}{h:ab}(H:aZ w F β h){b:Nat}(m:Mb h β b):b<w.heap.size:=by
 obtain⟨id,o,bc,e1,e2,e3,rfl⟩:=m;exact(H.obj id o bc e1 e2 (by rw[e3];simp)).lt
theorem Av.lt{w:World}{F:Nat->Prop}{β:List (Nat×Nat)}{h:ab}(H:aZ w F β h){b:Nat}(m:Av F h β b):b<w.heap.size:=by
 rcases m with m |m
 ·exact H.fin b m
 ·exact Mb.lt H m
structure dz(w w':World):Prop where
 size:w.heap.size<=w'.heap.size
 aQ:∀b,b<w.heap.size->w'.heap[b]?=w.heap[b]?
 os:w'.os=w.os
 tape:w'.tape=w.tape
 output:w'.output=w.output
 drawn:w.drawn<=w'.drawn
theorem dz.refl(w:World):dz w w:=⟨Zz _,λ_ _=>rfl,rfl,rfl,rfl,Zz _⟩
theorem dz.trans{a b c:World}(x:dz a b)(y:dz b c):dz a c:=
 ⟨aaj x.size y.size,λk hk=>(y.aQ k (aaf hk x.size)).trans (x.aQ k hk),y.os.trans x.os,y.tape.trans x.tape,y.output.trans x.output,aaj x.drawn y.drawn⟩
theorem dz.alloc(w:World)(o:Obj):dz w (w.alloc o):=⟨by simp,λb hb=>heap_alloc_old w o b hb,rfl,rfl,rfl,Zz _⟩
theorem dz.drew(w:World):dz w w.drew:=⟨Zz _,λ_ _=>rfl,rfl,rfl,rfl,abd _⟩
theorem dz.Pl{w w':World}(g:dz w w')(h:ab)(β:List (Nat×Nat)):dN w h β w' h β where
 size:=g.size
 len:=Zz _
 aQ b hb _:=g.aQ b hb
 shr _ _ m:=m
 refs:=FQ.refl h β
 IV id o h1 _:=⟨h1,rfl⟩
 os:=g.os
 tape:=g.tape
 output:=g.output
 drawn:=g.drawn
theorem jU.mono{w w':World}{F:Nat->Prop}{h h':ab}{β β':List (Nat×Nat)}(s:dN w h β w' h' β'){o:au}{bc:Nat×Nat}(hb:w'.heap[bc.1]?=w.heap[bc.1]?)
  (r:jU w (Av F h β) β h o bc):jU w' (Av F h' β') β' h' o bc:=by
 rcases r with⟨T,cs,h1,h2,h3,h4,h5⟩|⟨h0,es,clock,h1,h2,h3⟩
 ·refine .inl ⟨T,cs,hb.trans h1,h2,h3,h4,λi e he=>⟨(h5 i e he).1,λj p hp=>?_⟩⟩;obtain⟨v,k1,k2⟩:=(h5 i e he).2 j p hp;exact⟨v,k1,k2.mono s⟩
 ·refine .inr ⟨h0,es,clock,hb.trans h1,h2,λi e he=>?_⟩;obtain⟨k,v,m,q1,q2,q3,q4⟩:=h3 i e he;exact⟨k,v,m,q1,q2,q3.mono s,q4.mono s⟩
theorem aZ.Jj{w w':World}{F:Nat->Prop}{β:List (Nat×Nat)}{h:ab}(H:aZ w F β h)(g:dz w w'):aZ w' F β h where
 len:=H.len
 fin b hb:=aaf (H.fin b hb) g.size
 obj id o bc e1 e2 e3:=by
  have r:=H.obj id o bc e1 e2 e3;exact jU.mono (g.Pl h β) (g.aQ _ r.lt) r
 hC:=H.hC
 out:=H.out
theorem aZ.U3{w w':World}{F:Nat->Prop}{β:List (Nat×Nat)}{h:ab}(H:aZ w F β h)(ob:Obj)(o:au)(cap:Nat)
  (hw:w'.heap=w.heap.push ob) (ho:w'.os=w.os) (ht:w'.tape=w.tape) (hu:w'.output=w.output)
  (hm:o.mu=.m)
  (hR:dN w h β w' (h++[o]) (β++[(w.heap.size,cap)])->w'.heap[w.heap.size]?=some ob->jU w' (Av F (h++[o]) (β++[(w.heap.size,cap)])) (β++[(w.heap.size,cap)]) (h++[o]) o (w.heap.size,cap))
  (hd:w.drawn<=w'.drawn:=by first |exact Zz _ |exact abd _):
  aZ w' F (β++[(w.heap.size,cap)]) (h++[o])/\dN w h β w' (h++[o]) (β++[(w.heap.size,cap)]):=by
 have gm:w'.heap.size=w.heap.size+1:=by rw[hw];simp
 have hold:∀b,b<w.heap.size->w'.heap[b]?=w.heap[b]?:=λb hb=>by rw[hw,Array.getElem?_push,if_neg (by omega)]
 have Ki:w'.heap[w.heap.size]?=some ob:=by rw[hw];simp
 have hlen:=H.len
 have nw:∀id,id<h.length->(h++[o])[id]?=h[id]?/\(β++[(w.heap.size,cap)])[id]?=β[id]?:=λid bT=>
  ⟨Zv bT,Zv (by omega)⟩
 have at_new:(h++[o])[h.length]?=some o/\(β++[(w.heap.size,cap)])[h.length]?=some (w.heap.size,cap):=by
  constructor
  ·simp
  ·rw[<-hlen];simp
 have split:∀id (o':au) (c8:Nat×Nat),(h++[o])[id]?=some o'->(β++[(w.heap.size,cap)])[id]?=some c8->
   (id<h.length/\h[id]?=some o'/\β[id]?=some c8)\/(id=h.length/\o'=o/\c8=(w.heap.size,cap)):=by
  intro id o' c8 e1 e2
  by_cases bT:id<h.length
  ·left;rw[(nw id bT).1]at e1;rw[(nw id bT).2]at e2;exact⟨bT,e1,e2⟩
  ·right
   have:id<(h++[o]).length:=ag e1;obtain rfl:id=h.length:=by simp at this;omega
   rw[at_new.1]at e1;rw[at_new.2]at e2;exact⟨rfl,(Zu e1).symm,(Zu e2).symm⟩
 have hs:dN w h β w' (h++[o]) (β++[(w.heap.size,cap)]):=by
  refine⟨by omega,by simp,λb hb _=>hold b hb,?_,?_,?_,ho,ht,hu,hd⟩
  ·rintro b hb ⟨id,o',c8,e1,e2,e3,rfl⟩;rcases split id o' c8 e1 e2 with⟨_,f1,f2⟩|⟨_,rfl,rfl⟩
   ·exact⟨id,o',c8,f1,f2,e3,rfl⟩
   ·simp at hb
  ·intro id o' c8 e1 e2 e3
   have bT:=ag e1;exact⟨o',c8,by rw[(nw id bT).1];exact e1,by rw[(nw id bT).2];exact e2,e3,⟨Zz _,λh=>h⟩,λ_=>⟨rfl,λ_=>rfl,rfl⟩⟩
  ·intro id o' e1 _
   have bT:=ag e1;exact⟨by rw[(nw id bT).1];exact e1,(nw id bT).2⟩
 refine⟨⟨by simp[hlen],λb hb=>by have:=H.fin b hb;omega,?_,?_,?_⟩,hs⟩
 ·intro id o' c8 e1 e2 e3
  rcases split id o' c8 e1 e2 with⟨_,f1,f2⟩|⟨_,rfl,rfl⟩
  ·have r:=H.obj id o' c8 f1 f2 e3;exact jU.mono hs (hold _ r.lt) r
  ·exact hR hs Ki
 ·intro id dS o1 o2 MF Ea bI e1 e2 e3 e4 m1 m2
  rcases split id o1 MF e1 e3 with⟨_,f1,f2⟩|⟨bT,rfl,rfl⟩ <;>rcases split dS o2 Ea e2 e4 with⟨_,g1,g2⟩|⟨RI,rfl,rfl⟩
  ·exact H.hC id dS o1 o2 MF Ea bI f1 g1 f2 g2 m1 m2
  ·have:=Mb.lt H ⟨id,o1,MF,f1,f2,m1,rfl⟩;simp;omega
  ·have:=(H.obj dS o2 Ea g1 g2 m2).lt;simp;omega
  ·omega
 ·intro id o' c8 e1 e2 e3
  rcases split id o' c8 e1 e2 with⟨_,f1,f2⟩|⟨_,rfl,rfl⟩
  ·exact H.out id o' c8 f1 f2 e3
  ·intro hf;have:=H.fin _ hf;simp at this
theorem aZ.new{w w':World}{F:Nat->Prop}{β:List (Nat×Nat)}{h:ab}(H:aZ w F β h)(T:TypeId)(cs:Array Value)(o:au)(cap:Nat)
  (hw:w'.heap=w.heap.push (.cells cs T)) (ho:w'.os=w.os) (ht:w'.tape=w.tape) (hu:w'.output=w.output)
  (hm:o.mu=.m) (h1:o.es.length<=cap) (h2:cap * o.bB<=cs.size) (h3:0<o.bB)
  (h4:∀(i:Nat) (e:PV),o.es[i]?=some e->(cells e).length=o.bB/\∀(j:Nat) (p:PV),(cells e)[j]?=some p->∃v:Value,cs[i * o.bB+j]?=some v/\aD w (Av F h β) β h v p)
  (hd:w.drawn<=w'.drawn:=by first |exact Zz _ |exact abd _):
  aZ w' F (β++[(w.heap.size,cap)]) (h++[o])/\dN w h β w' (h++[o]) (β++[(w.heap.size,cap)]):=
 H.U3 (.cells cs T) o cap hw ho ht hu hm (λhs Ki=>.inl ⟨T,cs,Ki,h1,h2,h3,λi e he=>⟨(h4 i e he).1,λj p hp=>by
  obtain⟨v,k1,k2⟩:=(h4 i e he).2 j p hp;exact⟨v,k1,k2.mono hs⟩⟩⟩) hd
theorem aZ.RJ{w:World}{F:Nat->Prop}{β:List (Nat×Nat)}{h:ab}(H:aZ w F β h):
  aZ (w.alloc (.map #[] 0)) F (β++[(w.heap.size,0)]) (newObj h 0 [])/\dN w h β (w.alloc (.map #[] 0)) (newObj h 0 []) (β++[(w.heap.size,0)]):=
 H.U3 (w':=w.alloc (.map #[] 0)) (.map #[] 0) {mu:=.m,ep:=0,bB:=0,es:=[]} 0 rfl rfl rfl rfl rfl (λhs Ki=>.inr ⟨rfl,#[],0,Ki,rfl,λi e he=>by simp at he⟩)
theorem aZ.U4{w w':World}{F:Nat->Prop}{β:List (Nat×Nat)}{h:ab}(H:aZ w F β h){id:Nat}{o:au}{bc:Nat×Nat}(eo:h[id]?=some o)(eb:β[id]?=some bc)(em:o.mu=.m)
  (fq:List PV) (gV:Nat) (c8:Nat×Nat)
  (gm:w.heap.size<=w'.heap.size) (qC:∀b,b<w.heap.size->b≠bc.1->w'.heap[b]?=w.heap[b]?)
  (mQ:(c8=bc/\(o.ep=gV->fq.length=o.es.length\/o.bB=0))\/(w.heap.size<=c8.1/\o.ep<gV))
  (QL:o.ep<=gV) (ho:w'.os=w.os) (ht:w'.tape=w.tape) (hu:w'.output=w.output)
  (hR:dN w h β w' (h.set id {o with es:=fq,ep:=gV}) (β.set id c8)->jU w' (Av F (h.set id {o with es:=fq,ep:=gV}) (β.set id c8)) (β.set id c8) (h.set id {o with es:=fq,ep:=gV}) {o with es:=fq,ep:=gV} c8)
  (hd:w.drawn<=w'.drawn:=by first |exact Zz _ |exact abd _):
  aZ w' F (β.set id c8) (h.set id {o with es:=fq,ep:=gV})/\dN w h β w' (h.set id {o with es:=fq,ep:=gV}) (β.set id c8):=by
 have hlen:=H.len;have bT:=ag eo;have Ze:bc.1<w.heap.size:=Mb.lt H ⟨id,o,bc,eo,eb,em,rfl⟩;have mj:(h.set id {o with es:=fq,ep:=gV})[id]?=some {o with es:=fq,ep:=gV}:=by simp[bT]
 have bself:(β.set id c8)[id]?=some c8:=by simp[hlen,bT]
 have jL:∀k,k≠id->(h.set id {o with es:=fq,ep:=gV})[k]?=h[k]?:=λk hk=>ZC (aak hk)
 have both:∀k,k≠id->(β.set id c8)[k]?=β[k]?:=λk hk=>ZC (aak hk)
 have hs:dN w h β w' (h.set id {o with es:=fq,ep:=gV}) (β.set id c8):=by
  refine⟨gm,by simp,λb hb hm=>qC b hb (λe=>hm ⟨id,o,bc,eo,eb,em,e.symm⟩),?_,?_,?_,ho,ht,hu,hd⟩
  ·rintro b hb ⟨k,o',c',e1,e2,e3,rfl⟩
   by_cases hk:k=id
   ·subst hk;rw[bself]at e2;obtain rfl:=Zu e2;rcases mQ with⟨rfl,_⟩|⟨Bo,_⟩
    ·exact⟨k,o,c8,eo,eb,em,rfl⟩
    ·omega
   ·rw[jL k hk]at e1;rw[both k hk]at e2;exact⟨k,o',c',e1,e2,e3,rfl⟩
  ·intro k o' c' e1 e2 e3
   by_cases hk:k=id
   ·subst hk;rw[eo]at e1;rw[eb]at e2;obtain rfl:=Zu e1;obtain rfl:=Zu e2;refine⟨_,c8,mj,bself,by rw[em];simp,⟨QL,λh=>h⟩,λe=>⟨rfl,?_,?_⟩⟩
    ·intro hz
     rcases mQ with⟨_,hl⟩|⟨_,cz⟩
     ·exact(hl e).resolve_right (by omega)
     ·simp at e;omega
    ·rcases mQ with⟨hl,_⟩|⟨_,cz⟩
     ·exact hl
     ·simp at e;omega
   ·exact⟨o',c',by rw[jL k hk];exact e1,by rw[both k hk];exact e2,e3,⟨Zz _,λh=>h⟩,λ_=>⟨rfl,λ_=>rfl,rfl⟩⟩
  ·intro k o' e1 e2
   have hk:k≠id:=by
    rintro rfl;rw[eo]at e1;obtain rfl:=Zu e1;exact e2 em
   exact⟨by rw[jL k hk];exact e1,both k hk⟩
 refine⟨⟨by simp[hlen],λb hb=>aaf (H.fin b hb) gm,?_,?_,?_⟩,hs⟩
 ·intro k o' c' e1 e2 e3
  by_cases hk:k=id
  ·subst hk;rw[mj]at e1;rw[bself]at e2;obtain rfl:=Zu e1;obtain rfl:=Zu e2;exact hR hs
  ·rw[jL k hk]at e1;rw[both k hk]at e2;have r:=H.obj k o' c' e1 e2 e3;exact jU.mono hs (qC _ r.lt (λe=>H.hC id k o o' bc c' (aak hk) eo e1 eb e2 em e3 e.symm)) r
 ·intro k k' o1 o2 MF Ea bI e1 e2 e3 e4 m1 m2
  by_cases hk:k=id
  ·subst hk;have fR:k'≠k:=aak bI;rw[jL k' fR]at e2;rw[both k' fR]at e4;rw[bself]at e3;obtain rfl:=Zu e3;rcases mQ with⟨rfl,_⟩|⟨Bo,_⟩
   ·exact H.hC k k' o o2 c8 Ea bI eo e2 eb e4 em m2
   ·have:=(H.obj k' o2 Ea e2 e4 m2).lt;omega
  ·rw[jL k hk]at e1;rw[both k hk]at e3
   by_cases fR:k'=id
   ·subst fR;rw[bself]at e4;obtain rfl:=Zu e4;rcases mQ with⟨rfl,_⟩|⟨Bo,_⟩
    ·exact λe=>H.hC k' k o o1 c8 MF (aak bI) eo e1 eb e3 em (by rw[m1];simp) e.symm
    ·have:=Mb.lt H ⟨k,o1,MF,e1,e3,m1,rfl⟩;omega
   ·rw[jL k' fR]at e2;rw[both k' fR]at e4;exact H.hC k k' o1 o2 MF Ea bI e1 e2 e3 e4 m1 m2
 ·intro k o' c' e1 e2 e3
  by_cases hk:k=id
  ·subst hk;rw[bself]at e2;obtain rfl:=Zu e2;rcases mQ with⟨rfl,_⟩|⟨Bo,_⟩
   ·exact H.out k o c8 eo eb (.inl em)
   ·intro hf;have:=H.fin _ hf;omega
  ·rw[jL k hk]at e1;rw[both k hk]at e2;exact H.out k o' c' e1 e2 e3
theorem aZ.set{w w':World}{F:Nat->Prop}{β:List (Nat×Nat)}{h:ab}(H:aZ w F β h){id:Nat}{o:au}{bc:Nat×Nat}(eo:h[id]?=some o)(eb:β[id]?=some bc)(em:o.mu=.m)
  (T:TypeId) (cs:Array Value) (fq:List PV) (gV:Nat) (c8:Nat×Nat)
  (gm:w.heap.size<=w'.heap.size) (cV:w'.heap[c8.1]?=some (.cells cs T (0,0))) (qC:∀b,b<w.heap.size->b≠bc.1->w'.heap[b]?=w.heap[b]?)
  (mQ:(c8=bc/\(o.ep=gV->fq.length=o.es.length))\/(w.heap.size<=c8.1/\o.ep<gV))
  (QL:o.ep<=gV) (ho:w'.os=w.os) (ht:w'.tape=w.tape) (hu:w'.output=w.output)
  (h1:fq.length<=c8.2) (h2:c8.2 * o.bB<=cs.size)
  (h4:∀(i:Nat) (e:PV),fq[i]?=some e->(cells e).length=o.bB/\∀(j:Nat) (p:PV),(cells e)[j]?=some p->∃v:Value,cs[i * o.bB+j]?=some v/\aD w (Av F h β) β h v p)
  (hd:w.drawn<=w'.drawn:=by first |exact Zz _ |exact abd _) (X9:0<o.bB:=by first |assumption |omega):
  aZ w' F (β.set id c8) (h.set id {o with es:=fq,ep:=gV})/\dN w h β w' (h.set id {o with es:=fq,ep:=gV}) (β.set id c8):=by
 have RK:0<o.bB:=X9
 exact H.U4 eo eb em fq gV c8 gm qC (mQ.imp (λh=>⟨h.1,λe=>.inl (h.2 e)⟩) (λh=>h)) QL ho ht hu (λhs=>.inl ⟨T,cs,cV,h1,h2,RK,λi e he=>⟨(h4 i e he).1,λj p hp=>by
  obtain⟨v,k1,k2⟩:=(h4 i e he).2 j p hp;exact⟨v,k1,k2.mono hs⟩⟩⟩) hd
theorem aZ.uH{w w':World}{F A:Nat->Prop}{β:List (Nat×Nat)}{h:ab}(H:aZ w F β h){b cap len sz:Nat}{es:List PV}(hz:0<sz:=by first |assumption |omega):
  aD w' A (β++[(b,cap)]) (newObj h sz es) (.slice (some ⟨b,0,none⟩) len cap) (.aj h.length 0 0 len):=
 .aj _ _ _ _ _ {mu:=.m,ep:=0,bB:=sz,es} (b,cap) ⟨_,_,_,rfl⟩ (by simp[newObj]) (by rw[<-H.len];simp) (by simp) ⟨aaL _,hz⟩ (λ_ _=>⟨cap,by simp,by simp⟩)
theorem aZ.RM{w w':World}{F A:Nat->Prop}{β:List (Nat×Nat)}{h:ab}(H:aZ w F β h){b cap sz:Nat}{es:List PV}(hz:0<sz:=by first |assumption |omega):
  aD w' A (β++[(b,cap)]) (newObj h sz es) (.pointer (some ⟨b,0,none⟩)) (.ptr h.length 0 0 0):=
 .ptr _ _ _ _ _ {mu:=.m,ep:=0,bB:=sz,es} (b,cap) ⟨_,rfl⟩ (by simp[newObj]) (by rw[<-H.len];simp) (by simp) ⟨aaL _,hz⟩ (λ_=>by simp)
theorem aZ.FR{w w':World}{F A:Nat->Prop}{β:List (Nat×Nat)}{h:ab}(H:aZ w F β h){id:Nat}{o:au}(eo:h[id]?=some o)(em:o.mu=.m){b cap len ep:Nat}{es:List PV}(hz:0<o.bB:=by first |assumption |omega):
  aD w' A (β.set id (b,cap)) (h.set id {o with es:=es,ep:=ep}) (.slice (some ⟨b,0,none⟩) len cap) (.aj id ep 0 len):=
 .aj _ _ _ _ _ {o with es:=es,ep:=ep} (b,cap) ⟨_,_,_,rfl⟩ (by simp[ag eo]) (by simp[H.len,ag eo]) (by simp[em]) ⟨Zz _,hz⟩ (λ_ _=>⟨cap,by simp,by simp⟩)
def Aa(P:Program)(lv:Nat)(w:World)(F:Nat->Prop)(β:List (Nat×Nat))(h:ab)(s:Sem Value)(p:PV)(h':ab):Prop:=
 ∃v w' β',s.run P w=.ok v w'/\aD w' (Av F h' β') β' h' v p/\aZ w' F β' h'/\dN w h β w' h' β'/\(lv<=1->dz w w')
theorem Aa.still{P:Program}{lv:Nat}{w:World}{F:Nat->Prop}{β:List (Nat×Nat)}{h:ab}(H:aZ w F β h){s:Sem Value}{p:PV}{v:Value}(e:s.run P w=.ok v w)(r:aD w (Av F h β) β h v p):
  Aa P lv w F β h s p h:=⟨v,w,β,e,r,H,dN.refl w h β,λ_=>dz.refl w⟩
variable{P:Program}{w:World}{F:Nat->Prop}{β:List (Nat×Nat)}{h:ab}
theorem cw{t:TypeId}{n:Nat}(e:cg P t=some n)(w:World):(sizeOf t).run P w=.ok n w:=by
 unfold cg at e
 cases hi:P.info? t with
 |none=>rw[hi]at e;simp at e
 |some i=>rw[hi]at e;simp at e;subst e;simp[sizeOf,typeInfo,hi]
theorem bH{t:TypeId}{d:TypeDesc}(e:P.underlying t=some d)(w:World):(underlying t).run P w=.ok d w:=by simp[underlying,e]
theorem rN{t:TypeId}{b:Bool}(e:GA P t=some b)(w:World):(isAgg t).run P w=.ok b w:=by
 unfold GA at e
 cases hu:P.underlying t with
 |none=>rw[hu]at e;simp at e
 |some d=>
  rw[hu]at e;simp at e;subst e;simp only[isAgg,Sem.run_bind,bH hu,Result.andThen_ok]
  split <;>rename_i h <;>simp_all
theorem Gg(w:World)(A:Nat->Prop)(β:List (Nat×Nat))(h:ab)(v:Value):aD w A β h v (T7 v):=by
 unfold T7
 split
 ·exact .val (.int _ _)
 ·exact .val (.bool _)
 ·exact .val (.str _)
 ·exact .val (.gA none 0 true (λ_=>rfl))
 ·exact .val .dW
 ·exact .val .aG
 ·exact .val .gf
 ·exact .any _
theorem EO(w:World)(A:Nat->Prop)(β:List (Nat×Nat))(h:ab)(v:Value):aD w A β h v (cv v):=by
 unfold cv
 split
 ·rename_i cs
  have:=aD.agg (w:=w) (A:=A) (β:=β) (h:=h) cs.toList (cs.toList.map T7) (by simp) (λj hj=>by
   have De:j<cs.toList.length:=by simpa using hj
   simp only[List.getD,ZP];rw[Zy De];simpa using Gg w A β h _)
  simpa using this
 ·exact Gg w A β h _
theorem sL{t:TypeId}{z:PV}(e:iL P t=some z)(w:World)(A:Nat->Prop)(β:List (Nat×Nat))(h:ab):∃v,(zeroValue t).run P w=.ok v w/\aD w A β h v z:=by
 unfold iL at e
 cases hi:P.info? t with
 |none=>rw[hi]at e;simp at e
 |some i=>
  rw[hi]at e;simp only[Option.bind_some]at e
  cases hz:i.zero with
  |none=>rw[hz]at e;simp at e
  |some v=>
   rw[hz]at e;simp at e;subst e;exact⟨v,by simp[zeroValue,typeInfo,hi,hz],EO w A β h v⟩
theorem aD.cells{A:Nat->Prop}{v:Value}{p:PV}(hv:aD w A β h v p)(hp:(Pm.cells p).all bG=true):
  v.cells.size=(Pm.cells p).length/\(∀(j:Nat) (q:PV),(Pm.cells p)[j]?=some q->∃u:Value,v.cells[j]?=some u/\aD w A β h u q/\u.oneCell'=true):=by
 have one:∀(u:Value) (q:PV),aD w A β h u q->bG q=true->u.oneCell'=true/\u.cells= #[u]:=by
  intro u q r ho
  cases r with
  |val hs=>cases hs <;>first |exact⟨rfl,rfl⟩|simp[bG]at ho
  |undef=>simp[bG]at ho
  |any=>simp[bG]at ho
  |aj v id ep off len o bc h0=>obtain⟨a,l,c,rfl⟩:=h0;exact⟨rfl,rfl⟩
  |ptr v id ep i off o bc h0=>obtain⟨a,rfl⟩:=h0;exact⟨rfl,rfl⟩
  |cB v id o bc h0=>obtain⟨a,rfl⟩:=h0;exact⟨rfl,rfl⟩
  |agg=>simp[bG]at ho
  |cm=>simp[bG]at ho
  |fn=>exact⟨rfl,rfl⟩
  |mR=>exact⟨rfl,rfl⟩
 have single:(∀cs,p≠.agg cs)->v.cells.size=(Pm.cells p).length/\(∀(j:Nat) (q:PV),(Pm.cells p)[j]?=some q->∃u:Value,v.cells[j]?=some u/\aD w A β h u q/\u.oneCell'=true):=by
  intro MW
  have hc:Pm.cells p=[p]:=by cases p <;>first |rfl |exact absurd rfl (MW _)
  rw[hc]at hp ⊢;obtain⟨h1,h2⟩:=one v p hv (by simpa using hp);rw[h2];refine⟨rfl,λj q hq=>?_⟩
  cases j with
  |zero=>simp at hq;subst hq;exact⟨v,rfl,hv,h1⟩
  |succ j=>simp at hq
 cases p with
 |agg cs=>
  obtain⟨vs,rfl,hl,hr⟩:=hv.q8;refine⟨by simpa[Value.cells,Pm.cells]using hl,λj q hq=>?_⟩;have VR:cs[j]?=some q:=hq;have hj:=ag VR;have tf:j<vs.length:=by omega
  have RW:=hr j hj;have e1:vs.getD j Go.undef=vs[j]:=by simp[List.getD,tf]
  have e2:cs.getD j .any=q:=by simp[List.getD,VR]
  rw[e1,e2]at RW;have ho:bG q=true:=Zw.1 hp q (ZK VR);exact⟨vs[j],by simp[Value.cells,tf],RW,(one _ _ RW ho).1⟩
 |_=>exact single (λcs=>by simp)
theorem zp(H:aZ w F β h){v:Value}{p:PV}{cs:List PV}(hv:aD w (Av F h β) β h v p)(e:cC h p=some cs):
  ∃b off,(cs≠[]->v=.pointer (some ⟨b,off,none⟩))/\∀(j:Nat) (q:PV),cs[j]?=some q->∃u:Value,w.cell? ⟨b,off+j,none⟩=some u/\aD w (Av F h β) β h u q:=by
 unfold cC at e
 split at e
 ·rename_i jd
  obtain rfl:=Zu e;have hs:=hv.rO
  cases hs with
  |eC b off _ oh h1 h2 h3 h4=>
   refine⟨b,off,λ_=>rfl,λj q hq=>?_⟩;have hj:=ag hq;refine⟨oh j,h3 j hj,?_⟩;have:=h4 j hj;rw[ZR,hq]at this;exact .val this
 ·rename_i id ep i off
  split at e
  ·rename_i o ho
   obtain⟨e1,e2,e3⟩:=getM_some ho
   split at e
   ·rename_i el cT
    obtain rfl:=Zu e;obtain⟨bc,hb⟩:=dg H.len e1;obtain⟨h1,h2,h3⟩:=hv.zN;have:=h3 o bc e1 hb e3 e2;obtain⟨T,cs,k1,k2,k3,k4,k5⟩:=(H.obj id o bc e1 hb e3).c (h2 o e1).2;refine⟨bc.1,i * o.bB+off,λ_=>this,λj q hq=>?_⟩;rw[Z7]at hq;obtain⟨u,m1,m2⟩:=(k5 i el cT).2 (off+j) q hq;refine⟨u,?_,m2⟩;rw[cell_of_row w bc.1 _ cs T (0,0) k1,aaV];exact m1
   ·cases e
  ·cases e
 ·cases e
theorem eH(b off n:Nat):(⟨b,off,none⟩:Addr).add n=⟨b,off+n,none⟩:=by unfold Addr.add;split <;>simp_all
theorem wS(w:World)(b off n:Nat)(R:Nat->Value->Prop)(hc:∀j,j<n->∃u,w.cell? ⟨b,off+j,none⟩=some u/\R j u):
  ∃vs:List Value,vs.length=n/\(loadCells ⟨b,off,none⟩ n).run P w=.ok vs.toArray w/\∀j,j<n->R j (vs.getD j undef):=by
 obtain⟨vs,hl,hr⟩:=oM n hc;refine⟨vs,hl,?_,λj hj=>(hr j hj).2⟩
 have:=run_loadCells_list (P:=P) (w:=w) ⟨b,off,none⟩ vs (λj v hv=>by
  have hj:=ag hv;rw[eH];have:=(hr j (by omega)).1;rwa[ZR,hv]at this)
 rwa[hl]at this
theorem CJ(H:aZ w F β h){v:Value}{p q:PV}{t:TypeId}(hv:aD w (Av F h β) β h v p)(e:iq P h t p=some q):
  ∃u,(Instr.loadAt t v).run P w=.ok u w/\aD w (Av F h β) β h u q:=by
 unfold iq at e
 split at e
 ·rename_i sz cs h1 h2 h3
  split at e
  ·rename_i hle
   obtain rfl:=Zu e;obtain⟨b,off,k1,k2⟩:=zp H hv h3
   by_cases hn:cs=[]
   ·subst hn;simp at hle;omega
   ·have hle:=hle.2;rw[k1 hn]
    obtain⟨vs,l1,l2,l3⟩:=wS (P:=P) w b off sz (λj u=>aD w (Av F h β) β h u (cs.getD j .any)) (λj hj=>by
     have De:j<cs.length:=by omega
     obtain⟨u,m1,m2⟩:=k2 j cs[j] (Zy De);exact⟨u,m1,by simpa[List.getD,De]using m2⟩)
    refine⟨.agg vs.toArray,?_,?_⟩
    ·simp only[Instr.loadAt,Instr.sureAddr,Sem.run_bind,Sem.run_pure,Result.andThen_ok,loadVar,rN h2,cw h1,l2,if_true]
    ·refine .agg vs _ (by simp;omega) (λj hj=>?_);simp at hj;have:=l3 j (by omega);simpa[List.getD,ZO,show j<sz by omega]using this
  ·cases e
 ·rename_i sz cs h1 h2 h3
  obtain⟨b,off,k1,k2⟩:=zp H hv h3
  cases cs with
  |nil=>simp at e
  |cons c r=>
   simp at e;subst e;obtain⟨u,m1,m2⟩:=k2 0 c rfl;rw[k1 (by simp)];refine⟨u,?_,m2⟩;simp only[Instr.loadAt,Instr.sureAddr,Sem.run_bind,Sem.run_pure,Result.andThen_ok,loadVar,rN h2,ZJ,if_false,run_load];rw[show(⟨b,off,none⟩:Addr)=⟨b,off+0,none⟩ by simp,m1]
 ·cases e
theorem rP{s:TypeId}{f off:Nat}{ft:TypeId}(e:nU P s f=some (off,ft))(a:Addr)(w:World):
  (Instr.fieldAt s (.pointer (some a)) f).run P w=.ok (.pointer (some (a.add off))) w:=by
 unfold nU at e
 split at e
 ·rename_i fs hu
  split at e
  ·rename_i fl hf
   split at e
   ·rename_i sz hs
    split at e
    ·cases e
    ·rename_i hz
     simp at e;obtain⟨rfl,rfl⟩:=e;simp[Instr.fieldAt,bH hu,hf,Instr.sureAddr,fieldPlace,cw hs,hz]
   ·cases e
  ·cases e
 ·cases e
theorem ye(H:aZ w F β h){v:Value}{p q:PV}{s:TypeId}{f:Nat}(hv:aD w (Av F h β) β h v p)(e:fS P s p f=some q):
  ∃u,(Instr.fieldAt s v f).run P w=.ok u w/\aD w (Av F h β) β h u q:=by
 unfold fS at e
 split at e
 ·rename_i off ft cs h1
  split at e
  ·rename_i cz
   obtain rfl:=Zu e;have hs:=hv.rO
   cases hs with
   |eC b o _ oh k1 k2 k3 k4=>
    refine⟨_,rP h1 _ w,?_⟩;rw[eH];refine .val (.eC b (o+off) _ (λj=>oh (off+j)) ?_ k2 (λj hj=>?_) (λj hj=>?_))
    ·intro hn
     have:=congrArg List.length hn;simp at this;omega
    ·simp at hj;have:=k3 (off+j) (by omega);rwa[<-aaV]at this
    ·simp at hj;have:=k4 (off+j) (by omega);simpa[List.getD,Z7]using this
  ·cases e
 ·rename_i off ft id ep i o h1
  obtain rfl:=Zu e
  cases hv with
  |val hs=>cases hs
  |ptr _ _ _ _ _ oo bc h0 k1 k2 k3 k4 k5=>
   obtain⟨a,rfl⟩:=h0;refine⟨_,rP h1 _ w,.ptr _ id ep i (o+off) oo bc ⟨_,rfl⟩ k1 k2 k3 k4 (λn4=>?_)⟩;have:=k5 n4;simp at this;rw[this,eH,aaV]
 ·cases e
theorem aD.part{A:Nat->Prop}{v:Value}{cs:List PV}(hv:aD w A β h v (.agg cs)){t:TypeId}{off:Nat}{q:PV}(e:uW P t cs off=some q):
  ∃vs:Array Value,v=.agg vs/\∃u,(part t vs off).run P w=.ok u w/\aD w A β h u q:=by
 obtain⟨vs,rfl,hl,hr⟩:=hv.q8;refine⟨vs.toArray,rfl,?_⟩;unfold uW at e
 split at e
 ·rename_i sz h1 h2
  split at e
  ·rename_i hle
   obtain rfl:=Zu e;refine⟨.agg ((vs.drop off).take sz).toArray,?_,.agg _ _ (by simp;omega) (λj hj=>?_)⟩
   ·simp only[Go.part,Sem.run_bind,rN h1,cw h2,Result.andThen_ok,if_true,Sem.run_pure]
    congr 2
    apply aaR;simp[List.extract_eq_take_drop]
   ·simp at hj;have:=hr (off+j) (by omega);simpa[List.getD,ZO,Z7,show j<sz by omega]using this
  ·cases e
 ·rename_i sz h1 h2
  split at e
  ·rename_i c hc
   obtain rfl:=Zu e;have hj:=ag hc;have:=hr off hj;refine⟨vs[off]'(by omega),?_,?_⟩
   ·simp[Go.part,rN h1,show off<vs.length by omega]
   ·simpa[List.getD,hc,show off<vs.length by omega]using this
  ·cases e
 ·cases e
theorem H9{v:Value}{p q:PV}{s:TypeId}{f:Nat}{A:Nat->Prop}(hv:aD w A β h v p)(e:zH P s p f=some q):
  ∃u,(Instr.field s v f).run P w=.ok u w/\aD w A β h u q:=by
 unfold zH at e
 split at e
 ·rename_i fs cs hu
  split at e
  ·rename_i fl hf
   obtain⟨vs,rfl,u,h1,h2⟩:=hv.part e;exact⟨u,by simp[Instr.field,bH hu,asAgg,hf,h1],h2⟩
  ·cases e
 ·cases e
theorem Ia{v vi:Value}{p i q:PV}{t:TypeId}{A:Nat->Prop}(hv:aD w A β h v p)(hi:aD w A β h vi i)(e:uX P t p i=some q):
  ∃u,(Instr.index t v vi).run P w=.ok u w/\aD w A β h u q:=by
 unfold uX at e
 split at e
 ·rename_i n el cs k i hu
  obtain rfl:=hi.dF
  split at e
  ·rename_i sz hs
   split at e
   ·rename_i hc
    obtain⟨vs,rfl,u,h1,h2⟩:=hv.part e;exact⟨u,by simp[Instr.index,asIntOf,bH hu,hc,cw hs,h1],h2⟩
   ·cases e
  ·cases e
 ·rename_i s k i hu
  obtain rfl:=hi.dF;obtain rfl:=hv.lQ
  split at e
  ·rename_i hc
   split at e
   ·rename_i b hb
    obtain rfl:=Zu e;exact⟨_,by simp[Instr.index,asIntOf,bH hu,hc,hb],.val (.int _ _)⟩
   ·cases e
  ·cases e
 ·cases e
theorem bY.jN{A:Nat->Prop}{v:Value}{full:Bool}{es:List PV}(hv:bY w A v (.aa full es)):∃a cap,v=.slice a es.length cap/\es.length<=cap/\(full=true->cap=es.length):=by
 cases hv with
 |gA a cap _ hf=>exact⟨a,cap,rfl,aaL _,hf⟩
 |aa b off cap sz _ _ oh h1 h2 h3=>exact⟨_,cap,rfl,h2,h3⟩
theorem yf(H:aZ w F β h){v vi:Value}{p i q:PV}{t:TypeId}(hv:aD w (Av F h β) β h v p)(hi:aD w (Av F h β) β h vi i)(e:cq P h t p i=some q):
  ∃u,(Instr.indexAt t v vi).run P w=.ok u w/\aD w (Av F h β) β h u q:=by
 unfold cq at e
 split at e
 ·rename_i el full es k i hu
  obtain rfl:=hi.dF
  split at e
  ·rename_i sz hs
   split at e
   ·rename_i hc
    split at e
    ·rename_i x hx
     split at e
     ·rename_i hz
      obtain rfl:=Zu e;have cz:=ag hx;have TT:=hv.fp
      cases TT with
      |gA=>simp at cz
      |aa b off cap FA _ _ oh k1 k2 k3 k4 k5 k6 k7 k8=>
       have gm:FA=sz:=by
        have:=k6 i.toNat cz;rw[ZR,hx]at this;exact this.symm.trans hz.2
       subst gm;refine⟨.pointer (some ⟨b,off+i.toNat * FA,none⟩),?_,.val (.eC b _ _ (oh i.toNat) ?_ k4 (λj hj=>?_) (λj hj=>?_))⟩
       ·simp[Instr.indexAt,asIntOf,bH hu,hc,cw hs,eH]
       ·intro hn;rw[hn]at hz;simp at hz;omega
       ·rw[aaV];exact k7 _ j cz (by omega)
       ·have:=k8 i.toNat j cz (by omega);rwa[ZR (l:=es),hx]at this
     ·cases e
    ·cases e
   ·cases e
  ·cases e
 ·rename_i el id ep off len k i hu
  obtain rfl:=hi.dF
  split at e
  ·rename_i sz o hs ho
   split at e
   ·rename_i hc
    obtain rfl:=Zu e;obtain⟨e1,e2,e3⟩:=getM_some ho;obtain⟨bc,hb⟩:=dg H.len e1;obtain⟨h1,h2,h3⟩:=hv.dG;obtain⟨cap,rfl,k2⟩:=h3 o bc e1 hb e3 e2 hc.2.2.2;obtain⟨Se,I1,rfl,hc4⟩:=hc;refine⟨.pointer (some ⟨bc.1,off * o.bB+i.toNat * o.bB,none⟩),?_,.ptr _ id ep _ 0 o bc ⟨_,rfl⟩ e1 hb e3 (h2 o e1) (λn4=>?_)⟩
    ·simp[Instr.indexAt,asIntOf,bH hu,Se,I1,cw hs,eH]
    ·rw[aag];simp
   ·cases e
  ·cases e
 ·rename_i n el cs k i hu
  obtain rfl:=hi.dF
  split at e
  ·rename_i sz hs
   split at e
   ·rename_i hc
    obtain rfl:=Zu e;have TT:=hv.rO
    cases TT with
    |eC b off _ oh k1 k2 k3 k4=>
     refine⟨.pointer (some ⟨b,off+i.toNat * sz,none⟩),?_,.val (.eC b _ _ (λj=>oh (i.toNat * sz+j)) ?_ k2 (λj hj=>?_) (λj hj=>?_))⟩
     ·simp[Instr.indexAt,asIntOf,bH hu,hc.1,hc.2.1,cw hs,eH,Instr.sureAddr]
     ·intro hn
      have:=congrArg List.length hn;simp at this;omega
     ·simp at hj;have:=k3 (i.toNat * sz+j) (by omega);rwa[<-aaV]at this
     ·simp at hj;have:=k4 (i.toNat * sz+j) (by omega);simpa[List.getD,Z7]using this
   ·cases e
  ·cases e
 ·rename_i n el id ep kk o k i hu
  obtain rfl:=hi.dF
  split at e
  ·rename_i sz hs
   split at e
   ·rename_i hc
    obtain rfl:=Zu e
    cases hv with
    |val hs=>cases hs
    |ptr _ _ _ _ _ oo bc h0 k1 k2 k3 k4 k5=>
     obtain⟨a,rfl⟩:=h0;refine⟨.pointer (some (a.add (i.toNat * sz))),?_,.ptr _ id ep kk _ oo bc ⟨_,rfl⟩ k1 k2 k3 k4 (λn4=>?_)⟩
     ·simp[Instr.indexAt,asIntOf,bH hu,hc.1,hc.2,cw hs,Instr.sureAddr]
     ·have:=k5 n4;simp at this;rw[this,eH,aaV]
   ·cases e
  ·cases e
 ·cases e
theorem zj{h:ab}{id:Nat}{o:au}(e:AX h id=some o):h[id]?=some o/\o.ep=0/\o.mu≠.x/\o.bB=0:=by
 unfold AX at e
 split at e
 ·rename_i o' ho
  split at e
  ·rename_i hz
   obtain rfl:=Zu e;obtain⟨h1,h2,h3⟩:=getM_some ho;exact⟨h1,h2,h3,hz⟩
  ·cases e
 ·cases e
theorem Lo(H:aZ w F β h){v:Value}{id:Nat}{o:au}(hv:aD w (Av F h β) β h v (.cB id))(ho:AX h id=some o):
  ∃(bc:Nat×Nat) (es:Array MapEntry) (clock:Nat),v=.map (some bc.1)/\w.heap[bc.1]?=some (.map es clock)/\es.size=o.es.length/\
   (∀(i:Nat) (e:PV),o.es[i]?=some e->∃(k v:PV) (m:MapEntry),e=.agg [k,v]/\es[i]?=some m/\aD w (Av F h β) β h m.key k/\aD w (Av F h β) β h m.val v):=by
 obtain⟨e1,e2,e3,e4⟩:=zj ho;obtain⟨bc,hb⟩:=dg H.len e1;obtain⟨_,es,clock,k1,k2,k3⟩:=(H.obj id o bc e1 hb e3).m e4;exact⟨bc,es,clock,hv.Cy e1 hb e2,k1,k2,k3⟩
theorem lj{b clock:Nat}{es:Array MapEntry}(e:w.heap[b]?=some (.map es clock)):(getObj b).run P w=.ok (.map es clock) w:=by simp[getObj,Sem.run,e]
theorem OG(H:aZ w F β h){v:Value}{p q:PV}{t:TypeId}{ts:Array TypeId}{ty:TypeId}{rest:List Value}(ht:ts[0]?=some t)(hv:aD w (Av F h β) β h v p)(e:nV P h t p=some q):
  (∃u,(Builtin.len_ ts ty (v::rest).toArray).run P w=.ok u w/\aD w (Av F h β) β h u q):=by
 unfold nV at e
 split at e
 ·rename_i s hu
  obtain rfl:=Zu e;obtain rfl:=hv.lQ;exact⟨_,by simp[Builtin.len_,ht,bH hu,goInt],.val (.int _ _)⟩
 ·rename_i n el hu
  obtain rfl:=Zu e;refine⟨_,?_,.val (.int _ _)⟩
  cases v <;>simp[Builtin.len_,ht,bH hu,goInt]
 ·rename_i el full es hu
  obtain rfl:=Zu e;obtain⟨a,cap,rfl,_⟩:=hv.fp.jN;exact⟨_,by simp[Builtin.len_,ht,bH hu,goInt],.val (.int _ _)⟩
 ·rename_i hu
  obtain rfl:=Zu e;obtain rfl:=hv.Cw;exact⟨_,by simp[Builtin.len_,ht,bH hu,goInt],.val (.int _ _)⟩
 ·rename_i kt et id hu
  split at e
  ·rename_i o ho
   obtain rfl:=Zu e;obtain⟨bc,es,clock,k1,k2,k3,k4⟩:=Lo H hv ho;subst k1;exact⟨_,by simp[Builtin.len_,ht,bH hu,goInt,lj k2,k3],.val (.int _ _)⟩
  ·cases e
 ·rename_i el id ep off len hu
  split at e
  ·rename_i o ho
   split at e
   ·rename_i hle
    obtain rfl:=Zu e;obtain⟨e1,e2,e3⟩:=getM_some ho;obtain⟨bc,hb⟩:=dg H.len e1;obtain⟨h1,h2,h3⟩:=hv.dG;obtain⟨cap,rfl,k2⟩:=h3 o bc e1 hb e3 e2 hle;exact⟨_,by simp[Builtin.len_,ht,bH hu,goInt],.val (.int _ _)⟩
   ·cases e
  ·cases e
 ·cases e
theorem gd{α:Type}(l m:List α)(a k:Nat)(hl:a+m.length<=l.length):
  (l.take a++m++l.drop (a+m.length))[k]?=if k<a then l[k]? else if k<a+m.length then m[k - a]? else l[k]?:=by
 by_cases h1:k<a
 ·rw[if_pos h1,ZZ,Zv (by simp;omega),ZO,if_pos h1]
 ·rw[if_neg h1]
  by_cases h2:k<a+m.length
  ·rw[if_pos h2,ZZ,ZI (by simp;omega)];have:(List.take a l).length=a:=by simp;omega
   rw[this,Zv (by omega)]
  ·rw[if_neg h2,ZI (by simp;omega),Z7]
   congr 1
   simp;omega
theorem AG(off sz:Nat)(e v:PV)(hv:(Pm.cells v).length=sz):Pm.cells (eD off sz e v)=(Pm.cells e).take off++Pm.cells v++(Pm.cells e).drop (off+sz):=by
 unfold eD
 split
 ·rename_i hc
  obtain⟨rfl,h2⟩:=hc;simp[h2]
 ·rfl
theorem jX{i k s:Nat}(h:i<k):i * s+s<=k * s:=by
 have:=Z9 s (show i+1<=k from h);rwa[aag,Nat.one_mul]at this
theorem SY{A:Nat->Prop}{u:Value}{q:PV}(r:aD w A β h u q)(ho:bG q=true):u.oneCell'=true:=by
 cases r with
 |val hs=>cases hs <;>first |rfl |simp[bG]at ho
 |undef=>simp[bG]at ho
 |any=>simp[bG]at ho
 |aj v id ep off len o bc h0=>obtain⟨a,l,c,rfl⟩:=h0;rfl
 |ptr v id ep i off o bc h0=>obtain⟨a,rfl⟩:=h0;rfl
 |cB v id o bc h0=>obtain⟨a,rfl⟩:=h0;rfl
 |agg=>simp[bG]at ho
 |cm=>simp[bG]at ho
 |fn=>rfl
 |mR=>rfl
theorem Ib(H:aZ w F β h){v vx:Value}{p x:PV}{t:TypeId}{h':ab}(hv:aD w (Av F h β) β h v p)(hx:aD w (Av F h β) β h vx x)(e:gC P h t p x=some h'):
  ∃w' β',(Instr.storeAt t v vx).run P w=.ok () w'/\aZ w' F β' h'/\dN w h β w' h' β':=by
 unfold gC at e
 split at e
 ·rename_i id ep i off sz hs
  split at e
  ·rename_i o ho
   split at e
   ·rename_i el cT
    split at e
    ·rename_i hc
     obtain⟨c1,c2,c3,c4⟩:=hc;obtain rfl:=Zu e;obtain⟨e1,e2,e3⟩:=getM_some ho;obtain⟨bc,hb⟩:=dg H.len e1;obtain⟨h1,h2,h3⟩:=hv.zN;obtain rfl:=h3 o bc e1 hb e3 e2;obtain⟨T,cs,k1,k2,k3,k4,k5⟩:=(H.obj id o bc e1 hb e3).c (h2 o e1).2;obtain⟨x1,x2⟩:=hx.cells c3;have hi:=ag cT;have qw:=k5 i el cT;have z8:i * o.bB+o.bB<=cs.size:=aaj (jX hi) (aaj (Z9 _ k2) k3);have mD:i * o.bB+off+0+vx.cells.toList.length<=cs.size:=by simp[x1,c2];omega
     have y9:=run_storeCells_at P bc.1 (i * o.bB+off) T vx.cells.toList 0 cs w k1 mD (λu hu=>by
      obtain⟨j,hj⟩:=aas hu;have hjl:=ag hj;simp only[aaK]at hjl;obtain⟨u',m1,m2,m3⟩:=x2 j (Pm.cells x)[j] (Zy (by omega));have:vx.cells[j]?=some u:=by simpa using hj
      rw[m1]at this;obtain rfl:=Zu this;exact m3)
     simp only[aaX]at y9;have hlen:vx.cells.toList.length=sz:=by simp[x1,c2]
     rw[hlen]at y9;refine⟨w.setRow bc.1 (cs.toList.take (i * o.bB+off)++vx.cells.toList++cs.toList.drop (i * o.bB+off+sz)).toArray,β,?_,?_⟩
     ·simp only[Instr.storeAt,Instr.sureAddr,Sem.run_bind,Sem.run_pure,Result.andThen_ok,storeVar,cw hs];rw[if_neg (by simp[x1,c2])];exact y9
     ·have hβ:β=β.set id bc:=by
       apply aaw
       intro k
       by_cases hk:k=id
       ·subst hk;rw[ZB (by have:=H.len;have:=ag e1;omega)];exact hb
       ·rw[ZC (aak hk)]
      have:=aZ.set H e1 hb c1 (w':=w.setRow bc.1 (cs.toList.take (i * o.bB+off)++vx.cells.toList++cs.toList.drop (i * o.bB+off+sz)).toArray) T
       (cs.toList.take (i * o.bB+off)++vx.cells.toList++cs.toList.drop (i * o.bB+off+sz)).toArray (o.es.set i (eD off sz el x)) o.ep bc (by simp)
       (setRow_heap w bc.1 cs _ T (0,0) k1) (λb hb bI=>setRow_other w bc.1 b _ bI) (.inl ⟨rfl,λ_=>by simp⟩) (Zz _) rfl rfl rfl (by simpa using k2)
       (by simp;omega) (λi' e' TY=>?_)
      ·rw[<-hβ]at this;exact this
      ·by_cases NX:i'=i
       ·subst NX;rw[ZB hi]at TY;obtain rfl:=Zu TY;rw[AG _ _ _ _ c2];refine⟨by simp[c2,qw.1];omega,λj q hq=>?_⟩;have c2':=c2.symm;subst c2';rw[gd _ _ _ _ (by omega)]at hq
        have key:(cs.toList.take (i' * o.bB+off)++vx.cells.toList++cs.toList.drop (i' * o.bB+off+(Pm.cells x).length)).toArray[i' * o.bB+j]?=if j<off then cs[i' * o.bB+j]? else if j<off+(Pm.cells x).length then vx.cells[j - off]? else cs[i' * o.bB+j]?:=by
         rw[aaZ,<-hlen,gd _ _ _ _ (by rw[hlen];simp;omega),hlen]
         by_cases q1:j<off
         ·rw[if_pos (by omega),if_pos q1];simp
         ·rw[if_neg (by omega),if_neg q1]
          by_cases q2:j<off+(Pm.cells x).length
          ·rw[if_pos (by omega),if_pos q2];rw[show i' * o.bB+j - (i' * o.bB+off)=j - off by omega];simp
          ·rw[if_neg (by omega),if_neg q2];simp
        rw[key]
        split at hq
        ·rename_i cz
         obtain⟨u,m1,m2⟩:=qw.2 j q hq;exact⟨u,by simp[cz,m1],m2⟩
        ·rename_i Bo
         split at hq
         ·rename_i cz
          obtain⟨u,m1,m2,m3⟩:=x2 (j - off) q hq;exact⟨u,by rw[if_neg Bo,if_pos cz];exact m1,m2⟩
         ·rename_i YR
          obtain⟨u,m1,m2⟩:=qw.2 j q hq;exact⟨u,by rw[if_neg Bo,if_neg YR];exact m1,m2⟩
       ·rw[ZC (aak NX)]at TY;obtain⟨q1,q2⟩:=k5 i' e' TY;refine⟨q1,λj q hq=>?_⟩;obtain⟨u,m1,m2⟩:=q2 j q hq;refine⟨u,?_,m2⟩;have hj:j<o.bB:=by rw[<-q1];exact ag hq
        rw[aaZ,<-hlen,gd _ _ _ _ (by rw[hlen];simp;omega),hlen];rcases Nat.lt_or_gt_of_ne NX with hl |hg
        ·have:=jX (s:=o.bB) hl;rw[if_pos (by omega)];simpa using m1
        ·have:=jX (s:=o.bB) hg;rw[if_neg (by omega),if_neg (by omega)];simpa using m1
    ·cases e
   ·cases e
  ·cases e
 ·cases e
theorem Gh{lv:Nat}(H:aZ w F β h){vx:Value}{x:PV}(t:TypeId)(hx:aD w (Av F h β) β h vx x)(h1:(Pm.cells x).all bG=true)(h2:0<(Pm.cells x).length):
  Aa P lv w F β h (Instr.box t vx) (.ptr h.length 0 0 0) (newObj h (Pm.cells x).length [x]):=by
 obtain⟨x1,x2⟩:=hx.cells h1
 obtain⟨HH,S⟩:=aZ.new H (w':=w.alloc (.cells vx.cells t)) t vx.cells {mu:=.m,ep:=0,bB:=(Pm.cells x).length,es:=[x]} 1 rfl rfl rfl rfl rfl (by simp) (by simp[x1]) h2 (λi e he=>by
  cases i with
  |zero=>
   simp at he;subst he;refine⟨rfl,λj p hp=>?_⟩;obtain⟨u,m1,m2,m3⟩:=x2 j p hp;exact⟨u,by simpa using m1,m2⟩
  |succ i=>simp at he)
 refine⟨.pointer (some ⟨w.heap.size,0,none⟩),_,_,rfl,H.RM h2,HH,S,λ_=>dz.alloc w _⟩
theorem Ic{lv:Nat}(H:aZ w F β h){z:PV}(t:TypeId)(e:iL P t=some z)(h1:(Pm.cells z).all bG=true)(h2:0<(Pm.cells z).length):
  Aa P lv w F β h (Instr.alloc t true (.tuple #[])) (.ptr h.length 0 0 0) (newObj h (Pm.cells z).length [z]):=by
 obtain⟨v,hz,hr⟩:=sL e w (Av F h β) β h;obtain⟨u,w',β',r1,r2⟩:=Gh (P:=P) (lv:=lv) H t hr h1 h2;refine⟨u,w',β',?_,r2⟩;simp only[Instr.alloc,Sem.run_bind,hz,Result.andThen_ok];exact r1
def Flat(w:World)(A:Nat->Prop)(β:List (Nat×Nat))(h:ab)(sz:Nat)(cs:List Value)(es:List PV):Prop:=
 cs.length=es.length * sz/\∀(i:Nat) (e:PV),es[i]?=some e->(Pm.cells e).length=sz/\∀(j:Nat) (q:PV),(Pm.cells e)[j]?=some q->∃u:Value,cs[i * sz+j]?=some u/\aD w A β h u q
theorem Flat.nil(w:World)(A:Nat->Prop)(β:List (Nat×Nat))(h:ab)(sz:Nat):Flat w A β h sz [] []:=⟨by simp,λi e he=>by simp at he⟩
theorem Flat.append{A:Nat->Prop}{sz:Nat}{cs jd:List Value}{es fq:List PV}(a:Flat w A β h sz cs es)(b:Flat w A β h sz jd fq):Flat w A β h sz (cs++jd) (es++fq):=by
 refine⟨by simp[a.1,b.1,aag],λi e he=>?_⟩
 by_cases hi:i<es.length
 ·rw[Zv hi]at he;obtain⟨h1,h2⟩:=a.2 i e he;refine⟨h1,λj q hq=>?_⟩;obtain⟨u,k1,k2⟩:=h2 j q hq;exact⟨u,by rw[Zv (ag k1)];exact k1,k2⟩
 ·rw[ZI (by omega)]at he;obtain⟨h1,h2⟩:=b.2 _ e he;refine⟨h1,λj q hq=>?_⟩;obtain⟨u,k1,k2⟩:=h2 j q hq;refine⟨u,?_,k2⟩;have hm:i * sz=(i - es.length) * sz+es.length * sz:=by rw[<-aag];congr 1;omega
  rw[ZI (by rw[a.1,hm];omega),a.1,hm];rw[show(i - es.length) * sz+es.length * sz+j - es.length * sz=(i - es.length) * sz+j by omega];exact k1
theorem Flat.take{A:Nat->Prop}{sz:Nat}{cs:List Value}{es:List PV}(a:Flat w A β h sz cs es)(n:Nat)(hn:n<=es.length):Flat w A β h sz (cs.take (n * sz)) (es.take n):=by
 have hle:n * sz<=es.length * sz:=Z9 _ hn;refine⟨by simp only[aat,a.1];rw[abc hn,abc hle],λi e he=>?_⟩;rw[ZO]at he
 split at he
 ·rename_i hi
  obtain⟨h1,h2⟩:=a.2 i e he;refine⟨h1,λj q hq=>?_⟩;obtain⟨u,k1,k2⟩:=h2 j q hq;refine⟨u,?_,k2⟩;have hj:=ag hq;have:=jX (s:=sz) hi;rw[ZO,if_pos (by omega)];exact k1
 ·cases he
theorem Flat.OH{A:Nat->Prop}{sz:Nat}{cs:List Value}{es:List PV}(a:Flat w A β h sz cs es)(hs:0<sz)(ho:es.all (λv=>decide ((Pm.cells v).length=sz)&& (Pm.cells v).all bG)=true):∀u∈cs,u.oneCell'=true:=by
 intro u hu
 obtain⟨k,hk⟩:=aas hu;have FG:=ag hk;rw[a.1]at FG;have hi:k / sz<es.length:=(Nat.div_lt_iff_lt_mul hs).2 FG;have cT:=Zy hi;obtain⟨h1,h2⟩:=a.2 _ _ cT;have hj:k % sz<(Pm.cells es[k / sz]).length:=by rw[h1];exact abm _ hs
 obtain⟨u',m1,m2⟩:=h2 _ _ (Zy hj);rw[abM,Nat.div_add_mod,hk]at m1;obtain rfl:=Zu m1;have eA:=Zw.1 ho _ (Z2 hi);simp only[ZD]at eA;exact SY m2 (Zw.1 eA.2 _ (Z2 hj))
theorem kX(H:aZ w F β h){v:Value}{p:PV}{ys:List PV}{sz:Nat}(hv:aD w (Av F h β) β h v p)(e:ch h p=some ys)(hz:∀y∈ys,(Pm.cells y).length=sz):
  ∃a cap,v=.slice a ys.length cap/\ys.length<=cap/\∃cs:List Value,Flat w (Av F h β) β h sz cs ys/\
   (∀w',w'.heap=w.heap->∀n,n<=ys.length->(Builtin.firstCells sz n v).run P w'=.ok (cs.take (n * sz)).toArray w'):=by
 have main:∀(b off cap:Nat) (R:Nat->Nat->Value->Prop),(∀i j,i<ys.length->j<sz->∃u,w.cell? ⟨b,off+(i * sz+j),none⟩=some u/\R i j u)->
   ∃cs:List Value,cs.length=ys.length * sz/\(∀i j,i<ys.length->j<sz->∃u,cs[i * sz+j]?=some u/\R i j u)/\
    ∀w',w'.heap=w.heap->∀n,n<=ys.length->(Builtin.firstCells sz n (.slice (some ⟨b,off,none⟩) ys.length cap)).run P w'=.ok (cs.take (n * sz)).toArray w':=by
  intro b off cap R hc
  obtain⟨cs,l1,l2⟩:=oM (R:=λk u=>w.cell? ⟨b,off+k,none⟩=some u/\R (k / sz) (k % sz) u) (ys.length * sz) (λk hk=>by
   have hs:0<sz:=by
    rcases Nat.eq_zero_or_pos sz with h0 |h0
    ·subst h0;simp at hk
    ·exact h0
   obtain⟨u,m1,m2⟩:=hc (k / sz) (k % sz) ((Nat.div_lt_iff_lt_mul hs).2 hk) (abm _ hs);refine⟨u,?_,m2⟩;rw[<-m1,abM,Nat.div_add_mod])
  have at_k:∀i j,i<ys.length->j<sz->i * sz+j<ys.length * sz:=λi j hi hj=>by have:=jX (s:=sz) hi;omega
  refine⟨cs,l1,λi j hi hj=>?_,λw' Dt n hn=>?_⟩
  ·have hk:=at_k i j hi hj;have:=(l2 (i * sz+j) hk).2;have hs:0<sz:=by omega
   rw[show(i * sz+j) / sz=i by rw[abM,Nat.mul_add_div hs,Nat.div_eq_of_lt hj,aaX],show(i * sz+j) % sz=j by rw[abM,Nat.mul_add_mod,Nat.mod_eq_of_lt hj]]at this;refine⟨cs[i * sz+j]'(by omega),Zy _,?_⟩;simpa[List.getD,show i * sz+j<cs.length by omega]using this
  ·have hle:n * sz<=ys.length * sz:=Z9 _ hn
   have:=run_firstCells_some (P:=P) w' sz n ⟨b,off,none⟩ ys.length cap (cs.take (n * sz)) (by simp only[aat,l1];omega) (λj v hj=>by
    have hjl:=ag hj;simp only[aat,l1]at hjl;rw[ZO,if_pos (by omega)]at hj;have:=(l2 j (by omega)).1;rw[eH,ku (w:=w) (w':=w') (by rw[Dt]),this];simp[List.getD,hj])
   exact this
 unfold ch at e
 split at e
 ·rename_i full es
  obtain rfl:=Zu e;have hs:=hv.fp
  cases hs with
  |gA a cap _ hf=>
   refine⟨a,cap,rfl,aaL _,[],Flat.nil _ _ _ _ _,λw' Dt n hn=>?_⟩
   ·obtain rfl:n=0:=by simpa using hn
    cases a <;>simp[Builtin.firstCells,loadCells,loadCellsFrom]
  |aa b off cap FA _ _ oh k1 k2 k3 k4 k5 k6 k7 k8=>
   have gm:FA=sz:=by
    have hp:0<es.length:=aa8.2 k1;rw[<-k6 0 hp];apply hz;rw[ZR,Zy hp];exact Z2 hp
   subst gm;obtain⟨cs,l1,l2,l3⟩:=main b off cap (λi j u=>bY w (Av F h β) u ((Pm.cells (es.getD i .any)).getD j .any)) (λi j hi hj=>⟨oh i j,k7 i j hi hj,k8 i j hi hj⟩);refine⟨_,cap,rfl,k2,cs,⟨l1,λi e he=>?_⟩,l3⟩
   ·have hi:=ag he;have e1:es.getD i .any=e:=by simp[List.getD,he]
    have e2:=k6 i hi;rw[e1]at e2;refine⟨e2,λj q hq=>?_⟩;have hj:=ag hq;obtain⟨u,m1,m2⟩:=l2 i j hi (by omega);refine⟨u,m1,?_⟩;rw[e1]at m2;have e3:(Pm.cells e).getD j .any=q:=by simp[List.getD,hq]
    rw[e3]at m2;exact .val m2
 ·rename_i id ep off len
  split at e
  ·rename_i o ho
   split at e
   ·rename_i hle
    obtain rfl:=Zu e;obtain⟨e1,e2,e3⟩:=getM_some ho;obtain⟨bc,hb⟩:=dg H.len e1;obtain⟨h1,h2,h3⟩:=hv.dG;obtain⟨cap,rfl,c2⟩:=h3 o bc e1 hb e3 e2 hle;obtain⟨T,rY,k1,k2,k3,k4,k5⟩:=(H.obj id o bc e1 hb e3).c (h2 o e1).2;have hlen:((o.es.drop off).take len).length=len:=by simp;omega
    have at_i:∀i,i<len->∃e,((o.es.drop off).take len)[i]?=some e/\o.es[off+i]?=some e:=λi hi=>by
     refine⟨o.es[off+i]'(by omega),?_,Zy (by omega)⟩;rw[ZO,if_pos hi,Z7];exact Zy (by omega)
    by_cases Fm:len=0
    ·subst Fm;refine⟨some ⟨bc.1,off * o.bB,none⟩,cap,by simp,by simp,[],by simpa using Flat.nil _ _ _ _ _,λw' Dt n hn=>?_⟩
     ·obtain rfl:n=0:=by simpa using hn
      simp[Builtin.firstCells,loadCells,loadCellsFrom]
    ·have gm:o.bB=sz:=by
      obtain⟨el,m1,m2⟩:=at_i 0 (by omega);rw[<-(k5 _ el m2).1];exact hz el (ZK m1)
     subst gm
     obtain⟨cs,l1,l2,l3⟩:=main bc.1 (off * o.bB) cap (λi j u=>∀el q,o.es[off+i]?=some el->(Pm.cells el)[j]?=some q->aD w (Av F h β) β h u q) (λi j hi hj=>by
      rw[hlen]at hi;obtain⟨el,m1,m2⟩:=at_i i hi;obtain⟨n1,n2⟩:=k5 _ el m2;obtain⟨u,p1,p2⟩:=n2 j (Pm.cells el)[j] (Zy (by omega));refine⟨u,?_,λpU q r1 r2=>?_⟩
      ·rw[cell_of_row w bc.1 _ rY T (0,0) k1,<-aaV,<-aag];exact p1
      ·rw[m2]at r1;obtain rfl:=Zu r1;rw[Zy (by omega)]at r2;obtain rfl:=Zu r2;exact p2)
     rw[hlen]at l2 l3 ⊢;refine⟨_,cap,rfl,by omega,cs,⟨by rw[l1,hlen],λi el he=>?_⟩,λw' Dt n hn=>l3 w' Dt n hn⟩
     ·have hi:=ag he;rw[hlen]at hi;obtain⟨pU,m1,m2⟩:=at_i i hi;rw[m1]at he;obtain rfl:=Zu he;obtain⟨n1,n2⟩:=k5 _ pU m2;refine⟨n1,λj q hq=>?_⟩;have hj:=ag hq;obtain⟨u,r1,r2⟩:=l2 i j hi (by omega);exact⟨u,r1,r2 pU q m2 hq⟩
   ·cases e
  ·cases e
 ·cases e
theorem pM{A:Nat->Prop}{vz:Value}{z:PV}{sz:Nat}(hz:aD w A β h vz z)(h1:(Pm.cells z).length=sz)(h2:(Pm.cells z).all bG=true)(hs:0<sz)(n:Nat):
  vz.cells.size=sz/\Flat w A β h sz (List.map (λi=>vz.cells[i % vz.cells.size]!) (List.range (n * sz))) (List.replicate n z):=by
 obtain⟨x1,x2⟩:=hz.cells h2;refine⟨by omega,by simp,λi e he=>?_⟩;have hi:=ag he;simp at hi;rw[List.getElem?_replicate,if_pos hi]at he;obtain rfl:=Zu he;refine⟨h1,λj q hq=>?_⟩;have hj:=ag hq;obtain⟨u,m1,m2,m3⟩:=x2 j q hq;refine⟨u,?_,m2⟩;have hk:i * sz+j<n * sz:=by have:=jX (s:=sz) hi;omega
 rw[ZP,abP hk];simp only[ZH];rw[x1,h1,abM,Nat.mul_add_mod,Nat.mod_eq_of_lt (by omega)];rw[getElem!_def,m1]
theorem gv(n:Nat)(f:Nat->Value):((Array.range n).map f)=(List.map f (List.range n)).toArray:=by
 apply aaR;simp
theorem qL{t:TypeId}{n:Nat}(e:lT P t=some n):∃i,P.info? t=some i/\i.bytes=n:=by
 unfold lT at e
 cases hi:P.info? t with
 |none=>rw[hi]at e;simp at e
 |some i=>rw[hi]at e;simp at e;exact⟨i,rfl,e⟩
def qM:TypeDesc->Bool | .int _=>true |_=>false
theorem rr(H:aZ w F β h){e st xt:TypeId}{sz bytes:Nat}{z:PV}{vz x:Value}{px:PV}{ys:List PV}(hs:cg P e=some sz)(hb:lT P e=some bytes)(hz:iL P e=some z)(nA:0<sz)(jc:bytes<=65536)
  (hx:aD w (Av F h β) β h x px) (ea:cy P h z xt px=some ys) (eA:ys.all (λv=>decide ((Pm.cells v).length=sz)&& (Pm.cells v).all bG)=true):
  ∃zb:Bool,∃d,P.underlying xt=some d/\zb=qM d/\
   ∃news:List Value,Flat w (Av F h β) β h sz news ys/\(∀u∈news,u.oneCell'=true)/\
    (zb=false->(Builtin.lenOf x).run P w=.ok ys.length w/\∀w',w'.heap=w.heap->(Builtin.firstCells sz ys.length x).run P w'=.ok news.toArray w')/\
    (zb=true->∃k,x=.int k ys.length/\ys.length<=1073741824/\∀w',(if ys.length * sz=0 then pure #[]else do pure (Builtin.zeroCells (<-zeroValue e).cells ys.length):Sem (Array Value)).run P w'=.ok news.toArray w'):=by
 unfold cy at ea
 split at ea
 ·rename_i ik k n hu
  split at ea
  ·rename_i hn
   obtain rfl:=Zu ea;obtain rfl:=hx.dF;obtain⟨vz,r1,r2⟩:=sL hz w (Av F h β) β h
   by_cases h0:n.toNat=0
   ·refine⟨true,_,hu,rfl,[],by rw[h0];simpa using Flat.nil w (Av F h β) β h sz,by simp,by simp,λ_=>⟨k,by simp;omega,by simp;omega,λw'=>?_⟩⟩;simp[h0]
   ·have sA:=Zw.1 eA z (by simp;omega);simp only[ZD,decide_eq_true_eq]at sA;obtain⟨s1,s2⟩:=pM r2 sA.1 sA.2 nA n.toNat;refine⟨true,_,hu,rfl,_,s2,s2.OH nA eA,by simp,λ_=>⟨k,by simp;omega,by simp;omega,λw'=>?_⟩⟩
    have bI:¬(List.replicate n.toNat z).length * sz=0:=by
     rw[aaN];exact Nat.mul_ne_zero h0 (by omega)
    have hzr:(zeroValue e).run P w'=.ok vz w':=by
     have:=r1;unfold zeroValue typeInfo at this ⊢;simp only[Sem.run_bind,run_program,Result.andThen_ok]at this ⊢
     cases hi:P.info? e with
     |none=>rw[hi]at this;simp at this
     |some i=>
      rw[hi]at this;simp at this ⊢
      cases hzz:i.zero with
      |none=>rw[hzz]at this;simp at this
      |some v=>rw[hzz]at this;simp at this ⊢;exact this
    rw[if_neg bI];simp only[Sem.run_bind,hzr,Result.andThen_ok,Sem.run_pure,Builtin.zeroCells,gv,aaN,s1]
  ·cases ea
 ·rename_i el hu
  have GO:∀y∈ys,(Pm.cells y).length=sz:=λy hy=>by
   have:=Zw.1 eA y hy;simp only[ZD,decide_eq_true_eq]at this;exact this.1
  obtain⟨a,cap,rfl,hle,cs,f1,f2⟩:=kX (P:=P) H hx ea GO;refine⟨false,_,hu,rfl,cs,f1,f1.OH nA eA,λ_=>⟨by simp[Builtin.lenOf],λw' Dt=>?_⟩,by simp⟩;have:=f2 w' Dt ys.length (Zz _);rwa[ZW (by rw[f1.1];omega)]at this
 ·cases ea
theorem Flat.obj{A:Nat->Prop}{sz:Nat}{cs rest:List Value}{es:List PV}(a:Flat w A β h sz cs es)(i:Nat)(e:PV)(he:es[i]?=some e):
  (Pm.cells e).length=sz/\∀(j:Nat) (p:PV),(Pm.cells e)[j]?=some p->∃v:Value,(cs++rest).toArray[i * sz+j]?=some v/\aD w A β h v p:=by
 obtain⟨h1,h2⟩:=a.2 i e he;refine⟨h1,λj p hp=>?_⟩;obtain⟨u,k1,k2⟩:=h2 j p hp;exact⟨u,by rw[aaZ,Zv (ag k1)];exact k1,k2⟩
theorem wrap_small{n:Nat}(h:n<=1073741824):IntKind.i64.wrap (n:Int)=n:=by
 simp[IntKind.wrap,IntKind.bits,IntKind.signed];omega
theorem max_i64:IntKind.i64.max=9223372036854775807:=by decide
theorem wT{n b:Nat}(h:roomy n b=true):n * b<=17592186044416/\n<=17592186044416:=by
 simpa[roomy]using h
theorem lR{ts:Array TypeId}{ty st xt e:TypeId}{args:Array Value}{sz sLen sCap n:Nat}{base:Option Addr}{x:Value}{d:TypeDesc}{zb:Bool}{news:List Value}
  (h1:ts[0]?=some st) (h2:ts[1]?=some xt) (h3:args[0]?=some (.slice base sLen sCap)) (h4:args[1]?=some x) (hu:P.underlying st=some (.slice e)) (hs:cg P e=some sz)
  (hd:P.underlying xt=some d) (VS:zb=qM d) {bytes:Nat} (hb:lT P e=some bytes) (jc:bytes<=65536)
  (hf:zb=false->(Builtin.lenOf x).run P w=.ok n w/\∀w',w'.heap=w.heap->(Builtin.firstCells sz n x).run P w'=.ok news.toArray w')
  (ht:zb=true->∃k,x=.int k n/\n<=1073741824/\∀w',(if n * sz=0 then pure #[]else do pure (Builtin.zeroCells (<-zeroValue e).cells n):Sem (Array Value)).run P w'=.ok news.toArray w')
  (mD:sLen+n<=sCap):
  (Builtin.append_ ts ty args).run P w=(match base with |some a=>(storeCells (a.add (sLen * sz)) news).run P w |none=>.ok () w).andThen λ_ w'=>.ok (.slice base (sLen+n) sCap) w':=by
 obtain⟨i,hi,z8⟩:=qL hb;have TZ:∀w,(typeInfo e).run P w=.ok i w:=λw=>by simp[typeInfo,hi]
 unfold Builtin.append_;simp only[h1,h3,h4,Sem.run_bind,bH hu,Result.andThen_ok,cw hs,h2,bH hd,Sem.run_pure]
 cases zb with
 |false=>
  obtain⟨f1,f2⟩:=hf rfl
  cases d with
  |int k=>simp[qM]at VS
  |_=>
   simp only[ZJ,if_false,f1,Result.andThen_ok,mD,if_true,Sem.run_bind,abz,f2 w rfl]
   cases base <;>simp
 |true=>
  obtain⟨k,rfl,hn,t2⟩:=ht rfl
  have xM:¬((n:Int) * (bytes:Int)>2^48):=by
   have:n * bytes<=1073741824 * 65536:=abC hn jc;have h2:((n * bytes:Nat):Int)<=70368744177664:=by omega
   rw[Int.natCast_mul]at h2;omega
  have Lx:¬((n:Int)<0):=by omega
  cases d with
  |int k=>
   simp only[if_true,asInt,asIntOf,Sem.run_bind,Sem.run_pure,Result.andThen_ok,wrap_small hn,Sem.run_ite,Lx,if_false,TZ,z8,xM,aaH,mD,abn,ZJ];have:=t2 w;simp only[Sem.run_ite,Sem.run_bind,Sem.run_pure]at this;rw[this]
   cases base <;>simp
  |_=>simp[qM]at VS
theorem wU(w:World)(need old:Nat)(e:TypeId)(hn:need<=17592186044416):∃c,need<=c/\(choose (.appendCap need old e)).run P w=.ok c w.drew:=by
 refine⟨_,?_,by simp only[run_choose,Question.forced,ZJ,if_false];rfl⟩;simp[Question.cut]
theorem oQ{ts:Array TypeId}{ty st xt e:TypeId}{args:Array Value}{sz sLen sCap n:Nat}{base:Option Addr}{x vz:Value}{d:TypeDesc}{zb:Bool}{news olds:List Value}
  (h1:ts[0]?=some st) (h2:ts[1]?=some xt) (h3:args[0]?=some (.slice base sLen sCap)) (h4:args[1]?=some x) (hu:P.underlying st=some (.slice e)) (hs:cg P e=some sz)
  (hd:P.underlying xt=some d) (VS:zb=qM d) {bytes:Nat} (hb:lT P e=some bytes) (jc:bytes<=65536) (hz:∀w,(zeroValue e).run P w=.ok vz w)
  (hf:zb=false->(Builtin.lenOf x).run P w=.ok n w/\∀w',w'.heap=w.heap->(Builtin.firstCells sz n x).run P w'=.ok news.toArray w')
  (ht:zb=true->∃k,x=.int k n/\n<=1073741824/\∀w',(if n * sz=0 then pure #[]else do pure (Builtin.zeroCells (<-zeroValue e).cells n):Sem (Array Value)).run P w'=.ok news.toArray w')
  (hold:∀w',w'.heap=w.heap->(Builtin.firstCells sz sLen (.slice base sLen sCap)).run P w'=.ok olds.toArray w')
  (mD:¬sLen+n<=sCap) (Sf:(sLen+n) * bytes<=17592186044416) (Kx:sLen+n<=17592186044416):
  ∃c,sLen+n<=c/\(Builtin.append_ ts ty args).run P w=.ok (.slice (some ⟨w.heap.size,0,none⟩) (sLen+n) c)
   (w.drew.alloc (.cells (olds.toArray++news.toArray++Builtin.zeroCells vz.cells (c - (sLen+n))) e)):=by
 obtain⟨i,hi,z8⟩:=qL hb;have TZ:∀w,(typeInfo e).run P w=.ok i w:=λw=>by simp[typeInfo,hi]
 obtain⟨c,c1,c2⟩:=wU (P:=P) w (sLen+n) sCap e Kx;refine⟨c,c1,?_⟩;have Ed:¬(((sLen+n:Nat):Int)>IntKind.i64.max):=by rw[max_i64];omega
 have hnx:¬(Builtin.nextslicecap (sLen+n) sCap * i.bytes>2^48):=by
  have:=growslice_fits (need:=sLen+n) (old:=sCap) (bytes:=i.bytes) (by omega) (by rw[z8];omega);omega
 unfold Builtin.append_;simp only[h1,h3,h4,Sem.run_bind,bH hu,Result.andThen_ok,cw hs,h2,bH hd,Sem.run_pure];have fin:((choose (.appendCap (sLen+n) sCap e)).run P w).andThen (λnewCap w'=>.ok newCap w')=.ok c w.drew:=by rw[c2];rfl
 cases zb with
 |false=>
  obtain⟨f1,f2⟩:=hf rfl
  cases d with
  |int k=>simp[qM]at VS
  |_=>
   simp only[ZJ,if_false,f1,Result.andThen_ok,mD,Sem.run_bind,abz,TZ,Sem.run_ite,Ed,false_and,hnx,c2,run_askRoom,hold w.drew rfl,f2 w.drew rfl,if_true,hz,Sem.run_pure,newRow,run_newObj]
   rfl
 |true=>
  obtain⟨k,rfl,hn,t2⟩:=ht rfl
  have xM:¬((n:Int) * (bytes:Int)>2^48):=by
   have:n * bytes<=1073741824 * 65536:=abC hn jc;have h2:((n * bytes:Nat):Int)<=70368744177664:=by omega
   rw[Int.natCast_mul]at h2;omega
  have Lx:¬((n:Int)<0):=by omega
  cases d with
  |int k=>
   have t2':=t2 w.drew;simp only[Sem.run_ite,Sem.run_bind,Sem.run_pure,hz,Result.andThen_ok]at t2';rw[<-z8]at xM;simp only[if_true,asInt,asIntOf,Sem.run_bind,Sem.run_pure,Result.andThen_ok,wrap_small hn,Sem.run_ite,Lx,if_false,TZ,xM,aaH,mD,abn,ZJ,Ed,false_and,hnx,c2,run_askRoom,hold w.drew rfl,hz,t2',newRow,run_newObj]
   rfl
  |_=>simp[qM]at VS
theorem jy{t:TypeId}{z:PV}(e:iL P t=some z):∃v,(∀w,(zeroValue t).run P w=.ok v w)/\∀(w:World) (A:Nat->Prop) (β:List (Nat×Nat)) (h:ab),aD w A β h v z:=by
 unfold iL at e
 cases hi:P.info? t with
 |none=>rw[hi]at e;simp at e
 |some i=>
  rw[hi]at e;simp only[Option.bind_some]at e
  cases hz:i.zero with
  |none=>rw[hz]at e;simp at e
  |some v=>
   rw[hz]at e;simp at e;subst e;exact⟨v,λw=>by simp[zeroValue,typeInfo,hi,hz],λw A β h=>EO w A β h v⟩
theorem wV{id:Nat}{bc:Nat×Nat}(hb:β[id]?=some bc):β.set id bc=β:=by
 apply aaw
 intro k
 by_cases hk:k=id
 ·subst hk;rw[ZB (ag hb)];exact hb.symm
 ·rw[ZC (aak hk)]
theorem qN(H:aZ w F β h){id:Nat}{o:au}{bc:Nat×Nat}(eo:h[id]?=some o)(eb:β[id]?=some bc)(em:o.mu=.m){news:List Value}{ys:List PV}(off:Nat)
  (hf:Flat w (Av F h β) β h o.bB news ys) (h1:∀u∈news,u.oneCell'=true) (hle:off+ys.length<=o.es.length) (hz:0<o.bB:=by first |assumption |omega):
  ∃w',(storeCells ⟨bc.1,off * o.bB,none⟩ news).run P w=.ok () w'/\
   aZ w' F β (h.set id {o with es:=o.es.take off++ys++o.es.drop (off+ys.length)})/\dN w h β w' (h.set id {o with es:=o.es.take off++ys++o.es.drop (off+ys.length)}) β:=by
 obtain⟨T,cs,k1,k2,k3,k4,k5⟩:=(H.obj id o bc eo eb (by rw[em];simp)).c hz;have hn:news.length=ys.length * o.bB:=hf.1
 have Ec:off * o.bB+ys.length * o.bB<=cs.size:=by
  rw[<-aag];exact aaj (Z9 _ (by omega)) k3
 have y9:=run_storeCells_at P bc.1 (off * o.bB) T news 0 cs w k1 (by omega) h1;simp only[aaX]at y9
 have di:(cs.toList.take (off * o.bB)++news++cs.toList.drop (off * o.bB+news.length)).length=cs.size:=by
  simp only[Zx,aat,abl,aaK];omega
 have cT:(o.es.take off++ys++o.es.drop (off+ys.length)).length=o.es.length:=by simp;omega
 refine⟨_,y9,?_⟩
 have:=aZ.set H eo eb em (w':=w.setRow bc.1 (cs.toList.take (off * o.bB)++news++cs.toList.drop (off * o.bB+news.length)).toArray) T
  (cs.toList.take (off * o.bB)++news++cs.toList.drop (off * o.bB+news.length)).toArray (o.es.take off++ys++o.es.drop (off+ys.length)) o.ep bc (by simp)
  (setRow_heap w bc.1 cs _ T (0,0) k1) (λb hb bI=>setRow_other w bc.1 b _ bI) (.inl ⟨rfl,λ_=>cT⟩) (Zz _) rfl rfl rfl (by rw[cT];exact k2) (by rw[abD,di];exact k3) (λi e he=>?_)
 ·rw[wV eb]at this;exact this
 ·rw[gd _ _ _ _ hle]at he
  have hi:i<o.es.length:=by
   rcases Z8 i o.es.length with hh |hh
   ·exact hh
   ·rw[if_neg (by omega),if_neg (by omega),ZM hh]at he;cases he
  by_cases hA:off<=i/\i<off+ys.length
  ·rw[if_neg (by omega),if_pos hA.2]at he;obtain⟨n1,n2⟩:=hf.2 _ e he;refine⟨n1,λj q hq=>?_⟩;obtain⟨u,p1,p2⟩:=n2 j q hq;have hj:=ag hq;refine⟨u,?_,p2⟩;have e1:i * o.bB=off * o.bB+(i - off) * o.bB:=by rw[<-aag];congr 1;omega
   have e2:=jX (s:=o.bB) (show i - off<ys.length by omega);rw[aaZ,gd _ _ _ _ (by rw[hn];simpa using Ec),if_neg (by omega),if_pos (by rw[hn];omega),e1];rw[show off * o.bB+(i - off) * o.bB+j - off * o.bB=(i - off) * o.bB+j by omega];exact p1
  ·have TY:o.es[i]?=some e:=by
    by_cases hB:i<off
    ·rwa[if_pos hB]at he
    ·rwa[if_neg hB,if_neg (by omega)]at he
   obtain⟨n1,n2⟩:=k5 i e TY;refine⟨n1,λj q hq=>?_⟩;obtain⟨u,p1,p2⟩:=n2 j q hq;have hj:=ag hq;refine⟨u,?_,p2⟩;rw[aaZ,gd _ _ _ _ (by rw[hn];simpa using Ec)]
   by_cases hB:i<off
   ·have:=jX (s:=o.bB) hB;rw[if_pos (by omega)];simpa using p1
   ·have:(off+ys.length) * o.bB<=i * o.bB:=Z9 _ (by omega);rw[aag]at this;rw[if_neg (by omega),if_neg (by rw[hn];omega)];simpa using p1
theorem EP(H:aZ w F β h){ts:Array TypeId}{ty st xt:TypeId}{args:Array Value}{lv:Nat}{sv x:Value}{s px r:PV}{h':ab}
  (h1:ts[0]?=some st) (h2:ts[1]?=some xt) (h3:args[0]?=some sv) (h4:args[1]?=some x) (hs:aD w (Av F h β) β h sv s) (hx:aD w (Av F h β) β h x px)
  (e:bL P lv h st xt s px=some (r,h')):Aa P lv w F β h (Builtin.append_ ts ty args) r h':=by
 unfold bL at e
 split at e
 ·rename_i el hu
  split at e
  ·rename_i sz bytes z q1 q2 q3
   split at e
   ·rename_i ys hy
    split at e
    ·rename_i hc
     obtain⟨nA,jc,hzc,eA⟩:=hc;obtain⟨vz,z1,z2⟩:=jy (P:=P) q3;obtain⟨zb,d,a1,a2,news,a3,a4,a5,a6⟩:=rr (st:=st) (vz:=vz) H q1 q2 q3 nA jc hx hy eA;have zsz:vz.cells.size=sz:=by rw[((z2 w (Av F h β) β h).cells hzc.2).1];exact hzc.1
     have arr:∀(cs:List Value) (n:Nat),cs.toArray++news.toArray++Builtin.zeroCells vz.cells n=(cs++news++(Builtin.zeroCells vz.cells n).toList).toArray:=λcs n=>by apply aaR;simp
     have arrsz:∀(cs:List Value) (k m c:Nat),cs.length=k * sz->k+m<=c->news.length=m * sz->c * sz<=(cs.toArray++news.toArray++Builtin.zeroCells vz.cells (c - (k+m))).size:=λcs k m c e1 e2 e3=>by
      simp only[Array.size_append,abD,size_zeroCells,zsz,e1,e3,<-aag];rw[show k+m+(c - (k+m))=c by omega];exact Zz _
     split at e
     ·-- a snapshot
      rename_i full es
      obtain⟨a,cap,rfl,hle,tM⟩:=hs.fp.jN
      split at e
      ·rename_i OE
       obtain rfl:ys=[]:=by simpa using OE
       obtain⟨rfl,rfl⟩:=ZG (Zu e);have hn:news=[]:=ZL (by simpa using a3.1);subst hn;have:=lR (P:=P) (w:=w) (ty:=ty) h1 h2 h3 h4 hu q1 a1 a2 q2 jc (n:=0) a5 a6 (by omega);refine Aa.still H (v:=.slice a es.length cap) ?_ hs;rw[this]
       cases a <;>simp[storeCells]
      ·rename_i bI
       split at e
       ·rename_i I1
        obtain⟨rfl,Dk,EQ,iP⟩:=I1;obtain⟨rfl,rfl⟩:=ZG (Zu e);obtain⟨b1,b2⟩:=wT EQ
        have hy0:0<ys.length:=by
         cases ys with
         |nil=>simp at bI
         |cons=>simp
        have Ai:=tM rfl
        have hez:∀y∈es,(Pm.cells y).length=sz:=λy hy=>by
         have:=Zw.1 iP y hy;simp only[ZD,decide_eq_true_eq]at this;exact this.1
        obtain⟨a',DA,ev,_,cs,f1,f2⟩:=kX (P:=P) H hs (show ch h (.aa true es)=some es from rfl) hez
        obtain⟨c,c1,c2⟩:=oQ (P:=P) (w:=w) (ty:=ty) (sLen:=es.length) h1 h2 h3 h4 hu q1 a1 a2 q2 jc z1 a5 a6 (λw' Dt=>by
         have:=f2 w' Dt es.length (Zz _);rwa[ZW (by rw[f1.1];omega)]at this) (by omega) b1 b2
        have I3:=f1.append a3
        obtain⟨HH,S⟩:=aZ.new H (w':=w.drew.alloc (.cells (cs.toArray++news.toArray++Builtin.zeroCells vz.cells (c - (es.length+ys.length))) el)) el
         (cs.toArray++news.toArray++Builtin.zeroCells vz.cells (c - (es.length+ys.length))) {mu:=.m,ep:=0,bB:=sz,es:=es++ys} c rfl rfl rfl rfl rfl (by simpa using c1)
         (arrsz cs _ _ c f1.1 c1 a3.1) nA (λi e he=>by
          rw[arr];exact I3.obj (rest:=(Builtin.zeroCells vz.cells (c - (es.length+ys.length))).toList) i e he)
        exact⟨_,_,_,c2,H.uH,HH,S,λ_=>(dz.drew w).trans (dz.alloc _ _)⟩
       ·cases e
     ·-- a reference
      rename_i id ep off len
      split at e
      ·rename_i o ho
       obtain⟨e1,e2,e3⟩:=getM_some ho;obtain⟨bc,hb⟩:=dg H.len e1;obtain⟨m1,m2,m3⟩:=hs.dG
       split at e
       ·rename_i I1
        obtain⟨hle,gm⟩:=I1;obtain⟨cap,rfl,c2⟩:=m3 o bc e1 hb e3 e2 hle;obtain⟨T,rY,k1,k2,k3,k4,k5⟩:=(H.obj id o bc e1 hb e3).c (m2 o e1).2
        split at e
        ·rename_i OE
         obtain rfl:ys=[]:=by simpa using OE
         obtain⟨rfl,rfl⟩:=ZG (Zu e);have hn:news=[]:=ZL (by simpa using a3.1);subst hn;have:=lR (P:=P) (w:=w) (ty:=ty) h1 h2 h3 h4 hu q1 a1 a2 q2 jc (n:=0) a5 a6 (by omega);refine Aa.still H (v:=.slice (some ⟨bc.1,off * o.bB,none⟩) len cap) ?_ hs;rw[this];simp[storeCells]
        ·rename_i bI
         split at e
         ·rename_i hc3
          obtain⟨rfl,Dk,xX,_,kG⟩:=hc3;obtain⟨rfl,rfl⟩:=ZG (Zu e);subst gm;have fL:=lR (P:=P) (w:=w) (ty:=ty) h1 h2 h3 h4 hu q1 a1 a2 q2 jc a5 a6 (show len+ys.length<=cap by omega);obtain⟨w',s1,s2,s3⟩:=qN (P:=P) H e1 hb xX len a3 a4 kG;simp only[aa7,eH,ZS]at fL;rw[s1]at fL;simp only[Result.andThen_ok]at fL;refine⟨_,w',β,fL,?_,s2,s3,λhh=>by omega⟩;refine .aj _ id ep 0 (len+ys.length) {o with es:=o.es.take len++ys++o.es.drop (len+ys.length)} bc ⟨_,_,_,rfl⟩ (ZB (ag e1)) hb (by show o.mu≠.x;rw[xX];simp) ⟨by show ep<=o.ep;omega,k4⟩ (λ_ _=>⟨cap,by simp,c2⟩)
         split at e
         ·rename_i hc3
          obtain⟨rfl,Dk,xX,EQ⟩:=hc3;obtain⟨rfl,rfl⟩:=ZG (Zu e);obtain⟨b1,b2⟩:=wT EQ
          have hy0:0<ys.length:=by
           cases ys with
           |nil=>simp at bI
           |cons=>simp
          subst gm;have iP:ch h (.aj id ep 0 len)=some ((o.es.drop 0).take len):=by simp only[ch,ho,if_pos hle]
          have DS:((o.es.drop 0).take len).length=len:=by simp;omega
          obtain⟨a',DA,ev,_,cs,f1,f2⟩:=kX (P:=P) (sz:=o.bB) H hs iP (λy hy=>by
           obtain⟨k,hk⟩:=aas hy;rw[ZO]at hk
           split at hk
           ·simp at hk;exact(k5 k y hk).1
           ·cases hk)
          simp only[aaA]at f1 DS f2;have Pk:len<=o.es.length:=by omega
          by_cases mD:len+ys.length<=cap
          ·-- there is room
           have fL:=lR (P:=P) (w:=w) (ty:=ty) h1 h2 h3 h4 hu q1 a1 a2 q2 jc a5 a6 mD;have hk3:(len+ys.length) * o.bB<=rY.size:=aaj (Z9 _ (by omega)) k3;rw[aag]at hk3;have y9:=run_storeCells_at P bc.1 (0 * o.bB+len * o.bB) T news 0 rY w k1 (by rw[a3.1];omega) a4;simp only[aa7,ZS,aaX]at y9 fL;rw[eH,ZS,y9]at fL;simp only[Result.andThen_ok]at fL
           have SZ:Flat w (Av F h β) β h o.bB (rY.toList.take (len * o.bB)) (o.es.take len):=by
            refine⟨by simp only[aat,aaK];rw[abc Pk,abc (by omega)],λi e he=>?_⟩;rw[ZO]at he
            split at he
            ·rename_i hi
             obtain⟨n1,n2⟩:=k5 i e he;refine⟨n1,λj q hq=>?_⟩;obtain⟨u,p1,p2⟩:=n2 j q hq;have hj:=ag hq;have:=jX (s:=o.bB) hi;exact⟨u,by rw[ZO,if_pos (by omega)];simpa using p1,p2⟩
            ·cases he
           have I3:=SZ.append a3
           have IY:(rY.toList.take (len * o.bB)++news++rY.toList.drop (len * o.bB+news.length)).length=rY.size:=by
            simp only[Zx,aat,abl,aaK,a3.1];omega
           obtain⟨HH,S⟩:=aZ.set H e1 hb xX (w':=w.setRow bc.1 (rY.toList.take (len * o.bB)++news++rY.toList.drop (len * o.bB+news.length)).toArray) T
            (rY.toList.take (len * o.bB)++news++rY.toList.drop (len * o.bB+news.length)).toArray (o.es.take len++ys) (ep+1) bc (by simp)
            (setRow_heap w bc.1 rY _ T (0,0) k1) (λb hb bI=>setRow_other w bc.1 b _ bI) (.inl ⟨rfl,λhe=>by omega⟩) (by omega) rfl rfl rfl (by simp;omega)
            (by rw[abD,IY];exact k3) (λi e he=>I3.obj i e he)
           exact⟨_,_,_,fL,by have:=H.FR (w':=w.setRow bc.1 (rY.toList.take (len * o.bB)++news++rY.toList.drop (len * o.bB+news.length)).toArray) (A:=Av F (h.set id {o with es:=o.es.take len++ys,ep:=ep+1}) (β.set id bc)) e1 xX (b:=bc.1) (cap:=cap) (len:=len+ys.length) (ep:=ep+1) (es:=o.es.take len++ys);simpa[show cap=bc.2 by omega]using this,HH,S,λhh=>by omega⟩
          ·-- it moves
           obtain⟨c,c1,fL⟩:=oQ (P:=P) (w:=w) (ty:=ty) (olds:=cs) h1 h2 h3 h4 hu q1 a1 a2 q2 jc z1 a5 a6 (λw' Dt=>by
            have e3:(.slice (some ⟨bc.1,0 * o.bB,none⟩) len cap:Value)=.slice (some ⟨bc.1,0 * o.bB,none⟩) len cap:=rfl;have:=f2 w' Dt len (by omega);rwa[ZW (by rw[f1.1,DS];exact Zz _)]at this) mD b1 b2
           have I3:=f1.append a3
           obtain⟨HH,S⟩:=aZ.set H e1 hb xX (w':=w.drew.alloc (.cells (cs.toArray++news.toArray++Builtin.zeroCells vz.cells (c - (len+ys.length))) el)) el
            (cs.toArray++news.toArray++Builtin.zeroCells vz.cells (c - (len+ys.length))) (o.es.take len++ys) (ep+1) (w.heap.size,c) (by simp)
            (heap_alloc_new w.drew _) (λb hb bI=>heap_alloc_old w.drew _ b hb) (.inr ⟨Zz _,by omega⟩) (by omega) rfl rfl rfl (by simp;omega)
            (arrsz cs _ _ c (by rw[f1.1,DS]) c1 a3.1) (λi e he=>by
             rw[arr];exact I3.obj (rest:=(Builtin.zeroCells vz.cells (c - (len+ys.length))).toList) i e he)
           exact⟨_,_,_,fL,H.FR e1 xX,HH,S,λhh=>by omega⟩
         ·cases e
       ·cases e
      ·cases e
     ·cases e
    ·cases e
   ·cases e
  ·cases e
 ·cases e
theorem Ly(H:aZ w F β h){ts:Array TypeId}{ty dt:TypeId}{args:Array Value}{lv:Nat}{dv x:Value}{d px r:PV}{h':ab}
  (h1:ts[0]?=some dt) (h3:args[0]?=some dv) (h4:args[1]?=some x) (hd:aD w (Av F h β) β h dv d) (hx:aD w (Av F h β) β h x px)
  (e:yk P lv h dt d px=some (r,h')):Aa P lv w F β h (Builtin.copy_ ts ty args) r h':=by
 unfold yk at e
 split at e
 ·rename_i el id ep off len ys hu hy
  split at e
  ·rename_i sz o hs ho
   split at e
   ·rename_i hc
    obtain⟨Dk,xX,rfl,hle,eA,VT⟩:=hc;obtain⟨rfl,rfl⟩:=ZG (Zu e);obtain⟨e1,e2,e3⟩:=getM_some ho;obtain⟨bc,hb⟩:=dg H.len e1;obtain⟨m1,m2,m3⟩:=hd.dG;obtain⟨cap,rfl,c2⟩:=m3 o bc e1 hb e3 e2 hle
    obtain⟨a,DA,rfl,Zr,cs,f1,f2⟩:=kX (P:=P) (sz:=o.bB) H hx hy (λy hy=>by
     have:=Zw.1 eA y hy;simpa only[decide_eq_true_eq]using this)
    obtain⟨T,rY,k1,k2,k3,k4,k5⟩:=(H.obj id o bc e1 hb e3).c (m2 o e1).2;have hn:min ys.length len<=ys.length:=Nat.min_le_left _ _;have ft:=f1.take (min ys.length len) hn;have DS:(ys.take (min ys.length len)).length=min ys.length len:=by simp only[aat];omega
    obtain⟨w',r1,r2,r3⟩:=qN (P:=P) H e1 hb xX off ft (λu hu=>ft.OH k4 VT u hu) (by rw[DS];omega);rw[DS]at r2 r3;refine⟨.int .i64 (min ys.length len:Nat),w',β,?_,.val (.int _ _),r2,r3,λhh=>by omega⟩;have fL:=f2 w rfl (min ys.length len) hn;simp only[Builtin.copy_,h1,h3,h4,Sem.run_bind,bH hu,Result.andThen_ok,Builtin.lenOf,Sem.run_pure,cw hs,goInt];have e0:Nat.min ys.length len=min ys.length len:=rfl;rw[e0,fL];simp only[Result.andThen_ok];rw[r1];simp
   ·cases e
  ·cases e
 ·cases e
theorem Ie(H:aZ w F β h){ts:Array TypeId}{ty t:TypeId}{args:Array Value}{lv:Nat}{dv:Value}{d r:PV}{h':ab}
  (h1:ts[0]?=some t) (h3:args[0]?=some dv) (hd:aD w (Av F h β) β h dv d)
  (e:lU P lv h t d=some (r,h')):Aa P lv w F β h (Builtin.clear_ ts ty args) r h':=by
 unfold lU at e
 split at e
 ·rename_i el id ep off len hu
  split at e
  ·rename_i sz z o hs hz ho
   split at e
   ·rename_i hc
    obtain⟨Dk,xX,rfl,hle,P0,Ga⟩:=hc;obtain⟨rfl,rfl⟩:=ZG (Zu e);obtain⟨e1,e2,e3⟩:=getM_some ho;obtain⟨bc,hb⟩:=dg H.len e1;obtain⟨m1,m2,m3⟩:=hd.dG;obtain⟨cap,rfl,c2⟩:=m3 o bc e1 hb e3 e2 hle;obtain⟨T,rY,k1,k2,k3,k4,k5⟩:=(H.obj id o bc e1 hb e3).c (m2 o e1).2;obtain⟨vz,z1,z2⟩:=jy (P:=P) hz;obtain⟨s1,s2⟩:=pM (z2 w (Av F h β) β h) P0 Ga k4 len
    have eA:(List.replicate len z).all (λv=>decide ((Pm.cells v).length=o.bB)&& (Pm.cells v).all bG)=true:=by
     rw[Zw]
     intro x hx
     rw[aba]at hx;simp[hx.2,P0,Ga]
    obtain⟨w',r1,r2,r3⟩:=qN (P:=P) H e1 hb xX off s2 (s2.OH k4 eA) (by simpa using hle);simp only[aaN]at r2 r3
    by_cases hl:len=0
    ·subst hl;refine⟨.tuple #[],w,β,?_,.val (.cm [] [] rfl (by simp)),?_⟩
     ·simp only[Builtin.clear_,h1,h3,Sem.run_bind,bH hu,Result.andThen_ok,Sem.run_pure]
     ·simp[storeCells]at r1;subst r1;exact⟨r2,r3,λ_=>dz.refl _⟩
    ·refine⟨.tuple #[],w',β,?_,.val (.cm [] [] rfl (by simp)),r2,r3,λhh=>by omega⟩;obtain⟨n,rfl⟩:∃n,len=n+1:=⟨len - 1,by omega⟩;simp only[Builtin.clear_,h1,h3,Sem.run_bind,bH hu,Result.andThen_ok,z1,Builtin.zeroCells,gv,s1];rw[s1]at r1;rw[r1];simp
   ·cases e
  ·cases e
 ·rename_i el full hu
  obtain⟨rfl,rfl⟩:=ZG (Zu e);obtain⟨a,cap,rfl,_⟩:=hd.fp.jN;refine Aa.still H (v:=.tuple #[]) ?_ (.val (.cm [] [] rfl (by simp)))
  cases a <;>simp[Builtin.clear_,h1,h3,bH hu]
 ·cases e
theorem Lz(H:aZ w F β h){t:TypeId}{lv:Nat}{vl vc:Value}{l c r:PV}{h':ab}(hl:aD w (Av F h β) β h vl l)(hc:aD w (Av F h β) β h vc c)
  (e:jk P lv h t l c=some (r,h')):Aa P lv w F β h (Instr.makeSlice t vl vc) r h':=by
 unfold jk at e
 split at e
 ·rename_i el k1 n k2 c hu
  obtain rfl:=hl.dF;obtain rfl:=hc.dF
  split at e
  ·rename_i sz bytes z hs hb hz
   split at e
   ·rename_i Df
    obtain⟨Dk,hn,hnc,qo,nA,jc,P0,Ga⟩:=Df;obtain⟨rfl,rfl⟩:=ZG (Zu e);obtain⟨vz,z1,z2⟩:=jy (P:=P) hz;obtain⟨s1,s2⟩:=pM (z2 w (Av F h β) β h) P0 Ga nA n.toNat;obtain⟨i,hi,z8⟩:=qL hb;have TZ:∀w,(typeInfo el).run P w=.ok i w:=λw=>by simp[typeInfo,hi]
    obtain⟨cn,rfl⟩:=aaG (show 0<=c by omega);obtain⟨ln,rfl⟩:=aaG hn;have W1:cn<=1073741824:=by omega
    have xF:ln<=1073741824:=by omega
    have mQ:¬((i.bytes:Int) * (cn:Int)>2^48):=by
     have:bytes * cn<=65536 * 1073741824:=abC jc W1;have h2:((bytes * cn:Nat):Int)<=70368744177664:=by omega
     rw[Int.natCast_mul]at h2;rw[z8];omega
    have tM:List.map (λi=>vz.cells[i % vz.cells.size]!) (List.range (cn * sz))=List.map (λi=>vz.cells[i % vz.cells.size]!) (List.range (ln * sz))++List.drop (ln * sz) (List.map (λi=>vz.cells[i % vz.cells.size]!) (List.range (cn * sz))):=by
     have hle:ln * sz<=cn * sz:=Z9 _ (by omega)
     have:List.map (λi=>vz.cells[i % vz.cells.size]!) (List.range (ln * sz))=List.take (ln * sz) (List.map (λi=>vz.cells[i % vz.cells.size]!) (List.range (cn * sz))):=by
      rw[<-List.map_take,List.take_range,abc hle]
     rw[this,abg]
    obtain⟨HH,S⟩:=aZ.new H (w':=w.alloc (.cells (List.map (λi=>vz.cells[i % vz.cells.size]!) (List.range (cn * sz))).toArray el)) el
     (List.map (λi=>vz.cells[i % vz.cells.size]!) (List.range (cn * sz))).toArray {mu:=.m,ep:=0,bB:=sz,es:=List.replicate ln z} cn rfl rfl rfl rfl rfl (by simp;omega) (by simp) nA (λi e he=>by
      rw[tM];exact s2.obj i e (by simpa using he))
    refine⟨.slice (some ⟨w.heap.size,0,none⟩) ln cn,_,_,?_,H.uH,HH,S,λ_=>dz.alloc w _⟩
    ·have Lx:¬((cn:Int)<0):=by omega
     have VU:¬((ln:Int)<0):=by omega
     have hgt:¬((ln:Int)>(cn:Int)):=by omega
     simp only[Instr.makeSlice,Sem.run_bind,bH hu,Result.andThen_ok,asInt,asIntOf,Sem.run_pure,TZ,wrap_small W1,wrap_small xF,Sem.run_ite,Lx,VU,hgt,mQ,decide_false,Bool.or_self,ZJ,if_false,run_askRoom,cw hs,aaH,z1,newRow,run_newObj]
     by_cases CE:cn * sz=0
     ·simp only[CE,if_true,gv,List.range_zero,ZX]
      rfl
     ·simp only[CE,if_false,gv]
      rfl
   ·cases e
  ·cases e
 ·cases e
theorem OI{args:List Value}{ps:List PV}{r:PV}{ts:Array TypeId}{ty:TypeId}{A:Nat->Prop}(hr:L2 (aD w A β h) args ps)(e:Ja ps=some r):
  ∃u,(Builtin.max_ ts ty args.toArray).run P w=.ok u w/\aD w A β h u r:=by
 unfold Ja at e
 split at e
 ·rename_i k a k' b
  obtain rfl:=Zu e;obtain⟨hl,hh⟩:=hr
  match args,hl with
  |[x,y],_=>
   have h0:=hh 0 (by simp);have h1:=hh 1 (by simp);simp only[abp,abq]at h0 h1;obtain rfl:=h0.dF;obtain rfl:=h1.dF;exact⟨_,by simp[Builtin.max_,Builtin.max2],.val (.int _ _)⟩
 ·cases e
theorem OJ{args:List Value}{ps:List PV}{r:PV}{ts:Array TypeId}{ty:TypeId}{A:Nat->Prop}(hr:L2 (aD w A β h) args ps)(e:MQ ps=some r):
  ∃u,(Builtin.min_ ts ty args.toArray).run P w=.ok u w/\aD w A β h u r:=by
 unfold MQ at e
 split at e
 ·rename_i k a k' b
  obtain rfl:=Zu e;obtain⟨hl,hh⟩:=hr
  match args,hl with
  |[x,y],_=>
   have h0:=hh 0 (by simp);have h1:=hh 1 (by simp);simp only[abp,abq]at h0 h1;obtain rfl:=h0.dF;obtain rfl:=h1.dF;exact⟨_,by simp[Builtin.min_,Builtin.min2],.val (.int _ _)⟩
 ·cases e
theorem AH(d:Nat){t:TypeId}(hu:P.underlying t=some .bool)(a b:Bool)(w:World):(Op.equalIn (d+1) t (.bool a) (.bool b)).run P w=.ok (a==b) w:=by
 simp[Op.equalIn,bH hu]
theorem wW{t:TypeId}(hu:P.underlying t=some .bool)(a b:Bool)(w:World):(Op.equal t (.bool a) (.bool b)).run P w=.ok (a==b) w:=AH 9999 hu a b w
theorem OK{op:BinOp}{t:TypeId}{x y:Value}{px py r:PV}{ox oy:Operand}{A:Nat->Prop}(hx:aD w A β h x px)(hy:aD w A β h y py)(e:fe P op t px py=some r):
  ∃u,((do eqGuard op t ox oy x y;binOp op t x y:Sem Value)).run P w=.ok u w/\aD w A β h u r:=by
 unfold fe at e
 split at e
 ·rename_i k a k' b
  obtain rfl:=hx.dF;obtain rfl:=hy.dF
  have guard:(eqGuard op t ox oy (.int k a) (.int k' b)).run P w=.ok () w:=by
   cases op <;>simp[eqGuard]
  simp only[Sem.run_bind,guard,Result.andThen_ok]
  split at e
  ·unfold pw at e
   split at e
   ·cases e
   ·rename_i hb
    obtain rfl:=Zu e;refine⟨_,?_,.val (.int _ _)⟩;simp[binOp,Op.shift,hb]
  ·unfold pw at e
   split at e
   ·cases e
   ·rename_i hb
    obtain rfl:=Zu e;refine⟨_,?_,.val (.int _ _)⟩;simp[binOp,Op.shift,hb]
  ·rename_i n1 n2
   split at e
   ·rename_i hk
    subst hk;unfold gy at e
    split at e
    all_goals first
     |(obtain rfl:=Zu e;refine⟨_,?_,.val (.int _ _)⟩;simp[binOp,Op.intArith,Op.intBits];done)
     |(obtain rfl:=Zu e;refine⟨_,?_,.val (.bool _)⟩;simp[binOp,Op.intCmp];done)
     |(split at e;cases e;rename_i hb;obtain rfl:=Zu e;refine⟨_,?_,.val (.int _ _)⟩;simp[binOp,Op.intDiv,hb];done)
     |cases e
   ·cases e
 ·rename_i a b
  obtain rfl:=hx.lQ;obtain rfl:=hy.lQ
  have guard:(eqGuard op t ox oy (.string a) (.string b)).run P w=.ok () w:=by
   cases op <;>simp[eqGuard]
  simp only[Sem.run_bind,guard,Result.andThen_ok];unfold lF at e
  split at e
  all_goals first
   |(obtain rfl:=Zu e;refine⟨_,?_,.val (.bool _)⟩;simp[binOp,Op.stringOp];done)
   |(split at e;cases e;rename_i hb;obtain rfl:=Zu e;refine⟨_,?_,.val (.str _)⟩;simp only[binOp,Op.stringOp];rw[if_neg hb];rfl)
   |cases e
 ·rename_i a b
  obtain rfl:=hx.ga;obtain rfl:=hy.ga
  have guard:(eqGuard op t ox oy (.bool a) (.bool b)).run P w=.ok () w:=by
   cases op <;>simp[eqGuard]
  simp only[Sem.run_bind,guard,Result.andThen_ok]
  split at e
  ·rename_i hu
   split at e
   ·obtain rfl:=Zu e;refine⟨_,?_,.val (.bool _)⟩;simp only[binOp,Sem.run_bind,wW hu,Result.andThen_ok,Sem.run_pure]
   ·obtain rfl:=Zu e;refine⟨_,?_,.val (.bool _)⟩;simp only[binOp,Sem.run_bind,wW hu,Result.andThen_ok,Sem.run_pure]
   ·cases e
  ·cases e
 ·cases e
theorem S9{op:UnOp}{x:Value}{px r:PV}{A:Nat->Prop}(hx:aD w A β h x px)(e:Pf op px=some r):
  ∃u,(Op.unary op x).run P w=.ok u w/\aD w A β h u r:=by
 unfold Pf at e
 split at e
 ·obtain rfl:=Zu e;obtain rfl:=hx.dF;exact⟨_,by simp[Op.unary,Op.intArith],.val (.int _ _)⟩
 ·obtain rfl:=Zu e;obtain rfl:=hx.ga;exact⟨_,by simp[Op.unary],.val (.bool _)⟩
 ·cases e
theorem LA{c:PV}{n:Int}(h:I' c=some n):c=.int .u8 n:=by
 unfold I' at h
 split at h
 ·cases h;rfl
 ·cases h
theorem tO{c:PV}{r:List PV}{l:List Int}(e:mS (c::r)=some l):∃n l',c=.int .u8 n/\mS r=some l'/\l=n::l':=by
 unfold mS at e
 split at e
 ·rename_i n h1
  split at e
  ·rename_i l' h2
   exact⟨n,l',LA h1,h2,(Zu e).symm⟩
  ·cases e
 ·cases e
theorem wX:∀{es:List PV} {l:List Int},mS es=some l->l.length=es.length
 |[],l,e=>by cases e;rfl
 |c::r,l,e=>by
  obtain⟨n,l',_,h,rfl⟩:=tO e;simp[wX h]
theorem sM:∀{es:List PV} {l:List Int},mS es=some l->∀i,i<es.length->es.getD i .any=.int .u8 (l.getD i 0)
 |[],l,e,i,h=>by simp at h
 |c::r,l,e,i,h=>by
  obtain⟨n,l',rfl,h1,rfl⟩:=tO e
  cases i with
  |zero=>rfl
  |succ i=>simpa using sM h1 i (by simpa using h)
theorem Ig{s d t:TypeId}{x:Value}{full:Bool}{es:List PV}{l:List Int}{A:Nat->Prop}(hx:aD w A β h x (.aa full es))(h1:P.underlying s=some (.slice t))(h2:P.underlying d=some .string)(h3:P.underlying t=some (.int .u8))(h4:mS es=some l):
  (convert s d x).run P w=.ok (.string (Qe l)) w:=by
 cases hx with
 |val hs=>
  cases hs with
  |gA a cap _ hc=>
   cases h4
   rw[run_convert_bytes_string w s d t a 0 cap h1 h3 h2]
   cases a with
   |none=>simp[Conv.bytesToString];rfl
   |some a=>exact run_bytesToString w a 0 cap [] (by simp[loadCells,loadCellsFrom])
  |aa b off cap sz _ _ oh bI hle hf hA gm hlen j0 YS=>
   have hl:=wX h4;have h0:0<es.length:=aa8.2 bI
   have IX:sz=1:=by
    have:=hlen 0 h0;rw[sM h4 0 h0]at this;exact this.symm
   subst IX
   have hc:∀i,i<es.length->w.cell? ⟨b,off+i,none⟩=some (.int .u8 (l.getD i 0)):=λi hi=>by
    have r1:=j0 i 0 hi (by omega);have r2:=YS i 0 hi (by omega);rw[sM h4 i hi]at r2;simp only[cells,abp]at r2
    cases hv:oh i 0 with
    |int k n=>rw[hv]at r2 r1;cases r2;simpa using r1
    |_=>rw[hv]at r2;cases r2
   exact run_convert_bytes_arg w s t h1 h3 b off es.length cap l hl hc d h2
theorem LC{s d:TypeId}{x:Value}{px r:PV}{A:Nat->Prop}(hx:aD w A β h x px)(e:uV P s d px=some r):
  ∃u,(convert s d x).run P w=.ok u w/\aD w A β h u r:=by
 unfold uV at e
 split at e
 ·rename_i ds k k' n h1 h2
  obtain rfl:=Zu e;obtain rfl:=hx.dF;refine⟨_,?_,.val (.int _ _)⟩;simp only[convert,Sem.run_bind,bH h1,bH h2,Result.andThen_ok]
  cases ds <;>simp[Conv.intToInt]
 ·rename_i ds st h1 h2
  obtain rfl:=Zu e;obtain rfl:=hx.lQ;refine⟨_,?_,.val (.str _)⟩;simp only[convert,Sem.run_bind,bH h1,bH h2,Result.andThen_ok]
  cases ds <;>simp
 ·rename_i h1 h2
  split at e
  ·rename_i h3 h4
   obtain rfl:=Zu e;exact⟨_,Ig hx h1 h2 h3 h4,.val (.str _)⟩
  ·cases e
 ·cases e
def uL(w:World)(A:Nat->Prop)(β:List (Nat×Nat))(h:ab):Option Value->Option PV->Prop
 |none,none=>True
 |some v,some p=>aD w A β h v p
 |_,_=>False
theorem fD{A:Nat->Prop}{v:Value}{p:PV}{d t n:Nat}{code:BoundsCode}(hr:aD w A β h v p)(e:cx (some p) d t=some n):
  n<=t/\∀t',t<=t'->(Instr.sliceBound v t' code).run P w=.ok n w:=by
 unfold cx at e
 split at e
 ·rename_i hn;cases hn
 ·rename_i k i hp
  obtain rfl:=Zu hp;obtain rfl:=hr.dF
  split at e
  ·rename_i hc
   obtain rfl:=Zu e;refine⟨by omega,λt' ht=>?_⟩;have rU:0<=i/\i<=(t':Int):=by omega
   simp[Instr.sliceBound,asIntOf,rU]
  ·cases e
 ·cases e
theorem ij{d t n:Nat}(e:cx none d t=some n):n=d:=by
 simpa[cx]using e.symm
theorem ES{A:Nat->Prop}{len cap m b a:Nat}{lo hi mx:Option Value}{plo phi pmx:Option PV}(xJ:uL w A β h lo plo)(xK:uL w A β h hi phi)(Ed:uL w A β h mx pmx)
  (hle:len<=cap) (e1:cx pmx len len=some m) (e2:cx phi len m=some b) (e3:cx plo 0 b=some a) (e4:(pmx.isSome&&phi.isNone)=false):
  ∃mc,(Instr.sliceBounds true len cap lo hi mx).run P w=.ok (a,b,mc) w/\a<=b/\b<=len/\b<=mc/\(pmx=none->mc=cap)/\(pmx≠none->mc=m):=by
 have h3:a<=b/\∀c,(match lo with |some v=>Instr.sliceBound v b c |none=>pure 0:Sem Nat).run P w=.ok a w:=by
  cases plo with
  |none=>cases lo with
   |none=>obtain rfl:=ij e3;exact⟨aaL _,λc=>rfl⟩
   |some _=>simp[uL]at xJ
  |some pl=>cases lo with
   |none=>simp[uL]at xJ
   |some vl=>
    refine⟨(fD (P:=P) (code:=.sliceB) (show aD w A β h vl pl from xJ) e3).1,λc=>?_⟩;exact(fD (P:=P) (show aD w A β h vl pl from xJ) e3).2 _ (Zz _)
 cases pmx with
 |none=>
  cases mx with
  |some _=>simp[uL]at Ed
  |none=>
   obtain rfl:=ij e1;refine⟨cap,?_,h3.1,?_,?_,λ_=>rfl,λhh=>absurd rfl hh⟩
   ·cases phi with
    |none=>cases hi with
     |none=>
      obtain rfl:=ij e2;simp only[Instr.sliceBounds,Sem.run_bind,Sem.run_pure,Result.andThen_ok];have:=h3.2 .sliceB
      cases lo <;>simp_all
     |some _=>simp[uL]at xK
    |some ph=>cases hi with
     |none=>simp[uL]at xK
     |some vh=>
      have hb:=(fD (P:=P) (code:=.sliceAcap) (show aD w A β h vh ph from xK) e2).2 cap hle;simp only[Instr.sliceBounds,Sem.run_bind,Sem.run_pure,Result.andThen_ok,if_true,hb];have:=h3.2 .sliceB
      cases lo <;>simp_all
   ·cases phi with
    |none=>obtain rfl:=ij e2;exact Zz _
    |some ph=>cases hi with
     |none=>simp[uL]at xK
     |some vh=>exact(fD (P:=P) (code:=.sliceAcap) (show aD w A β h vh ph from xK) e2).1
   ·cases phi with
    |none=>obtain rfl:=ij e2;exact hle
    |some ph=>cases hi with
     |none=>simp[uL]at xK
     |some vh=>exact aaj (fD (P:=P) (code:=.sliceAcap) (show aD w A β h vh ph from xK) e2).1 hle
 |some pm=>
  cases mx with
  |none=>simp[uL]at Ed
  |some vm=>
   obtain⟨m1,m2⟩:=fD (P:=P) (code:=.slice3Acap) (show aD w A β h vm pm from Ed) e1
   cases phi with
   |none=>simp at e4
   |some ph=>cases hi with
    |none=>simp[uL]at xK
    |some vh=>
     obtain⟨b1,b2⟩:=fD (P:=P) (code:=.slice3B) (show aD w A β h vh ph from xK) e2;refine⟨m,?_,h3.1,by omega,b1,(λhh=>by cases hh),(λ_=>rfl)⟩;simp only[Instr.sliceBounds,Sem.run_bind,Result.andThen_ok,if_true,m2 cap hle,b2 m (Zz _)];have:=h3.2 .slice3C
     cases lo <;>simp_all
theorem bY.sa{A:Nat->Prop}{v:Value}{full:Bool}{es:List PV}(hv:bY w A v (.aa full es)):es=[]\/
  ∃b off cap sz,∃oh:Nat->Nat->Value,v=.slice (some ⟨b,off,none⟩) es.length cap/\¬A b/\0<sz/\(∀i,i<es.length->(Pm.cells (es.getD i .any)).length=sz)/\
   (∀i j,i<es.length->j<sz->w.cell? ⟨b,off+(i * sz+j),none⟩=some (oh i j))/\
   (∀i j,i<es.length->j<sz->bY w A (oh i j) ((Pm.cells (es.getD i .any)).getD j .any)):=by
 cases hv with
 |gA a cap _ hf=>exact .inl rfl
 |aa b off cap sz _ _ oh h1 h2 h3 h4 h5 h6 h7 h8=>exact .inr ⟨b,off,cap,sz,oh,rfl,h4,h5,h6,h7,h8⟩
theorem Ih(H:aZ w F β h){t:TypeId}{x:Value}{px r:PV}{lo hi mx:Option Value}{plo phi pmx:Option PV}(hx:aD w (Av F h β) β h x px)
  (xJ:uL w (Av F h β) β h lo plo) (xK:uL w (Av F h β) β h hi phi) (Ed:uL w (Av F h β) β h mx pmx) (e:bX P h t px plo phi pmx=some r):
  ∃u,(Instr.sliceAt t x lo hi mx).run P w=.ok u w/\aD w (Av F h β) β h u r:=by
 unfold bX at e
 split at e
 ·-- a string
  rename_i s hu
  obtain rfl:=hx.lQ
  split at e
  ·cases e
  ·rename_i hm
   obtain rfl:pmx=none:=by simpa using hm
   obtain rfl:mx=none:=by cases mx <;>simp_all[uL]
   split at e
   ·rename_i b hb
    split at e
    ·rename_i a ha
     obtain rfl:=Zu e
     have h1:∃dK,(match hi with |some v=>Instr.sliceBound v s.size .sliceAlen |none=>pure s.size:Sem Nat).run P w=.ok b w/\dK=b:=by
      cases phi with
      |none=>cases hi with
       |none=>exact⟨b,by simp[ij hb],rfl⟩
       |some _=>simp[uL]at xK
      |some ph=>cases hi with
       |none=>simp[uL]at xK
       |some vh=>exact⟨b,(fD (P:=P) (show aD w _ β h vh ph from xK) hb).2 _ (Zz _),rfl⟩
     have h2:(match lo with |some v=>Instr.sliceBound v b .sliceB |none=>pure 0:Sem Nat).run P w=.ok a w:=by
      cases plo with
      |none=>cases lo with
       |none=>simp[ij ha]
       |some _=>simp[uL]at xJ
      |some pl=>cases lo with
       |none=>simp[uL]at xJ
       |some vl=>exact(fD (P:=P) (show aD w _ β h vl pl from xJ) ha).2 _ (Zz _)
     obtain⟨_,h1,_⟩:=h1;refine⟨.string (s.extract a b),?_,.val (.str _)⟩;simp only[Instr.sliceAt,Sem.run_bind,bH hu,Result.andThen_ok,Instr.slice,Instr.sliceBounds]
     cases hi <;>cases lo <;>simp_all
    ·cases e
   ·cases e
 ·-- a snapshot
  rename_i el full es hu
  split at e
  ·rename_i sz hs
   split at e
   ·rename_i m hm
    split at e
    ·rename_i b hb
     split at e
     ·rename_i a ha
      split at e
      ·rename_i hc
       obtain⟨zP,sA⟩:=hc;obtain rfl:=Zu e;obtain⟨ad,cap,rfl,hle,tM⟩:=hx.fp.jN;obtain⟨mc,r1,r2,r3,r4,r5,r6⟩:=ES (P:=P) xJ xK Ed hle hm hb ha zP
       have fL:(Instr.sliceAt t (.slice ad es.length cap) lo hi mx).run P w=.ok (.slice (if mc=a then ad else ad.map (·.add (a * sz))) (b - a) (mc - a)) w:=by
        simp only[Instr.sliceAt,Sem.run_bind,bH hu,Result.andThen_ok,Instr.slice,r1,cw hs,Sem.run_pure]
       refine⟨_,fL,.val ?_⟩
       have W2:((if pmx.isSome then m==b else full&&b==es.length)=true->mc - a=b - a):=by
        intro hh
        cases pmx with
        |none=>
         simp at hh;have h1:=r5 rfl;have h2:=tM hh.1;omega
        |some pm=>
         simp at hh;have h1:=r6 (by simp);omega
       by_cases Qw:b - a=0
       ·rw[Qw];have:(es.drop a).take 0=[]:=by simp
        rw[this];exact .gA _ _ _ (λhh=>by have:=W2 hh;omega)
       ·have hmc:mc≠a:=by omega
        rw[if_neg hmc];rcases hx.fp.sa with rfl |⟨b0,off,DA,FA,oh,ev,k4,k5,k6,k7,k8⟩
        ·simp at r3;omega
        ·simp at ev;obtain⟨rfl,rfl⟩:=ev
         have gm:FA=sz:=by
          have:=k6 a (by omega);have Fy:es[a]?=some es[a]:=Zy (by omega);rw[Fy]at sA;simp[List.getD,show a<es.length by omega]at this sA;omega
         subst gm;have hlen:((es.drop a).take (b - a)).length=b - a:=by simp;omega
         have ua:∀i,i<b - a->((es.drop a).take (b - a)).getD i .any=es.getD (a+i) .any:=λi hi=>by
          simp[List.getD,Z7,hi]
         have:=bY.aa (w:=w) (A:=Av F h β) b0 (off+a * FA) (mc - a) FA (if pmx.isSome then m==b else full&&b==es.length) ((es.drop a).take (b - a)) (λi j=>oh (a+i) j)
          (by intro hn;rw[hn]at hlen;simp at hlen;omega) (by rw[hlen];omega) (λhh=>by rw[hlen];exact W2 hh) k4 k5
          (λi hi=>by rw[hlen]at hi;rw[ua i hi];exact k6 (a+i) (by omega))
          (λi j hi hj=>by
           rw[hlen]at hi;have:=k7 (a+i) j (by omega) hj;rw[aag]at this;rw[show off+a * FA+(i * FA+j)=off+(a * FA+i * FA+j) by omega];exact this)
          (λi j hi hj=>by rw[hlen]at hi;rw[ua i hi];exact k8 (a+i) j (by omega) hj)
         rw[hlen]at this;simpa[eH]using this
      ·cases e
     ·cases e
    ·cases e
   ·cases e
  ·cases e
 ·-- a reference
  rename_i el id ep off len hu
  split at e
  ·rename_i sz o hs ho
   split at e
   ·rename_i hc
    obtain⟨rfl,hle⟩:=hc;obtain⟨e1,e2,e3⟩:=getM_some ho;obtain⟨bc,NB⟩:=dg H.len e1;obtain⟨m1,m2,m3⟩:=hx.dG;obtain⟨cap,rfl,c2⟩:=m3 o bc e1 NB e3 e2 hle;obtain⟨T,rY,k1,k2,k3,k4,k5⟩:=(H.obj id o bc e1 NB e3).c (m2 o e1).2
    split at e
    ·rename_i b Ii
     split at e
     ·rename_i a ha
      obtain⟨YT,kk,ii,YU,hgt,MK⟩:pmx=none/\∃kk ii,phi=some (.int kk ii)/\(len:Int)<ii/\cx (some (.int kk ii)) 0 (o.es.length - off)=some b:=by
       unfold beyond at Ii
       split at Ii
       ·rename_i kk ii
        split at Ii
        ·exact⟨rfl,kk,ii,rfl,by assumption,Ii⟩
        ·cases Ii
       ·cases Ii
      subst YT;subst YU;obtain⟨mc,r1,r2,r3,r4,r5,r6⟩:=ES (P:=P) (len:=o.es.length - off) (cap:=cap) (m:=o.es.length - off) xJ xK Ed (by omega) rfl MK ha rfl;have YV:mx=none:=by cases mx with |none=>rfl |some _=>simp[uL]at Ed
      subst YV
      have r1':(Instr.sliceBounds true len cap lo hi none).run P w=.ok (a,b,mc) w:=by
       cases hi with
       |none=>simp[uL]at xK
       |some vh=>exact r1
      have fL:(Instr.sliceAt t (.slice (some ⟨bc.1,off * o.bB,none⟩) len cap) lo hi none).run P w=.ok (.slice (if mc=a then some ⟨bc.1,off * o.bB,none⟩else some ⟨bc.1,off * o.bB+a * o.bB,none⟩) (b - a) (mc - a)) w:=by
       simp only[Instr.sliceAt,Sem.run_bind,bH hu,Result.andThen_ok,Instr.slice,r1',cw hs,Sem.run_pure,ZH,eH]
      refine⟨_,fL,?_⟩;have h1:=r5 rfl
      split at e
      ·rename_i SL
       subst SL;obtain rfl:=Zu e;refine .aj _ id ep off b o bc ⟨_,_,_,rfl⟩ e1 NB e3 (m2 o e1) (λ_ _=>?_);exact⟨cap,by rw[h1];split <;>simp,c2⟩
      ·rename_i SL
       split at e
       ·rename_i hz
        obtain rfl:=Zu e;rw[hz];exact .val (.gA _ _ _ (λhh=>by cases hh))
       ·rename_i hz
        obtain rfl:=Zu e;rw[if_neg (by omega)];refine .aj _ id ep (off+a) (b - a) o bc ⟨_,_,_,rfl⟩ e1 NB e3 (m2 o e1) (λ_ _=>?_);exact⟨cap - a,by rw[h1,aag],by omega⟩
     ·cases e
    split at e
    ·rename_i m hm
     split at e
     ·rename_i b hb
      split at e
      ·rename_i a ha
       split at e
       ·rename_i zP
        obtain⟨mc,r1,r2,r3,r4,r5,r6⟩:=ES (P:=P) (cap:=cap) xJ xK Ed (by omega) hm hb ha zP
        have fL:(Instr.sliceAt t (.slice (some ⟨bc.1,off * o.bB,none⟩) len cap) lo hi mx).run P w=.ok (.slice (if mc=a then some ⟨bc.1,off * o.bB,none⟩else some ⟨bc.1,off * o.bB+a * o.bB,none⟩) (b - a) (mc - a)) w:=by
         simp only[Instr.sliceAt,Sem.run_bind,bH hu,Result.andThen_ok,Instr.slice,r1,cw hs,Sem.run_pure,ZH,eH]
        refine⟨_,fL,?_⟩
        split at e
        ·rename_i hms
         split at e
         ·rename_i hma
          obtain rfl:=Zu e;have h1:=r6 (by intro hh;rw[hh]at hms;simp at hms);have:b - a=0:=by omega
          rw[this];exact .val (.gA _ _ _ (λ_=>by omega))
         ·obtain rfl:=Zu e;exact .any _
        ·rename_i hms
         have h1:=r5 (by cases pmx <;>simp_all)
         split at e
         ·rename_i SL
          subst SL;obtain rfl:=Zu e;refine .aj _ id ep off b o bc ⟨_,_,_,rfl⟩ e1 NB e3 (m2 o e1) (λ_ _=>?_);exact⟨cap,by rw[h1];split <;>simp,c2⟩
         ·rename_i SL
          split at e
          ·rename_i hz
           obtain rfl:=Zu e;rw[hz];exact .val (.gA _ _ _ (λhh=>by cases hh))
          ·rename_i hz
           obtain rfl:=Zu e;rw[if_neg (by omega)];refine .aj _ id ep (off+a) (b - a) o bc ⟨_,_,_,rfl⟩ e1 NB e3 (m2 o e1) (λ_ _=>?_);exact⟨cap - a,by rw[h1,aag],by omega⟩
       ·cases e
      ·cases e
     ·cases e
    ·cases e
   ·cases e
  ·cases e
 ·cases e
theorem Ij(l:List Value):∀(i off:Nat) (cs:Array Value),off+i+l.length<=cs.size->
  ((l.zipIdx i).foldl (λcs (x:Value×Nat)=>cs.setIfInBounds (off+x.2) x.1) cs).size=cs.size/\
  ∀k,((l.zipIdx i).foldl (λcs (x:Value×Nat)=>cs.setIfInBounds (off+x.2) x.1) cs)[k]?=if off+i<=k/\k<off+i+l.length then l[k - (off+i)]? else cs[k]?:=by
 induction l with
 |nil=>intro i off cs _;exact⟨rfl,λk=>by rw[if_neg (by simp only[Z'];omega)];rfl⟩
 |cons v r ih=>
  intro i off cs hl
  simp only[ZA]at hl;obtain⟨h1,h2⟩:=ih (i+1) off (cs.setIfInBounds (off+i) v) (by simp;omega);refine⟨by simpa[List.zipIdx_cons]using h1,λk=>?_⟩;rw[List.zipIdx_cons,List.foldl_cons,h2 k]
  by_cases hA:off+i=k
  ·subst hA;rw[if_neg (by omega),if_pos (by simp only[ZA];omega)];rw[Array.getElem?_setIfInBounds_self_of_lt (by omega)];simp
  ·by_cases hB:off+(i+1)<=k/\k<off+(i+1)+r.length
   ·rw[if_pos hB,if_pos (by simp only[ZA];omega)];obtain⟨m,hm⟩:∃m,k - (off+i)=m+1:=⟨k - (off+i) - 1,by omega⟩;rw[hm,List.getElem?_cons_succ]
    congr 1
    omega
   ·rw[if_neg hB,if_neg (by simp only[ZA];omega),Array.getElem?_setIfInBounds_ne hA]
theorem CK(v:Value)(off:Nat)(cs:Array Value)(hl:off+v.cells.size<=cs.size):
  (v.cells.zipIdx.foldl (λcs (x:Value×Nat)=>cs.setIfInBounds (off+x.2) x.1) cs).size=cs.size/\
  ∀k,(v.cells.zipIdx.foldl (λcs (x:Value×Nat)=>cs.setIfInBounds (off+x.2) x.1) cs)[k]?=if off<=k/\k<off+v.cells.size then v.cells[k - off]? else cs[k]?:=by
 have:=Ij v.cells.toList 0 off cs (by simpa using hl);simp only[aaX,aaK,Z1]at this;rw[<-Array.foldl_toList,Array.toList_zipIdx];exact this
def mb(w:World)(A:Nat->Prop)(β:List (Nat×Nat))(h:ab)(vs:List (Nat×Value))(ps:List (Nat×PV)):Prop:=
 vs.length=ps.length/\∀(k:Nat) (x:Nat×PV),ps[k]?=some x->∃v:Value,vs[k]?=some (x.1,v)/\aD w A β h v x.2
theorem mb.Gi{A:Nat->Prop}{vs:List (Nat×Value)}(r:mb w A β h vs []):vs=[]:=ZL r.1
theorem mb.cons_inv{A:Nat->Prop}{vs:List (Nat×Value)}{x:Nat×PV}{ps:List (Nat×PV)}(r:mb w A β h vs (x::ps)):∃v ET,vs=(x.1,v)::ET/\aD w A β h v x.2/\mb w A β h ET ps:=by
 obtain⟨h1,h2⟩:=r;obtain⟨v,h3,h4⟩:=h2 0 x rfl
 match vs,h1,h3 with
 |y::ET,h1,h3=>
  simp at h3;subst h3;exact⟨v,ET,rfl,h4,by simpa using h1,λk x hx=>by simpa using h2 (k+1) x (by simpa using hx)⟩
def wY(w:World)(A:Nat->Prop)(β:List (Nat×Nat))(h:ab)(cs:Array Value)(ps:List PV):Prop:=
 cs.size=ps.length/\∀(k:Nat) (q:PV),ps[k]?=some q->∃u:Value,cs[k]?=some u/\aD w A β h u q
theorem CL{A:Nat->Prop}{pl:Nat->Option (Nat×Nat)}{pl':Nat->Option (Nat×Nat)}(nS:∀i x,pl i=some x->pl' i=some x):∀(ps:List (Nat×PV)) (vs:List (Nat×Value)) (cs:Array Value) (cps r:List PV),
  mb w A β h vs ps->wY w A β h cs cps->jI pl cps ps=some r->∃jd,Instr.fill pl' cs vs=some jd/\wY w A β h jd r:=by
 intro ps
 induction ps with
 |nil=>
  intro vs cs cps r hp hc e
  obtain rfl:=hp.Gi;simp[jI]at e;subst e;exact⟨cs,by simp[Instr.fill],hc⟩
 |cons x ps ih=>
  intro vs cs cps r hp hc e
  obtain⟨v,ET,rfl,h1,h2⟩:=hp.cons_inv;obtain⟨i,p⟩:=x;simp only[jI]at e
  split at e
  ·cases e
  ·rename_i off size hi
   split at e
   ·rename_i Df
    obtain⟨c1,c2,c3⟩:=Df;obtain⟨x1,x2⟩:=h1.cells c2;simp only at x1 x2 c1;have gm:=hc.1;obtain⟨f1,f2⟩:=CK v off cs (by omega)
    obtain⟨jd,g1,g2⟩:=ih ET _ (qT cps off (Pm.cells p)) r h2 (by
     refine⟨by rw[f1];simp[qT];omega,λk q hq=>?_⟩;rw[qT,gd _ _ _ _ (by omega)]at hq;rw[f2 k]
     by_cases hA:k<off
     ·rw[if_pos hA]at hq;obtain⟨u,m1,m2⟩:=hc.2 k q hq;exact⟨u,by rw[if_neg (by omega)];exact m1,m2⟩
     ·rw[if_neg hA]at hq
      by_cases hB:k<off+(Pm.cells p).length
      ·rw[if_pos hB]at hq;obtain⟨u,m1,m2,_⟩:=x2 _ q hq;exact⟨u,by rw[if_pos (by omega)];exact m1,m2⟩
      ·rw[if_neg hB]at hq;obtain⟨u,m1,m2⟩:=hc.2 k q hq;exact⟨u,by rw[if_neg (by omega)];exact m1,m2⟩) e
    refine⟨jd,?_,g2⟩;simp only[Instr.fill,nS i _ hi];rw[if_neg (by simp;omega)];exact g1
   ·cases e
theorem CM(fs:Array Field)(eA:fs.toList.all (λf=>(cg P f.type).isSome)=true)(w:World):
  ∃pl:Array (Nat×Nat),(fs.mapM (λf=>do pure (f.offset,<-sizeOf f.type)):Sem (Array (Nat×Nat))).run P w=.ok pl w/\∀i x,ir P fs i=some x->pl[i]?=some x:=by
 have main:∀(l:List Field),l.all (λf=>(cg P f.type).isSome)=true->
   ∃pl:List (Nat×Nat),(l.mapM (λf=>do pure (f.offset,<-sizeOf f.type)):Sem (List (Nat×Nat))).run P w=.ok pl w/\∀(i:Nat) (f:Field),l[i]?=some f->∃s,cg P f.type=some s/\pl[i]?=some (f.offset,s):=by
  intro l
  induction l with
  |nil=>intro _;exact⟨[],by simp,λi f hf=>by simp at hf⟩
  |cons f r ih=>
   intro ha
   simp at ha;obtain⟨s,hs⟩:=abv.1 ha.1;obtain⟨pl,h1,h2⟩:=ih (by simpa using ha.2);refine⟨(f.offset,s)::pl,?_,λi g hg=>?_⟩
   ·simp only[List.mapM_cons,Sem.run_bind,cw hs,Result.andThen_ok,Sem.run_pure,h1]
   ·cases i with
    |zero=>simp at hg;subst hg;exact⟨s,hs,rfl⟩
    |succ i=>simpa using h2 i g (by simpa using hg)
 obtain⟨pl,h1,h2⟩:=main fs.toList eA;refine⟨pl.toArray,?_,λi x hx=>?_⟩
 ·rw[<-Array.toArray_toList (xs:=fs),List.mapM_toArray];simp only[Sem.run_map,h1,Result.andThen_ok]
 ·unfold ir at hx
  split at hx
  ·rename_i f hf
   obtain⟨s,g1,g2⟩:=h2 i f (by simpa using hf);rw[g1]at hx;simp at hx;subst hx;simpa using g2
  ·cases hx
theorem wY.agg{A:Nat->Prop}{cs:Array Value}{ps:List PV}(r:wY w A β h cs ps):aD w A β h (.agg cs) (.agg ps):=by
 have:=aD.agg (w:=w) (A:=A) (β:=β) (h:=h) cs.toList ps (by simpa using r.1) (λj hj=>by
  obtain⟨u,m1,m2⟩:=r.2 j ps[j] (Zy hj);have e1:cs.toList.getD j Go.undef=u:=by simp[List.getD,m1]
  have e2:ps.getD j .any=ps[j]:=by simp[List.getD,hj]
  rw[e1,e2];exact m2)
 simpa using this
theorem tP{A:Nat->Prop}{t:TypeId}{z:PV}(e:iL P t=some z)(h1:(Pm.cells z).all bG=true)(w:World)(β:List (Nat×Nat))(h:ab):∃v,(∀w,(zeroValue t).run P w=.ok v w)/\wY w A β h v.cells (Pm.cells z):=by
 obtain⟨v,z1,z2⟩:=jy (P:=P) e;obtain⟨x1,x2⟩:=(z2 w A β h).cells h1;exact⟨v,z1,x1,λk q hq=>by obtain⟨u,m1,m2,_⟩:=x2 k q hq;exact⟨u,m1,m2⟩⟩
theorem Ik{A:Nat->Prop}{t:TypeId}{vs:Array (Nat×Value)}{ps:List (Nat×PV)}{r:PV}(hp:mb w A β h vs.toList ps)(e:uU P t ps=some r):
  ∃u,(Instr.build t vs).run P w=.ok u w/\aD w A β h u r:=by
 unfold uU at e
 split at e
 ·rename_i z fs hz hu
  split at e
  ·rename_i eA
   obtain⟨eA,sA⟩:=eA
   cases hf:jI (ir P fs) (Pm.cells z) ps with
   |none=>rw[hf]at e;simp at e
   |some q=>
    rw[hf]at e;simp at e;subst e;obtain⟨v,z1,z2⟩:=tP (P:=P) (A:=A) hz sA w β h;obtain⟨pl,p1,p2⟩:=CM fs eA w;obtain⟨jd,g1,g2⟩:=CL (pl':=λi=>pl[i]?) p2 ps vs.toList v.cells (Pm.cells z) q hp z2 hf;refine⟨.agg jd,?_,g2.agg⟩;simp only[Instr.build,Sem.run_bind,z1,Result.andThen_ok,bH hu,p1,g1,Sem.run_pure]
  ·cases e
 ·rename_i z n el hz hu
  split at e
  ·rename_i size hs
   split at e
   ·rename_i sA
    cases hf:jI (λi=>some (i * size,size)) (Pm.cells z) ps with
    |none=>rw[hf]at e;simp at e
    |some q=>
     rw[hf]at e;simp at e;subst e;obtain⟨v,z1,z2⟩:=tP (P:=P) (A:=A) hz sA w β h;obtain⟨jd,g1,g2⟩:=CL (pl':=λi=>some (i * size,size)) (λ_ _ hx=>hx) ps vs.toList v.cells (Pm.cells z) q hp z2 hf;refine⟨.agg jd,?_,g2.agg⟩;simp only[Instr.build,Sem.run_bind,z1,Result.andThen_ok,bH hu,cw hs,g1,Sem.run_pure]
   ·cases e
  ·cases e
 ·cases e
theorem Flat.set{A:Nat->Prop}{sz:Nat}{cs jd:Array Value}{es:List PV}(a:Flat w A β h sz cs.toList es){v:Value}{p:PV}(hv:aD w A β h v p)(h1:(Pm.cells p).length=sz)(h2:(Pm.cells p).all bG=true)
  (i:Nat) (hi:i<es.length) (gm:jd.size=cs.size) (hk:∀k,jd[k]?=if i * sz<=k/\k<i * sz+v.cells.size then v.cells[k - i * sz]? else cs[k]?):Flat w A β h sz jd.toList (es.set i p):=by
 obtain⟨x1,x2⟩:=hv.cells h2;refine⟨by have:=a.1;simp at this ⊢;omega,λk e he=>?_⟩
 by_cases Po:k=i
 ·subst Po;rw[ZB hi]at he;obtain rfl:=Zu he;refine⟨h1,λj q hq=>?_⟩;have hj:=ag hq;obtain⟨u,m1,m2,_⟩:=x2 j q hq;refine⟨u,?_,m2⟩;rw[Z1,hk,if_pos (by omega),show k * sz+j - k * sz=j by omega];exact m1
 ·rw[ZC (aak Po)]at he;obtain⟨n1,n2⟩:=a.2 k e he;refine⟨n1,λj q hq=>?_⟩;have hj:=ag hq;obtain⟨u,m1,m2⟩:=n2 j q hq;refine⟨u,?_,m2⟩;rw[Z1,hk,if_neg]
  ·simpa using m1
  ·rcases Nat.lt_or_gt_of_ne Po with hl |hg
   ·have:=jX (s:=sz) hl;omega
   ·have:=jX (s:=sz) hg;omega
theorem Il{A:Nat->Prop}{sz:Nat}:∀(ps:List (Nat×PV)) (vs:List (Nat×Value)) (cs:Array Value) (es:List PV),mb w A β h vs ps->Flat w A β h sz cs.toList es->
  (∀x∈ps,(Pm.cells x.2).length=sz/\(Pm.cells x.2).all bG=true/\x.1<es.length)->
  ∃jd,Instr.fill (λi=>some (i * sz,sz)) cs vs=some jd/\Flat w A β h sz jd.toList (ps.foldl (λes x=>es.set x.1 x.2) es):=by
 intro ps
 induction ps with
 |nil=>
  intro vs cs es hp hf _
  obtain rfl:=hp.Gi;exact⟨cs,by simp[Instr.fill],hf⟩
 |cons x ps ih=>
  intro vs cs es hp hf eA
  obtain⟨v,ET,rfl,h1,h2⟩:=hp.cons_inv;obtain⟨c1,c2,c3⟩:=eA x (by simp);obtain⟨x1,_⟩:=h1.cells c2;have hl:=hf.1;have hm:=jX (s:=sz) c3;simp at hl;obtain⟨f1,f2⟩:=CK v (x.1 * sz) cs (by omega);have W2:=hf.set h1 c1 c2 x.1 c3 f1 f2
  obtain⟨jd,g1,g2⟩:=ih ET _ _ h2 W2 (λy hy=>by
   obtain⟨d1,d2,d3⟩:=eA y (by simp[hy]);exact⟨d1,d2,by simpa using d3⟩)
  refine⟨jd,?_,g2⟩;simp only[Instr.fill];rw[if_neg (by simp;omega)];exact g1
theorem Flat.aa{A:Nat->Prop}{sz:Nat}{cs:List Value}{es:List PV}(a:Flat w A β h sz cs es)(hs:0<sz)(hv:ar es=true){w':World}{A':Nat->Prop}{b cap:Nat}{full:Bool}
  (hw:∀k,k<w.heap.size->¬A k->w'.heap[k]?=w.heap[k]?) (hA:∀k,k<w.heap.size->¬A k->¬A' k) (hb:¬A' b) (hc:∀(k:Nat) (u:Value),cs[k]?=some u->w'.cell? ⟨b,k,none⟩=some u) (Ai:es.length<=cap) (tM:full=true->cap=es.length):
  bY w' A' (.slice (some ⟨b,0,none⟩) es.length cap) (.aa full es):=by
 by_cases hn:es=[]
 ·subst hn;exact .gA _ _ _ (λhh=>by simpa using tM hh)
 ·have isv:∀(l:List PV),ar l=true->∀e∈l,aW e=true:=by
   intro l
   induction l with
   |nil=>intro _ e he;cases he
   |cons c r ih=>
    intro hl e he
    simp[ar]at hl;rcases ZF.1 he with rfl |he
    ·exact hl.1
    ·exact ih hl.2 e he
  have GH:∀(e:PV),aW e=true->∀q∈Pm.cells e,aW q=true:=by
   intro e he q hq
   cases e <;>first
    |(simp only[Pm.cells,ZY]at hq;subst hq;exact he)
    |(simp[aW]at he;exact isv _ he q hq)
  have at_:∀i j,i<es.length->j<sz->∃u,cs[i * sz+j]?=some u/\bY w A u ((Pm.cells (es.getD i .any)).getD j .any):=by
   intro i j hi hj
   have he:=Zy hi;obtain⟨n1,n2⟩:=a.2 i _ he;have hq:=Zy (show j<(Pm.cells es[i]).length by omega);obtain⟨u,m1,m2⟩:=n2 j _ hq;have e1:es.getD i .any=es[i]:=by simp[List.getD,hi]
   refine⟨u,m1,?_⟩;rw[e1];have e2:(Pm.cells es[i]).getD j .any=(Pm.cells es[i])[j]'(by omega):=by simp[List.getD,hq]
   rw[e2];exact m2.GI (GH _ (isv es hv _ (Z2 hi)) _ (Z2 _))
  refine .aa b 0 cap sz full es (λi j=>cs.getD (i * sz+j) Go.undef) hn Ai tM hb hs (λi hi=>?_) (λi j hi hj=>?_) (λi j hi hj=>?_)
  ·have e1:es.getD i .any=es[i]:=by simp[List.getD,hi]
   rw[e1];exact(a.2 i _ (Zy hi)).1
  ·obtain⟨u,m1,m2⟩:=at_ i j hi hj;rw[ZS,hc _ u m1];simp[List.getD,m1]
  ·obtain⟨u,m1,m2⟩:=at_ i j hi hj;have:cs.getD (i * sz+j) Go.undef=u:=by simp[List.getD,m1]
   rw[this];exact m2.mono hw hA
theorem wZ(H:aZ w F β h){lv:Nat}{t:TypeId}{n:Nat}{vs:Array (Nat×Value)}{ps:List (Nat×PV)}{r:PV}{h':ab}(hp:mb w (Av F h β) β h vs.toList ps)(e:dp P lv h t n ps=some (r,h')):
  Aa P lv w F β h (Instr.buildSlice t n vs) r h':=by
 unfold dp at e
 split at e
 ·rename_i el hu
  split at e
  ·rename_i size z hs hz
   split at e
   ·rename_i hc
    obtain⟨nA,Sf,P0,Ga,eA⟩:=hc;obtain⟨vz,z1,z2⟩:=jy (P:=P) hz;obtain⟨s1,s2⟩:=pM (z2 w (Av F h β) β h) P0 Ga nA n
    obtain⟨jd,g1,g2⟩:=Il (sz:=size) ps vs.toList (List.map (λi=>vz.cells[i % vz.cells.size]!) (List.range (n * size))).toArray (List.replicate n z) hp (by simpa using s2) (λx hx=>by
     have:=Zw.1 eA x hx;simp only[ZD,decide_eq_true_eq]at this;exact⟨this.1.1,this.1.2,by simpa using this.2⟩)
    have YW:ps.foldl (λes x=>es.set x.1 x.2) (List.replicate n z)=xO z n ps:=rfl;rw[YW]at g2
    have th:(xO z n ps).length=n:=by
     have:∀(l:List (Nat×PV)) (es:List PV),(l.foldl (λes x=>es.set x.1 x.2) es).length=es.length:=by
      intro l
      induction l with
      |nil=>intro es;rfl
      |cons x l ih=>intro es;rw[List.foldl_cons,ih];simp
     unfold xO;rw[this];simp
    have fL:(Instr.buildSlice t n vs).run P w=.ok (.slice (some ⟨w.heap.size,0,none⟩) n n) (w.alloc (.cells jd el)):=by
     simp only[Instr.buildSlice,Sem.run_bind,bH hu,Result.andThen_ok,cw hs,Sem.run_ite];rw[if_neg (by omega)]
     by_cases h0:n * size=0
     ·have hnn:n=0:=by
       rcases Nat.mul_eq_zero.1 h0 with h |h
       ·exact h
       ·omega
      subst hnn;simp only[h0,if_true,Sem.run_pure,Result.andThen_ok,gv,List.range_zero,ZX]at g1 ⊢;rw[g1];simp only[Sem.run_bind,newRow,run_newObj,Result.andThen_ok,Sem.run_pure]
      rfl
     ·simp only[h0,if_false,z1,Result.andThen_ok,Sem.run_pure,gv];rw[g1];simp only[Sem.run_bind,newRow,run_newObj,Result.andThen_ok,Sem.run_pure]
      rfl
    split at e
    ·rename_i hv
     obtain⟨rfl,rfl⟩:=ZG (Zu e);refine⟨_,_,β,fL,.val ?_,H.Jj (dz.alloc w _),(dz.alloc w _).Pl h β,λ_=>dz.alloc w _⟩
     have:=g2.aa (w':=w.alloc (.cells jd el)) (A':=Av F h β) (b:=w.heap.size) (cap:=n) (full:=true) nA hv (λk hk _=>heap_alloc_old w _ k hk) (λk _ hk=>hk)
      (λhm=>by have:=Av.lt H hm;omega) (λk u hku=>by rw[World.cell?_alloc_new];simpa using hku) (by omega) (λ_=>by omega)
     rwa[th]at this
    ·rename_i hv
     split at e
     ·obtain⟨rfl,rfl⟩:=ZG (Zu e)
      obtain⟨HH,S⟩:=aZ.new H (w':=w.alloc (.cells jd el)) el jd {mu:=.m,ep:=0,bB:=size,es:=xO z n ps} n rfl rfl rfl rfl rfl (by simp[th])
       (by have:=g2.1;simp[th]at this;simp[this]) nA (λi e he=>by
        obtain⟨n1,n2⟩:=g2.2 i e he;exact⟨n1,λj p hp=>by obtain⟨u,m1,m2⟩:=n2 j p hp;exact⟨u,by simpa using m1,m2⟩⟩)
      exact⟨_,_,_,fL,H.uH,HH,S,λ_=>dz.alloc w _⟩
     ·cases e
   ·cases e
  ·cases e
 ·cases e
open Go.MapKept
theorem Gd{A:Nat->Prop}{t:TypeId}{k:PV}{v:Value}(hk:xP P t k=true)(hv:aD w A β h v k):∃d,P.underlying t=some d/\IsKey d v/\∀(k':PV) (v':Value) (b:Bool),yj k k'=some b->aD w A β h v' k'->Instr.sameNow d v v'=some b/\(b=true->Instr.sameBits 10000 v' v=true/\aD w A β h v k'):=by
 unfold xP at hk
 split at hk
 ·rename_i kd k n hu
  obtain rfl:=hv.dF;have hk:=of_decide_eq_true hk;refine⟨_,hu,by simpa[IsKey]using hk,λk' v' b hs IW=>?_⟩
  cases k' <;>simp only[yj]at hs <;>try(cases hs;done)
  obtain rfl:=IW.dF
  split at hs
  ·rename_i hkk
   subst hkk;obtain rfl:=Zu hs;refine⟨by simp[Instr.sameNow],λhb=>?_⟩;have:=eq_of_beq hb;subst this;exact⟨by simp[Instr.sameBits],hv⟩
  ·cases hs
 ·rename_i s hu
  obtain rfl:=hv.lQ;refine⟨_,hu,by simp[IsKey],λk' v' b hs IW=>?_⟩
  cases k' <;>simp only[yj]at hs <;>try(cases hs;done)
  obtain rfl:=IW.lQ;obtain rfl:=Zu hs;refine⟨by simp[Instr.sameNow],λhb=>?_⟩;have:=(bytes_beq _ _).1 hb;subst this;exact⟨by simp only[Instr.sameBits];exact hb,hv⟩
 ·rename_i b hu
  obtain rfl:=hv.ga;refine⟨_,hu,by simp[IsKey],λk' v' b hs IW=>?_⟩
  cases k' <;>simp only[yj]at hs <;>try(cases hs;done)
  obtain rfl:=IW.ga;obtain rfl:=Zu hs;refine⟨by simp[Instr.sameNow],λhb=>?_⟩;have:=eq_of_beq hb;subst this;exact⟨by simp[Instr.sameBits],hv⟩
 ·cases hk
def WZ(w:World)(A:Nat->Prop)(β:List (Nat×Nat))(h:ab)(l:List MapEntry)(ps:List PV):Prop:=
 l.length=ps.length/\∀(i:Nat) (e:PV),ps[i]?=some e->∃(k v:PV) (m:MapEntry),e=.agg [k,v]/\l[i]?=some m/\aD w A β h m.key k/\aD w A β h m.val v
theorem oY{A:Nat->Prop}{d:TypeDesc}{k:PV}{v:Value}(hs:∀(k':PV) (v':Value) (b:Bool),yj k k'=some b->aD w A β h v' k'->Instr.sameNow d v v'=some b/\(b=true->Instr.sameBits 10000 v' v=true/\aD w A β h v k')):
  ∀(l:List MapEntry) (ps:List PV) (n:Nat) (r:Option (Nat×PV)),WZ w A β h l ps->sX k ps n=some r->
   match r with
   |none=>Instr.findNow d v l n=some none
   |some (j,p)=>∃(i:Nat) (m:MapEntry) (k':PV),j=n+i/\l[i]?=some m/\ps[i]?=some (.agg [k',p])/\Instr.findNow d v l n=some (some (j,m.val))/\aD w A β h m.val p/\Instr.sameBits 10000 m.key v=true/\aD w A β h v k'
 |[],ps,n,r,hR,e=>by
  obtain⟨h1,_⟩:=hR;have:ps=[]:=List.length_eq_zero_iff.1 h1.symm;subst this;simp only[sX]at e;obtain rfl:=Zu e
  rfl
 |m::l,[],n,r,hR,e=>by
  obtain⟨h1,_⟩:=hR;simp at h1
 |m::l,p0::ps,n,r,hR,e=>by
  obtain⟨h1,h2⟩:=hR;obtain⟨k0,v0,m0,rfl,hm,TW,Bg⟩:=h2 0 p0 rfl;simp at hm;subst hm
  have hT:WZ w A β h l ps:=⟨by simpa using h1,λi e he=>by
   obtain⟨k1,v1,m1,g1,g2,g3⟩:=h2 (i+1) e (by simpa using he);exact⟨k1,v1,m1,g1,by simpa using g2,g3⟩⟩
  simp only[sX]at e
  split at e
  ·rename_i xV
   obtain rfl:=Zu e;obtain⟨q1,q2⟩:=hs k0 m.key true xV TW;obtain⟨q3,q4⟩:=q2 rfl;exact⟨0,m,k0,rfl,rfl,rfl,by simp[Instr.findNow,q1],Bg,q3,q4⟩
  ·rename_i xV
   obtain⟨q1,_⟩:=hs k0 m.key false xV TW;have:=oY hs l ps (n+1) r hT e;have hf:Instr.findNow d v (m::l) n=Instr.findNow d v l (n+1):=by simp[Instr.findNow,q1]
   cases r with
   |none=>simpa[hf]using this
   |some jp=>
    obtain⟨j,p⟩:=jp;obtain⟨i,m1,k1,g1,g2,g3,g4,g5⟩:=this;exact⟨i+1,m1,k1,by omega,by simpa using g2,by simpa using g3,by rw[hf];exact g4,g5⟩
  ·cases e
theorem Ln{A:Nat->Prop}{es:Array MapEntry}{ps:List PV}(h1:es.size=ps.length)(h2:∀(i:Nat) (e:PV),ps[i]?=some e->∃(k v:PV) (m:MapEntry),e=.agg [k,v]/\es[i]?=some m/\aD w A β h m.key k/\aD w A β h m.val v):
  WZ w A β h es.toList ps:=⟨by simpa using h1,λi e he=>by
 obtain⟨k,v,m,g1,g2,g3⟩:=h2 i e he;exact⟨k,v,m,g1,by simpa using g2,g3⟩⟩
theorem EJ(H:aZ w F β h){vm vk:Value}{m k q:PV}{t:TypeId}{ok:Bool}(hm:aD w (Av F h β) β h vm m)(hk:aD w (Av F h β) β h vk k)(e:mT P h t m k ok=some q):
  ∃u,(Instr.lookup t vm vk ok).run P w=.ok u w/\aD w (Av F h β) β h u q:=by
 unfold mT at e
 split at e
 ·rename_i kt et hu
  split at e
  ·rename_i z hz
   split at e
   ·rename_i cP
    obtain⟨d,hd,Du,Cv⟩:=Gd cP hk;obtain⟨vz,z1,z2⟩:=sL hz w (Av F h β) β h
    have NF:∀{u:Value} {p:PV} (b:Bool),aD w (Av F h β) β h u p->aD w (Av F h β) β h (if ok then .tuple #[u,.bool b]else u) (gh ok p b):=by
     intro u p b hr
     unfold gh
     cases ok
     ·exact hr
     ·exact .cm [u,.bool b] [p,.bool b] rfl (λj hj=>by
       match j,hj with
       |0,_=>exact hr
       |1,_=>exact .val (.bool b))
    split at e
    ·obtain rfl:=Zu e;obtain rfl:=hm.Cw;refine⟨_,?_,NF false z2⟩;simp only[Instr.lookup,Sem.run_bind,bH hu,Result.andThen_ok,Sem.run_pure,run_checkKey hd Du,run_findKey (l:=(#[]:Array MapEntry).toList) hd (a:=none) rfl,z1]
    ·rename_i id
     split at e
     ·rename_i o ho
      obtain⟨bc,es,clock,rfl,k2,k3,k4⟩:=Lo H hm ho;have hE:=Ln k3 k4
      split at e
      ·rename_i j p hf
       obtain rfl:=Zu e;obtain⟨i,me,k',g1,g2,g3,g4,g5,g6⟩:=oY Cv es.toList o.es 0 _ hE hf;refine⟨_,?_,NF true g5⟩;simp only[Instr.lookup,Sem.run_bind,bH hu,Result.andThen_ok,Sem.run_pure,lj k2,run_checkKey hd Du,run_findKey hd g4]
      ·rename_i hf
       obtain rfl:=Zu e;have g4:=oY Cv es.toList o.es 0 _ hE hf;refine⟨_,?_,NF false z2⟩;simp only[Instr.lookup,Sem.run_bind,bH hu,Result.andThen_ok,Sem.run_pure,lj k2,run_checkKey hd Du,run_findKey hd g4,z1]
      ·cases e
     ·cases e
    ·cases e
   ·cases e
  ·cases e
 ·cases e
theorem Cx{lv:Nat}(H:aZ w F β h){t:TypeId}{r:Option PV}{vr:Option Value}(hr:uL w (Av F h β) β h vr r){p:PV}{h':ab}(e:mf P lv h t r=some (p,h')):Aa P lv w F β h (Instr.makeMap t vr) p h':=by
 obtain⟨H1,S1⟩:=H.RJ
 have hv:aD (w.alloc (.map #[] 0)) (Av F (newObj h 0 []) (β++[(w.heap.size,0)])) (β++[(w.heap.size,0)]) (newObj h 0 []) (.map (some w.heap.size)) (.cB h.length):=
  .cB _ _ {mu:=.m,ep:=0,bB:=0,es:=[]} (w.heap.size,0) ⟨_,rfl⟩ (by simp[newObj]) (by rw[<-H.len];simp) (by simp) (λ_=>rfl)
 unfold mf at e
 split at e
 ·split at e
  ·obtain⟨rfl,rfl⟩:=ZG (Zu e)
   cases vr with
   |some v=>exact hr.elim
   |none=>exact⟨_,_,_,rfl,hv,H1,S1,λ_=>dz.alloc w _⟩
  ·rename_i k n kt et hu
   obtain⟨rfl,rfl⟩:=ZG (Zu e)
   cases vr with
   |none=>exact hr.elim
   |some v=>
    obtain rfl:=aD.dF hr;refine⟨_,_,_,?_,hv,H1,S1,λ_=>dz.alloc w _⟩;simp[Instr.makeMap,bH hu,asInt,asIntOf]
  ·cases e
 ·cases e
theorem wK(H:aZ w F β h){vm vk vx:Value}{m k x:PV}{t:TypeId}{h':ab}(hm:aD w (Av F h β) β h vm m)(hk:aD w (Av F h β) β h vk k)(hx:aD w (Av F h β) β h vx x)(e:mU P h t m k x=some h'):
  ∃w' β',(Instr.mapUpdate t vm vk vx).run P w=.ok () w'/\aZ w' F β' h'/\dN w h β w' h' β':=by
 unfold mU at e
 split at e
 ·rename_i kt et id hu
  split at e
  ·rename_i o ho
   split at e
   ·rename_i hc
    obtain⟨cP,xX⟩:=hc;obtain⟨e1,e2,e3,e4⟩:=zj ho;obtain⟨bc,hb⟩:=dg H.len e1;obtain⟨_,es,clock,k2,k3,k4⟩:=(H.obj id o bc e1 hb e3).m e4;obtain rfl:=hm.Cy e1 hb e2;have hE:=Ln k3 k4;obtain⟨d,hd,Du,Cv⟩:=Gd cP hk;have cz:=(ZT.1 k2).1
    have hβ:β=β.set id bc:=by
     apply aaw
     intro j
     by_cases hj:j=id
     ·subst hj;rw[ZB (by have:=H.len;have:=ag e1;omega)];exact hb
     ·rw[ZC (aak hj)]
    have fin:∀(dD:Array MapEntry) (clock2:Nat) (ps:List PV),WZ w (Av F h β) β h dD.toList ps->
      aZ {w with heap:=w.heap.setIfInBounds bc.1 (.map dD clock2)} F β (h.set id {o with es:=ps})/\dN w h β {w with heap:=w.heap.setIfInBounds bc.1 (.map dD clock2)} (h.set id {o with es:=ps}) β:=by
     intro dD clock2 ps hR
     have cV:({w with heap:=w.heap.setIfInBounds bc.1 (.map dD clock2)}:World).heap[bc.1]?=some (.map dD clock2):=by
      simp[cz]
     have:=aZ.U4 H e1 hb xX (w':={w with heap:=w.heap.setIfInBounds bc.1 (.map dD clock2)}) ps o.ep bc (by simp) (λb vf bI=>by
      simp only[Array.getElem?_setIfInBounds];rw[if_neg (aak bI)]) (.inl ⟨rfl,λ_=>.inr e4⟩) (Zz _) rfl rfl rfl (λhs=>.inr ⟨e4,dD,clock2,cV,by simpa using hR.1,λi e he=>by
       obtain⟨k,v,m,g1,g2,g3,g4⟩:=hR.2 i e he;exact⟨k,v,m,g1,by simpa using g2,g3.mono hs,g4.mono hs⟩⟩)
     rw[<-hβ]at this;exact this
    unfold Qf at e
    split at e
    ·rename_i fq OD
     obtain rfl:=Zu e
     split at OD
     ·rename_i j p hf
      obtain rfl:=Zu OD;obtain⟨i,me,k',g1,g2,g3,g4,g5,g6,g7⟩:=oY Cv es.toList o.es 0 _ hE hf;obtain rfl:j=i:=by omega
      have Uj:es[j]?=some me:=by simpa using g2
      obtain⟨HH,SS⟩:=fin (es.modify j λe=>{e with key:=vk,val:=vx}) clock (o.es.set j (.agg [k,x])) (by
       refine⟨by simp[k3],λi e he=>?_⟩
       by_cases hi:i=j
       ·subst hi;rw[ZB (ag g3)]at he;obtain rfl:=Zu he;refine⟨k,x,{me with key:=vk,val:=vx},rfl,?_,hk,hx⟩;rw[Z1,abi,if_pos rfl,Uj];rfl
       ·rw[ZC (aak hi)]at he;obtain⟨k1,v1,m1,q1,q2,q3⟩:=k4 i e he;refine⟨k1,v1,m1,q1,?_,q3⟩;rw[Z1,abi,if_neg (aak hi)];exact q2)
      refine⟨_,β,?_,HH,SS⟩;simp only[Instr.mapUpdate,Sem.run_bind,bH hu,Result.andThen_ok,lj k2,run_checkKey hd Du,run_findKey hd g4,Instr.keyThatStays,Uj,ZH,Option.getD_some,g6,if_true,Sem.run_pure,run_setObj_map _ k2]
     ·rename_i hf
      obtain rfl:=Zu OD;have g4:=oY Cv es.toList o.es 0 _ hE hf
      obtain⟨HH,SS⟩:=fin (es.push {key:=vk,val:=vx,born:=clock}) (clock+1) (o.es++[.agg [k,x]]) (by
       refine⟨by simp[k3],λi e he=>?_⟩
       by_cases hi:i<o.es.length
       ·rw[Zv hi]at he;obtain⟨k1,v1,m1,q1,q2,q3⟩:=k4 i e he;refine⟨k1,v1,m1,q1,?_,q3⟩;rw[Z1,Array.getElem?_push,if_neg (by omega)];exact q2
       ·have hl:=ag he;simp at hl;obtain rfl:i=o.es.length:=by omega
        rw[ZI (Zz _)]at he;simp at he;subst he;refine⟨k,x,{key:=vk,val:=vx,born:=clock},rfl,?_,hk,hx⟩;rw[Z1,<-k3];simp)
      refine⟨_,β,?_,HH,SS⟩;simp only[Instr.mapUpdate,Sem.run_bind,bH hu,Result.andThen_ok,lj k2,run_checkKey hd Du,run_findKey hd g4,run_setObj_map _ k2]
     ·cases OD
    ·cases e
   ·cases e
  ·cases e
 ·cases e
end Go.Pm
