/-
  Pm, a part. Conditions: none.
-/
import Derived.Test.YtimogkojklpdnaaGreatDoorPwAA
import Derived.Laws.BytesArg
import Derived.MapKept
set_option linter.unusedVariables false
set_option linter.unusedSimpArgs false
set_option linter.unnecessarySimpa false
namespace Go.Pm
theorem qg{R:Nat->Value->Prop}:∀(n:Nat),(∀j,j<n->∃u,R j u)->∃vs:List Value,vs.length=n/\∀j,j<n->R j (vs.getD j undef)
 |0,_=>⟨[],rfl,λj hj=>absurd hj (Nat.not_lt_zero _)⟩
 |n+1,h=>by
  obtain⟨vs,hl,hr⟩:=qg n (λj hj=>h j (by omega));obtain⟨u,hu⟩:=h n (by omega);refine⟨vs++[u],by simp[hl],λj hj=>?_⟩
  by_cases hjn:j<n
  ·have:(vs++[u]).getD j undef=vs.getD j undef:=by simp[List.getD,abW (show j<vs.length by omega)]
   rw[this];exact hr j hjn
  ·obtain rfl:j=n:=by omega
   have:(vs++[u]).getD j undef=u:=by simp[List.getD,<-hl]
   rw[this];exact hu
theorem getM_some{h:ab}{id ep:Nat}{o:aw}(e:getM h id ep=some o):h[id]?=some o/\o.ep=ep/\o.mu≠.x:=by
 unfold getM at e
 split at e
 ·rename_i o' ho
  split at e
  ·rename_i hc
   obtain rfl:=abV e;exact⟨ho,hc.1,hc.2⟩
  cases e
 cases e
theorem dB{h:ab}{X:List (Nat×Nat)}(hl:X.length=h.length){id:Nat}{o:aw}(e:h[id]?=some o):∃bc,X[id]?=some bc:=by
 have:id<h.length:=by
  rcases acE id h.length with h1 |h1;exact h1;rw[ach h1]at e;cases e
 exact⟨X[id]'(by omega),ab1 (by omega)⟩
theorem ag{α:Type}{l:List α}{i:Nat}{x:α}(h:l[i]?=some x):i<l.length:=by
 rcases acE i l.length with h1 |h1;exact h1;rw[ach h1]at h;cases h
theorem Mb.lt{w:World}{F:Nat->Prop}{X:List (Nat×Nat)}{h:ab}(H:bo w F X h){b:Nat}(m:Mb h X b):b<w.heap.size:=by
 obtain⟨id,o,bc,e1,e2,e3,rfl⟩:=m;exact(H.obj id o bc e1 e2 (by rw[e3];simp)).lt
theorem Av.lt{w:World}{F:Nat->Prop}{X:List (Nat×Nat)}{h:ab}(H:bo w F X h){b:Nat}(m:Av F h X b):b<w.heap.size:=by
 rcases m with m |m;exact H.fin b m;exact Mb.lt H m
structure dN(w w':World):Prop where
 size:w.heap.size<=w'.heap.size
 aT:∀b,b<w.heap.size->w'.heap[b]?=w.heap[b]?
 os:w'.os=w.os
 tape:w'.tape=w.tape
 output:w'.output=w.output
 drawn:w.drawn<=w'.drawn
theorem dN.refl(w:World):dN w w:=⟨abZ _,λ_ _=>rfl,rfl,rfl,rfl,abZ _⟩
theorem dN.trans{a b c:World}(x:dN a b)(y:dN b c):dN a c:=
 ⟨acR x.size y.size,λk hk=>(y.aT k (acN hk x.size)).trans (x.aT k hk),y.os.trans x.os,y.tape.trans x.tape,y.output.trans x.output,acR x.drawn y.drawn⟩
theorem dN.alloc(w:World)(o:Obj):dN w (w.alloc o):=⟨by simp,λb hb=>heap_alloc_old w o b hb,rfl,rfl,rfl,abZ _⟩
theorem dN.drew(w:World):dN w w.drew:=⟨abZ _,λ_ _=>rfl,rfl,rfl,rfl,adV _⟩
theorem dN.TP{w w':World}(g:dN w w')(h:ab)(X:List (Nat×Nat)):eD w h X w' h X where
 size:=g.size
 len:=abZ _
 aT b hb _:=g.aT b hb
 shr _ _ m:=m
 refs:=Ja.refl h X
 MB id o h1 _:=⟨h1,rfl⟩
 os:=g.os
 tape:=g.tape
 output:=g.output
 drawn:=g.drawn
theorem kZ.mono{w w':World}{F:Nat->Prop}{h h':ab}{X X':List (Nat×Nat)}(s:eD w h X w' h' X'){o:aw}{bc:Nat×Nat}(hb:w'.heap[bc.1]?=w.heap[bc.1]?)
  (r:kZ w (Av F h X) X h o bc):kZ w' (Av F h' X') X' h' o bc:=by
 rcases r with⟨T,cs,h1,h2,h3,h4,h5⟩|⟨h0,es,clock,h1,h2,h3⟩
 ·refine .inl ⟨T,cs,hb.trans h1,h2,h3,h4,λi e he=>⟨(h5 i e he).1,λj p hp=>?_⟩⟩;obtain⟨v,k1,k2⟩:=(h5 i e he).2 j p hp;exact⟨v,k1,k2.mono s⟩
 ·refine .inr ⟨h0,es,clock,hb.trans h1,h2,λi e he=>?_⟩;obtain⟨k,v,m,q1,q2,q3,q4⟩:=h3 i e he;exact⟨k,v,m,q1,q2,q3.mono s,q4.mono s⟩
theorem bo.Na{w w':World}{F:Nat->Prop}{X:List (Nat×Nat)}{h:ab}(H:bo w F X h)(g:dN w w'):bo w' F X h where
 len:=H.len
 fin b hb:=acN (H.fin b hb) g.size
 obj id o bc e1 e2 e3:=by
  have r:=H.obj id o bc e1 e2 e3;exact kZ.mono (g.TP h X) (g.aT _ r.lt) r
 iT:=H.iT
 out:=H.out
theorem bo.Za{w w':World}{F:Nat->Prop}{X:List (Nat×Nat)}{h:ab}(H:bo w F X h)(ob:Obj)(o:aw)(cap:Nat)
  (hw:w'.heap=w.heap.push ob) (ho:w'.os=w.os) (ht:w'.tape=w.tape) (hu:w'.output=w.output)
  (hm:o.mu=.m)
  (hR:eD w h X w' (h++[o]) (X++[(w.heap.size,cap)])->w'.heap[w.heap.size]?=some ob->kZ w' (Av F (h++[o]) (X++[(w.heap.size,cap)])) (X++[(w.heap.size,cap)]) (h++[o]) o (w.heap.size,cap))
  (hd:w.drawn<=w'.drawn:=by first |exact abZ _ |exact adV _):
  bo w' F (X++[(w.heap.size,cap)]) (h++[o])/\eD w h X w' (h++[o]) (X++[(w.heap.size,cap)]):=by
 have gR:w'.heap.size=w.heap.size+1:=by rw[hw];simp
 have hold:∀b,b<w.heap.size->w'.heap[b]?=w.heap[b]?:=λb hb=>by rw[hw,Array.getElem?_push,if_neg (by omega)]
 have N':w'.heap[w.heap.size]?=some ob:=by rw[hw];simp
 have hlen:=H.len
 have o9:∀id,id<h.length->(h++[o])[id]?=h[id]?/\(X++[(w.heap.size,cap)])[id]?=X[id]?:=λid bZ=>
  ⟨abW bZ,abW (by omega)⟩
 have at_new:(h++[o])[h.length]?=some o/\(X++[(w.heap.size,cap)])[h.length]?=some (w.heap.size,cap):=by
  constructor
  simp;rw[<-hlen];simp
 have split:∀id (o':aw) (dq:Nat×Nat),(h++[o])[id]?=some o'->(X++[(w.heap.size,cap)])[id]?=some dq->
   (id<h.length/\h[id]?=some o'/\X[id]?=some dq)\/(id=h.length/\o'=o/\dq=(w.heap.size,cap)):=by
  intro id o' dq e1 e2
  by_cases bZ:id<h.length
  ·left;rw[(o9 id bZ).1]at e1;rw[(o9 id bZ).2]at e2;exact⟨bZ,e1,e2⟩
  ·right
   have:id<(h++[o]).length:=ag e1;obtain rfl:id=h.length:=by simp at this;omega
   rw[at_new.1]at e1;rw[at_new.2]at e2;exact⟨rfl,(abV e1).symm,(abV e2).symm⟩
 have hs:eD w h X w' (h++[o]) (X++[(w.heap.size,cap)]):=by
  refine⟨by omega,by simp,λb hb _=>hold b hb,?_,?_,?_,ho,ht,hu,hd⟩
  ·rintro b hb ⟨id,o',dq,e1,e2,e3,rfl⟩;rcases split id o' dq e1 e2 with⟨_,f1,f2⟩|⟨_,rfl,rfl⟩;exact⟨id,o',dq,f1,f2,e3,rfl⟩;simp at hb
  ·intro id o' dq e1 e2 e3
   have bZ:=ag e1;exact⟨o',dq,by rw[(o9 id bZ).1];exact e1,by rw[(o9 id bZ).2];exact e2,e3,⟨abZ _,λh=>h⟩,λ_=>⟨rfl,λ_=>rfl,rfl⟩⟩
  ·intro id o' e1 _
   have bZ:=ag e1;exact⟨by rw[(o9 id bZ).1];exact e1,(o9 id bZ).2⟩
 refine⟨⟨by simp[hlen],λb hb=>by have:=H.fin b hb;omega,?_,?_,?_⟩,hs⟩
 ·intro id o' dq e1 e2 e3
  rcases split id o' dq e1 e2 with⟨_,f1,f2⟩|⟨_,rfl,rfl⟩
  ·have r:=H.obj id o' dq f1 f2 e3;exact kZ.mono hs (hold _ r.lt) r
  exact hR hs N'
 ·intro id eH o1 o2 Qy GU bO e1 e2 e3 e4 m1 m2
  rcases split id o1 Qy e1 e3 with⟨_,f1,f2⟩|⟨bZ,rfl,rfl⟩ <;>rcases split eH o2 GU e2 e4 with⟨_,g1,g2⟩|⟨V2,rfl,rfl⟩
  exact H.iT id eH o1 o2 Qy GU bO f1 g1 f2 g2 m1 m2
  ·have:=Mb.lt H ⟨id,o1,Qy,f1,f2,m1,rfl⟩;simp;omega
  ·have:=(H.obj eH o2 GU g1 g2 m2).lt;simp;omega
  omega
 ·intro id o' dq e1 e2 e3
  rcases split id o' dq e1 e2 with⟨_,f1,f2⟩|⟨_,rfl,rfl⟩;exact H.out id o' dq f1 f2 e3
  intro hf;have:=H.fin _ hf;simp at this
theorem bo.new{w w':World}{F:Nat->Prop}{X:List (Nat×Nat)}{h:ab}(H:bo w F X h)(T:TypeId)(cs:Array Value)(o:aw)(cap:Nat)
  (hw:w'.heap=w.heap.push (.cells cs T)) (ho:w'.os=w.os) (ht:w'.tape=w.tape) (hu:w'.output=w.output)
  (hm:o.mu=.m) (h1:o.es.length<=cap) (h2:cap * o.bQ<=cs.size) (h3:0<o.bQ)
  (h4:∀(i:Nat) (e:PV),o.es[i]?=some e->(cells e).length=o.bQ/\∀(j:Nat) (p:PV),(cells e)[j]?=some p->∃v:Value,cs[i * o.bQ+j]?=some v/\aE w (Av F h X) X h v p)
  (hd:w.drawn<=w'.drawn:=by first |exact abZ _ |exact adV _):
  bo w' F (X++[(w.heap.size,cap)]) (h++[o])/\eD w h X w' (h++[o]) (X++[(w.heap.size,cap)]):=
 H.Za (.cells cs T) o cap hw ho ht hu hm (λhs N'=>.inl ⟨T,cs,N',h1,h2,h3,λi e he=>⟨(h4 i e he).1,λj p hp=>by
  obtain⟨v,k1,k2⟩:=(h4 i e he).2 j p hp;exact⟨v,k1,k2.mono hs⟩⟩⟩) hd
theorem bo.V3{w:World}{F:Nat->Prop}{X:List (Nat×Nat)}{h:ab}(H:bo w F X h):
  bo (w.alloc (.map #[] 0)) F (X++[(w.heap.size,0)]) (newObj h 0 [])/\eD w h X (w.alloc (.map #[] 0)) (newObj h 0 []) (X++[(w.heap.size,0)]):=
 H.Za (w':=w.alloc (.map #[] 0)) (.map #[] 0) {mu:=.m,ep:=0,bQ:=0,es:=[]} 0 rfl rfl rfl rfl rfl (λhs N'=>.inr ⟨rfl,#[],0,N',rfl,λi e he=>by simp at he⟩)
theorem bo.Zb{w w':World}{F:Nat->Prop}{X:List (Nat×Nat)}{h:ab}(H:bo w F X h){id:Nat}{o:aw}{bc:Nat×Nat}(eo:h[id]?=some o)(eb:X[id]?=some bc)(em:o.mu=.m)
  (eV:List PV) (iC:Nat) (dq:Nat×Nat)
  (gR:w.heap.size<=w'.heap.size) (sc:∀b,b<w.heap.size->b≠bc.1->w'.heap[b]?=w.heap[b]?)
  (oC:(dq=bc/\(o.ep=iC->eV.length=o.es.length\/o.bQ=0))\/(w.heap.size<=dq.1/\o.ep<iC))
  (Vf:o.ep<=iC) (ho:w'.os=w.os) (ht:w'.tape=w.tape) (hu:w'.output=w.output)
  (hR:eD w h X w' (h.set id {o with es:=eV,ep:=iC}) (X.set id dq)->kZ w' (Av F (h.set id {o with es:=eV,ep:=iC}) (X.set id dq)) (X.set id dq) (h.set id {o with es:=eV,ep:=iC}) {o with es:=eV,ep:=iC} dq)
  (hd:w.drawn<=w'.drawn:=by first |exact abZ _ |exact adV _):
  bo w' F (X.set id dq) (h.set id {o with es:=eV,ep:=iC})/\eD w h X w' (h.set id {o with es:=eV,ep:=iC}) (X.set id dq):=by
 have hlen:=H.len;have bZ:=ag eo;have abF:bc.1<w.heap.size:=Mb.lt H ⟨id,o,bc,eo,eb,em,rfl⟩;have nB:(h.set id {o with es:=eV,ep:=iC})[id]?=some {o with es:=eV,ep:=iC}:=by simp[bZ]
 have bself:(X.set id dq)[id]?=some dq:=by simp[hlen,bZ]
 have kH:∀k,k≠id->(h.set id {o with es:=eV,ep:=iC})[k]?=h[k]?:=λk hk=>ab0 (acS hk)
 have both:∀k,k≠id->(X.set id dq)[k]?=X[k]?:=λk hk=>ab0 (acS hk)
 have hs:eD w h X w' (h.set id {o with es:=eV,ep:=iC}) (X.set id dq):=by
  refine⟨gR,by simp,λb hb hm=>sc b hb (λe=>hm ⟨id,o,bc,eo,eb,em,e.symm⟩),?_,?_,?_,ho,ht,hu,hd⟩
  ·rintro b hb ⟨k,o',c',e1,e2,e3,rfl⟩
   by_cases hk:k=id
   ·subst hk;rw[bself]at e2;obtain rfl:=abV e2;rcases oC with⟨rfl,_⟩|⟨DT,_⟩;exact⟨k,o,dq,eo,eb,em,rfl⟩;omega
   ·rw[kH k hk]at e1;rw[both k hk]at e2;exact⟨k,o',c',e1,e2,e3,rfl⟩
  ·intro k o' c' e1 e2 e3
   by_cases hk:k=id
   ·subst hk;rw[eo]at e1;rw[eb]at e2;obtain rfl:=abV e1;obtain rfl:=abV e2;refine⟨_,dq,nB,bself,by rw[em];simp,⟨Vf,λh=>h⟩,λe=>⟨rfl,?_,?_⟩⟩
    ·intro hz
     rcases oC with⟨_,hl⟩|⟨_,cM⟩;exact(hl e).resolve_right (by omega);simp at e;omega
    ·rcases oC with⟨hl,_⟩|⟨_,cM⟩;exact hl;simp at e;omega
   exact⟨o',c',by rw[kH k hk];exact e1,by rw[both k hk];exact e2,e3,⟨abZ _,λh=>h⟩,λ_=>⟨rfl,λ_=>rfl,rfl⟩⟩
  ·intro k o' e1 e2
   have hk:k≠id:=by
    rintro rfl;rw[eo]at e1;obtain rfl:=abV e1;exact e2 em
   exact⟨by rw[kH k hk];exact e1,both k hk⟩
 refine⟨⟨by simp[hlen],λb hb=>acN (H.fin b hb) gR,?_,?_,?_⟩,hs⟩
 ·intro k o' c' e1 e2 e3
  by_cases hk:k=id
  ·subst hk;rw[nB]at e1;rw[bself]at e2;obtain rfl:=abV e1;obtain rfl:=abV e2;exact hR hs
  ·rw[kH k hk]at e1;rw[both k hk]at e2;have r:=H.obj k o' c' e1 e2 e3;exact kZ.mono hs (sc _ r.lt (λe=>H.iT id k o o' bc c' (acS hk) eo e1 eb e2 em e3 e.symm)) r
 ·intro k k' o1 o2 Qy GU bO e1 e2 e3 e4 m1 m2
  by_cases hk:k=id
  ·subst hk;have fZ:k'≠k:=acS bO;rw[kH k' fZ]at e2;rw[both k' fZ]at e4;rw[bself]at e3;obtain rfl:=abV e3;rcases oC with⟨rfl,_⟩|⟨DT,_⟩;exact H.iT k k' o o2 dq GU bO eo e2 eb e4 em m2
   ·have:=(H.obj k' o2 GU e2 e4 m2).lt;omega
  ·rw[kH k hk]at e1;rw[both k hk]at e3
   by_cases fZ:k'=id
   ·subst fZ;rw[bself]at e4;obtain rfl:=abV e4;rcases oC with⟨rfl,_⟩|⟨DT,_⟩;exact λe=>H.iT k' k o o1 dq Qy (acS bO) eo e1 eb e3 em (by rw[m1];simp) e.symm
    ·have:=Mb.lt H ⟨k,o1,Qy,e1,e3,m1,rfl⟩;omega
   ·rw[kH k' fZ]at e2;rw[both k' fZ]at e4;exact H.iT k k' o1 o2 Qy GU bO e1 e2 e3 e4 m1 m2
 ·intro k o' c' e1 e2 e3
  by_cases hk:k=id
  ·subst hk;rw[bself]at e2;obtain rfl:=abV e2;rcases oC with⟨rfl,_⟩|⟨DT,_⟩;exact H.out k o dq eo eb (.inl em)
   intro hf;have:=H.fin _ hf;omega
  ·rw[kH k hk]at e1;rw[both k hk]at e2;exact H.out k o' c' e1 e2 e3
theorem bo.set{w w':World}{F:Nat->Prop}{X:List (Nat×Nat)}{h:ab}(H:bo w F X h){id:Nat}{o:aw}{bc:Nat×Nat}(eo:h[id]?=some o)(eb:X[id]?=some bc)(em:o.mu=.m)
  (T:TypeId) (cs:Array Value) (eV:List PV) (iC:Nat) (dq:Nat×Nat)
  (gR:w.heap.size<=w'.heap.size) (cC:w'.heap[dq.1]?=some (.cells cs T (0,0))) (sc:∀b,b<w.heap.size->b≠bc.1->w'.heap[b]?=w.heap[b]?)
  (oC:(dq=bc/\(o.ep=iC->eV.length=o.es.length))\/(w.heap.size<=dq.1/\o.ep<iC))
  (Vf:o.ep<=iC) (ho:w'.os=w.os) (ht:w'.tape=w.tape) (hu:w'.output=w.output)
  (h1:eV.length<=dq.2) (h2:dq.2 * o.bQ<=cs.size)
  (h4:∀(i:Nat) (e:PV),eV[i]?=some e->(cells e).length=o.bQ/\∀(j:Nat) (p:PV),(cells e)[j]?=some p->∃v:Value,cs[i * o.bQ+j]?=some v/\aE w (Av F h X) X h v p)
  (hd:w.drawn<=w'.drawn:=by first |exact abZ _ |exact adV _) (hz0:0<o.bQ:=by first |assumption |omega):
  bo w' F (X.set id dq) (h.set id {o with es:=eV,ep:=iC})/\eD w h X w' (h.set id {o with es:=eV,ep:=iC}) (X.set id dq):=by
 have V4:0<o.bQ:=hz0
 exact H.Zb eo eb em eV iC dq gR sc (oC.imp (λh=>⟨h.1,λe=>.inl (h.2 e)⟩) (λh=>h)) Vf ho ht hu (λhs=>.inl ⟨T,cs,cC,h1,h2,V4,λi e he=>⟨(h4 i e he).1,λj p hp=>by
  obtain⟨v,k1,k2⟩:=(h4 i e he).2 j p hp;exact⟨v,k1,k2.mono hs⟩⟩⟩) hd
theorem bo.xn{w w':World}{F A:Nat->Prop}{X:List (Nat×Nat)}{h:ab}(H:bo w F X h){b cap len sz:Nat}{es:List PV}(hz:0<sz:=by first |assumption |omega):
  aE w' A (X++[(b,cap)]) (newObj h sz es) (.slice (some ⟨b,0,none⟩) len cap) (.ak h.length 0 0 len):=
 .ak _ _ _ _ _ {mu:=.m,ep:=0,bQ:=sz,es} (b,cap) ⟨_,_,_,rfl⟩ (by simp[newObj]) (by rw[<-H.len];simp) (by simp) ⟨adw _,hz⟩ (λ_ _=>⟨cap,by simp,by simp⟩)
theorem bo.V5{w w':World}{F A:Nat->Prop}{X:List (Nat×Nat)}{h:ab}(H:bo w F X h){b cap sz:Nat}{es:List PV}(hz:0<sz:=by first |assumption |omega):
  aE w' A (X++[(b,cap)]) (newObj h sz es) (.pointer (some ⟨b,0,none⟩)) (.ptr h.length 0 0 0):=
 .ptr _ _ _ _ _ {mu:=.m,ep:=0,bQ:=sz,es} (b,cap) ⟨_,rfl⟩ (by simp[newObj]) (by rw[<-H.len];simp) (by simp) ⟨adw _,hz⟩ (λ_=>by simp)
theorem bo.Jb{w w':World}{F A:Nat->Prop}{X:List (Nat×Nat)}{h:ab}(H:bo w F X h){id:Nat}{o:aw}(eo:h[id]?=some o)(em:o.mu=.m){b cap len ep:Nat}{es:List PV}(hz:0<o.bQ:=by first |assumption |omega):
  aE w' A (X.set id (b,cap)) (h.set id {o with es:=es,ep:=ep}) (.slice (some ⟨b,0,none⟩) len cap) (.ak id ep 0 len):=
 .ak _ _ _ _ _ {o with es:=es,ep:=ep} (b,cap) ⟨_,_,_,rfl⟩ (by simp[ag eo]) (by simp[H.len,ag eo]) (by simp[em]) ⟨abZ _,hz⟩ (λ_ _=>⟨cap,by simp,by simp⟩)
def Cx(P:Program)(lv:Nat)(w:World)(F:Nat->Prop)(X:List (Nat×Nat))(h:ab)(s:Sem Value)(p:PV)(h':ab):Prop:=
 ∃v w' X',s.run P w=.ok v w'/\aE w' (Av F h' X') X' h' v p/\bo w' F X' h'/\eD w h X w' h' X'/\(lv<=1->dN w w')
theorem Cx.still{P:Program}{lv:Nat}{w:World}{F:Nat->Prop}{X:List (Nat×Nat)}{h:ab}(H:bo w F X h){s:Sem Value}{p:PV}{v:Value}(e:s.run P w=.ok v w)(r:aE w (Av F h X) X h v p):
  Cx P lv w F X h s p h:=⟨v,w,X,e,r,H,eD.refl w h X,λ_=>dN.refl w⟩
variable{P:Program}{w:World}{F:Nat->Prop}{X:List (Nat×Nat)}{h:ab}
theorem cP{t:TypeId}{n:Nat}(e:cF P t=some n)(w:World):(sizeOf t).run P w=.ok n w:=by
 unfold cF at e
 cases hi:P.info? t with
 |none=>rw[hi]at e;simp at e
 |some i=>rw[hi]at e;simp at e;subst e;simp[sizeOf,typeInfo,hi]
theorem bU{t:TypeId}{d:TypeDesc}(e:P.underlying t=some d)(w:World):(underlying t).run P w=.ok d w:=by simp[underlying,e]
theorem tW{t:TypeId}{b:Bool}(e:JX P t=some b)(w:World):(isAgg t).run P w=.ok b w:=by
 unfold JX at e
 cases hu:P.underlying t with
 |none=>rw[hu]at e;simp at e
 |some d=>
  rw[hu]at e;simp at e;subst e;simp only[isAgg,Sem.run_bind,bU hu,Result.andThen_ok]
  split <;>rename_i h <;>simp_all
theorem JC(w:World)(A:Nat->Prop)(X:List (Nat×Nat))(h:ab)(v:Value):aE w A X h v (Yf v):=by
 unfold Yf
 split
 exact .val (.int _ _);exact .val (.bool _);exact .val (.str _);exact .val (.ig none 0 true (λ_=>rfl));exact .val .eK;exact .val .aG;exact .val .gS;exact .any _
theorem HP(w:World)(A:Nat->Prop)(X:List (Nat×Nat))(h:ab)(v:Value):aE w A X h v (cv v):=by
 unfold cv
 split
 ·rename_i cs
  have:=aE.agg (w:=w) (A:=A) (X:=X) (h:=h) cs.toList (cs.toList.map Yf) (by simp) (λj hj=>by
   have FZ:j<cs.toList.length:=by simpa using hj
   simp only[List.getD,ace];rw[ab1 FZ];simpa using JC w A X h _)
  simpa using this
 exact JC w A X h _
theorem va{t:TypeId}{z:PV}(e:jv P t=some z)(w:World)(A:Nat->Prop)(X:List (Nat×Nat))(h:ab):∃v,(zeroValue t).run P w=.ok v w/\aE w A X h v z:=by
 unfold jv at e
 cases hi:P.info? t with
 |none=>rw[hi]at e;simp at e
 |some i=>
  rw[hi]at e;simp only[Option.bind_some]at e
  cases hz:i.zero with
  |none=>rw[hz]at e;simp at e
  |some v=>
   rw[hz]at e;simp at e;subst e;exact⟨v,by simp[zeroValue,typeInfo,hi,hz],HP w A X h v⟩
theorem aE.cells{A:Nat->Prop}{v:Value}{p:PV}(hv:aE w A X h v p)(hp:(Pm.cells p).all bM=true):
  v.cells.size=(Pm.cells p).length/\(∀(j:Nat) (q:PV),(Pm.cells p)[j]?=some q->∃u:Value,v.cells[j]?=some u/\aE w A X h u q/\u.oneCell'=true):=by
 have one:∀(u:Value) (q:PV),aE w A X h u q->bM q=true->u.oneCell'=true/\u.cells= #[u]:=by
  intro u q r ho
  cases r with
  |val hs=>cases hs <;>first |exact⟨rfl,rfl⟩|simp[bM]at ho
  |undef=>simp[bM]at ho
  |any=>simp[bM]at ho
  |ak v id ep off len o bc h0=>obtain⟨a,l,c,rfl⟩:=h0;exact⟨rfl,rfl⟩
  |ptr v id ep i off o bc h0=>obtain⟨a,rfl⟩:=h0;exact⟨rfl,rfl⟩
  |cG v id o bc h0=>obtain⟨a,rfl⟩:=h0;exact⟨rfl,rfl⟩
  |agg=>simp[bM]at ho
  |cA=>simp[bM]at ho
  |fn=>exact⟨rfl,rfl⟩
  |oE=>exact⟨rfl,rfl⟩
 have single:(∀cs,p≠.agg cs)->v.cells.size=(Pm.cells p).length/\(∀(j:Nat) (q:PV),(Pm.cells p)[j]?=some q->∃u:Value,v.cells[j]?=some u/\aE w A X h u q/\u.oneCell'=true):=by
  intro QO
  have hc:Pm.cells p=[p]:=by cases p <;>first |rfl |exact absurd rfl (QO _)
  rw[hc]at hp ⊢;obtain⟨h1,h2⟩:=one v p hv (by simpa using hp);rw[h2];refine⟨rfl,λj q hq=>?_⟩
  cases j with
  |zero=>simp at hq;subst hq;exact⟨v,rfl,hv,h1⟩
  |succ j=>simp at hq
 cases p with
 |agg cs=>
  obtain⟨vs,rfl,hl,hr⟩:=hv.sQ;refine⟨by simpa[Value.cells,Pm.cells]using hl,λj q hq=>?_⟩;have hq':cs[j]?=some q:=hq;have hj:=ag hq';have vJ:j<vs.length:=by omega
  have Wa:=hr j hj;have e1:vs.getD j Go.undef=vs[j]:=by simp[List.getD,vJ]
  have e2:cs.getD j .any=q:=by simp[List.getD,hq']
  rw[e1,e2]at Wa;have ho:bM q=true:=abX.1 hp q (acb hq');exact⟨vs[j],by simp[Value.cells,vJ],Wa,(one _ _ Wa ho).1⟩
 |_=>exact single (λcs=>by simp)
theorem BJ(H:bo w F X h){v:Value}{p:PV}{cs:List PV}(hv:aE w (Av F h X) X h v p)(e:cT h p=some cs):
  ∃b off,(cs≠[]->v=.pointer (some ⟨b,off,none⟩))/\∀(j:Nat) (q:PV),cs[j]?=some q->∃u:Value,w.cell? ⟨b,off+j,none⟩=some u/\aE w (Av F h X) X h u q:=by
 unfold cT at e
 split at e
 ·rename_i jN
  obtain rfl:=abV e;have hs:=hv.tX
  cases hs with
  |eW b off _ pW h1 h2 h3 h4=>
   refine⟨b,off,λ_=>rfl,λj q hq=>?_⟩;have hj:=ag hq;refine⟨pW j,h3 j hj,?_⟩;have:=h4 j hj;rw[acn,hq]at this;exact .val this
 ·rename_i id ep i off
  split at e
  ·rename_i o ho
   obtain⟨e1,e2,e3⟩:=getM_some ho
   split at e
   ·rename_i el cz
    obtain rfl:=abV e;obtain⟨bc,hb⟩:=dB H.len e1;obtain⟨h1,h2,h3⟩:=hv.Ce;have:=h3 o bc e1 hb e3 e2;obtain⟨T,cs,k1,k2,k3,k4,k5⟩:=(H.obj id o bc e1 hb e3).c (h2 o e1).2;refine⟨bc.1,i * o.bQ+off,λ_=>this,λj q hq=>?_⟩;rw[acy]at hq;obtain⟨u,m1,m2⟩:=(k5 i el cz).2 (off+j) q hq;refine⟨u,?_,m2⟩;rw[cell_of_row w bc.1 _ cs T (0,0) k1,adG];exact m1
   cases e
  cases e
 cases e
theorem fi(b off n:Nat):(⟨b,off,none⟩:Addr).add n=⟨b,off+n,none⟩:=by unfold Addr.add;split <;>simp_all
theorem zf(w:World)(b off n:Nat)(R:Nat->Value->Prop)(hc:∀j,j<n->∃u,w.cell? ⟨b,off+j,none⟩=some u/\R j u):
  ∃vs:List Value,vs.length=n/\(loadCells ⟨b,off,none⟩ n).run P w=.ok vs.toArray w/\∀j,j<n->R j (vs.getD j undef):=by
 obtain⟨vs,hl,hr⟩:=qg n hc;refine⟨vs,hl,?_,λj hj=>(hr j hj).2⟩
 have:=run_loadCells_list (P:=P) (w:=w) ⟨b,off,none⟩ vs (λj v hv=>by
  have hj:=ag hv;rw[fi];have:=(hr j (by omega)).1;rwa[acn,hv]at this)
 rwa[hl]at this
theorem Ff(H:bo w F X h){v:Value}{p q:PV}{t:TypeId}(hv:aE w (Av F h X) X h v p)(e:ja P h t p=some q):
  ∃u,(Instr.loadAt t v).run P w=.ok u w/\aE w (Av F h X) X h u q:=by
 unfold ja at e
 split at e
 ·rename_i sz cs h1 h2 h3
  split at e
  ·rename_i hle
   obtain rfl:=abV e;obtain⟨b,off,k1,k2⟩:=BJ H hv h3
   by_cases hn:cs=[]
   subst hn;simp at hle;omega
   ·have hle:=hle.2;rw[k1 hn]
    obtain⟨vs,l1,l2,l3⟩:=zf (P:=P) w b off sz (λj u=>aE w (Av F h X) X h u (cs.getD j .any)) (λj hj=>by
     have FZ:j<cs.length:=by omega
     obtain⟨u,m1,m2⟩:=k2 j cs[j] (ab1 FZ);exact⟨u,m1,by simpa[List.getD,FZ]using m2⟩)
    refine⟨.agg vs.toArray,?_,?_⟩;simp only[Instr.loadAt,Instr.sureAddr,Sem.run_bind,Sem.run_pure,Result.andThen_ok,loadVar,tW h2,cP h1,l2,if_true]
    ·refine .agg vs _ (by simp;omega) (λj hj=>?_);simp at hj;have:=l3 j (by omega);simpa[List.getD,acj,show j<sz by omega]using this
  cases e
 ·rename_i sz cs h1 h2 h3
  obtain⟨b,off,k1,k2⟩:=BJ H hv h3
  cases cs with
  |nil=>simp at e
  |cons c r=>
   simp at e;subst e;obtain⟨u,m1,m2⟩:=k2 0 c rfl;rw[k1 (by simp)];refine⟨u,?_,m2⟩;simp only[Instr.loadAt,Instr.sureAddr,Sem.run_bind,Sem.run_pure,Result.andThen_ok,loadVar,tW h2,aca,if_false,run_load];rw[show(⟨b,off,none⟩:Addr)=⟨b,off+0,none⟩ by simp,m1]
 cases e
theorem tY{s:TypeId}{f off:Nat}{ft:TypeId}(e:pM P s f=some (off,ft))(a:Addr)(w:World):
  (Instr.fieldAt s (.pointer (some a)) f).run P w=.ok (.pointer (some (a.add off))) w:=by
 unfold pM at e
 split at e
 ·rename_i fs hu
  split at e
  ·rename_i fl hf
   split at e
   ·rename_i sz hs
    split at e
    cases e
    ·rename_i hz
     simp at e;obtain⟨rfl,rfl⟩:=e;simp[Instr.fieldAt,bU hu,hf,Instr.sureAddr,fieldPlace,cP hs,hz]
   cases e
  cases e
 cases e
theorem AA(H:bo w F X h){v:Value}{p q:PV}{s:TypeId}{f:Nat}(hv:aE w (Av F h X) X h v p)(e:gD P s p f=some q):
  ∃u,(Instr.fieldAt s v f).run P w=.ok u w/\aE w (Av F h X) X h u q:=by
 unfold gD at e
 split at e
 ·rename_i off ft cs h1
  split at e
  ·rename_i cM
   obtain rfl:=abV e;have hs:=hv.tX
   cases hs with
   |eW b o _ pW k1 k2 k3 k4=>
    refine⟨_,tY h1 _ w,?_⟩;rw[fi];refine .val (.eW b (o+off) _ (λj=>pW (off+j)) ?_ k2 (λj hj=>?_) (λj hj=>?_))
    ·intro hn
     have:=congrArg List.length hn;simp at this;omega
    ·simp at hj;have:=k3 (off+j) (by omega);rwa[<-adG]at this
    ·simp at hj;have:=k4 (off+j) (by omega);simpa[List.getD,acy]using this
  cases e
 ·rename_i off ft id ep i o h1
  obtain rfl:=abV e
  cases hv with
  |val hs=>cases hs
  |ptr _ _ _ _ _ oo bc h0 k1 k2 k3 k4 k5=>
   obtain⟨a,rfl⟩:=h0;refine⟨_,tY h1 _ w,.ptr _ id ep i (o+off) oo bc ⟨_,rfl⟩ k1 k2 k3 k4 (λn4=>?_)⟩;have:=k5 n4;simp at this;rw[this,fi,adG]
 cases e
theorem aE.part{A:Nat->Prop}{v:Value}{cs:List PV}(hv:aE w A X h v (.agg cs)){t:TypeId}{off:Nat}{q:PV}(e:xF P t cs off=some q):
  ∃vs:Array Value,v=.agg vs/\∃u,(part t vs off).run P w=.ok u w/\aE w A X h u q:=by
 obtain⟨vs,rfl,hl,hr⟩:=hv.sQ;refine⟨vs.toArray,rfl,?_⟩;unfold xF at e
 split at e
 ·rename_i sz h1 h2
  split at e
  ·rename_i hle
   obtain rfl:=abV e;refine⟨.agg ((vs.drop off).take sz).toArray,?_,.agg _ _ (by simp;omega) (λj hj=>?_)⟩
   ·simp only[Go.part,Sem.run_bind,tW h1,cP h2,Result.andThen_ok,if_true,Sem.run_pure]
    congr 2
    apply adD;simp[List.extract_eq_take_drop]
   ·simp at hj;have:=hr (off+j) (by omega);simpa[List.getD,acj,acy,show j<sz by omega]using this
  cases e
 ·rename_i sz h1 h2
  split at e
  ·rename_i c hc
   obtain rfl:=abV e;have hj:=ag hc;have:=hr off hj;refine⟨vs[off]'(by omega),?_,?_⟩;simp[Go.part,tW h1,show off<vs.length by omega];simpa[List.getD,hc,show off<vs.length by omega]using this
  cases e
 cases e
theorem Ly{v:Value}{p q:PV}{s:TypeId}{f:Nat}{A:Nat->Prop}(hv:aE w A X h v p)(e:B1 P s p f=some q):
  ∃u,(Instr.field s v f).run P w=.ok u w/\aE w A X h u q:=by
 unfold B1 at e
 split at e
 ·rename_i fs cs hu
  split at e
  ·rename_i fl hf
   obtain⟨vs,rfl,u,h1,h2⟩:=hv.part e;exact⟨u,by simp[Instr.field,bU hu,asAgg,hf,h1],h2⟩
  cases e
 cases e
theorem Lz{v vi:Value}{p i q:PV}{t:TypeId}{A:Nat->Prop}(hv:aE w A X h v p)(hi:aE w A X h vi i)(e:xG P t p i=some q):
  ∃u,(Instr.index t v vi).run P w=.ok u w/\aE w A X h u q:=by
 unfold xG at e
 split at e
 ·rename_i n el cs k i hu
  obtain rfl:=hi.dS
  split at e
  ·rename_i sz hs
   split at e
   ·rename_i hc
    obtain⟨vs,rfl,u,h1,h2⟩:=hv.part e;exact⟨u,by simp[Instr.index,asIntOf,bU hu,hc,cP hs,h1],h2⟩
   cases e
  cases e
 ·rename_i s k i hu
  obtain rfl:=hi.dS;obtain rfl:=hv.mV
  split at e
  ·rename_i hc
   split at e
   ·rename_i b hb
    obtain rfl:=abV e;exact⟨_,by simp[Instr.index,asIntOf,bU hu,hc,hb],.val (.int _ _)⟩
   cases e
  cases e
 cases e
theorem cu.kK{A:Nat->Prop}{v:Value}{full:Bool}{es:List PV}(hv:cu w A v (.aa full es)):∃a cap,v=.slice a es.length cap/\es.length<=cap/\(full=true->cap=es.length):=by
 cases hv with
 |ig a cap _ hf=>exact⟨a,cap,rfl,adw _,hf⟩
 |aa b off cap sz _ _ pW h1 h2 h3=>exact⟨_,cap,rfl,h2,h3⟩
theorem AB(H:bo w F X h){v vi:Value}{p i q:PV}{t:TypeId}(hv:aE w (Av F h X) X h v p)(hi:aE w (Av F h X) X h vi i)(e:cJ P h t p i=some q):
  ∃u,(Instr.indexAt t v vi).run P w=.ok u w/\aE w (Av F h X) X h u q:=by
 unfold cJ at e
 split at e
 ·rename_i el full es k i hu
  obtain rfl:=hi.dS
  split at e
  ·rename_i sz hs
   split at e
   ·rename_i hc
    split at e
    ·rename_i x hx
     split at e
     ·rename_i hz
      obtain rfl:=abV e;have cM:=ag hx;have XV:=hv.fV
      cases XV with
      |ig=>simp at cM
      |aa b off cap IW _ _ pW k1 k2 k3 k4 k5 k6 k7 k8=>
       have gR:IW=sz:=by
        have:=k6 i.toNat cM;rw[acn,hx]at this;exact this.symm.trans hz.2
       subst gR;refine⟨.pointer (some ⟨b,off+i.toNat * IW,none⟩),?_,.val (.eW b _ _ (pW i.toNat) ?_ k4 (λj hj=>?_) (λj hj=>?_))⟩;simp[Instr.indexAt,asIntOf,bU hu,hc,cP hs,fi]
       intro hn;rw[hn]at hz;simp at hz;omega
       rw[adG];exact k7 _ j cM (by omega)
       ·have:=k8 i.toNat j cM (by omega);rwa[acn (l:=es),hx]at this
     cases e
    cases e
   cases e
  cases e
 ·rename_i el id ep off len k i hu
  obtain rfl:=hi.dS
  split at e
  ·rename_i sz o hs ho
   split at e
   ·rename_i hc
    obtain rfl:=abV e;obtain⟨e1,e2,e3⟩:=getM_some ho;obtain⟨bc,hb⟩:=dB H.len e1;obtain⟨h1,h2,h3⟩:=hv.dW;obtain⟨cap,rfl,k2⟩:=h3 o bc e1 hb e3 e2 hc.2.2.2;obtain⟨RY,MC,rfl,hc4⟩:=hc;refine⟨.pointer (some ⟨bc.1,off * o.bQ+i.toNat * o.bQ,none⟩),?_,.ptr _ id ep _ 0 o bc ⟨_,rfl⟩ e1 hb e3 (h2 o e1) (λn4=>?_)⟩;simp[Instr.indexAt,asIntOf,bU hu,RY,MC,cP hs,fi];rw[acU];simp
   cases e
  cases e
 ·rename_i n el cs k i hu
  obtain rfl:=hi.dS
  split at e
  ·rename_i sz hs
   split at e
   ·rename_i hc
    obtain rfl:=abV e;have XV:=hv.tX
    cases XV with
    |eW b off _ pW k1 k2 k3 k4=>
     refine⟨.pointer (some ⟨b,off+i.toNat * sz,none⟩),?_,.val (.eW b _ _ (λj=>pW (i.toNat * sz+j)) ?_ k2 (λj hj=>?_) (λj hj=>?_))⟩;simp[Instr.indexAt,asIntOf,bU hu,hc.1,hc.2.1,cP hs,fi,Instr.sureAddr]
     ·intro hn
      have:=congrArg List.length hn;simp at this;omega
     ·simp at hj;have:=k3 (i.toNat * sz+j) (by omega);rwa[<-adG]at this
     ·simp at hj;have:=k4 (i.toNat * sz+j) (by omega);simpa[List.getD,acy]using this
   cases e
  cases e
 ·rename_i n el id ep kk o k i hu
  obtain rfl:=hi.dS
  split at e
  ·rename_i sz hs
   split at e
   ·rename_i hc
    obtain rfl:=abV e
    cases hv with
    |val hs=>cases hs
    |ptr _ _ _ _ _ oo bc h0 k1 k2 k3 k4 k5=>
     obtain⟨a,rfl⟩:=h0;refine⟨.pointer (some (a.add (i.toNat * sz))),?_,.ptr _ id ep kk _ oo bc ⟨_,rfl⟩ k1 k2 k3 k4 (λn4=>?_)⟩;simp[Instr.indexAt,asIntOf,bU hu,hc.1,hc.2,cP hs,Instr.sureAddr]
     ·have:=k5 n4;simp at this;rw[this,fi,adG]
   cases e
  cases e
 cases e
theorem BD{h:ab}{id:Nat}{o:aw}(e:Dt h id=some o):h[id]?=some o/\o.ep=0/\o.mu≠.x/\o.bQ=0:=by
 unfold Dt at e
 split at e
 ·rename_i o' ho
  split at e
  ·rename_i hz
   obtain rfl:=abV e;obtain⟨h1,h2,h3⟩:=getM_some ho;exact⟨h1,h2,h3,hz⟩
  cases e
 cases e
theorem Pf(H:bo w F X h){v:Value}{id:Nat}{o:aw}(hv:aE w (Av F h X) X h v (.cG id))(ho:Dt h id=some o):
  ∃(bc:Nat×Nat) (es:Array MapEntry) (clock:Nat),v=.map (some bc.1)/\w.heap[bc.1]?=some (.map es clock)/\es.size=o.es.length/\
   (∀(i:Nat) (e:PV),o.es[i]?=some e->∃(k v:PV) (m:MapEntry),e=.agg [k,v]/\es[i]?=some m/\aE w (Av F h X) X h m.key k/\aE w (Av F h X) X h m.val v):=by
 obtain⟨e1,e2,e3,e4⟩:=BD ho;obtain⟨bc,hb⟩:=dB H.len e1;obtain⟨_,es,clock,k1,k2,k3⟩:=(H.obj id o bc e1 hb e3).m e4;exact⟨bc,es,clock,hv.E4 e1 hb e2,k1,k2,k3⟩
theorem mr{b clock:Nat}{es:Array MapEntry}(e:w.heap[b]?=some (.map es clock)):(getObj b).run P w=.ok (.map es clock) w:=by simp[getObj,Sem.run,e]
theorem SL(H:bo w F X h){v:Value}{p q:PV}{t:TypeId}{ts:Array TypeId}{ty:TypeId}{rest:List Value}(ht:ts[0]?=some t)(hv:aE w (Av F h X) X h v p)(e:pO P h t p=some q):
  (∃u,(Builtin.len_ ts ty (v::rest).toArray).run P w=.ok u w/\aE w (Av F h X) X h u q):=by
 unfold pO at e
 split at e
 ·rename_i s hu
  obtain rfl:=abV e;obtain rfl:=hv.mV;exact⟨_,by simp[Builtin.len_,ht,bU hu,goInt],.val (.int _ _)⟩
 ·rename_i n el hu
  obtain rfl:=abV e;refine⟨_,?_,.val (.int _ _)⟩
  cases v <;>simp[Builtin.len_,ht,bU hu,goInt]
 ·rename_i el full es hu
  obtain rfl:=abV e;obtain⟨a,cap,rfl,_⟩:=hv.fV.kK;exact⟨_,by simp[Builtin.len_,ht,bU hu,goInt],.val (.int _ _)⟩
 ·rename_i hu
  obtain rfl:=abV e;obtain rfl:=hv.E2;exact⟨_,by simp[Builtin.len_,ht,bU hu,goInt],.val (.int _ _)⟩
 ·rename_i kt et id hu
  split at e
  ·rename_i o ho
   obtain rfl:=abV e;obtain⟨bc,es,clock,k1,k2,k3,k4⟩:=Pf H hv ho;subst k1;exact⟨_,by simp[Builtin.len_,ht,bU hu,goInt,mr k2,k3],.val (.int _ _)⟩
  cases e
 ·rename_i el id ep off len hu
  split at e
  ·rename_i o ho
   split at e
   ·rename_i hle
    obtain rfl:=abV e;obtain⟨e1,e2,e3⟩:=getM_some ho;obtain⟨bc,hb⟩:=dB H.len e1;obtain⟨h1,h2,h3⟩:=hv.dW;obtain⟨cap,rfl,k2⟩:=h3 o bc e1 hb e3 e2 hle;exact⟨_,by simp[Builtin.len_,ht,bU hu,goInt],.val (.int _ _)⟩
   cases e
  cases e
 cases e
theorem gQ{α:Type}(l m:List α)(a k:Nat)(hl:a+m.length<=l.length):
  (l.take a++m++l.drop (a+m.length))[k]?=if k<a then l[k]? else if k<a+m.length then m[k - a]? else l[k]?:=by
 by_cases h1:k<a
 rw[if_pos h1,acp,abW (by simp;omega),acj,if_pos h1]
 ·rw[if_neg h1]
  by_cases h2:k<a+m.length
  ·rw[if_pos h2,acp,ab6 (by simp;omega)];have:(List.take a l).length=a:=by simp;omega
   rw[this,abW (by omega)]
  ·rw[if_neg h2,ab6 (by simp;omega),acy]
   congr 1
   simp;omega
theorem CX(off sz:Nat)(e v:PV)(hv:(Pm.cells v).length=sz):Pm.cells (fE off sz e v)=(Pm.cells e).take off++Pm.cells v++(Pm.cells e).drop (off+sz):=by
 unfold fE
 split
 ·rename_i hc
  obtain⟨rfl,h2⟩:=hc;simp[h2]
 rfl
theorem lf{i k s:Nat}(h:i<k):i * s+s<=k * s:=by
 have:=acF s (show i+1<=k from h);rwa[acU,Nat.one_mul]at this
theorem W1{A:Nat->Prop}{u:Value}{q:PV}(r:aE w A X h u q)(ho:bM q=true):u.oneCell'=true:=by
 cases r with
 |val hs=>cases hs <;>first |rfl |simp[bM]at ho
 |undef=>simp[bM]at ho
 |any=>simp[bM]at ho
 |ak v id ep off len o bc h0=>obtain⟨a,l,c,rfl⟩:=h0;rfl
 |ptr v id ep i off o bc h0=>obtain⟨a,rfl⟩:=h0;rfl
 |cG v id o bc h0=>obtain⟨a,rfl⟩:=h0;rfl
 |agg=>simp[bM]at ho
 |cA=>simp[bM]at ho
 |fn=>rfl
 |oE=>rfl
theorem LA(H:bo w F X h){v vx:Value}{p x:PV}{t:TypeId}{h':ab}(hv:aE w (Av F h X) X h v p)(hx:aE w (Av F h X) X h vx x)(e:im P h t p x=some h'):
  ∃w' X',(Instr.storeAt t v vx).run P w=.ok () w'/\bo w' F X' h'/\eD w h X w' h' X':=by
 unfold im at e
 split at e
 ·rename_i id ep i off sz hs
  split at e
  ·rename_i o ho
   split at e
   ·rename_i el cz
    split at e
    ·rename_i hc
     obtain⟨c1,c2,c3,c4⟩:=hc;obtain rfl:=abV e;obtain⟨e1,e2,e3⟩:=getM_some ho;obtain⟨bc,hb⟩:=dB H.len e1;obtain⟨h1,h2,h3⟩:=hv.Ce;obtain rfl:=h3 o bc e1 hb e3 e2;obtain⟨T,cs,k1,k2,k3,k4,k5⟩:=(H.obj id o bc e1 hb e3).c (h2 o e1).2;obtain⟨x1,x2⟩:=hx.cells c3;have hi:=ag cz;have oX:=k5 i el cz;have F5:i * o.bQ+o.bQ<=cs.size:=acR (lf hi) (acR (acF _ k2) k3);have nY:i * o.bQ+off+0+vx.cells.toList.length<=cs.size:=by simp[x1,c2];omega
     have z7:=run_storeCells_at P bc.1 (i * o.bQ+off) T vx.cells.toList 0 cs w k1 nY (λu hu=>by
      obtain⟨j,hj⟩:=ac5 hu;have hjl:=ag hj;simp only[adu]at hjl;obtain⟨u',m1,m2,m3⟩:=x2 j (Pm.cells x)[j] (ab1 (by omega));have:vx.cells[j]?=some u:=by simpa using hj
      rw[m1]at this;obtain rfl:=abV this;exact m3)
     simp only[adI]at z7;have hlen:vx.cells.toList.length=sz:=by simp[x1,c2]
     rw[hlen]at z7;refine⟨w.setRow bc.1 (cs.toList.take (i * o.bQ+off)++vx.cells.toList++cs.toList.drop (i * o.bQ+off+sz)).toArray,X,?_,?_⟩
     ·simp only[Instr.storeAt,Instr.sureAddr,Sem.run_bind,Sem.run_pure,Result.andThen_ok,storeVar,cP hs];rw[if_neg (by simp[x1,c2])];exact z7
     ·have hX:X=X.set id bc:=by
       apply ac9
       intro k
       by_cases hk:k=id
       subst hk;rw[abY (by have:=H.len;have:=ag e1;omega)];exact hb;rw[ab0 (acS hk)]
      have:=bo.set H e1 hb c1 (w':=w.setRow bc.1 (cs.toList.take (i * o.bQ+off)++vx.cells.toList++cs.toList.drop (i * o.bQ+off+sz)).toArray) T
       (cs.toList.take (i * o.bQ+off)++vx.cells.toList++cs.toList.drop (i * o.bQ+off+sz)).toArray (o.es.set i (fE off sz el x)) o.ep bc (by simp)
       (setRow_heap w bc.1 cs _ T (0,0) k1) (λb hb bO=>setRow_other w bc.1 b _ bO) (.inl ⟨rfl,λ_=>by simp⟩) (abZ _) rfl rfl rfl (by simpa using k2)
       (by simp;omega) (λi' e' XY=>?_)
      ·rw[<-hX]at this;exact this
      ·by_cases R9:i'=i
       ·subst R9;rw[abY hi]at XY;obtain rfl:=abV XY;rw[CX _ _ _ _ c2];refine⟨by simp[c2,oX.1];omega,λj q hq=>?_⟩;have c2':=c2.symm;subst c2';rw[gQ _ _ _ _ (by omega)]at hq
        have key:(cs.toList.take (i' * o.bQ+off)++vx.cells.toList++cs.toList.drop (i' * o.bQ+off+(Pm.cells x).length)).toArray[i' * o.bQ+j]?=if j<off then cs[i' * o.bQ+j]? else if j<off+(Pm.cells x).length then vx.cells[j - off]? else cs[i' * o.bQ+j]?:=by
         rw[adM,<-hlen,gQ _ _ _ _ (by rw[hlen];simp;omega),hlen]
         by_cases q1:j<off
         rw[if_pos (by omega),if_pos q1];simp
         ·rw[if_neg (by omega),if_neg q1]
          by_cases q2:j<off+(Pm.cells x).length
          ·rw[if_pos (by omega),if_pos q2];rw[show i' * o.bQ+j - (i' * o.bQ+off)=j - off by omega];simp
          rw[if_neg (by omega),if_neg q2];simp
        rw[key]
        split at hq
        ·rename_i cM
         obtain⟨u,m1,m2⟩:=oX.2 j q hq;exact⟨u,by simp[cM,m1],m2⟩
        ·rename_i DT
         split at hq
         ·rename_i cM
          obtain⟨u,m1,m2,m3⟩:=x2 (j - off) q hq;exact⟨u,by rw[if_neg DT,if_pos cM];exact m1,m2⟩
         ·rename_i aba
          obtain⟨u,m1,m2⟩:=oX.2 j q hq;exact⟨u,by rw[if_neg DT,if_neg aba];exact m1,m2⟩
       ·rw[ab0 (acS R9)]at XY;obtain⟨q1,q2⟩:=k5 i' e' XY;refine⟨q1,λj q hq=>?_⟩;obtain⟨u,m1,m2⟩:=q2 j q hq;refine⟨u,?_,m2⟩;have hj:j<o.bQ:=by rw[<-q1];exact ag hq
        rw[adM,<-hlen,gQ _ _ _ _ (by rw[hlen];simp;omega),hlen];rcases Nat.lt_or_gt_of_ne R9 with hl |hg
        ·have:=lf (s:=o.bQ) hl;rw[if_pos (by omega)];simpa using m1
        ·have:=lf (s:=o.bQ) hg;rw[if_neg (by omega),if_neg (by omega)];simpa using m1
    cases e
   cases e
  cases e
 cases e
theorem JD{lv:Nat}(H:bo w F X h){vx:Value}{x:PV}(t:TypeId)(hx:aE w (Av F h X) X h vx x)(h1:(Pm.cells x).all bM=true)(h2:0<(Pm.cells x).length):
  Cx P lv w F X h (Instr.box t vx) (.ptr h.length 0 0 0) (newObj h (Pm.cells x).length [x]):=by
 obtain⟨x1,x2⟩:=hx.cells h1
 obtain⟨HH,S⟩:=bo.new H (w':=w.alloc (.cells vx.cells t)) t vx.cells {mu:=.m,ep:=0,bQ:=(Pm.cells x).length,es:=[x]} 1 rfl rfl rfl rfl rfl (by simp) (by simp[x1]) h2 (λi e he=>by
  cases i with
  |zero=>
   simp at he;subst he;refine⟨rfl,λj p hp=>?_⟩;obtain⟨u,m1,m2,m3⟩:=x2 j p hp;exact⟨u,by simpa using m1,m2⟩
  |succ i=>simp at he)
 refine⟨.pointer (some ⟨w.heap.size,0,none⟩),_,_,rfl,H.V5 h2,HH,S,λ_=>dN.alloc w _⟩
theorem LC{lv:Nat}(H:bo w F X h){z:PV}(t:TypeId)(e:jv P t=some z)(h1:(Pm.cells z).all bM=true)(h2:0<(Pm.cells z).length):
  Cx P lv w F X h (Instr.alloc t true (.tuple #[])) (.ptr h.length 0 0 0) (newObj h (Pm.cells z).length [z]):=by
 obtain⟨v,hz,hr⟩:=va e w (Av F h X) X h;obtain⟨u,w',X',r1,r2⟩:=JD (P:=P) (lv:=lv) H t hr h1 h2;refine⟨u,w',X',?_,r2⟩;simp only[Instr.alloc,Sem.run_bind,hz,Result.andThen_ok];exact r1
def Flat(w:World)(A:Nat->Prop)(X:List (Nat×Nat))(h:ab)(sz:Nat)(cs:List Value)(es:List PV):Prop:=
 cs.length=es.length * sz/\∀(i:Nat) (e:PV),es[i]?=some e->(Pm.cells e).length=sz/\∀(j:Nat) (q:PV),(Pm.cells e)[j]?=some q->∃u:Value,cs[i * sz+j]?=some u/\aE w A X h u q
theorem Flat.nil(w:World)(A:Nat->Prop)(X:List (Nat×Nat))(h:ab)(sz:Nat):Flat w A X h sz [] []:=⟨by simp,λi e he=>by simp at he⟩
theorem Flat.append{A:Nat->Prop}{sz:Nat}{cs jN:List Value}{es eV:List PV}(a:Flat w A X h sz cs es)(b:Flat w A X h sz jN eV):Flat w A X h sz (cs++jN) (es++eV):=by
 refine⟨by simp[a.1,b.1,acU],λi e he=>?_⟩
 by_cases hi:i<es.length
 ·rw[abW hi]at he;obtain⟨h1,h2⟩:=a.2 i e he;refine⟨h1,λj q hq=>?_⟩;obtain⟨u,k1,k2⟩:=h2 j q hq;exact⟨u,by rw[abW (ag k1)];exact k1,k2⟩
 ·rw[ab6 (by omega)]at he;obtain⟨h1,h2⟩:=b.2 _ e he;refine⟨h1,λj q hq=>?_⟩;obtain⟨u,k1,k2⟩:=h2 j q hq;refine⟨u,?_,k2⟩;have hm:i * sz=(i - es.length) * sz+es.length * sz:=by rw[<-acU];congr 1;omega
  rw[ab6 (by rw[a.1,hm];omega),a.1,hm];rw[show(i - es.length) * sz+es.length * sz+j - es.length * sz=(i - es.length) * sz+j by omega];exact k1
theorem Flat.take{A:Nat->Prop}{sz:Nat}{cs:List Value}{es:List PV}(a:Flat w A X h sz cs es)(n:Nat)(hn:n<=es.length):Flat w A X h sz (cs.take (n * sz)) (es.take n):=by
 have hle:n * sz<=es.length * sz:=acF _ hn;refine⟨by simp only[acM,a.1];rw[adU hn,adU hle],λi e he=>?_⟩;rw[acj]at he
 split at he
 ·rename_i hi
  obtain⟨h1,h2⟩:=a.2 i e he;refine⟨h1,λj q hq=>?_⟩;obtain⟨u,k1,k2⟩:=h2 j q hq;refine⟨u,?_,k2⟩;have hj:=ag hq;have:=lf (s:=sz) hi;rw[acj,if_pos (by omega)];exact k1
 cases he
theorem Flat.SM{A:Nat->Prop}{sz:Nat}{cs:List Value}{es:List PV}(a:Flat w A X h sz cs es)(hs:0<sz)(ho:es.all (λv=>decide ((Pm.cells v).length=sz)&& (Pm.cells v).all bM)=true):∀u∈cs,u.oneCell'=true:=by
 intro u hu
 obtain⟨k,hk⟩:=ac5 hu;have sZ:=ag hk;rw[a.1]at sZ;have hi:k / sz<es.length:=(Nat.div_lt_iff_lt_mul hs).2 sZ;have cz:=ab1 hi;obtain⟨h1,h2⟩:=a.2 _ _ cz;have hj:k % sz<(Pm.cells es[k / sz]).length:=by rw[h1];exact aes _ hs
 obtain⟨u',m1,m2⟩:=h2 _ _ (ab1 hj);rw[aet,Nat.div_add_mod,hk]at m1;obtain rfl:=abV m1;have eR:=abX.1 ho _ (acB hi);simp only[ab4]at eR;exact W1 m2 (abX.1 eR.2 _ (acB hj))
theorem mj(H:bo w F X h){v:Value}{p:PV}{ys:List PV}{sz:Nat}(hv:aE w (Av F h X) X h v p)(e:cB h p=some ys)(hz:∀y∈ys,(Pm.cells y).length=sz):
  ∃a cap,v=.slice a ys.length cap/\ys.length<=cap/\∃cs:List Value,Flat w (Av F h X) X h sz cs ys/\
   (∀w',w'.heap=w.heap->∀n,n<=ys.length->(Builtin.firstCells sz n v).run P w'=.ok (cs.take (n * sz)).toArray w'):=by
 have main:∀(b off cap:Nat) (R:Nat->Nat->Value->Prop),(∀i j,i<ys.length->j<sz->∃u,w.cell? ⟨b,off+(i * sz+j),none⟩=some u/\R i j u)->
   ∃cs:List Value,cs.length=ys.length * sz/\(∀i j,i<ys.length->j<sz->∃u,cs[i * sz+j]?=some u/\R i j u)/\
    ∀w',w'.heap=w.heap->∀n,n<=ys.length->(Builtin.firstCells sz n (.slice (some ⟨b,off,none⟩) ys.length cap)).run P w'=.ok (cs.take (n * sz)).toArray w':=by
  intro b off cap R hc
  obtain⟨cs,l1,l2⟩:=qg (R:=λk u=>w.cell? ⟨b,off+k,none⟩=some u/\R (k / sz) (k % sz) u) (ys.length * sz) (λk hk=>by
   have hs:0<sz:=by
    rcases Nat.eq_zero_or_pos sz with h0 |h0;subst h0;simp at hk;exact h0
   obtain⟨u,m1,m2⟩:=hc (k / sz) (k % sz) ((Nat.div_lt_iff_lt_mul hs).2 hk) (aes _ hs);refine⟨u,?_,m2⟩;rw[<-m1,aet,Nat.div_add_mod])
  have at_k:∀i j,i<ys.length->j<sz->i * sz+j<ys.length * sz:=λi j hi hj=>by have:=lf (s:=sz) hi;omega
  refine⟨cs,l1,λi j hi hj=>?_,λw' Cc n hn=>?_⟩
  ·have hk:=at_k i j hi hj;have:=(l2 (i * sz+j) hk).2;have hs:0<sz:=by omega
   rw[show(i * sz+j) / sz=i by rw[aet,Nat.mul_add_div hs,Nat.div_eq_of_lt hj,adI],show(i * sz+j) % sz=j by rw[aet,Nat.mul_add_mod,Nat.mod_eq_of_lt hj]]at this;refine⟨cs[i * sz+j]'(by omega),ab1 _,?_⟩;simpa[List.getD,show i * sz+j<cs.length by omega]using this
  ·have hle:n * sz<=ys.length * sz:=acF _ hn
   have:=run_firstCells_some (P:=P) w' sz n ⟨b,off,none⟩ ys.length cap (cs.take (n * sz)) (by simp only[acM,l1];omega) (λj v hj=>by
    have hjl:=ag hj;simp only[acM,l1]at hjl;rw[acj,if_pos (by omega)]at hj;have:=(l2 j (by omega)).1;rw[fi,oh (w:=w) (w':=w') (by rw[Cc]),this];simp[List.getD,hj])
   exact this
 unfold cB at e
 split at e
 ·rename_i full es
  obtain rfl:=abV e;have hs:=hv.fV
  cases hs with
  |ig a cap _ hf=>
   refine⟨a,cap,rfl,adw _,[],Flat.nil _ _ _ _ _,λw' Cc n hn=>?_⟩
   ·obtain rfl:n=0:=by simpa using hn
    cases a <;>simp[Builtin.firstCells,loadCells,loadCellsFrom]
  |aa b off cap IW _ _ pW k1 k2 k3 k4 k5 k6 k7 k8=>
   have gR:IW=sz:=by
    have hp:0<es.length:=adR.2 k1;rw[<-k6 0 hp];apply hz;rw[acn,ab1 hp];exact acB hp
   subst gR;obtain⟨cs,l1,l2,l3⟩:=main b off cap (λi j u=>cu w (Av F h X) u ((Pm.cells (es.getD i .any)).getD j .any)) (λi j hi hj=>⟨pW i j,k7 i j hi hj,k8 i j hi hj⟩);refine⟨_,cap,rfl,k2,cs,⟨l1,λi e he=>?_⟩,l3⟩
   ·have hi:=ag he;have e1:es.getD i .any=e:=by simp[List.getD,he]
    have e2:=k6 i hi;rw[e1]at e2;refine⟨e2,λj q hq=>?_⟩;have hj:=ag hq;obtain⟨u,m1,m2⟩:=l2 i j hi (by omega);refine⟨u,m1,?_⟩;rw[e1]at m2;have e3:(Pm.cells e).getD j .any=q:=by simp[List.getD,hq]
    rw[e3]at m2;exact .val m2
 ·rename_i id ep off len
  split at e
  ·rename_i o ho
   split at e
   ·rename_i hle
    obtain rfl:=abV e;obtain⟨e1,e2,e3⟩:=getM_some ho;obtain⟨bc,hb⟩:=dB H.len e1;obtain⟨h1,h2,h3⟩:=hv.dW;obtain⟨cap,rfl,c2⟩:=h3 o bc e1 hb e3 e2 hle;obtain⟨T,uv,k1,k2,k3,k4,k5⟩:=(H.obj id o bc e1 hb e3).c (h2 o e1).2;have hlen:((o.es.drop off).take len).length=len:=by simp;omega
    have at_i:∀i,i<len->∃e,((o.es.drop off).take len)[i]?=some e/\o.es[off+i]?=some e:=λi hi=>by
     refine⟨o.es[off+i]'(by omega),?_,ab1 (by omega)⟩;rw[acj,if_pos hi,acy];exact ab1 (by omega)
    by_cases Mz:len=0
    ·subst Mz;refine⟨some ⟨bc.1,off * o.bQ,none⟩,cap,by simp,by simp,[],by simpa using Flat.nil _ _ _ _ _,λw' Cc n hn=>?_⟩
     ·obtain rfl:n=0:=by simpa using hn
      simp[Builtin.firstCells,loadCells,loadCellsFrom]
    ·have gR:o.bQ=sz:=by
      obtain⟨el,m1,m2⟩:=at_i 0 (by omega);rw[<-(k5 _ el m2).1];exact hz el (acb m1)
     subst gR
     obtain⟨cs,l1,l2,l3⟩:=main bc.1 (off * o.bQ) cap (λi j u=>∀el q,o.es[off+i]?=some el->(Pm.cells el)[j]?=some q->aE w (Av F h X) X h u q) (λi j hi hj=>by
      rw[hlen]at hi;obtain⟨el,m1,m2⟩:=at_i i hi;obtain⟨n1,n2⟩:=k5 _ el m2;obtain⟨u,p1,p2⟩:=n2 j (Pm.cells el)[j] (ab1 (by omega));refine⟨u,?_,λru q r1 r2=>?_⟩
      ·rw[cell_of_row w bc.1 _ uv T (0,0) k1,<-adG,<-acU];exact p1
      ·rw[m2]at r1;obtain rfl:=abV r1;rw[ab1 (by omega)]at r2;obtain rfl:=abV r2;exact p2)
     rw[hlen]at l2 l3 ⊢;refine⟨_,cap,rfl,by omega,cs,⟨by rw[l1,hlen],λi el he=>?_⟩,λw' Cc n hn=>l3 w' Cc n hn⟩
     ·have hi:=ag he;rw[hlen]at hi;obtain⟨ru,m1,m2⟩:=at_i i hi;rw[m1]at he;obtain rfl:=abV he;obtain⟨n1,n2⟩:=k5 _ ru m2;refine⟨n1,λj q hq=>?_⟩;have hj:=ag hq;obtain⟨u,r1,r2⟩:=l2 i j hi (by omega);exact⟨u,r1,r2 ru q m2 hq⟩
   cases e
  cases e
 cases e
theorem ra{A:Nat->Prop}{vz:Value}{z:PV}{sz:Nat}(hz:aE w A X h vz z)(h1:(Pm.cells z).length=sz)(h2:(Pm.cells z).all bM=true)(hs:0<sz)(n:Nat):
  vz.cells.size=sz/\Flat w A X h sz (List.map (λi=>vz.cells[i % vz.cells.size]!) (List.range (n * sz))) (List.replicate n z):=by
 obtain⟨x1,x2⟩:=hz.cells h2;refine⟨by omega,by simp,λi e he=>?_⟩;have hi:=ag he;simp at hi;rw[List.getElem?_replicate,if_pos hi]at he;obtain rfl:=abV he;refine⟨h1,λj q hq=>?_⟩;have hj:=ag hq;obtain⟨u,m1,m2,m3⟩:=x2 j q hq;refine⟨u,?_,m2⟩;have hk:i * sz+j<n * sz:=by have:=lf (s:=sz) hi;omega
 rw[ace,ad5 hk];simp only[ab8];rw[x1,h1,aet,Nat.mul_add_mod,Nat.mod_eq_of_lt (by omega)];rw[getElem!_def,m1]
theorem hZ(n:Nat)(f:Nat->Value):((Array.range n).map f)=(List.map f (List.range n)).toArray:=by
 apply adD;simp
theorem ss{t:TypeId}{n:Nat}(e:mY P t=some n):∃i,P.info? t=some i/\i.bytes=n:=by
 unfold mY at e
 cases hi:P.info? t with
 |none=>rw[hi]at e;simp at e
 |some i=>rw[hi]at e;simp at e;exact⟨i,rfl,e⟩
def su:TypeDesc->Bool | .int _=>true |_=>false
theorem tG(H:bo w F X h){e st xt:TypeId}{sz bytes:Nat}{z:PV}{vz x:Value}{px:PV}{ys:List PV}(hs:cF P e=some sz)(hb:mY P e=some bytes)(hz:jv P e=some z)(ni:0<sz)(ju:bytes<=65536)
  (hx:aE w (Av F h X) X h x px) (ea:cH P h z xt px=some ys) (eR:ys.all (λv=>decide ((Pm.cells v).length=sz)&& (Pm.cells v).all bM)=true):
  ∃zb:Bool,∃d,P.underlying xt=some d/\zb=su d/\
   ∃news:List Value,Flat w (Av F h X) X h sz news ys/\(∀u∈news,u.oneCell'=true)/\
    (zb=false->(Builtin.lenOf x).run P w=.ok ys.length w/\∀w',w'.heap=w.heap->(Builtin.firstCells sz ys.length x).run P w'=.ok news.toArray w')/\
    (zb=true->∃k,x=.int k ys.length/\ys.length<=1073741824/\∀w',(if ys.length * sz=0 then pure #[]else do pure (Builtin.zeroCells (<-zeroValue e).cells ys.length):Sem (Array Value)).run P w'=.ok news.toArray w'):=by
 unfold cH at ea
 split at ea
 ·rename_i ik k n hu
  split at ea
  ·rename_i hn
   obtain rfl:=abV ea;obtain rfl:=hx.dS;obtain⟨vz,r1,r2⟩:=va hz w (Av F h X) X h
   by_cases h0:n.toNat=0
   ·refine⟨true,_,hu,rfl,[],by rw[h0];simpa using Flat.nil w (Av F h X) X h sz,by simp,by simp,λ_=>⟨k,by simp;omega,by simp;omega,λw'=>?_⟩⟩;simp[h0]
   ·have uY:=abX.1 eR z (by simp;omega);simp only[ab4,decide_eq_true_eq]at uY;obtain⟨s1,s2⟩:=ra r2 uY.1 uY.2 ni n.toNat;refine⟨true,_,hu,rfl,_,s2,s2.SM ni eR,by simp,λ_=>⟨k,by simp;omega,by simp;omega,λw'=>?_⟩⟩
    have bO:¬(List.replicate n.toNat z).length * sz=0:=by
     rw[adz];exact Nat.mul_ne_zero h0 (by omega)
    have hzr:(zeroValue e).run P w'=.ok vz w':=by
     have:=r1;unfold zeroValue typeInfo at this ⊢;simp only[Sem.run_bind,run_program,Result.andThen_ok]at this ⊢
     cases hi:P.info? e with
     |none=>rw[hi]at this;simp at this
     |some i=>
      rw[hi]at this;simp at this ⊢
      cases hzz:i.zero with
      |none=>rw[hzz]at this;simp at this
      |some v=>rw[hzz]at this;simp at this ⊢;exact this
    rw[if_neg bO];simp only[Sem.run_bind,hzr,Result.andThen_ok,Sem.run_pure,Builtin.zeroCells,hZ,adz,s1]
  cases ea
 ·rename_i el hu
  have ux:∀y∈ys,(Pm.cells y).length=sz:=λy hy=>by
   have:=abX.1 eR y hy;simp only[ab4,decide_eq_true_eq]at this;exact this.1
  obtain⟨a,cap,rfl,hle,cs,f1,f2⟩:=mj (P:=P) H hx ea ux;refine⟨false,_,hu,rfl,cs,f1,f1.SM ni eR,λ_=>⟨by simp[Builtin.lenOf],λw' Cc=>?_⟩,by simp⟩;have:=f2 w' Cc ys.length (abZ _);rwa[acu (by rw[f1.1];omega)]at this
 cases ea
theorem Flat.obj{A:Nat->Prop}{sz:Nat}{cs rest:List Value}{es:List PV}(a:Flat w A X h sz cs es)(i:Nat)(e:PV)(he:es[i]?=some e):
  (Pm.cells e).length=sz/\∀(j:Nat) (p:PV),(Pm.cells e)[j]?=some p->∃v:Value,(cs++rest).toArray[i * sz+j]?=some v/\aE w A X h v p:=by
 obtain⟨h1,h2⟩:=a.2 i e he;refine⟨h1,λj p hp=>?_⟩;obtain⟨u,k1,k2⟩:=h2 j p hp;exact⟨u,by rw[adM,abW (ag k1)];exact k1,k2⟩
theorem wrap_small{n:Nat}(h:n<=1073741824):IntKind.i64.wrap (n:Int)=n:=by
 simp[IntKind.wrap,IntKind.bits,IntKind.signed];omega
theorem max_i64:IntKind.i64.max=9223372036854775807:=by decide
theorem zg{n b:Nat}(h:roomy n b=true):n * b<=17592186044416/\n<=17592186044416:=by
 simpa[roomy]using h
theorem mW{ts:Array TypeId}{ty st xt e:TypeId}{args:Array Value}{sz sLen sCap n:Nat}{base:Option Addr}{x:Value}{d:TypeDesc}{zb:Bool}{news:List Value}
  (h1:ts[0]?=some st) (h2:ts[1]?=some xt) (h3:args[0]?=some (.slice base sLen sCap)) (h4:args[1]?=some x) (hu:P.underlying st=some (.slice e)) (hs:cF P e=some sz)
  (hd:P.underlying xt=some d) (hzb:zb=su d) {bytes:Nat} (hb:mY P e=some bytes) (ju:bytes<=65536)
  (hf:zb=false->(Builtin.lenOf x).run P w=.ok n w/\∀w',w'.heap=w.heap->(Builtin.firstCells sz n x).run P w'=.ok news.toArray w')
  (ht:zb=true->∃k,x=.int k n/\n<=1073741824/\∀w',(if n * sz=0 then pure #[]else do pure (Builtin.zeroCells (<-zeroValue e).cells n):Sem (Array Value)).run P w'=.ok news.toArray w')
  (nY:sLen+n<=sCap):
  (Builtin.append_ ts ty args).run P w=(match base with |some a=>(storeCells (a.add (sLen * sz)) news).run P w |none=>.ok () w).andThen λ_ w'=>.ok (.slice base (sLen+n) sCap) w':=by
 obtain⟨i,hi,F5⟩:=ss hb;have XZ:∀w,(typeInfo e).run P w=.ok i w:=λw=>by simp[typeInfo,hi]
 unfold Builtin.append_;simp only[h1,h3,h4,Sem.run_bind,bU hu,Result.andThen_ok,cP hs,h2,bU hd,Sem.run_pure]
 cases zb with
 |false=>
  obtain⟨f1,f2⟩:=hf rfl
  cases d with
  |int k=>simp[su]at hzb
  |_=>
   simp only[aca,if_false,f1,Result.andThen_ok,nY,if_true,Sem.run_bind,aeg,f2 w rfl]
   cases base <;>simp
 |true=>
  obtain⟨k,rfl,hn,t2⟩:=ht rfl
  have sG:¬((n:Int) * (bytes:Int)>2^48):=by
   have:n * bytes<=1073741824 * 65536:=adZ hn ju;have h2:((n * bytes:Nat):Int)<=70368744177664:=by omega
   rw[Int.natCast_mul]at h2;omega
  have Pp:¬((n:Int)<0):=by omega
  cases d with
  |int k=>
   simp only[if_true,asInt,asIntOf,Sem.run_bind,Sem.run_pure,Result.andThen_ok,wrap_small hn,Sem.run_ite,Pp,if_false,XZ,F5,sG,ads,nY,ad4,aca];have:=t2 w;simp only[Sem.run_ite,Sem.run_bind,Sem.run_pure]at this;rw[this]
   cases base <;>simp
  |_=>simp[su]at hzb
theorem zh(w:World)(need old:Nat)(e:TypeId)(hn:need<=17592186044416):∃c,need<=c/\(choose (.appendCap need old e)).run P w=.ok c w.drew:=by
 refine⟨_,?_,by simp only[run_choose,Question.forced,aca,if_false];rfl⟩;simp[Question.cut]
theorem qj{ts:Array TypeId}{ty st xt e:TypeId}{args:Array Value}{sz sLen sCap n:Nat}{base:Option Addr}{x vz:Value}{d:TypeDesc}{zb:Bool}{news olds:List Value}
  (h1:ts[0]?=some st) (h2:ts[1]?=some xt) (h3:args[0]?=some (.slice base sLen sCap)) (h4:args[1]?=some x) (hu:P.underlying st=some (.slice e)) (hs:cF P e=some sz)
  (hd:P.underlying xt=some d) (hzb:zb=su d) {bytes:Nat} (hb:mY P e=some bytes) (ju:bytes<=65536) (hz:∀w,(zeroValue e).run P w=.ok vz w)
  (hf:zb=false->(Builtin.lenOf x).run P w=.ok n w/\∀w',w'.heap=w.heap->(Builtin.firstCells sz n x).run P w'=.ok news.toArray w')
  (ht:zb=true->∃k,x=.int k n/\n<=1073741824/\∀w',(if n * sz=0 then pure #[]else do pure (Builtin.zeroCells (<-zeroValue e).cells n):Sem (Array Value)).run P w'=.ok news.toArray w')
  (hold:∀w',w'.heap=w.heap->(Builtin.firstCells sz sLen (.slice base sLen sCap)).run P w'=.ok olds.toArray w')
  (nY:¬sLen+n<=sCap) (Wu:(sLen+n) * bytes<=17592186044416) (OC:sLen+n<=17592186044416):
  ∃c,sLen+n<=c/\(Builtin.append_ ts ty args).run P w=.ok (.slice (some ⟨w.heap.size,0,none⟩) (sLen+n) c)
   (w.drew.alloc (.cells (olds.toArray++news.toArray++Builtin.zeroCells vz.cells (c - (sLen+n))) e)):=by
 obtain⟨i,hi,F5⟩:=ss hb;have XZ:∀w,(typeInfo e).run P w=.ok i w:=λw=>by simp[typeInfo,hi]
 obtain⟨c,c1,c2⟩:=zh (P:=P) w (sLen+n) sCap e OC;refine⟨c,c1,?_⟩;have GV:¬(((sLen+n:Nat):Int)>IntKind.i64.max):=by rw[max_i64];omega
 have hnx:¬(Builtin.nextslicecap (sLen+n) sCap * i.bytes>2^48):=by
  have:=growslice_fits (need:=sLen+n) (old:=sCap) (bytes:=i.bytes) (by omega) (by rw[F5];omega);omega
 unfold Builtin.append_;simp only[h1,h3,h4,Sem.run_bind,bU hu,Result.andThen_ok,cP hs,h2,bU hd,Sem.run_pure];have fin:((choose (.appendCap (sLen+n) sCap e)).run P w).andThen (λnewCap w'=>.ok newCap w')=.ok c w.drew:=by rw[c2];rfl
 cases zb with
 |false=>
  obtain⟨f1,f2⟩:=hf rfl
  cases d with
  |int k=>simp[su]at hzb
  |_=>
   simp only[aca,if_false,f1,Result.andThen_ok,nY,Sem.run_bind,aeg,XZ,Sem.run_ite,GV,false_and,hnx,c2,run_askRoom,hold w.drew rfl,f2 w.drew rfl,if_true,hz,Sem.run_pure,newRow,run_newObj]
   rfl
 |true=>
  obtain⟨k,rfl,hn,t2⟩:=ht rfl
  have sG:¬((n:Int) * (bytes:Int)>2^48):=by
   have:n * bytes<=1073741824 * 65536:=adZ hn ju;have h2:((n * bytes:Nat):Int)<=70368744177664:=by omega
   rw[Int.natCast_mul]at h2;omega
  have Pp:¬((n:Int)<0):=by omega
  cases d with
  |int k=>
   have t2':=t2 w.drew;simp only[Sem.run_ite,Sem.run_bind,Sem.run_pure,hz,Result.andThen_ok]at t2';rw[<-F5]at sG;simp only[if_true,asInt,asIntOf,Sem.run_bind,Sem.run_pure,Result.andThen_ok,wrap_small hn,Sem.run_ite,Pp,if_false,XZ,sG,ads,nY,ad4,aca,GV,false_and,hnx,c2,run_askRoom,hold w.drew rfl,hz,t2',newRow,run_newObj]
   rfl
  |_=>simp[su]at hzb
theorem j'{t:TypeId}{z:PV}(e:jv P t=some z):∃v,(∀w,(zeroValue t).run P w=.ok v w)/\∀(w:World) (A:Nat->Prop) (X:List (Nat×Nat)) (h:ab),aE w A X h v z:=by
 unfold jv at e
 cases hi:P.info? t with
 |none=>rw[hi]at e;simp at e
 |some i=>
  rw[hi]at e;simp only[Option.bind_some]at e
  cases hz:i.zero with
  |none=>rw[hz]at e;simp at e
  |some v=>
   rw[hz]at e;simp at e;subst e;exact⟨v,λw=>by simp[zeroValue,typeInfo,hi,hz],λw A X h=>HP w A X h v⟩
theorem zj{id:Nat}{bc:Nat×Nat}(hb:X[id]?=some bc):X.set id bc=X:=by
 apply ac9
 intro k
 by_cases hk:k=id
 subst hk;rw[abY (ag hb)];exact hb.symm;rw[ab0 (acS hk)]
theorem sw(H:bo w F X h){id:Nat}{o:aw}{bc:Nat×Nat}(eo:h[id]?=some o)(eb:X[id]?=some bc)(em:o.mu=.m){news:List Value}{ys:List PV}(off:Nat)
  (hf:Flat w (Av F h X) X h o.bQ news ys) (h1:∀u∈news,u.oneCell'=true) (hle:off+ys.length<=o.es.length) (hz:0<o.bQ:=by first |assumption |omega):
  ∃w',(storeCells ⟨bc.1,off * o.bQ,none⟩ news).run P w=.ok () w'/\
   bo w' F X (h.set id {o with es:=o.es.take off++ys++o.es.drop (off+ys.length)})/\eD w h X w' (h.set id {o with es:=o.es.take off++ys++o.es.drop (off+ys.length)}) X:=by
 obtain⟨T,cs,k1,k2,k3,k4,k5⟩:=(H.obj id o bc eo eb (by rw[em];simp)).c hz;have hn:news.length=ys.length * o.bQ:=hf.1
 have SN:off * o.bQ+ys.length * o.bQ<=cs.size:=by
  rw[<-acU];exact acR (acF _ (by omega)) k3
 have z7:=run_storeCells_at P bc.1 (off * o.bQ) T news 0 cs w k1 (by omega) h1;simp only[adI]at z7
 have ee:(cs.toList.take (off * o.bQ)++news++cs.toList.drop (off * o.bQ+news.length)).length=cs.size:=by
  simp only[ab3,acM,adH,adu];omega
 have cz:(o.es.take off++ys++o.es.drop (off+ys.length)).length=o.es.length:=by simp;omega
 refine⟨_,z7,?_⟩
 have:=bo.set H eo eb em (w':=w.setRow bc.1 (cs.toList.take (off * o.bQ)++news++cs.toList.drop (off * o.bQ+news.length)).toArray) T
  (cs.toList.take (off * o.bQ)++news++cs.toList.drop (off * o.bQ+news.length)).toArray (o.es.take off++ys++o.es.drop (off+ys.length)) o.ep bc (by simp)
  (setRow_heap w bc.1 cs _ T (0,0) k1) (λb hb bO=>setRow_other w bc.1 b _ bO) (.inl ⟨rfl,λ_=>cz⟩) (abZ _) rfl rfl rfl (by rw[cz];exact k2) (by rw[aei,ee];exact k3) (λi e he=>?_)
 ·rw[zj eb]at this;exact this
 ·rw[gQ _ _ _ _ hle]at he
  have hi:i<o.es.length:=by
   rcases acE i o.es.length with hh |hh;exact hh;rw[if_neg (by omega),if_neg (by omega),ach hh]at he;cases he
  by_cases hA:off<=i/\i<off+ys.length
  ·rw[if_neg (by omega),if_pos hA.2]at he;obtain⟨n1,n2⟩:=hf.2 _ e he;refine⟨n1,λj q hq=>?_⟩;obtain⟨u,p1,p2⟩:=n2 j q hq;have hj:=ag hq;refine⟨u,?_,p2⟩;have e1:i * o.bQ=off * o.bQ+(i - off) * o.bQ:=by rw[<-acU];congr 1;omega
   have e2:=lf (s:=o.bQ) (show i - off<ys.length by omega);rw[adM,gQ _ _ _ _ (by rw[hn];simpa using SN),if_neg (by omega),if_pos (by rw[hn];omega),e1];rw[show off * o.bQ+(i - off) * o.bQ+j - off * o.bQ=(i - off) * o.bQ+j by omega];exact p1
  ·have XY:o.es[i]?=some e:=by
    by_cases hB:i<off
    ·rwa[if_pos hB]at he
    ·rwa[if_neg hB,if_neg (by omega)]at he
   obtain⟨n1,n2⟩:=k5 i e XY;refine⟨n1,λj q hq=>?_⟩;obtain⟨u,p1,p2⟩:=n2 j q hq;have hj:=ag hq;refine⟨u,?_,p2⟩;rw[adM,gQ _ _ _ _ (by rw[hn];simpa using SN)]
   by_cases hB:i<off
   ·have:=lf (s:=o.bQ) hB;rw[if_pos (by omega)];simpa using p1
   ·have:(off+ys.length) * o.bQ<=i * o.bQ:=acF _ (by omega);rw[acU]at this;rw[if_neg (by omega),if_neg (by rw[hn];omega)];simpa using p1
theorem HQ(H:bo w F X h){ts:Array TypeId}{ty st xt:TypeId}{args:Array Value}{lv:Nat}{sv x:Value}{s px r:PV}{h':ab}
  (h1:ts[0]?=some st) (h2:ts[1]?=some xt) (h3:args[0]?=some sv) (h4:args[1]?=some x) (hs:aE w (Av F h X) X h sv s) (hx:aE w (Av F h X) X h x px)
  (e:bT P lv h st xt s px=some (r,h')):Cx P lv w F X h (Builtin.append_ ts ty args) r h':=by
 unfold bT at e
 split at e
 ·rename_i el hu
  split at e
  ·rename_i sz bytes z q1 q2 q3
   split at e
   ·rename_i ys hy
    split at e
    ·rename_i hc
     obtain⟨ni,ju,hzc,eR⟩:=hc;obtain⟨vz,z1,z2⟩:=j' (P:=P) q3;obtain⟨zb,d,a1,a2,news,a3,a4,a5,a6⟩:=tG (st:=st) (vz:=vz) H q1 q2 q3 ni ju hx hy eR;have zsz:vz.cells.size=sz:=by rw[((z2 w (Av F h X) X h).cells hzc.2).1];exact hzc.1
     have arr:∀(cs:List Value) (n:Nat),cs.toArray++news.toArray++Builtin.zeroCells vz.cells n=(cs++news++(Builtin.zeroCells vz.cells n).toList).toArray:=λcs n=>by apply adD;simp
     have arrsz:∀(cs:List Value) (k m c:Nat),cs.length=k * sz->k+m<=c->news.length=m * sz->c * sz<=(cs.toArray++news.toArray++Builtin.zeroCells vz.cells (c - (k+m))).size:=λcs k m c e1 e2 e3=>by
      simp only[Array.size_append,aei,size_zeroCells,zsz,e1,e3,<-acU];rw[show k+m+(c - (k+m))=c by omega];exact abZ _
     split at e
     ·-- a snapshot
      rename_i full es
      obtain⟨a,cap,rfl,hle,wa⟩:=hs.fV.kK
      split at e
      ·rename_i SJ
       obtain rfl:ys=[]:=by simpa using SJ
       obtain⟨rfl,rfl⟩:=ab7 (abV e);have hn:news=[]:=acd (by simpa using a3.1);subst hn;have:=mW (P:=P) (w:=w) (ty:=ty) h1 h2 h3 h4 hu q1 a1 a2 q2 ju (n:=0) a5 a6 (by omega);refine Cx.still H (v:=.slice a es.length cap) ?_ hs;rw[this]
       cases a <;>simp[storeCells]
      ·rename_i bO
       split at e
       ·rename_i MC
        obtain⟨rfl,zZ,HS,jt⟩:=MC;obtain⟨rfl,rfl⟩:=ab7 (abV e);obtain⟨b1,b2⟩:=zg HS
        have hy0:0<ys.length:=by
         cases ys with
         |nil=>simp at bO
         |cons=>simp
        have CG:=wa rfl
        have hez:∀y∈es,(Pm.cells y).length=sz:=λy hy=>by
         have:=abX.1 jt y hy;simp only[ab4,decide_eq_true_eq]at this;exact this.1
        obtain⟨a',Gk,ev,_,cs,f1,f2⟩:=mj (P:=P) H hs (show cB h (.aa true es)=some es from rfl) hez
        obtain⟨c,c1,c2⟩:=qj (P:=P) (w:=w) (ty:=ty) (sLen:=es.length) h1 h2 h3 h4 hu q1 a1 a2 q2 ju z1 a5 a6 (λw' Cc=>by
         have:=f2 w' Cc es.length (abZ _);rwa[acu (by rw[f1.1];omega)]at this) (by omega) b1 b2
        have Jc:=f1.append a3
        obtain⟨HH,S⟩:=bo.new H (w':=w.drew.alloc (.cells (cs.toArray++news.toArray++Builtin.zeroCells vz.cells (c - (es.length+ys.length))) el)) el
         (cs.toArray++news.toArray++Builtin.zeroCells vz.cells (c - (es.length+ys.length))) {mu:=.m,ep:=0,bQ:=sz,es:=es++ys} c rfl rfl rfl rfl rfl (by simpa using c1)
         (arrsz cs _ _ c f1.1 c1 a3.1) ni (λi e he=>by
          rw[arr];exact Jc.obj (rest:=(Builtin.zeroCells vz.cells (c - (es.length+ys.length))).toList) i e he)
        exact⟨_,_,_,c2,H.xn,HH,S,λ_=>(dN.drew w).trans (dN.alloc _ _)⟩
       cases e
     ·-- a reference
      rename_i id ep off len
      split at e
      ·rename_i o ho
       obtain⟨e1,e2,e3⟩:=getM_some ho;obtain⟨bc,hb⟩:=dB H.len e1;obtain⟨m1,m2,m3⟩:=hs.dW
       split at e
       ·rename_i MC
        obtain⟨hle,gR⟩:=MC;obtain⟨cap,rfl,c2⟩:=m3 o bc e1 hb e3 e2 hle;obtain⟨T,uv,k1,k2,k3,k4,k5⟩:=(H.obj id o bc e1 hb e3).c (m2 o e1).2
        split at e
        ·rename_i SJ
         obtain rfl:ys=[]:=by simpa using SJ
         obtain⟨rfl,rfl⟩:=ab7 (abV e);have hn:news=[]:=acd (by simpa using a3.1);subst hn;have:=mW (P:=P) (w:=w) (ty:=ty) h1 h2 h3 h4 hu q1 a1 a2 q2 ju (n:=0) a5 a6 (by omega);refine Cx.still H (v:=.slice (some ⟨bc.1,off * o.bQ,none⟩) len cap) ?_ hs;rw[this];simp[storeCells]
        ·rename_i bO
         split at e
         ·rename_i hc3
          obtain⟨rfl,zZ,wP,_,iB⟩:=hc3;obtain⟨rfl,rfl⟩:=ab7 (abV e);subst gR;have gz:=mW (P:=P) (w:=w) (ty:=ty) h1 h2 h3 h4 hu q1 a1 a2 q2 ju a5 a6 (show len+ys.length<=cap by omega);obtain⟨w',s1,s2,s3⟩:=sw (P:=P) H e1 hb wP len a3 a4 iB;simp only[adQ,fi,acf]at gz;rw[s1]at gz;simp only[Result.andThen_ok]at gz;refine⟨_,w',X,gz,?_,s2,s3,λhh=>by omega⟩;refine .ak _ id ep 0 (len+ys.length) {o with es:=o.es.take len++ys++o.es.drop (len+ys.length)} bc ⟨_,_,_,rfl⟩ (abY (ag e1)) hb (by show o.mu≠.x;rw[wP];simp) ⟨by show ep<=o.ep;omega,k4⟩ (λ_ _=>⟨cap,by simp,c2⟩)
         split at e
         ·rename_i hc3
          obtain⟨rfl,zZ,wP,HS⟩:=hc3;obtain⟨rfl,rfl⟩:=ab7 (abV e);obtain⟨b1,b2⟩:=zg HS
          have hy0:0<ys.length:=by
           cases ys with
           |nil=>simp at bO
           |cons=>simp
          subst gR;have jt:cB h (.ak id ep 0 len)=some ((o.es.drop 0).take len):=by simp only[cB,ho,if_pos hle]
          have sF:((o.es.drop 0).take len).length=len:=by simp;omega
          obtain⟨a',Gk,ev,_,cs,f1,f2⟩:=mj (P:=P) (sz:=o.bQ) H hs jt (λy hy=>by
           obtain⟨k,hk⟩:=ac5 hy;rw[acj]at hk
           split at hk
           simp at hk;exact(k5 k y hk).1
           cases hk)
          simp only[ac3]at f1 sF f2;have TO:len<=o.es.length:=by omega
          by_cases nY:len+ys.length<=cap
          ·-- there is room
           have gz:=mW (P:=P) (w:=w) (ty:=ty) h1 h2 h3 h4 hu q1 a1 a2 q2 ju a5 a6 nY;have Wn:(len+ys.length) * o.bQ<=uv.size:=acR (acF _ (by omega)) k3;rw[acU]at Wn;have z7:=run_storeCells_at P bc.1 (0 * o.bQ+len * o.bQ) T news 0 uv w k1 (by rw[a3.1];omega) a4;simp only[adQ,acf,adI]at z7 gz;rw[fi,acf,z7]at gz;simp only[Result.andThen_ok]at gz
           have W2:Flat w (Av F h X) X h o.bQ (uv.toList.take (len * o.bQ)) (o.es.take len):=by
            refine⟨by simp only[acM,adu];rw[adU TO,adU (by omega)],λi e he=>?_⟩;rw[acj]at he
            split at he
            ·rename_i hi
             obtain⟨n1,n2⟩:=k5 i e he;refine⟨n1,λj q hq=>?_⟩;obtain⟨u,p1,p2⟩:=n2 j q hq;have hj:=ag hq;have:=lf (s:=o.bQ) hi;exact⟨u,by rw[acj,if_pos (by omega)];simpa using p1,p2⟩
            cases he
           have Jc:=W2.append a3
           have DU:(uv.toList.take (len * o.bQ)++news++uv.toList.drop (len * o.bQ+news.length)).length=uv.size:=by
            simp only[ab3,acM,adH,adu,a3.1];omega
           obtain⟨HH,S⟩:=bo.set H e1 hb wP (w':=w.setRow bc.1 (uv.toList.take (len * o.bQ)++news++uv.toList.drop (len * o.bQ+news.length)).toArray) T
            (uv.toList.take (len * o.bQ)++news++uv.toList.drop (len * o.bQ+news.length)).toArray (o.es.take len++ys) (ep+1) bc (by simp)
            (setRow_heap w bc.1 uv _ T (0,0) k1) (λb hb bO=>setRow_other w bc.1 b _ bO) (.inl ⟨rfl,λhe=>by omega⟩) (by omega) rfl rfl rfl (by simp;omega)
            (by rw[aei,DU];exact k3) (λi e he=>Jc.obj i e he)
           exact⟨_,_,_,gz,by have:=H.Jb (w':=w.setRow bc.1 (uv.toList.take (len * o.bQ)++news++uv.toList.drop (len * o.bQ+news.length)).toArray) (A:=Av F (h.set id {o with es:=o.es.take len++ys,ep:=ep+1}) (X.set id bc)) e1 wP (b:=bc.1) (cap:=cap) (len:=len+ys.length) (ep:=ep+1) (es:=o.es.take len++ys);simpa[show cap=bc.2 by omega]using this,HH,S,λhh=>by omega⟩
          ·-- it moves
           obtain⟨c,c1,gz⟩:=qj (P:=P) (w:=w) (ty:=ty) (olds:=cs) h1 h2 h3 h4 hu q1 a1 a2 q2 ju z1 a5 a6 (λw' Cc=>by
            have e3:(.slice (some ⟨bc.1,0 * o.bQ,none⟩) len cap:Value)=.slice (some ⟨bc.1,0 * o.bQ,none⟩) len cap:=rfl;have:=f2 w' Cc len (by omega);rwa[acu (by rw[f1.1,sF];exact abZ _)]at this) nY b1 b2
           have Jc:=f1.append a3
           obtain⟨HH,S⟩:=bo.set H e1 hb wP (w':=w.drew.alloc (.cells (cs.toArray++news.toArray++Builtin.zeroCells vz.cells (c - (len+ys.length))) el)) el
            (cs.toArray++news.toArray++Builtin.zeroCells vz.cells (c - (len+ys.length))) (o.es.take len++ys) (ep+1) (w.heap.size,c) (by simp)
            (heap_alloc_new w.drew _) (λb hb bO=>heap_alloc_old w.drew _ b hb) (.inr ⟨abZ _,by omega⟩) (by omega) rfl rfl rfl (by simp;omega)
            (arrsz cs _ _ c (by rw[f1.1,sF]) c1 a3.1) (λi e he=>by
             rw[arr];exact Jc.obj (rest:=(Builtin.zeroCells vz.cells (c - (len+ys.length))).toList) i e he)
           exact⟨_,_,_,gz,H.Jb e1 wP,HH,S,λhh=>by omega⟩
         cases e
       cases e
      cases e
     cases e
    cases e
   cases e
  cases e
 cases e
theorem Pq(H:bo w F X h){ts:Array TypeId}{ty dt:TypeId}{args:Array Value}{lv:Nat}{dv x:Value}{d px r:PV}{h':ab}
  (h1:ts[0]?=some dt) (h3:args[0]?=some dv) (h4:args[1]?=some x) (hd:aE w (Av F h X) X h dv d) (hx:aE w (Av F h X) X h x px)
  (e:AJ P lv h dt d px=some (r,h')):Cx P lv w F X h (Builtin.copy_ ts ty args) r h':=by
 unfold AJ at e
 split at e
 ·rename_i el id ep off len ys hu hy
  split at e
  ·rename_i sz o hs ho
   split at e
   ·rename_i hc
    obtain⟨zZ,wP,rfl,hle,eR,ZQ⟩:=hc;obtain⟨rfl,rfl⟩:=ab7 (abV e);obtain⟨e1,e2,e3⟩:=getM_some ho;obtain⟨bc,hb⟩:=dB H.len e1;obtain⟨m1,m2,m3⟩:=hd.dW;obtain⟨cap,rfl,c2⟩:=m3 o bc e1 hb e3 e2 hle
    obtain⟨a,Gk,rfl,abN,cs,f1,f2⟩:=mj (P:=P) (sz:=o.bQ) H hx hy (λy hy=>by
     have:=abX.1 eR y hy;simpa only[decide_eq_true_eq]using this)
    obtain⟨T,uv,k1,k2,k3,k4,k5⟩:=(H.obj id o bc e1 hb e3).c (m2 o e1).2;have hn:min ys.length len<=ys.length:=Nat.min_le_left _ _;have ft:=f1.take (min ys.length len) hn;have sF:(ys.take (min ys.length len)).length=min ys.length len:=by simp only[acM];omega
    obtain⟨w',r1,r2,r3⟩:=sw (P:=P) H e1 hb wP off ft (λu hu=>ft.SM k4 ZQ u hu) (by rw[sF];omega);rw[sF]at r2 r3;refine⟨.int .i64 (min ys.length len:Nat),w',X,?_,.val (.int _ _),r2,r3,λhh=>by omega⟩;have gz:=f2 w rfl (min ys.length len) hn;simp only[Builtin.copy_,h1,h3,h4,Sem.run_bind,bU hu,Result.andThen_ok,Builtin.lenOf,Sem.run_pure,cP hs,goInt];have e0:Nat.min ys.length len=min ys.length len:=rfl;rw[e0,gz];simp only[Result.andThen_ok];rw[r1];simp
   cases e
  cases e
 cases e
theorem LD(H:bo w F X h){ts:Array TypeId}{ty t:TypeId}{args:Array Value}{lv:Nat}{dv:Value}{d r:PV}{h':ab}
  (h1:ts[0]?=some t) (h3:args[0]?=some dv) (hd:aE w (Av F h X) X h dv d)
  (e:mZ P lv h t d=some (r,h')):Cx P lv w F X h (Builtin.clear_ ts ty args) r h':=by
 unfold mZ at e
 split at e
 ·rename_i el id ep off len hu
  split at e
  ·rename_i sz z o hs hz ho
   split at e
   ·rename_i hc
    obtain⟨zZ,wP,rfl,hle,Wm,KK⟩:=hc;obtain⟨rfl,rfl⟩:=ab7 (abV e);obtain⟨e1,e2,e3⟩:=getM_some ho;obtain⟨bc,hb⟩:=dB H.len e1;obtain⟨m1,m2,m3⟩:=hd.dW;obtain⟨cap,rfl,c2⟩:=m3 o bc e1 hb e3 e2 hle;obtain⟨T,uv,k1,k2,k3,k4,k5⟩:=(H.obj id o bc e1 hb e3).c (m2 o e1).2;obtain⟨vz,z1,z2⟩:=j' (P:=P) hz;obtain⟨s1,s2⟩:=ra (z2 w (Av F h X) X h) Wm KK k4 len
    have eR:(List.replicate len z).all (λv=>decide ((Pm.cells v).length=o.bQ)&& (Pm.cells v).all bM)=true:=by
     rw[abX]
     intro x hx
     rw[adS]at hx;simp[hx.2,Wm,KK]
    obtain⟨w',r1,r2,r3⟩:=sw (P:=P) H e1 hb wP off s2 (s2.SM k4 eR) (by simpa using hle);simp only[adz]at r2 r3
    by_cases hl:len=0
    ·subst hl;refine⟨.tuple #[],w,X,?_,.val (.cA [] [] rfl (by simp)),?_⟩;simp only[Builtin.clear_,h1,h3,Sem.run_bind,bU hu,Result.andThen_ok,Sem.run_pure]
     ·simp[storeCells]at r1;subst r1;exact⟨r2,r3,λ_=>dN.refl _⟩
    ·refine⟨.tuple #[],w',X,?_,.val (.cA [] [] rfl (by simp)),r2,r3,λhh=>by omega⟩;obtain⟨n,rfl⟩:∃n,len=n+1:=⟨len - 1,by omega⟩;simp only[Builtin.clear_,h1,h3,Sem.run_bind,bU hu,Result.andThen_ok,z1,Builtin.zeroCells,hZ,s1];rw[s1]at r1;rw[r1];simp
   cases e
  cases e
 ·rename_i el full hu
  obtain⟨rfl,rfl⟩:=ab7 (abV e);obtain⟨a,cap,rfl,_⟩:=hd.fV.kK;refine Cx.still H (v:=.tuple #[]) ?_ (.val (.cA [] [] rfl (by simp)))
  cases a <;>simp[Builtin.clear_,h1,h3,bU hu]
 cases e
theorem Pr(H:bo w F X h){t:TypeId}{lv:Nat}{vl vc:Value}{l c r:PV}{h':ab}(hl:aE w (Av F h X) X h vl l)(hc:aE w (Av F h X) X h vc c)
  (e:jS P lv h t l c=some (r,h')):Cx P lv w F X h (Instr.makeSlice t vl vc) r h':=by
 unfold jS at e
 split at e
 ·rename_i el k1 n k2 c hu
  obtain rfl:=hl.dS;obtain rfl:=hc.dS
  split at e
  ·rename_i sz bytes z hs hb hz
   split at e
   ·rename_i F0
    obtain⟨zZ,hn,hnc,rU,ni,ju,Wm,KK⟩:=F0;obtain⟨rfl,rfl⟩:=ab7 (abV e);obtain⟨vz,z1,z2⟩:=j' (P:=P) hz;obtain⟨s1,s2⟩:=ra (z2 w (Av F h X) X h) Wm KK ni n.toNat;obtain⟨i,hi,F5⟩:=ss hb;have XZ:∀w,(typeInfo el).run P w=.ok i w:=λw=>by simp[typeInfo,hi]
    obtain⟨cn,rfl⟩:=adr (show 0<=c by omega);obtain⟨ln,rfl⟩:=adr hn;have UA:cn<=1073741824:=by omega
    have xi:ln<=1073741824:=by omega
    have oC:¬((i.bytes:Int) * (cn:Int)>2^48):=by
     have:bytes * cn<=65536 * 1073741824:=adZ ju UA;have h2:((bytes * cn:Nat):Int)<=70368744177664:=by omega
     rw[Int.natCast_mul]at h2;rw[F5];omega
    have wa:List.map (λi=>vz.cells[i % vz.cells.size]!) (List.range (cn * sz))=List.map (λi=>vz.cells[i % vz.cells.size]!) (List.range (ln * sz))++List.drop (ln * sz) (List.map (λi=>vz.cells[i % vz.cells.size]!) (List.range (cn * sz))):=by
     have hle:ln * sz<=cn * sz:=acF _ (by omega)
     have:List.map (λi=>vz.cells[i % vz.cells.size]!) (List.range (ln * sz))=List.take (ln * sz) (List.map (λi=>vz.cells[i % vz.cells.size]!) (List.range (cn * sz))):=by
      rw[<-List.map_take,List.take_range,adU hle]
     rw[this,adA]
    obtain⟨HH,S⟩:=bo.new H (w':=w.alloc (.cells (List.map (λi=>vz.cells[i % vz.cells.size]!) (List.range (cn * sz))).toArray el)) el
     (List.map (λi=>vz.cells[i % vz.cells.size]!) (List.range (cn * sz))).toArray {mu:=.m,ep:=0,bQ:=sz,es:=List.replicate ln z} cn rfl rfl rfl rfl rfl (by simp;omega) (by simp) ni (λi e he=>by
      rw[wa];exact s2.obj i e (by simpa using he))
    refine⟨.slice (some ⟨w.heap.size,0,none⟩) ln cn,_,_,?_,H.xn,HH,S,λ_=>dN.alloc w _⟩
    ·have Pp:¬((cn:Int)<0):=by omega
     have ZR:¬((ln:Int)<0):=by omega
     have hgt:¬((ln:Int)>(cn:Int)):=by omega
     simp only[Instr.makeSlice,Sem.run_bind,bU hu,Result.andThen_ok,asInt,asIntOf,Sem.run_pure,XZ,wrap_small UA,wrap_small xi,Sem.run_ite,Pp,ZR,hgt,oC,decide_false,Bool.or_self,aca,if_false,run_askRoom,cP hs,ads,z1,newRow,run_newObj]
     by_cases Fa:cn * sz=0
     ·simp only[Fa,if_true,hZ,List.range_zero,acr]
      rfl
     ·simp only[Fa,if_false,hZ]
      rfl
   cases e
  cases e
 cases e
theorem SO{args:List Value}{ps:List PV}{r:PV}{ts:Array TypeId}{ty:TypeId}{A:Nat->Prop}(hr:L2 (aE w A X h) args ps)(e:MT ps=some r):
  ∃u,(Builtin.max_ ts ty args.toArray).run P w=.ok u w/\aE w A X h u r:=by
 unfold MT at e
 split at e
 ·rename_i k a k' b
  obtain rfl:=abV e;obtain⟨hl,hh⟩:=hr
  match args,hl with
  |[x,y],_=>
   have h0:=hh 0 (by simp);have h1:=hh 1 (by simp);simp only[ad7,ad8]at h0 h1;obtain rfl:=h0.dS;obtain rfl:=h1.dS;exact⟨_,by simp[Builtin.max_,Builtin.max2],.val (.int _ _)⟩
 cases e
theorem SP{args:List Value}{ps:List PV}{r:PV}{ts:Array TypeId}{ty:TypeId}{A:Nat->Prop}(hr:L2 (aE w A X h) args ps)(e:QI ps=some r):
  ∃u,(Builtin.min_ ts ty args.toArray).run P w=.ok u w/\aE w A X h u r:=by
 unfold QI at e
 split at e
 ·rename_i k a k' b
  obtain rfl:=abV e;obtain⟨hl,hh⟩:=hr
  match args,hl with
  |[x,y],_=>
   have h0:=hh 0 (by simp);have h1:=hh 1 (by simp);simp only[ad7,ad8]at h0 h1;obtain rfl:=h0.dS;obtain rfl:=h1.dS;exact⟨_,by simp[Builtin.min_,Builtin.min2],.val (.int _ _)⟩
 cases e
theorem CY(d:Nat){t:TypeId}(hu:P.underlying t=some .bool)(a b:Bool)(w:World):(Op.equalIn (d+1) t (.bool a) (.bool b)).run P w=.ok (a==b) w:=by
 simp[Op.equalIn,bU hu]
theorem zk{t:TypeId}(hu:P.underlying t=some .bool)(a b:Bool)(w:World):(Op.equal t (.bool a) (.bool b)).run P w=.ok (a==b) w:=CY 9999 hu a b w
theorem SQ{op:BinOp}{t:TypeId}{x y:Value}{px py r:PV}{ox oy:Operand}{A:Nat->Prop}(hx:aE w A X h x px)(hy:aE w A X h y py)(e:fL P op t px py=some r):
  ∃u,((do eqGuard op t ox oy x y;binOp op t x y:Sem Value)).run P w=.ok u w/\aE w A X h u r:=by
 unfold fL at e
 split at e
 ·rename_i k a k' b
  obtain rfl:=hx.dS;obtain rfl:=hy.dS
  have guard:(eqGuard op t ox oy (.int k a) (.int k' b)).run P w=.ok () w:=by
   cases op <;>simp[eqGuard]
  simp only[Sem.run_bind,guard,Result.andThen_ok]
  split at e
  ·unfold qJ at e
   split at e
   cases e
   ·rename_i hb
    obtain rfl:=abV e;refine⟨_,?_,.val (.int _ _)⟩;simp[binOp,Op.shift,hb]
  ·unfold qJ at e
   split at e
   cases e
   ·rename_i hb
    obtain rfl:=abV e;refine⟨_,?_,.val (.int _ _)⟩;simp[binOp,Op.shift,hb]
  ·rename_i n1 n2
   split at e
   ·rename_i hk
    subst hk;unfold ic at e
    split at e
    all_goals first
     |(obtain rfl:=abV e;refine⟨_,?_,.val (.int _ _)⟩;simp[binOp,Op.intArith,Op.intBits];done)
     |(obtain rfl:=abV e;refine⟨_,?_,.val (.bool _)⟩;simp[binOp,Op.intCmp];done)
     |(split at e;cases e;rename_i hb;obtain rfl:=abV e;refine⟨_,?_,.val (.int _ _)⟩;simp[binOp,Op.intDiv,hb];done)
     |cases e
   cases e
 ·rename_i a b
  obtain rfl:=hx.mV;obtain rfl:=hy.mV
  have guard:(eqGuard op t ox oy (.string a) (.string b)).run P w=.ok () w:=by
   cases op <;>simp[eqGuard]
  simp only[Sem.run_bind,guard,Result.andThen_ok];unfold mG at e
  split at e
  all_goals first
   |(obtain rfl:=abV e;refine⟨_,?_,.val (.bool _)⟩;simp[binOp,Op.stringOp];done)
   |(split at e;cases e;rename_i hb;obtain rfl:=abV e;refine⟨_,?_,.val (.str _)⟩;simp only[binOp,Op.stringOp];rw[if_neg hb];rfl)
   |cases e
 ·rename_i a b
  obtain rfl:=hx.gK;obtain rfl:=hy.gK
  have guard:(eqGuard op t ox oy (.bool a) (.bool b)).run P w=.ok () w:=by
   cases op <;>simp[eqGuard]
  simp only[Sem.run_bind,guard,Result.andThen_ok]
  split at e
  ·rename_i hu
   split at e
   ·obtain rfl:=abV e;refine⟨_,?_,.val (.bool _)⟩;simp only[binOp,Sem.run_bind,zk hu,Result.andThen_ok,Sem.run_pure]
   ·obtain rfl:=abV e;refine⟨_,?_,.val (.bool _)⟩;simp only[binOp,Sem.run_bind,zk hu,Result.andThen_ok,Sem.run_pure]
   cases e
  cases e
 cases e
theorem W3{op:UnOp}{x:Value}{px r:PV}{A:Nat->Prop}(hx:aE w A X h x px)(e:TK op px=some r):
  ∃u,(Op.unary op x).run P w=.ok u w/\aE w A X h u r:=by
 unfold TK at e
 split at e
 ·obtain rfl:=abV e;obtain rfl:=hx.dS;exact⟨_,by simp[Op.unary,Op.intArith],.val (.int _ _)⟩
 ·obtain rfl:=abV e;obtain rfl:=hx.gK;exact⟨_,by simp[Op.unary],.val (.bool _)⟩
 cases e
theorem Ps{c:PV}{n:Int}(h:MS c=some n):c=.int .u8 n:=by
 unfold MS at h
 split at h
 cases h;rfl
 cases h
theorem wb{c:PV}{r:List PV}{l:List Int}(e:oG (c::r)=some l):∃n l',c=.int .u8 n/\oG r=some l'/\l=n::l':=by
 unfold oG at e
 split at e
 ·rename_i n h1
  split at e
  ·rename_i l' h2
   exact⟨n,l',Ps h1,h2,(abV e).symm⟩
  cases e
 cases e
theorem zl:∀{es:List PV} {l:List Int},oG es=some l->l.length=es.length
 |[],l,e=>by cases e;rfl
 |c::r,l,e=>by
  obtain⟨n,l',_,h,rfl⟩:=wb e;simp[zl h]
theorem ve:∀{es:List PV} {l:List Int},oG es=some l->∀i,i<es.length->es.getD i .any=.int .u8 (l.getD i 0)
 |[],l,e,i,h=>by simp at h
 |c::r,l,e,i,h=>by
  obtain⟨n,l',rfl,h1,rfl⟩:=wb e
  cases i with
  |zero=>rfl
  |succ i=>simpa using ve h1 i (by simpa using h)
theorem LF{s d t:TypeId}{x:Value}{full:Bool}{es:List PV}{l:List Int}{A:Nat->Prop}(hx:aE w A X h x (.aa full es))(h1:P.underlying s=some (.slice t))(h2:P.underlying d=some .string)(h3:P.underlying t=some (.int .u8))(h4:oG es=some l):
  (convert s d x).run P w=.ok (.string (ur l)) w:=by
 cases hx with
 |val hs=>
  cases hs with
  |ig a cap _ hc=>
   cases h4
   rw[run_convert_bytes_string w s d t a 0 cap h1 h3 h2]
   cases a with
   |none=>simp[Conv.bytesToString];rfl
   |some a=>exact run_bytesToString w a 0 cap [] (by simp[loadCells,loadCellsFrom])
  |aa b off cap sz _ _ pW bO hle hf hA gR hlen ll abb=>
   have hl:=zl h4;have h0:0<es.length:=adR.2 bO
   have TU:sz=1:=by
    have:=hlen 0 h0;rw[ve h4 0 h0]at this;exact this.symm
   subst TU
   have hc:∀i,i<es.length->w.cell? ⟨b,off+i,none⟩=some (.int .u8 (l.getD i 0)):=λi hi=>by
    have r1:=ll i 0 hi (by omega);have r2:=abb i 0 hi (by omega);rw[ve h4 i hi]at r2;simp only[cells,ad7]at r2
    cases hv:pW i 0 with
    |int k n=>rw[hv]at r2 r1;cases r2;simpa using r1
    |_=>rw[hv]at r2;cases r2
   exact run_convert_bytes_arg w s t h1 h3 b off es.length cap l hl hc d h2
theorem Pt{s d:TypeId}{x:Value}{px r:PV}{A:Nat->Prop}(hx:aE w A X h x px)(e:xE P s d px=some r):
  ∃u,(convert s d x).run P w=.ok u w/\aE w A X h u r:=by
 unfold xE at e
 split at e
 ·rename_i ds k k' n h1 h2
  obtain rfl:=abV e;obtain rfl:=hx.dS;refine⟨_,?_,.val (.int _ _)⟩;simp only[convert,Sem.run_bind,bU h1,bU h2,Result.andThen_ok]
  cases ds <;>simp[Conv.intToInt]
 ·rename_i ds st h1 h2
  obtain rfl:=abV e;obtain rfl:=hx.mV;refine⟨_,?_,.val (.str _)⟩;simp only[convert,Sem.run_bind,bU h1,bU h2,Result.andThen_ok]
  cases ds <;>simp
 ·rename_i h1 h2
  split at e
  ·rename_i h3 h4
   obtain rfl:=abV e;exact⟨_,LF hx h1 h2 h3 h4,.val (.str _)⟩
  cases e
 cases e
def tM(w:World)(A:Nat->Prop)(X:List (Nat×Nat))(h:ab):Option Value->Option PV->Prop
 |none,none=>True
 |some v,some p=>aE w A X h v p
 |_,_=>False
theorem gj{A:Nat->Prop}{v:Value}{p:PV}{d t n:Nat}{code:BoundsCode}(hr:aE w A X h v p)(e:cQ (some p) d t=some n):
  n<=t/\∀t',t<=t'->(Instr.sliceBound v t' code).run P w=.ok n w:=by
 unfold cQ at e
 split at e
 ·rename_i hn;cases hn
 ·rename_i k i hp
  obtain rfl:=abV hp;obtain rfl:=hr.dS
  split at e
  ·rename_i hc
   obtain rfl:=abV e;refine⟨by omega,λt' ht=>?_⟩;have ui:0<=i/\i<=(t':Int):=by omega
   simp[Instr.sliceBound,asIntOf,ui]
  cases e
 cases e
theorem iY{d t n:Nat}(e:cQ none d t=some n):n=d:=by
 simpa[cQ]using e.symm
theorem HT{A:Nat->Prop}{len cap m b a:Nat}{lo hi mx:Option Value}{plo phi pmx:Option PV}(zX:tM w A X h lo plo)(zY:tM w A X h hi phi)(GV:tM w A X h mx pmx)
  (hle:len<=cap) (e1:cQ pmx len len=some m) (e2:cQ phi len m=some b) (e3:cQ plo 0 b=some a) (e4:(pmx.isSome&&phi.isNone)=false):
  ∃mc,(Instr.sliceBounds true len cap lo hi mx).run P w=.ok (a,b,mc) w/\a<=b/\b<=len/\b<=mc/\(pmx=none->mc=cap)/\(pmx≠none->mc=m):=by
 have h3:a<=b/\∀c,(match lo with |some v=>Instr.sliceBound v b c |none=>pure 0:Sem Nat).run P w=.ok a w:=by
  cases plo with
  |none=>cases lo with
   |none=>obtain rfl:=iY e3;exact⟨adw _,λc=>rfl⟩
   |some _=>simp[tM]at zX
  |some pl=>cases lo with
   |none=>simp[tM]at zX
   |some vl=>
    refine⟨(gj (P:=P) (code:=.sliceB) (show aE w A X h vl pl from zX) e3).1,λc=>?_⟩;exact(gj (P:=P) (show aE w A X h vl pl from zX) e3).2 _ (abZ _)
 cases pmx with
 |none=>
  cases mx with
  |some _=>simp[tM]at GV
  |none=>
   obtain rfl:=iY e1;refine⟨cap,?_,h3.1,?_,?_,λ_=>rfl,λhh=>absurd rfl hh⟩
   ·cases phi with
    |none=>cases hi with
     |none=>
      obtain rfl:=iY e2;simp only[Instr.sliceBounds,Sem.run_bind,Sem.run_pure,Result.andThen_ok];have:=h3.2 .sliceB
      cases lo <;>simp_all
     |some _=>simp[tM]at zY
    |some ph=>cases hi with
     |none=>simp[tM]at zY
     |some vh=>
      have hb:=(gj (P:=P) (code:=.sliceAcap) (show aE w A X h vh ph from zY) e2).2 cap hle;simp only[Instr.sliceBounds,Sem.run_bind,Sem.run_pure,Result.andThen_ok,if_true,hb];have:=h3.2 .sliceB
      cases lo <;>simp_all
   ·cases phi with
    |none=>obtain rfl:=iY e2;exact abZ _
    |some ph=>cases hi with
     |none=>simp[tM]at zY
     |some vh=>exact(gj (P:=P) (code:=.sliceAcap) (show aE w A X h vh ph from zY) e2).1
   ·cases phi with
    |none=>obtain rfl:=iY e2;exact hle
    |some ph=>cases hi with
     |none=>simp[tM]at zY
     |some vh=>exact acR (gj (P:=P) (code:=.sliceAcap) (show aE w A X h vh ph from zY) e2).1 hle
 |some pm=>
  cases mx with
  |none=>simp[tM]at GV
  |some vm=>
   obtain⟨m1,m2⟩:=gj (P:=P) (code:=.slice3Acap) (show aE w A X h vm pm from GV) e1
   cases phi with
   |none=>simp at e4
   |some ph=>cases hi with
    |none=>simp[tM]at zY
    |some vh=>
     obtain⟨b1,b2⟩:=gj (P:=P) (code:=.slice3B) (show aE w A X h vh ph from zY) e2;refine⟨m,?_,h3.1,by omega,b1,(λhh=>by cases hh),(λ_=>rfl)⟩;simp only[Instr.sliceBounds,Sem.run_bind,Result.andThen_ok,if_true,m2 cap hle,b2 m (abZ _)];have:=h3.2 .slice3C
     cases lo <;>simp_all
theorem cu.uz{A:Nat->Prop}{v:Value}{full:Bool}{es:List PV}(hv:cu w A v (.aa full es)):es=[]\/
  ∃b off cap sz,∃pW:Nat->Nat->Value,v=.slice (some ⟨b,off,none⟩) es.length cap/\¬A b/\0<sz/\(∀i,i<es.length->(Pm.cells (es.getD i .any)).length=sz)/\
   (∀i j,i<es.length->j<sz->w.cell? ⟨b,off+(i * sz+j),none⟩=some (pW i j))/\
   (∀i j,i<es.length->j<sz->cu w A (pW i j) ((Pm.cells (es.getD i .any)).getD j .any)):=by
 cases hv with
 |ig a cap _ hf=>exact .inl rfl
 |aa b off cap sz _ _ pW h1 h2 h3 h4 h5 h6 h7 h8=>exact .inr ⟨b,off,cap,sz,pW,rfl,h4,h5,h6,h7,h8⟩
theorem LG(H:bo w F X h){t:TypeId}{x:Value}{px r:PV}{lo hi mx:Option Value}{plo phi pmx:Option PV}(hx:aE w (Av F h X) X h x px)
  (zX:tM w (Av F h X) X h lo plo) (zY:tM w (Av F h X) X h hi phi) (GV:tM w (Av F h X) X h mx pmx) (e:cr P h t px plo phi pmx=some r):
  ∃u,(Instr.sliceAt t x lo hi mx).run P w=.ok u w/\aE w (Av F h X) X h u r:=by
 unfold cr at e
 split at e
 ·-- a string
  rename_i s hu
  obtain rfl:=hx.mV
  split at e
  cases e
  ·rename_i hm
   obtain rfl:pmx=none:=by simpa using hm
   obtain rfl:mx=none:=by cases mx <;>simp_all[tM]
   split at e
   ·rename_i b hb
    split at e
    ·rename_i a ha
     obtain rfl:=abV e
     have h1:∃eg,(match hi with |some v=>Instr.sliceBound v s.size .sliceAlen |none=>pure s.size:Sem Nat).run P w=.ok b w/\eg=b:=by
      cases phi with
      |none=>cases hi with
       |none=>exact⟨b,by simp[iY hb],rfl⟩
       |some _=>simp[tM]at zY
      |some ph=>cases hi with
       |none=>simp[tM]at zY
       |some vh=>exact⟨b,(gj (P:=P) (show aE w _ X h vh ph from zY) hb).2 _ (abZ _),rfl⟩
     have h2:(match lo with |some v=>Instr.sliceBound v b .sliceB |none=>pure 0:Sem Nat).run P w=.ok a w:=by
      cases plo with
      |none=>cases lo with
       |none=>simp[iY ha]
       |some _=>simp[tM]at zX
      |some pl=>cases lo with
       |none=>simp[tM]at zX
       |some vl=>exact(gj (P:=P) (show aE w _ X h vl pl from zX) ha).2 _ (abZ _)
     obtain⟨_,h1,_⟩:=h1;refine⟨.string (s.extract a b),?_,.val (.str _)⟩;simp only[Instr.sliceAt,Sem.run_bind,bU hu,Result.andThen_ok,Instr.slice,Instr.sliceBounds]
     cases hi <;>cases lo <;>simp_all
    cases e
   cases e
 ·-- a snapshot
  rename_i el full es hu
  split at e
  ·rename_i sz hs
   split at e
   ·rename_i m hm
    split at e
    ·rename_i b hb
     split at e
     ·rename_i a ha
      split at e
      ·rename_i hc
       obtain⟨zV,uY⟩:=hc;obtain rfl:=abV e;obtain⟨ad,cap,rfl,hle,wa⟩:=hx.fV.kK;obtain⟨mc,r1,r2,r3,r4,r5,r6⟩:=HT (P:=P) zX zY GV hle hm hb ha zV
       have gz:(Instr.sliceAt t (.slice ad es.length cap) lo hi mx).run P w=.ok (.slice (if mc=a then ad else ad.map (·.add (a * sz))) (b - a) (mc - a)) w:=by
        simp only[Instr.sliceAt,Sem.run_bind,bU hu,Result.andThen_ok,Instr.slice,r1,cP hs,Sem.run_pure]
       refine⟨_,gz,.val ?_⟩
       have hf':((if pmx.isSome then m==b else full&&b==es.length)=true->mc - a=b - a):=by
        intro hh
        cases pmx with
        |none=>
         simp at hh;have h1:=r5 rfl;have h2:=wa hh.1;omega
        |some pm=>
         simp at hh;have h1:=r6 (by simp);omega
       by_cases Qq:b - a=0
       ·rw[Qq];have:(es.drop a).take 0=[]:=by simp
        rw[this];exact .ig _ _ _ (λhh=>by have:=hf' hh;omega)
       ·have hmc:mc≠a:=by omega
        rw[if_neg hmc];rcases hx.fV.uz with rfl |⟨b0,off,Gk,IW,pW,ev,k4,k5,k6,k7,k8⟩;simp at r3;omega
        ·simp at ev;obtain⟨rfl,rfl⟩:=ev
         have gR:IW=sz:=by
          have:=k6 a (by omega);have IV:es[a]?=some es[a]:=ab1 (by omega);rw[IV]at uY;simp[List.getD,show a<es.length by omega]at this uY;omega
         subst gR;have hlen:((es.drop a).take (b - a)).length=b - a:=by simp;omega
         have wy:∀i,i<b - a->((es.drop a).take (b - a)).getD i .any=es.getD (a+i) .any:=λi hi=>by
          simp[List.getD,acy,hi]
         have:=cu.aa (w:=w) (A:=Av F h X) b0 (off+a * IW) (mc - a) IW (if pmx.isSome then m==b else full&&b==es.length) ((es.drop a).take (b - a)) (λi j=>pW (a+i) j)
          (by intro hn;rw[hn]at hlen;simp at hlen;omega) (by rw[hlen];omega) (λhh=>by rw[hlen];exact hf' hh) k4 k5
          (λi hi=>by rw[hlen]at hi;rw[wy i hi];exact k6 (a+i) (by omega))
          (λi j hi hj=>by
           rw[hlen]at hi;have:=k7 (a+i) j (by omega) hj;rw[acU]at this;rw[show off+a * IW+(i * IW+j)=off+(a * IW+i * IW+j) by omega];exact this)
          (λi j hi hj=>by rw[hlen]at hi;rw[wy i hi];exact k8 (a+i) j (by omega) hj)
         rw[hlen]at this;simpa[fi]using this
      cases e
     cases e
    cases e
   cases e
  cases e
 ·-- a reference
  rename_i el id ep off len hu
  split at e
  ·rename_i sz o hs ho
   split at e
   ·rename_i hc
    obtain⟨rfl,hle⟩:=hc;obtain⟨e1,e2,e3⟩:=getM_some ho;obtain⟨bc,Rm⟩:=dB H.len e1;obtain⟨m1,m2,m3⟩:=hx.dW;obtain⟨cap,rfl,c2⟩:=m3 o bc e1 Rm e3 e2 hle;obtain⟨T,uv,k1,k2,k3,k4,k5⟩:=(H.obj id o bc e1 Rm e3).c (m2 o e1).2
    split at e
    ·rename_i b LH
     split at e
     ·rename_i a ha
      obtain⟨abc,kk,ii,abd,hgt,QC⟩:pmx=none/\∃kk ii,phi=some (.int kk ii)/\(len:Int)<ii/\cQ (some (.int kk ii)) 0 (o.es.length - off)=some b:=by
       unfold beyond at LH
       split at LH
       ·rename_i kk ii
        split at LH
        exact⟨rfl,kk,ii,rfl,by assumption,LH⟩
        cases LH
       cases LH
      subst abc;subst abd;obtain⟨mc,r1,r2,r3,r4,r5,r6⟩:=HT (P:=P) (len:=o.es.length - off) (cap:=cap) (m:=o.es.length - off) zX zY GV (by omega) rfl QC ha rfl;have abe:mx=none:=by cases mx with |none=>rfl |some _=>simp[tM]at GV
      subst abe
      have r1':(Instr.sliceBounds true len cap lo hi none).run P w=.ok (a,b,mc) w:=by
       cases hi with
       |none=>simp[tM]at zY
       |some vh=>exact r1
      have gz:(Instr.sliceAt t (.slice (some ⟨bc.1,off * o.bQ,none⟩) len cap) lo hi none).run P w=.ok (.slice (if mc=a then some ⟨bc.1,off * o.bQ,none⟩else some ⟨bc.1,off * o.bQ+a * o.bQ,none⟩) (b - a) (mc - a)) w:=by
       simp only[Instr.sliceAt,Sem.run_bind,bU hu,Result.andThen_ok,Instr.slice,r1',cP hs,Sem.run_pure,ab8,fi]
      refine⟨_,gz,?_⟩;have h1:=r5 rfl
      split at e
      ·rename_i RK
       subst RK;obtain rfl:=abV e;refine .ak _ id ep off b o bc ⟨_,_,_,rfl⟩ e1 Rm e3 (m2 o e1) (λ_ _=>?_);exact⟨cap,by rw[h1];split <;>simp,c2⟩
      ·rename_i RK
       split at e
       ·rename_i hz
        obtain rfl:=abV e;rw[hz];exact .val (.ig _ _ _ (λhh=>by cases hh))
       ·rename_i hz
        obtain rfl:=abV e;rw[if_neg (by omega)];refine .ak _ id ep (off+a) (b - a) o bc ⟨_,_,_,rfl⟩ e1 Rm e3 (m2 o e1) (λ_ _=>?_);exact⟨cap - a,by rw[h1,acU],by omega⟩
     cases e
    split at e
    ·rename_i m hm
     split at e
     ·rename_i b hb
      split at e
      ·rename_i a ha
       split at e
       ·rename_i zV
        obtain⟨mc,r1,r2,r3,r4,r5,r6⟩:=HT (P:=P) (cap:=cap) zX zY GV (by omega) hm hb ha zV
        have gz:(Instr.sliceAt t (.slice (some ⟨bc.1,off * o.bQ,none⟩) len cap) lo hi mx).run P w=.ok (.slice (if mc=a then some ⟨bc.1,off * o.bQ,none⟩else some ⟨bc.1,off * o.bQ+a * o.bQ,none⟩) (b - a) (mc - a)) w:=by
         simp only[Instr.sliceAt,Sem.run_bind,bU hu,Result.andThen_ok,Instr.slice,r1,cP hs,Sem.run_pure,ab8,fi]
        refine⟨_,gz,?_⟩
        split at e
        ·rename_i hms
         split at e
         ·rename_i hma
          obtain rfl:=abV e;have h1:=r6 (by intro hh;rw[hh]at hms;simp at hms);have:b - a=0:=by omega
          rw[this];exact .val (.ig _ _ _ (λ_=>by omega))
         ·obtain rfl:=abV e;exact .any _
        ·rename_i hms
         have h1:=r5 (by cases pmx <;>simp_all)
         split at e
         ·rename_i RK
          subst RK;obtain rfl:=abV e;refine .ak _ id ep off b o bc ⟨_,_,_,rfl⟩ e1 Rm e3 (m2 o e1) (λ_ _=>?_);exact⟨cap,by rw[h1];split <;>simp,c2⟩
         ·rename_i RK
          split at e
          ·rename_i hz
           obtain rfl:=abV e;rw[hz];exact .val (.ig _ _ _ (λhh=>by cases hh))
          ·rename_i hz
           obtain rfl:=abV e;rw[if_neg (by omega)];refine .ak _ id ep (off+a) (b - a) o bc ⟨_,_,_,rfl⟩ e1 Rm e3 (m2 o e1) (λ_ _=>?_);exact⟨cap - a,by rw[h1,acU],by omega⟩
       cases e
      cases e
     cases e
    cases e
   cases e
  cases e
 cases e
theorem LI(l:List Value):∀(i off:Nat) (cs:Array Value),off+i+l.length<=cs.size->
  ((l.zipIdx i).foldl (λcs (x:Value×Nat)=>cs.setIfInBounds (off+x.2) x.1) cs).size=cs.size/\
  ∀k,((l.zipIdx i).foldl (λcs (x:Value×Nat)=>cs.setIfInBounds (off+x.2) x.1) cs)[k]?=if off+i<=k/\k<off+i+l.length then l[k - (off+i)]? else cs[k]?:=by
 induction l with
 |nil=>intro i off cs _;exact⟨rfl,λk=>by rw[if_neg (by simp only[acz];omega)];rfl⟩
 |cons v r ih=>
  intro i off cs hl
  simp only[ab9]at hl;obtain⟨h1,h2⟩:=ih (i+1) off (cs.setIfInBounds (off+i) v) (by simp;omega);refine⟨by simpa[List.zipIdx_cons]using h1,λk=>?_⟩;rw[List.zipIdx_cons,List.foldl_cons,h2 k]
  by_cases hA:off+i=k
  ·subst hA;rw[if_neg (by omega),if_pos (by simp only[ab9];omega)];rw[Array.getElem?_setIfInBounds_self_of_lt (by omega)];simp
  ·by_cases hB:off+(i+1)<=k/\k<off+(i+1)+r.length
   ·rw[if_pos hB,if_pos (by simp only[ab9];omega)];obtain⟨m,hm⟩:∃m,k - (off+i)=m+1:=⟨k - (off+i) - 1,by omega⟩;rw[hm,List.getElem?_cons_succ]
    congr 1
    omega
   rw[if_neg hB,if_neg (by simp only[ab9];omega),Array.getElem?_setIfInBounds_ne hA]
theorem Fg(v:Value)(off:Nat)(cs:Array Value)(hl:off+v.cells.size<=cs.size):
  (v.cells.zipIdx.foldl (λcs (x:Value×Nat)=>cs.setIfInBounds (off+x.2) x.1) cs).size=cs.size/\
  ∀k,(v.cells.zipIdx.foldl (λcs (x:Value×Nat)=>cs.setIfInBounds (off+x.2) x.1) cs)[k]?=if off<=k/\k<off+v.cells.size then v.cells[k - off]? else cs[k]?:=by
 have:=LI v.cells.toList 0 off cs (by simpa using hl);simp only[adI,adu,acw]at this;rw[<-Array.foldl_toList,Array.toList_zipIdx];exact this
def nr(w:World)(A:Nat->Prop)(X:List (Nat×Nat))(h:ab)(vs:List (Nat×Value))(ps:List (Nat×PV)):Prop:=
 vs.length=ps.length/\∀(k:Nat) (x:Nat×PV),ps[k]?=some x->∃v:Value,vs[k]?=some (x.1,v)/\aE w A X h v x.2
theorem nr.JE{A:Nat->Prop}{vs:List (Nat×Value)}(r:nr w A X h vs []):vs=[]:=acd r.1
theorem nr.cons_inv{A:Nat->Prop}{vs:List (Nat×Value)}{x:Nat×PV}{ps:List (Nat×PV)}(r:nr w A X h vs (x::ps)):∃v HU,vs=(x.1,v)::HU/\aE w A X h v x.2/\nr w A X h HU ps:=by
 obtain⟨h1,h2⟩:=r;obtain⟨v,h3,h4⟩:=h2 0 x rfl
 match vs,h1,h3 with
 |y::HU,h1,h3=>
  simp at h3;subst h3;exact⟨v,HU,rfl,h4,by simpa using h1,λk x hx=>by simpa using h2 (k+1) x (by simpa using hx)⟩
def zm(w:World)(A:Nat->Prop)(X:List (Nat×Nat))(h:ab)(cs:Array Value)(ps:List PV):Prop:=
 cs.size=ps.length/\∀(k:Nat) (q:PV),ps[k]?=some q->∃u:Value,cs[k]?=some u/\aE w A X h u q
theorem Fh{A:Nat->Prop}{pl:Nat->Option (Nat×Nat)}{pl':Nat->Option (Nat×Nat)}(jR:∀i x,pl i=some x->pl' i=some x):∀(ps:List (Nat×PV)) (vs:List (Nat×Value)) (cs:Array Value) (cps r:List PV),
  nr w A X h vs ps->zm w A X h cs cps->kG pl cps ps=some r->∃jN,Instr.fill pl' cs vs=some jN/\zm w A X h jN r:=by
 intro ps
 induction ps with
 |nil=>
  intro vs cs cps r hp hc e
  obtain rfl:=hp.JE;simp[kG]at e;subst e;exact⟨cs,by simp[Instr.fill],hc⟩
 |cons x ps ih=>
  intro vs cs cps r hp hc e
  obtain⟨v,HU,rfl,h1,h2⟩:=hp.cons_inv;obtain⟨i,p⟩:=x;simp only[kG]at e
  split at e
  cases e
  ·rename_i off size hi
   split at e
   ·rename_i F0
    obtain⟨c1,c2,c3⟩:=F0;obtain⟨x1,x2⟩:=h1.cells c2;simp only at x1 x2 c1;have gR:=hc.1;obtain⟨f1,f2⟩:=Fg v off cs (by omega)
    obtain⟨jN,g1,g2⟩:=ih HU _ (sH cps off (Pm.cells p)) r h2 (by
     refine⟨by rw[f1];simp[sH];omega,λk q hq=>?_⟩;rw[sH,gQ _ _ _ _ (by omega)]at hq;rw[f2 k]
     by_cases hA:k<off
     ·rw[if_pos hA]at hq;obtain⟨u,m1,m2⟩:=hc.2 k q hq;exact⟨u,by rw[if_neg (by omega)];exact m1,m2⟩
     ·rw[if_neg hA]at hq
      by_cases hB:k<off+(Pm.cells p).length
      ·rw[if_pos hB]at hq;obtain⟨u,m1,m2,_⟩:=x2 _ q hq;exact⟨u,by rw[if_pos (by omega)];exact m1,m2⟩
      ·rw[if_neg hB]at hq;obtain⟨u,m1,m2⟩:=hc.2 k q hq;exact⟨u,by rw[if_neg (by omega)];exact m1,m2⟩) e
    refine⟨jN,?_,g2⟩;simp only[Instr.fill,jR i _ hi];rw[if_neg (by simp;omega)];exact g1
   cases e
theorem Fi(fs:Array Field)(eR:fs.toList.all (λf=>(cF P f.type).isSome)=true)(w:World):
  ∃pl:Array (Nat×Nat),(fs.mapM (λf=>do pure (f.offset,<-sizeOf f.type)):Sem (Array (Nat×Nat))).run P w=.ok pl w/\∀i x,jc P fs i=some x->pl[i]?=some x:=by
 have main:∀(l:List Field),l.all (λf=>(cF P f.type).isSome)=true->
   ∃pl:List (Nat×Nat),(l.mapM (λf=>do pure (f.offset,<-sizeOf f.type)):Sem (List (Nat×Nat))).run P w=.ok pl w/\∀(i:Nat) (f:Field),l[i]?=some f->∃s,cF P f.type=some s/\pl[i]?=some (f.offset,s):=by
  intro l
  induction l with
  |nil=>intro _;exact⟨[],by simp,λi f hf=>by simp at hf⟩
  |cons f r ih=>
   intro ha
   simp at ha;obtain⟨s,hs⟩:=aec.1 ha.1;obtain⟨pl,h1,h2⟩:=ih (by simpa using ha.2);refine⟨(f.offset,s)::pl,?_,λi g hg=>?_⟩;simp only[List.mapM_cons,Sem.run_bind,cP hs,Result.andThen_ok,Sem.run_pure,h1]
   ·cases i with
    |zero=>simp at hg;subst hg;exact⟨s,hs,rfl⟩
    |succ i=>simpa using h2 i g (by simpa using hg)
 obtain⟨pl,h1,h2⟩:=main fs.toList eR;refine⟨pl.toArray,?_,λi x hx=>?_⟩
 ·rw[<-Array.toArray_toList (xs:=fs),List.mapM_toArray];simp only[Sem.run_map,h1,Result.andThen_ok]
 ·unfold jc at hx
  split at hx
  ·rename_i f hf
   obtain⟨s,g1,g2⟩:=h2 i f (by simpa using hf);rw[g1]at hx;simp at hx;subst hx;simpa using g2
  cases hx
theorem zm.agg{A:Nat->Prop}{cs:Array Value}{ps:List PV}(r:zm w A X h cs ps):aE w A X h (.agg cs) (.agg ps):=by
 have:=aE.agg (w:=w) (A:=A) (X:=X) (h:=h) cs.toList ps (by simpa using r.1) (λj hj=>by
  obtain⟨u,m1,m2⟩:=r.2 j ps[j] (ab1 hj);have e1:cs.toList.getD j Go.undef=u:=by simp[List.getD,m1]
  have e2:ps.getD j .any=ps[j]:=by simp[List.getD,hj]
  rw[e1,e2];exact m2)
 simpa using this
theorem wc{A:Nat->Prop}{t:TypeId}{z:PV}(e:jv P t=some z)(h1:(Pm.cells z).all bM=true)(w:World)(X:List (Nat×Nat))(h:ab):∃v,(∀w,(zeroValue t).run P w=.ok v w)/\zm w A X h v.cells (Pm.cells z):=by
 obtain⟨v,z1,z2⟩:=j' (P:=P) e;obtain⟨x1,x2⟩:=(z2 w A X h).cells h1;exact⟨v,z1,x1,λk q hq=>by obtain⟨u,m1,m2,_⟩:=x2 k q hq;exact⟨u,m1,m2⟩⟩
theorem LJ{A:Nat->Prop}{t:TypeId}{vs:Array (Nat×Value)}{ps:List (Nat×PV)}{r:PV}(hp:nr w A X h vs.toList ps)(e:xD P t ps=some r):
  ∃u,(Instr.build t vs).run P w=.ok u w/\aE w A X h u r:=by
 unfold xD at e
 split at e
 ·rename_i z fs hz hu
  split at e
  ·rename_i eR
   obtain⟨eR,uY⟩:=eR
   cases hf:kG (jc P fs) (Pm.cells z) ps with
   |none=>rw[hf]at e;simp at e
   |some q=>
    rw[hf]at e;simp at e;subst e;obtain⟨v,z1,z2⟩:=wc (P:=P) (A:=A) hz uY w X h;obtain⟨pl,p1,p2⟩:=Fi fs eR w;obtain⟨jN,g1,g2⟩:=Fh (pl':=λi=>pl[i]?) p2 ps vs.toList v.cells (Pm.cells z) q hp z2 hf;refine⟨.agg jN,?_,g2.agg⟩;simp only[Instr.build,Sem.run_bind,z1,Result.andThen_ok,bU hu,p1,g1,Sem.run_pure]
  cases e
 ·rename_i z n el hz hu
  split at e
  ·rename_i size hs
   split at e
   ·rename_i uY
    cases hf:kG (λi=>some (i * size,size)) (Pm.cells z) ps with
    |none=>rw[hf]at e;simp at e
    |some q=>
     rw[hf]at e;simp at e;subst e;obtain⟨v,z1,z2⟩:=wc (P:=P) (A:=A) hz uY w X h;obtain⟨jN,g1,g2⟩:=Fh (pl':=λi=>some (i * size,size)) (λ_ _ hx=>hx) ps vs.toList v.cells (Pm.cells z) q hp z2 hf;refine⟨.agg jN,?_,g2.agg⟩;simp only[Instr.build,Sem.run_bind,z1,Result.andThen_ok,bU hu,cP hs,g1,Sem.run_pure]
   cases e
  cases e
 cases e
theorem Flat.set{A:Nat->Prop}{sz:Nat}{cs jN:Array Value}{es:List PV}(a:Flat w A X h sz cs.toList es){v:Value}{p:PV}(hv:aE w A X h v p)(h1:(Pm.cells p).length=sz)(h2:(Pm.cells p).all bM=true)
  (i:Nat) (hi:i<es.length) (gR:jN.size=cs.size) (hk:∀k,jN[k]?=if i * sz<=k/\k<i * sz+v.cells.size then v.cells[k - i * sz]? else cs[k]?):Flat w A X h sz jN.toList (es.set i p):=by
 obtain⟨x1,x2⟩:=hv.cells h2;refine⟨by have:=a.1;simp at this ⊢;omega,λk e he=>?_⟩
 by_cases TQ:k=i
 ·subst TQ;rw[abY hi]at he;obtain rfl:=abV he;refine⟨h1,λj q hq=>?_⟩;have hj:=ag hq;obtain⟨u,m1,m2,_⟩:=x2 j q hq;refine⟨u,?_,m2⟩;rw[acw,hk,if_pos (by omega),show k * sz+j - k * sz=j by omega];exact m1
 ·rw[ab0 (acS TQ)]at he;obtain⟨n1,n2⟩:=a.2 k e he;refine⟨n1,λj q hq=>?_⟩;have hj:=ag hq;obtain⟨u,m1,m2⟩:=n2 j q hq;refine⟨u,?_,m2⟩;rw[acw,hk,if_neg];simpa using m1
  ·rcases Nat.lt_or_gt_of_ne TQ with hl |hg;have:=lf (s:=sz) hl;omega;have:=lf (s:=sz) hg;omega
theorem LK{A:Nat->Prop}{sz:Nat}:∀(ps:List (Nat×PV)) (vs:List (Nat×Value)) (cs:Array Value) (es:List PV),nr w A X h vs ps->Flat w A X h sz cs.toList es->
  (∀x∈ps,(Pm.cells x.2).length=sz/\(Pm.cells x.2).all bM=true/\x.1<es.length)->
  ∃jN,Instr.fill (λi=>some (i * sz,sz)) cs vs=some jN/\Flat w A X h sz jN.toList (ps.foldl (λes x=>es.set x.1 x.2) es):=by
 intro ps
 induction ps with
 |nil=>
  intro vs cs es hp hf _
  obtain rfl:=hp.JE;exact⟨cs,by simp[Instr.fill],hf⟩
 |cons x ps ih=>
  intro vs cs es hp hf eR
  obtain⟨v,HU,rfl,h1,h2⟩:=hp.cons_inv;obtain⟨c1,c2,c3⟩:=eR x (by simp);obtain⟨x1,_⟩:=h1.cells c2;have hl:=hf.1;have hm:=lf (s:=sz) c3;simp at hl;obtain⟨f1,f2⟩:=Fg v (x.1 * sz) cs (by omega);have hf':=hf.set h1 c1 c2 x.1 c3 f1 f2
  obtain⟨jN,g1,g2⟩:=ih HU _ _ h2 hf' (λy hy=>by
   obtain⟨d1,d2,d3⟩:=eR y (by simp[hy]);exact⟨d1,d2,by simpa using d3⟩)
  refine⟨jN,?_,g2⟩;simp only[Instr.fill];rw[if_neg (by simp;omega)];exact g1
theorem Flat.aa{A:Nat->Prop}{sz:Nat}{cs:List Value}{es:List PV}(a:Flat w A X h sz cs es)(hs:0<sz)(hv:ao es=true){w':World}{A':Nat->Prop}{b cap:Nat}{full:Bool}
  (hw:∀k,k<w.heap.size->¬A k->w'.heap[k]?=w.heap[k]?) (hA:∀k,k<w.heap.size->¬A k->¬A' k) (hb:¬A' b) (hc:∀(k:Nat) (u:Value),cs[k]?=some u->w'.cell? ⟨b,k,none⟩=some u) (CG:es.length<=cap) (wa:full=true->cap=es.length):
  cu w' A' (.slice (some ⟨b,0,none⟩) es.length cap) (.aa full es):=by
 by_cases hn:es=[]
 ·subst hn;exact .ig _ _ _ (λhh=>by simpa using wa hh)
 ·have isv:∀(l:List PV),ao l=true->∀e∈l,aU e=true:=by
   intro l
   induction l with
   |nil=>intro _ e he;cases he
   |cons c r ih=>
    intro hl e he
    simp[ao]at hl;rcases ab5.1 he with rfl |he;exact hl.1;exact ih hl.2 e he
  have J5:∀(e:PV),aU e=true->∀q∈Pm.cells e,aU q=true:=by
   intro e he q hq
   cases e <;>first
    |(simp only[Pm.cells,acv]at hq;subst hq;exact he)
    |(simp[aU]at he;exact isv _ he q hq)
  have at_:∀i j,i<es.length->j<sz->∃u,cs[i * sz+j]?=some u/\cu w A u ((Pm.cells (es.getD i .any)).getD j .any):=by
   intro i j hi hj
   have he:=ab1 hi;obtain⟨n1,n2⟩:=a.2 i _ he;have hq:=ab1 (show j<(Pm.cells es[i]).length by omega);obtain⟨u,m1,m2⟩:=n2 j _ hq;have e1:es.getD i .any=es[i]:=by simp[List.getD,hi]
   refine⟨u,m1,?_⟩;rw[e1];have e2:(Pm.cells es[i]).getD j .any=(Pm.cells es[i])[j]'(by omega):=by simp[List.getD,hq]
   rw[e2];exact m2.J6 (J5 _ (isv es hv _ (acB hi)) _ (acB _))
  refine .aa b 0 cap sz full es (λi j=>cs.getD (i * sz+j) Go.undef) hn CG wa hb hs (λi hi=>?_) (λi j hi hj=>?_) (λi j hi hj=>?_)
  ·have e1:es.getD i .any=es[i]:=by simp[List.getD,hi]
   rw[e1];exact(a.2 i _ (ab1 hi)).1
  ·obtain⟨u,m1,m2⟩:=at_ i j hi hj;rw[acf,hc _ u m1];simp[List.getD,m1]
  ·obtain⟨u,m1,m2⟩:=at_ i j hi hj;have:cs.getD (i * sz+j) Go.undef=u:=by simp[List.getD,m1]
   rw[this];exact m2.mono hw hA
theorem zn(H:bo w F X h){lv:Nat}{t:TypeId}{n:Nat}{vs:Array (Nat×Value)}{ps:List (Nat×PV)}{r:PV}{h':ab}(hp:nr w (Av F h X) X h vs.toList ps)(e:dI P lv h t n ps=some (r,h')):
  Cx P lv w F X h (Instr.buildSlice t n vs) r h':=by
 unfold dI at e
 split at e
 ·rename_i el hu
  split at e
  ·rename_i size z hs hz
   split at e
   ·rename_i hc
    obtain⟨ni,Wu,Wm,KK,eR⟩:=hc;obtain⟨vz,z1,z2⟩:=j' (P:=P) hz;obtain⟨s1,s2⟩:=ra (z2 w (Av F h X) X h) Wm KK ni n
    obtain⟨jN,g1,g2⟩:=LK (sz:=size) ps vs.toList (List.map (λi=>vz.cells[i % vz.cells.size]!) (List.range (n * size))).toArray (List.replicate n z) hp (by simpa using s2) (λx hx=>by
     have:=abX.1 eR x hx;simp only[ab4,decide_eq_true_eq]at this;exact⟨this.1.1,this.1.2,by simpa using this.2⟩)
    have abf:ps.foldl (λes x=>es.set x.1 x.2) (List.replicate n z)=Ab z n ps:=rfl;rw[abf]at g2
    have uj:(Ab z n ps).length=n:=by
     have:∀(l:List (Nat×PV)) (es:List PV),(l.foldl (λes x=>es.set x.1 x.2) es).length=es.length:=by
      intro l
      induction l with
      |nil=>intro es;rfl
      |cons x l ih=>intro es;rw[List.foldl_cons,ih];simp
     unfold Ab;rw[this];simp
    have gz:(Instr.buildSlice t n vs).run P w=.ok (.slice (some ⟨w.heap.size,0,none⟩) n n) (w.alloc (.cells jN el)):=by
     simp only[Instr.buildSlice,Sem.run_bind,bU hu,Result.andThen_ok,cP hs,Sem.run_ite];rw[if_neg (by omega)]
     by_cases h0:n * size=0
     ·have hnn:n=0:=by
       rcases Nat.mul_eq_zero.1 h0 with h |h;exact h;omega
      subst hnn;simp only[h0,if_true,Sem.run_pure,Result.andThen_ok,hZ,List.range_zero,acr]at g1 ⊢;rw[g1];simp only[Sem.run_bind,newRow,run_newObj,Result.andThen_ok,Sem.run_pure]
      rfl
     ·simp only[h0,if_false,z1,Result.andThen_ok,Sem.run_pure,hZ];rw[g1];simp only[Sem.run_bind,newRow,run_newObj,Result.andThen_ok,Sem.run_pure]
      rfl
    split at e
    ·rename_i hv
     obtain⟨rfl,rfl⟩:=ab7 (abV e);refine⟨_,_,X,gz,.val ?_,H.Na (dN.alloc w _),(dN.alloc w _).TP h X,λ_=>dN.alloc w _⟩
     have:=g2.aa (w':=w.alloc (.cells jN el)) (A':=Av F h X) (b:=w.heap.size) (cap:=n) (full:=true) ni hv (λk hk _=>heap_alloc_old w _ k hk) (λk _ hk=>hk)
      (λhm=>by have:=Av.lt H hm;omega) (λk u hku=>by rw[World.cell?_alloc_new];simpa using hku) (by omega) (λ_=>by omega)
     rwa[uj]at this
    ·rename_i hv
     split at e
     ·obtain⟨rfl,rfl⟩:=ab7 (abV e)
      obtain⟨HH,S⟩:=bo.new H (w':=w.alloc (.cells jN el)) el jN {mu:=.m,ep:=0,bQ:=size,es:=Ab z n ps} n rfl rfl rfl rfl rfl (by simp[uj])
       (by have:=g2.1;simp[uj]at this;simp[this]) ni (λi e he=>by
        obtain⟨n1,n2⟩:=g2.2 i e he;exact⟨n1,λj p hp=>by obtain⟨u,m1,m2⟩:=n2 j p hp;exact⟨u,by simpa using m1,m2⟩⟩)
      exact⟨_,_,_,gz,H.xn,HH,S,λ_=>dN.alloc w _⟩
     cases e
   cases e
  cases e
 cases e
open Go.MapKept
theorem Jz{A:Nat->Prop}{t:TypeId}{k:PV}{v:Value}(hk:Ac P t k=true)(hv:aE w A X h v k):∃d,P.underlying t=some d/\IsKey d v/\∀(k':PV) (v':Value) (b:Bool),pN k k'=some b->aE w A X h v' k'->Instr.sameNow d v v'=some b/\(b=true->Instr.sameBits 10000 v' v=true/\aE w A X h v k'):=by
 unfold Ac at hk
 split at hk
 ·rename_i kd k n hu
  obtain rfl:=hv.dS;have hk:=of_decide_eq_true hk;refine⟨_,hu,by simpa[IsKey]using hk,λk' v' b hs xR=>?_⟩
  cases k' <;>simp only[pN]at hs <;>try(cases hs;done)
  obtain rfl:=xR.dS
  split at hs
  ·rename_i hkk
   subst hkk;obtain rfl:=abV hs;refine⟨by simp[Instr.sameNow],λhb=>?_⟩;have:=eq_of_beq hb;subst this;exact⟨by simp[Instr.sameBits],hv⟩
  cases hs
 ·rename_i s hu
  obtain rfl:=hv.mV;refine⟨_,hu,by simp[IsKey],λk' v' b hs xR=>?_⟩
  cases k' <;>simp only[pN]at hs <;>try(cases hs;done)
  obtain rfl:=xR.mV;obtain rfl:=abV hs;refine⟨by simp[Instr.sameNow],λhb=>?_⟩;have:=(bytes_beq _ _).1 hb;subst this;exact⟨by simp only[Instr.sameBits];exact hb,hv⟩
 ·rename_i b hu
  obtain rfl:=hv.gK;refine⟨_,hu,by simp[IsKey],λk' v' b hs xR=>?_⟩
  cases k' <;>simp only[pN]at hs <;>try(cases hs;done)
  obtain rfl:=xR.gK;obtain rfl:=abV hs;refine⟨by simp[Instr.sameNow],λhb=>?_⟩;have:=eq_of_beq hb;subst this;exact⟨by simp[Instr.sameBits],hv⟩
 cases hk
def EsR(w:World)(A:Nat->Prop)(X:List (Nat×Nat))(h:ab)(l:List MapEntry)(ps:List PV):Prop:=
 l.length=ps.length/\∀(i:Nat) (e:PV),ps[i]?=some e->∃(k v:PV) (m:MapEntry),e=.agg [k,v]/\l[i]?=some m/\aE w A X h m.key k/\aE w A X h m.val v
theorem qs{A:Nat->Prop}{d:TypeDesc}{k:PV}{v:Value}(hs:∀(k':PV) (v':Value) (b:Bool),pN k k'=some b->aE w A X h v' k'->Instr.sameNow d v v'=some b/\(b=true->Instr.sameBits 10000 v' v=true/\aE w A X h v k')):
  ∀(l:List MapEntry) (ps:List PV) (n:Nat) (r:Option (Nat×PV)),EsR w A X h l ps->lN k ps n=some r->
   match r with
   |none=>Instr.findNow d v l n=some none
   |some (j,p)=>∃(i:Nat) (m:MapEntry) (k':PV),j=n+i/\l[i]?=some m/\ps[i]?=some (.agg [k',p])/\Instr.findNow d v l n=some (some (j,m.val))/\aE w A X h m.val p/\Instr.sameBits 10000 m.key v=true/\aE w A X h v k'
 |[],ps,n,r,hR,e=>by
  obtain⟨h1,_⟩:=hR;have:ps=[]:=List.length_eq_zero_iff.1 h1.symm;subst this;simp only[lN]at e;obtain rfl:=abV e
  rfl
 |m::l,[],n,r,hR,e=>by
  obtain⟨h1,_⟩:=hR;simp at h1
 |m::l,p0::ps,n,r,hR,e=>by
  obtain⟨h1,h2⟩:=hR;obtain⟨k0,v0,m0,rfl,hm,Uv,Di⟩:=h2 0 p0 rfl;simp at hm;subst hm
  have hT:EsR w A X h l ps:=⟨by simpa using h1,λi e he=>by
   obtain⟨k1,v1,m1,g1,g2,g3⟩:=h2 (i+1) e (by simpa using he);exact⟨k1,v1,m1,g1,by simpa using g2,g3⟩⟩
  simp only[lN]at e
  split at e
  ·rename_i Ah
   obtain rfl:=abV e;obtain⟨q1,q2⟩:=hs k0 m.key true Ah Uv;obtain⟨q3,q4⟩:=q2 rfl;exact⟨0,m,k0,rfl,rfl,rfl,by simp[Instr.findNow,q1],Di,q3,q4⟩
  ·rename_i Ah
   obtain⟨q1,_⟩:=hs k0 m.key false Ah Uv;have:=qs hs l ps (n+1) r hT e;have hf:Instr.findNow d v (m::l) n=Instr.findNow d v l (n+1):=by simp[Instr.findNow,q1]
   cases r with
   |none=>simpa[hf]using this
   |some jp=>
    obtain⟨j,p⟩:=jp;obtain⟨i,m1,k1,g1,g2,g3,g4,g5⟩:=this;exact⟨i+1,m1,k1,by omega,by simpa using g2,by simpa using g3,by rw[hf];exact g4,g5⟩
  cases e
theorem Pe{A:Nat->Prop}{es:Array MapEntry}{ps:List PV}(h1:es.size=ps.length)(h2:∀(i:Nat) (e:PV),ps[i]?=some e->∃(k v:PV) (m:MapEntry),e=.agg [k,v]/\es[i]?=some m/\aE w A X h m.key k/\aE w A X h m.val v):
  EsR w A X h es.toList ps:=⟨by simpa using h1,λi e he=>by
 obtain⟨k,v,m,g1,g2,g3⟩:=h2 i e he;exact⟨k,v,m,g1,by simpa using g2,g3⟩⟩
theorem HI(H:bo w F X h){vm vk:Value}{m k q:PV}{t:TypeId}{ok:Bool}(hm:aE w (Av F h X) X h vm m)(hk:aE w (Av F h X) X h vk k)(e:oH P h t m k ok=some q):
  ∃u,(Instr.lookup t vm vk ok).run P w=.ok u w/\aE w (Av F h X) X h u q:=by
 unfold oH at e
 split at e
 ·rename_i kt et hu
  split at e
  ·rename_i z hz
   split at e
   ·rename_i cY
    obtain⟨d,hd,Gg,E1⟩:=Jz cY hk;obtain⟨vz,z1,z2⟩:=va hz w (Av F h X) X h
    have Rq:∀{u:Value} {p:PV} (b:Bool),aE w (Av F h X) X h u p->aE w (Av F h X) X h (if ok then .tuple #[u,.bool b]else u) (fQ ok p b):=by
     intro u p b hr
     unfold fQ
     cases ok
     exact hr
     ·exact .cA [u,.bool b] [p,.bool b] rfl (λj hj=>by
       match j,hj with
       |0,_=>exact hr
       |1,_=>exact .val (.bool b))
    split at e
    ·obtain rfl:=abV e;obtain rfl:=hm.E2;refine⟨_,?_,Rq false z2⟩;simp only[Instr.lookup,Sem.run_bind,bU hu,Result.andThen_ok,Sem.run_pure,run_checkKey hd Gg,run_findKey (l:=(#[]:Array MapEntry).toList) hd (a:=none) rfl,z1]
    ·rename_i id
     split at e
     ·rename_i o ho
      obtain⟨bc,es,clock,rfl,k2,k3,k4⟩:=Pf H hm ho;have hE:=Pe k3 k4
      split at e
      ·rename_i j p hf
       obtain rfl:=abV e;obtain⟨i,me,k',g1,g2,g3,g4,g5,g6⟩:=qs E1 es.toList o.es 0 _ hE hf;refine⟨_,?_,Rq true g5⟩;simp only[Instr.lookup,Sem.run_bind,bU hu,Result.andThen_ok,Sem.run_pure,mr k2,run_checkKey hd Gg,run_findKey hd g4]
      ·rename_i hf
       obtain rfl:=abV e;have g4:=qs E1 es.toList o.es 0 _ hE hf;refine⟨_,?_,Rq false z2⟩;simp only[Instr.lookup,Sem.run_bind,bU hu,Result.andThen_ok,Sem.run_pure,mr k2,run_checkKey hd Gg,run_findKey hd g4,z1]
      cases e
     cases e
    cases e
   cases e
  cases e
 cases e
theorem E3{lv:Nat}(H:bo w F X h){t:TypeId}{r:Option PV}{vr:Option Value}(hr:tM w (Av F h X) X h vr r){p:PV}{h':ab}(e:nt P lv h t r=some (p,h')):Cx P lv w F X h (Instr.makeMap t vr) p h':=by
 obtain⟨H1,S1⟩:=H.V3
 have hv:aE (w.alloc (.map #[] 0)) (Av F (newObj h 0 []) (X++[(w.heap.size,0)])) (X++[(w.heap.size,0)]) (newObj h 0 []) (.map (some w.heap.size)) (.cG h.length):=
  .cG _ _ {mu:=.m,ep:=0,bQ:=0,es:=[]} (w.heap.size,0) ⟨_,rfl⟩ (by simp[newObj]) (by rw[<-H.len];simp) (by simp) (λ_=>rfl)
 unfold nt at e
 split at e
 ·split at e
  ·obtain⟨rfl,rfl⟩:=ab7 (abV e)
   cases vr with
   |some v=>exact hr.elim
   |none=>exact⟨_,_,_,rfl,hv,H1,S1,λ_=>dN.alloc w _⟩
  ·rename_i k n kt et hu
   obtain⟨rfl,rfl⟩:=ab7 (abV e)
   cases vr with
   |none=>exact hr.elim
   |some v=>
    obtain rfl:=aE.dS hr;refine⟨_,_,_,?_,hv,H1,S1,λ_=>dN.alloc w _⟩;simp[Instr.makeMap,bU hu,asInt,asIntOf]
  cases e
 cases e
theorem yW(H:bo w F X h){vm vk vx:Value}{m k x:PV}{t:TypeId}{h':ab}(hm:aE w (Av F h X) X h vm m)(hk:aE w (Av F h X) X h vk k)(hx:aE w (Av F h X) X h vx x)(e:oI P h t m k x=some h'):
  ∃w' X',(Instr.mapUpdate t vm vk vx).run P w=.ok () w'/\bo w' F X' h'/\eD w h X w' h' X':=by
 unfold oI at e
 split at e
 ·rename_i kt et id hu
  split at e
  ·rename_i o ho
   split at e
   ·rename_i hc
    obtain⟨cY,wP⟩:=hc;obtain⟨e1,e2,e3,e4⟩:=BD ho;obtain⟨bc,hb⟩:=dB H.len e1;obtain⟨_,es,clock,k2,k3,k4⟩:=(H.obj id o bc e1 hb e3).m e4;obtain rfl:=hm.E4 e1 hb e2;have hE:=Pe k3 k4;obtain⟨d,hd,Gg,E1⟩:=Jz cY hk;have cM:=(acq.1 k2).1
    have hX:X=X.set id bc:=by
     apply ac9
     intro j
     by_cases hj:j=id
     subst hj;rw[abY (by have:=H.len;have:=ag e1;omega)];exact hb;rw[ab0 (acS hj)]
    have fin:∀(dQ:Array MapEntry) (clock2:Nat) (ps:List PV),EsR w (Av F h X) X h dQ.toList ps->
      bo {w with heap:=w.heap.setIfInBounds bc.1 (.map dQ clock2)} F X (h.set id {o with es:=ps})/\eD w h X {w with heap:=w.heap.setIfInBounds bc.1 (.map dQ clock2)} (h.set id {o with es:=ps}) X:=by
     intro dQ clock2 ps hR
     have cC:({w with heap:=w.heap.setIfInBounds bc.1 (.map dQ clock2)}:World).heap[bc.1]?=some (.map dQ clock2):=by
      simp[cM]
     have:=bo.Zb H e1 hb wP (w':={w with heap:=w.heap.setIfInBounds bc.1 (.map dQ clock2)}) ps o.ep bc (by simp) (λb Ae bO=>by
      simp only[Array.getElem?_setIfInBounds];rw[if_neg (acS bO)]) (.inl ⟨rfl,λ_=>.inr e4⟩) (abZ _) rfl rfl rfl (λhs=>.inr ⟨e4,dQ,clock2,cC,by simpa using hR.1,λi e he=>by
       obtain⟨k,v,m,g1,g2,g3,g4⟩:=hR.2 i e he;exact⟨k,v,m,g1,by simpa using g2,g3.mono hs,g4.mono hs⟩⟩)
     rw[<-hX]at this;exact this
    unfold Gb at e
    split at e
    ·rename_i eV Lu
     obtain rfl:=abV e
     split at Lu
     ·rename_i j p hf
      obtain rfl:=abV Lu;obtain⟨i,me,k',g1,g2,g3,g4,g5,g6,g7⟩:=qs E1 es.toList o.es 0 _ hE hf;obtain rfl:j=i:=by omega
      have Yt:es[j]?=some me:=by simpa using g2
      obtain⟨HH,SS⟩:=fin (es.modify j λe=>{e with key:=vk,val:=vx}) clock (o.es.set j (.agg [k,x])) (by
       refine⟨by simp[k3],λi e he=>?_⟩
       by_cases hi:i=j
       ·subst hi;rw[abY (ag g3)]at he;obtain rfl:=abV he;refine⟨k,x,{me with key:=vk,val:=vx},rfl,?_,hk,hx⟩;rw[acw,ad0,if_pos rfl,Yt];rfl
       ·rw[ab0 (acS hi)]at he;obtain⟨k1,v1,m1,q1,q2,q3⟩:=k4 i e he;refine⟨k1,v1,m1,q1,?_,q3⟩;rw[acw,ad0,if_neg (acS hi)];exact q2)
      refine⟨_,X,?_,HH,SS⟩;simp only[Instr.mapUpdate,Sem.run_bind,bU hu,Result.andThen_ok,mr k2,run_checkKey hd Gg,run_findKey hd g4,Instr.keyThatStays,Yt,ab8,Option.getD_some,g6,if_true,Sem.run_pure,run_setObj_map _ k2]
     ·rename_i hf
      obtain rfl:=abV Lu;have g4:=qs E1 es.toList o.es 0 _ hE hf
      obtain⟨HH,SS⟩:=fin (es.push {key:=vk,val:=vx,born:=clock}) (clock+1) (o.es++[.agg [k,x]]) (by
       refine⟨by simp[k3],λi e he=>?_⟩
       by_cases hi:i<o.es.length
       ·rw[abW hi]at he;obtain⟨k1,v1,m1,q1,q2,q3⟩:=k4 i e he;refine⟨k1,v1,m1,q1,?_,q3⟩;rw[acw,Array.getElem?_push,if_neg (by omega)];exact q2
       ·have hl:=ag he;simp at hl;obtain rfl:i=o.es.length:=by omega
        rw[ab6 (abZ _)]at he;simp at he;subst he;refine⟨k,x,{key:=vk,val:=vx,born:=clock},rfl,?_,hk,hx⟩;rw[acw,<-k3];simp)
      refine⟨_,X,?_,HH,SS⟩;simp only[Instr.mapUpdate,Sem.run_bind,bU hu,Result.andThen_ok,mr k2,run_checkKey hd Gg,run_findKey hd g4,run_setObj_map _ k2]
     cases Lu
    cases e
   cases e
  cases e
 cases e
end Go.Pm
