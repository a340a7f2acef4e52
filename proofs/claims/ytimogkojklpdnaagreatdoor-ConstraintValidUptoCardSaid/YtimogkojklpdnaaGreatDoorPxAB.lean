/-
  Pm, a part. Conditions: none.
-/
import Derived.Test.YtimogkojklpdnaaGreatDoorPxAA
import Derived.Laws.BytesArg
import Derived.MapKept
set_option linter.unusedVariables false
set_option linter.unusedSimpArgs false
set_option linter.unnecessarySimpa false
set_option linter.unusedSectionVars false
namespace Go.Pm
variable[iD:Inhabited Prop]
theorem lJ{R:Nat->Value->Prop}:∀(n:Nat),(∀j,j<n->∃u,R j u)->∃vs:List Value,vs.length=n/\∀j,j<n->R j (vs.getD j undef)
 |0,_=>⟨[],rfl,λj hj=>absurd hj (Nat.not_lt_zero _)⟩
 |n+1,h=>by
  obtain⟨vs,hl,hr⟩:=lJ n (λj hj=>h j (by omega));obtain⟨u,hu⟩:=h n (by omega);refine⟨vs++[u],by simp[hl],λj hj=>?_⟩
  by_cases NS:j<n
  ·have:(vs++[u]).getD j undef=vs.getD j undef:=by simp[List.getD,TG (show j<vs.length by omega)]
   rw[this];exact hr j NS
  ·obtain rfl:j=n:=by omega
   have:(vs++[u]).getD j undef=u:=by simp[List.getD,<-hl]
   rw[this];exact hu
theorem getM_some{h:aa}{id ep:Nat}{o:aC}(e:getM h id ep=some o):h[id]?=some o/\o.ep=ep/\o.mu≠.x:=by
 unfold getM at e
 split at e
 ·rename_i o' ho
  split at e
  ·rename_i hc
   obtain rfl:=TF e;exact⟨ho,hc.1,hc.2⟩
  cases e
 cases e
theorem cm{h:aa}{Y:List (Nat×Nat)}(hl:Y.length=h.length){id:Nat}{o:aC}(e:h[id]?=some o):∃bc,Y[id]?=some bc:=by
 have:id<h.length:=by
  rcases T8 id h.length with h1 |h1;exact h1;rw[TZ h1]at e;cases e
 exact⟨Y[id]'(by omega),TJ (by omega)⟩
theorem ae{α:Type}{l:List α}{i:Nat}{x:α}(h:l[i]?=some x):i<l.length:=by
 rcases T8 i l.length with h1 |h1;exact h1;rw[TZ h1]at h;cases h
theorem Mb.lt{w:World}{F:Nat->Prop}{Y:List (Nat×Nat)}{h:aa}(H:aG w F Y h){b:Nat}(m:Mb h Y b):b<w.heap.size:=by
 obtain⟨id,o,bc,e1,e2,e3,rfl⟩:=m;exact(H.obj id o bc e1 e2 (by rw[e3];simp)).lt
theorem Av.lt{w:World}{F:Nat->Prop}{Y:List (Nat×Nat)}{h:aa}(H:aG w F Y h){b:Nat}(m:Av F h Y b):b<w.heap.size:=by
 rcases m with m |m;exact H.fin b m;exact Mb.lt H m
structure cc(w w':World):Prop where
 size:w.heap.size<=w'.heap.size
 aB:∀b,b<w.heap.size->w'.heap[b]?=w.heap[b]?
 os:w'.os=w.os
 tape:w'.tape=w.tape
 output:w'.output=w.output
 drawn:yG->w.drawn<=w'.drawn
theorem cc.refl(w:World):cc w w:=⟨TI _,λ_ _=>rfl,rfl,rfl,rfl,λ_=>TI _⟩
theorem cc.trans{a b c:World}(x:cc a b)(y:cc b c):cc a c:=
 ⟨T' x.size y.size,λk hk=>(y.aB k (T4 hk x.size)).trans (x.aB k hk),y.os.trans x.os,y.tape.trans x.tape,y.output.trans x.output,λd=>T' (x.drawn d) (y.drawn d)⟩
theorem cc.alloc(w:World)(o:Obj):cc w (w.alloc o):=⟨by simp,λb hb=>heap_alloc_old w o b hb,rfl,rfl,rfl,λ_=>TI _⟩
theorem cc.drew(w:World):cc w w.drew:=⟨TI _,λ_ _=>rfl,rfl,rfl,rfl,λ_=>Vn _⟩
theorem cc.pG{w w':World}(g:cc w w')(h:aa)(Y:List (Nat×Nat)):cP w h Y w' h Y where
 size:=g.size
 len:=TI _
 aB b hb _:=g.aB b hb
 shr _ _ m:=m
 refs:=yl.refl h Y
 Bg id o h1 _:=⟨h1,rfl⟩
 os:=g.os
 tape:=g.tape
 output:=g.output
 drawn:=g.drawn
theorem gq.mono{w w':World}{F:Nat->Prop}{h h':aa}{Y Y':List (Nat×Nat)}(s:cP w h Y w' h' Y'){o:aC}{bc:Nat×Nat}(hb:w'.heap[bc.1]?=w.heap[bc.1]?)
  (r:gq w (Av F h Y) Y h o bc):gq w' (Av F h' Y') Y' h' o bc:=by
 rcases r with⟨T,cs,h1,h2,h3,h4,h5⟩|⟨h0,es,clock,h1,h2,h3⟩
 ·refine .inl ⟨T,cs,hb.trans h1,h2,h3,h4,λi e he=>⟨(h5 i e he).1,λj p hp=>?_⟩⟩;obtain⟨v,k1,k2⟩:=(h5 i e he).2 j p hp;exact⟨v,k1,k2.mono s⟩
 ·refine .inr ⟨h0,es,clock,hb.trans h1,h2,λi e he=>?_⟩;obtain⟨k,v,m,q1,q2,q3,q4⟩:=h3 i e he;exact⟨k,v,m,q1,q2,q3.mono s,q4.mono s⟩
theorem aG.uY{w w':World}{F:Nat->Prop}{Y:List (Nat×Nat)}{h:aa}(H:aG w F Y h)(g:cc w w'):aG w' F Y h where
 len:=H.len
 fin b hb:=T4 (H.fin b hb) g.size
 obj id o bc e1 e2 e3:=by
  have r:=H.obj id o bc e1 e2 e3;exact gq.mono (g.pG h Y) (g.aB _ r.lt) r
 eZ:=H.eZ
 out:=H.out
 di:=H.di.pG (g.pG h Y)
theorem aG.LW{w w':World}{F:Nat->Prop}{Y:List (Nat×Nat)}{h:aa}(H:aG w F Y h)(ob:Obj)(o:aC)(cap:Nat)
  (hw:w'.heap=w.heap.push ob) (ho:w'.os=w.os) (ht:w'.tape=w.tape) (hu:w'.output=w.output)
  (hm:o.mu=.m)
  (hR:cP w h Y w' (h++[o]) (Y++[(w.heap.size,cap)])->w'.heap[w.heap.size]?=some ob->gq w' (Av F (h++[o]) (Y++[(w.heap.size,cap)])) (Y++[(w.heap.size,cap)]) (h++[o]) o (w.heap.size,cap))
  (hd:yG->w.drawn<=w'.drawn:=by first |exact λ_=>TI _ |exact λ_=>Vn _):
  aG w' F (Y++[(w.heap.size,cap)]) (h++[o])/\cP w h Y w' (h++[o]) (Y++[(w.heap.size,cap)]):=by
 have ez:w'.heap.size=w.heap.size+1:=by rw[hw];simp
 have hold:∀b,b<w.heap.size->w'.heap[b]?=w.heap[b]?:=λb hb=>by rw[hw,Array.getElem?_push,if_neg (by omega)]
 have xj:w'.heap[w.heap.size]?=some ob:=by rw[hw];simp
 have hlen:=H.len
 have gf:∀id,id<h.length->(h++[o])[id]?=h[id]?/\(Y++[(w.heap.size,cap)])[id]?=Y[id]?:=λid bE=>
  ⟨TG bE,TG (by omega)⟩
 have at_new:(h++[o])[h.length]?=some o/\(Y++[(w.heap.size,cap)])[h.length]?=some (w.heap.size,cap):=by
  constructor
  simp;rw[<-hlen];simp
 have split:∀id (o':aC) (bW:Nat×Nat),(h++[o])[id]?=some o'->(Y++[(w.heap.size,cap)])[id]?=some bW->
   (id<h.length/\h[id]?=some o'/\Y[id]?=some bW)\/(id=h.length/\o'=o/\bW=(w.heap.size,cap)):=by
  intro id o' bW e1 e2
  by_cases bE:id<h.length
  ·left;rw[(gf id bE).1]at e1;rw[(gf id bE).2]at e2;exact⟨bE,e1,e2⟩
  ·right
   have:id<(h++[o]).length:=ae e1;obtain rfl:id=h.length:=by simp at this;omega
   rw[at_new.1]at e1;rw[at_new.2]at e2;exact⟨rfl,(TF e1).symm,(TF e2).symm⟩
 have hs:cP w h Y w' (h++[o]) (Y++[(w.heap.size,cap)]):=by
  refine⟨by omega,by simp,λb hb _=>hold b hb,?_,?_,?_,ho,ht,hu,hd⟩
  ·rintro b hb ⟨id,o',bW,e1,e2,e3,rfl⟩;rcases split id o' bW e1 e2 with⟨_,f1,f2⟩|⟨_,rfl,rfl⟩;exact⟨id,o',bW,f1,f2,e3,rfl⟩;simp at hb
  ·intro id o' bW e1 e2 e3
   have bE:=ae e1;exact⟨o',bW,by rw[(gf id bE).1];exact e1,by rw[(gf id bE).2];exact e2,e3,⟨TI _,λh=>h⟩,λ_=>⟨rfl,λ_=>rfl,rfl⟩⟩
  ·intro id o' e1 _
   have bE:=ae e1;exact⟨by rw[(gf id bE).1];exact e1,(gf id bE).2⟩
 refine⟨⟨by simp[hlen],λb hb=>by have:=H.fin b hb;omega,?_,?_,?_,H.di.pG hs⟩,hs⟩
 ·intro id o' bW e1 e2 e3
  rcases split id o' bW e1 e2 with⟨_,f1,f2⟩|⟨_,rfl,rfl⟩
  ·have r:=H.obj id o' bW f1 f2 e3;exact gq.mono hs (hold _ r.lt) r
  exact hR hs xj
 ·intro id cz o1 o2 Fm zg aU e1 e2 e3 e4 m1 m2
  rcases split id o1 Fm e1 e3 with⟨_,f1,f2⟩|⟨bE,rfl,rfl⟩ <;>rcases split cz o2 zg e2 e4 with⟨_,g1,g2⟩|⟨Jj,rfl,rfl⟩
  exact H.eZ id cz o1 o2 Fm zg aU f1 g1 f2 g2 m1 m2
  ·have:=Mb.lt H ⟨id,o1,Fm,f1,f2,m1,rfl⟩;simp;omega
  ·have:=(H.obj cz o2 zg g1 g2 m2).lt;simp;omega
  omega
 ·intro id o' bW e1 e2 e3
  rcases split id o' bW e1 e2 with⟨_,f1,f2⟩|⟨_,rfl,rfl⟩;exact H.out id o' bW f1 f2 e3
  intro hf;have:=H.fin _ hf;simp at this
theorem aG.new{w w':World}{F:Nat->Prop}{Y:List (Nat×Nat)}{h:aa}(H:aG w F Y h)(T:TypeId)(cs:Array Value)(o:aC)(cap:Nat)
  (hw:w'.heap=w.heap.push (.cells cs T)) (ho:w'.os=w.os) (ht:w'.tape=w.tape) (hu:w'.output=w.output)
  (hm:o.mu=.m) (h1:o.es.length<=cap) (h2:cap * o.aP<=cs.size) (h3:0<o.aP)
  (h4:∀(i:Nat) (e:PV),o.es[i]?=some e->(cells e).length=o.aP/\∀(j:Nat) (p:PV),(cells e)[j]?=some p->∃v:Value,cs[i * o.aP+j]?=some v/\ar w (Av F h Y) Y h v p)
  (hd:yG->w.drawn<=w'.drawn:=by first |exact λ_=>TI _ |exact λ_=>Vn _):
  aG w' F (Y++[(w.heap.size,cap)]) (h++[o])/\cP w h Y w' (h++[o]) (Y++[(w.heap.size,cap)]):=
 H.LW (.cells cs T) o cap hw ho ht hu hm (λhs xj=>.inl ⟨T,cs,xj,h1,h2,h3,λi e he=>⟨(h4 i e he).1,λj p hp=>by
  obtain⟨v,k1,k2⟩:=(h4 i e he).2 j p hp;exact⟨v,k1,k2.mono hs⟩⟩⟩) hd
theorem aG.Jk{w:World}{F:Nat->Prop}{Y:List (Nat×Nat)}{h:aa}(H:aG w F Y h):
  aG (w.alloc (.map #[] 0)) F (Y++[(w.heap.size,0)]) (newObj h 0 [])/\cP w h Y (w.alloc (.map #[] 0)) (newObj h 0 []) (Y++[(w.heap.size,0)]):=
 H.LW (w':=w.alloc (.map #[] 0)) (.map #[] 0) {mu:=.m,ep:=0,aP:=0,es:=[]} 0 rfl rfl rfl rfl rfl (λhs xj=>.inr ⟨rfl,#[],0,xj,rfl,λi e he=>by simp at he⟩)
theorem aG.LX{w w':World}{F:Nat->Prop}{Y:List (Nat×Nat)}{h:aa}(H:aG w F Y h){id:Nat}{o:aC}{bc:Nat×Nat}(eo:h[id]?=some o)(eb:Y[id]?=some bc)(em:o.mu=.m)
  (eD:List PV) (hY:Nat) (bW:Nat×Nat)
  (ez:w.heap.size<=w'.heap.size) (m':∀b,b<w.heap.size->b≠bc.1->w'.heap[b]?=w.heap[b]?)
  (j3:(bW=bc/\(o.ep=hY->eD.length=o.es.length\/o.aP=0))\/(w.heap.size<=bW.1/\o.ep<hY))
  (Iy:o.ep<=hY) (ho:w'.os=w.os) (ht:w'.tape=w.tape) (hu:w'.output=w.output)
  (hR:cP w h Y w' (h.set id {o with es:=eD,ep:=hY}) (Y.set id bW)->gq w' (Av F (h.set id {o with es:=eD,ep:=hY}) (Y.set id bW)) (Y.set id bW) (h.set id {o with es:=eD,ep:=hY}) {o with es:=eD,ep:=hY} bW)
  (hd:yG->w.drawn<=w'.drawn:=by first |exact λ_=>TI _ |exact λ_=>Vn _):
  aG w' F (Y.set id bW) (h.set id {o with es:=eD,ep:=hY})/\cP w h Y w' (h.set id {o with es:=eD,ep:=hY}) (Y.set id bW):=by
 have hlen:=H.len;have bE:=ae eo;have RG:bc.1<w.heap.size:=Mb.lt H ⟨id,o,bc,eo,eb,em,rfl⟩;have im:(h.set id {o with es:=eD,ep:=hY})[id]?=some {o with es:=eD,ep:=hY}:=by simp[bE]
 have bself:(Y.set id bW)[id]?=some bW:=by simp[hlen,bE]
 have gV:∀k,k≠id->(h.set id {o with es:=eD,ep:=hY})[k]?=h[k]?:=λk hk=>TN (Um hk)
 have both:∀k,k≠id->(Y.set id bW)[k]?=Y[k]?:=λk hk=>TN (Um hk)
 have hs:cP w h Y w' (h.set id {o with es:=eD,ep:=hY}) (Y.set id bW):=by
  refine⟨ez,by simp,λb hb hm=>m' b hb (λe=>hm ⟨id,o,bc,eo,eb,em,e.symm⟩),?_,?_,?_,ho,ht,hu,hd⟩
  ·rintro b hb ⟨k,o',c',e1,e2,e3,rfl⟩
   by_cases hk:k=id
   ·subst hk;rw[bself]at e2;obtain rfl:=TF e2;rcases j3 with⟨rfl,_⟩|⟨uU,_⟩;exact⟨k,o,bW,eo,eb,em,rfl⟩;omega
   ·rw[gV k hk]at e1;rw[both k hk]at e2;exact⟨k,o',c',e1,e2,e3,rfl⟩
  ·intro k o' c' e1 e2 e3
   by_cases hk:k=id
   ·subst hk;rw[eo]at e1;rw[eb]at e2;obtain rfl:=TF e1;obtain rfl:=TF e2;refine⟨_,bW,im,bself,by rw[em];simp,⟨Iy,λh=>h⟩,λe=>⟨rfl,?_,?_⟩⟩
    ·intro hz
     rcases j3 with⟨_,hl⟩|⟨_,cx⟩;exact(hl e).resolve_right (by omega);simp at e;omega
    ·rcases j3 with⟨hl,_⟩|⟨_,cx⟩
     ·exact hl
     ·simp at e;omega
   exact⟨o',c',by rw[gV k hk];exact e1,by rw[both k hk];exact e2,e3,⟨TI _,λh=>h⟩,λ_=>⟨rfl,λ_=>rfl,rfl⟩⟩
  ·intro k o' e1 e2
   have hk:k≠id:=by
    rintro rfl;rw[eo]at e1;obtain rfl:=TF e1;exact e2 em
   exact⟨by rw[gV k hk];exact e1,both k hk⟩
 refine⟨⟨by simp[hlen],λb hb=>T4 (H.fin b hb) ez,?_,?_,?_,H.di.pG hs⟩,hs⟩
 ·intro k o' c' e1 e2 e3
  by_cases hk:k=id
  ·subst hk;rw[im]at e1;rw[bself]at e2;obtain rfl:=TF e1;obtain rfl:=TF e2;exact hR hs
  ·rw[gV k hk]at e1;rw[both k hk]at e2;have r:=H.obj k o' c' e1 e2 e3;exact gq.mono hs (m' _ r.lt (λe=>H.eZ id k o o' bc c' (Um hk) eo e1 eb e2 em e3 e.symm)) r
 ·intro k k' o1 o2 Fm zg aU e1 e2 e3 e4 m1 m2
  by_cases hk:k=id
  ·subst hk;have fv:k'≠k:=Um aU;rw[gV k' fv]at e2;rw[both k' fv]at e4;rw[bself]at e3;obtain rfl:=TF e3;rcases j3 with⟨rfl,_⟩|⟨uU,_⟩;exact H.eZ k k' o o2 bW zg aU eo e2 eb e4 em m2
   ·have:=(H.obj k' o2 zg e2 e4 m2).lt;omega
  ·rw[gV k hk]at e1;rw[both k hk]at e3
   by_cases fv:k'=id
   ·subst fv;rw[bself]at e4;obtain rfl:=TF e4;rcases j3 with⟨rfl,_⟩|⟨uU,_⟩;exact λe=>H.eZ k' k o o1 bW Fm (Um aU) eo e1 eb e3 em (by rw[m1];simp) e.symm
    ·have:=Mb.lt H ⟨k,o1,Fm,e1,e3,m1,rfl⟩;omega
   ·rw[gV k' fv]at e2;rw[both k' fv]at e4;exact H.eZ k k' o1 o2 Fm zg aU e1 e2 e3 e4 m1 m2
 ·intro k o' c' e1 e2 e3
  by_cases hk:k=id
  ·subst hk;rw[bself]at e2;obtain rfl:=TF e2;rcases j3 with⟨rfl,_⟩|⟨uU,_⟩;exact H.out k o bW eo eb (.inl em)
   intro hf;have:=H.fin _ hf;omega
  ·rw[gV k hk]at e1;rw[both k hk]at e2;exact H.out k o' c' e1 e2 e3
theorem aG.set{w w':World}{F:Nat->Prop}{Y:List (Nat×Nat)}{h:aa}(H:aG w F Y h){id:Nat}{o:aC}{bc:Nat×Nat}(eo:h[id]?=some o)(eb:Y[id]?=some bc)(em:o.mu=.m)
  (T:TypeId) (cs:Array Value) (eD:List PV) (hY:Nat) (bW:Nat×Nat)
  (ez:w.heap.size<=w'.heap.size) (dL:w'.heap[bW.1]?=some (.cells cs T (0,0))) (m':∀b,b<w.heap.size->b≠bc.1->w'.heap[b]?=w.heap[b]?)
  (j3:(bW=bc/\(o.ep=hY->eD.length=o.es.length))\/(w.heap.size<=bW.1/\o.ep<hY))
  (Iy:o.ep<=hY) (ho:w'.os=w.os) (ht:w'.tape=w.tape) (hu:w'.output=w.output)
  (h1:eD.length<=bW.2) (h2:bW.2 * o.aP<=cs.size)
  (h4:∀(i:Nat) (e:PV),eD[i]?=some e->(cells e).length=o.aP/\∀(j:Nat) (p:PV),(cells e)[j]?=some p->∃v:Value,cs[i * o.aP+j]?=some v/\ar w (Av F h Y) Y h v p)
  (hd:yG->w.drawn<=w'.drawn:=by first |exact λ_=>TI _ |exact λ_=>Vn _) (H8:0<o.aP:=by first |assumption |omega):
  aG w' F (Y.set id bW) (h.set id {o with es:=eD,ep:=hY})/\cP w h Y w' (h.set id {o with es:=eD,ep:=hY}) (Y.set id bW):=by
 have Jl:0<o.aP:=H8
 exact H.LX eo eb em eD hY bW ez m' (j3.imp (λh=>⟨h.1,λe=>.inl (h.2 e)⟩) (λh=>h)) Iy ho ht hu (λhs=>.inl ⟨T,cs,dL,h1,h2,Jl,λi e he=>⟨(h4 i e he).1,λj p hp=>by
  obtain⟨v,k1,k2⟩:=(h4 i e he).2 j p hp;exact⟨v,k1,k2.mono hs⟩⟩⟩) hd
theorem aG.qz{w w':World}{F A:Nat->Prop}{Y:List (Nat×Nat)}{h:aa}(H:aG w F Y h){b cap len sz:Nat}{es:List PV}(hz:0<sz:=by first |assumption |omega):
  ar w' A (Y++[(b,cap)]) (newObj h sz es) (.slice (some ⟨b,0,none⟩) len cap) (.an h.length 0 0 len):=
 .an _ _ _ _ _ {mu:=.m,ep:=0,aP:=sz,es} (b,cap) ⟨_,_,_,rfl⟩ (by simp[newObj]) (by rw[<-H.len];simp) (by simp) ⟨UG _,hz⟩ (λ_ _=>⟨cap,by simp,by simp⟩)
theorem aG.Jm{w w':World}{F A:Nat->Prop}{Y:List (Nat×Nat)}{h:aa}(H:aG w F Y h){b cap sz:Nat}{es:List PV}(hz:0<sz:=by first |assumption |omega):
  ar w' A (Y++[(b,cap)]) (newObj h sz es) (.pointer (some ⟨b,0,none⟩)) (.ptr h.length 0 0 0):=
 .ptr _ _ _ _ _ {mu:=.m,ep:=0,aP:=sz,es} (b,cap) ⟨_,rfl⟩ (by simp[newObj]) (by rw[<-H.len];simp) (by simp) ⟨UG _,hz⟩ (λ_=>by simp)
theorem aG.AL{w w':World}{F A:Nat->Prop}{Y:List (Nat×Nat)}{h:aa}(H:aG w F Y h){id:Nat}{o:aC}(eo:h[id]?=some o)(em:o.mu=.m){b cap len ep:Nat}{es:List PV}(hz:0<o.aP:=by first |assumption |omega):
  ar w' A (Y.set id (b,cap)) (h.set id {o with es:=es,ep:=ep}) (.slice (some ⟨b,0,none⟩) len cap) (.an id ep 0 len):=
 .an _ _ _ _ _ {o with es:=es,ep:=ep} (b,cap) ⟨_,_,_,rfl⟩ (by simp[ae eo]) (by simp[H.len,ae eo]) (by simp[em]) ⟨TI _,hz⟩ (λ_ _=>⟨cap,by simp,by simp⟩)
def vq(P:Program)(lv:Nat)(w:World)(F:Nat->Prop)(Y:List (Nat×Nat))(h:aa)(s:Sem Value)(p:PV)(h':aa):Prop:=
 ∃v w' Y',s.run P w=.ok v w'/\ar w' (Av F h' Y') Y' h' v p/\aG w' F Y' h'/\cP w h Y w' h' Y'/\(lv<=1->cc w w')
theorem vq.still{P:Program}{lv:Nat}{w:World}{F:Nat->Prop}{Y:List (Nat×Nat)}{h:aa}(H:aG w F Y h){s:Sem Value}{p:PV}{v:Value}(e:s.run P w=.ok v w)(r:ar w (Av F h Y) Y h v p):
  vq P lv w F Y h s p h:=⟨v,w,Y,e,r,H,cP.refl w h Y,λ_=>cc.refl w⟩
variable{P:Program}{w:World}{F:Nat->Prop}{Y:List (Nat×Nat)}{h:aa}
theorem bQ{t:TypeId}{n:Nat}(e:bI P t=some n)(w:World):(sizeOf t).run P w=.ok n w:=by
 unfold bI at e
 cases hi:P.info? t with
 |none=>rw[hi]at e;simp at e
 |some i=>rw[hi]at e;simp at e;subst e;simp[sizeOf,typeInfo,hi]
theorem aR{t:TypeId}{d:TypeDesc}(e:P.underlying t=some d)(w:World):(underlying t).run P w=.ok d w:=by simp[underlying,e]
theorem nY{t:TypeId}{b:Bool}(e:A5 P t=some b)(w:World):(isAgg t).run P w=.ok b w:=by
 unfold A5 at e
 cases hu:P.underlying t with
 |none=>rw[hu]at e;simp at e
 |some d=>
  rw[hu]at e;simp at e;subst e;simp only[isAgg,Sem.run_bind,aR hu,Result.andThen_ok]
  split <;>rename_i h <;>simp_all
theorem AS(w:World)(A:Nat->Prop)(Y:List (Nat×Nat))(h:aa)(v:Value):ar w A Y h v (KN v):=by
 unfold KN
 split
 exact .val (.int _ _);exact .val (.bool _);exact .val (.str _);exact .val (.dP none 0 true (λ_=>rfl));exact .val .c9;exact .val .ay;exact .val .eK;exact .any _
theorem zy(w:World)(A:Nat->Prop)(Y:List (Nat×Nat))(h:aa)(v:Value):ar w A Y h v (cv v):=by
 unfold cv
 split
 ·rename_i cs
  have:=ar.agg (w:=w) (A:=A) (Y:=Y) (h:=h) cs.toList (cs.toList.map KN) (by simp) (λj hj=>by
   have Bn:j<cs.toList.length:=by simpa using hj
   simp only[List.getD,TS];rw[TJ Bn];simpa using AS w A Y h _)
  simpa using this
 exact AS w A Y h _
theorem pf{t:TypeId}{z:PV}(e:gv P t=some z)(w:World)(A:Nat->Prop)(Y:List (Nat×Nat))(h:aa):∃v,(zeroValue t).run P w=.ok v w/\ar w A Y h v z:=by
 unfold gv at e
 cases hi:P.info? t with
 |none=>rw[hi]at e;simp at e
 |some i=>
  rw[hi]at e;simp only[VG]at e
  cases hz:i.zero with
  |none=>rw[hz]at e;simp at e
  |some v=>
   rw[hz]at e;simp at e;subst e;exact⟨v,by simp[zeroValue,typeInfo,hi,hz],zy w A Y h v⟩
theorem ar.cells{A:Nat->Prop}{v:Value}{p:PV}(hv:ar w A Y h v p)(hp:(Pm.cells p).all aZ=true):
  v.cells.size=(Pm.cells p).length/\(∀(j:Nat) (q:PV),(Pm.cells p)[j]?=some q->∃u:Value,v.cells[j]?=some u/\ar w A Y h u q/\u.oneCell'=true):=by
 have one:∀(u:Value) (q:PV),ar w A Y h u q->aZ q=true->u.oneCell'=true/\u.cells= #[u]:=by
  intro u q r ho
  cases r with
  |val hs=>cases hs <;>first |exact⟨rfl,rfl⟩|simp[aZ]at ho
  |undef=>simp[aZ]at ho
  |any=>simp[aZ]at ho
  |an v id ep off len o bc h0=>obtain⟨a,l,c,rfl⟩:=h0;exact⟨rfl,rfl⟩
  |ptr v id ep i off o bc h0=>obtain⟨a,rfl⟩:=h0;exact⟨rfl,rfl⟩
  |fe v id o bc h0=>obtain⟨a,rfl⟩:=h0;exact⟨rfl,rfl⟩
  |agg=>simp[aZ]at ho
  |cT=>simp[aZ]at ho
  |fn=>exact⟨rfl,rfl⟩
  |j4=>exact⟨rfl,rfl⟩
 have single:(∀cs,p≠.agg cs)->v.cells.size=(Pm.cells p).length/\(∀(j:Nat) (q:PV),(Pm.cells p)[j]?=some q->∃u:Value,v.cells[j]?=some u/\ar w A Y h u q/\u.oneCell'=true):=by
  intro FD
  have hc:Pm.cells p=[p]:=by cases p <;>first |rfl |exact absurd rfl (FD _)
  rw[hc]at hp ⊢;obtain⟨h1,h2⟩:=one v p hv (by simpa using hp);rw[h2];refine⟨rfl,λj q hq=>?_⟩
  cases j with
  |zero=>simp at hq;subst hq;exact⟨v,rfl,hv,h1⟩
  |succ j=>simp at hq
 cases p with
 |agg cs=>
  obtain⟨vs,rfl,hl,hr⟩:=hv.nC;refine⟨by simpa[Value.cells,Pm.cells]using hl,λj q hq=>?_⟩;have Mo:cs[j]?=some q:=hq;have hj:=ae Mo;have qd:j<vs.length:=by omega
  have OU:=hr j hj;have e1:vs.getD j Go.undef=vs[j]:=by simp[List.getD,qd]
  have e2:cs.getD j .any=q:=by simp[List.getD,Mo]
  rw[e1,e2]at OU;have ho:aZ q=true:=TH.1 hp q (TU Mo);exact⟨vs[j],by simp[Value.cells,qd],OU,(one _ _ OU ho).1⟩
 |_=>exact single (λcs=>by simp)
theorem uw(H:aG w F Y h){v:Value}{p:PV}{cs:List PV}(hv:ar w (Av F h Y) Y h v p)(e:cV h p=some cs):
  ∃b off,(cs≠[]->v=.pointer (some ⟨b,off,none⟩))/\∀(j:Nat) (q:PV),cs[j]?=some q->∃u:Value,w.cell? ⟨b,off+j,none⟩=some u/\ar w (Av F h Y) Y h u q:=by
 unfold cV at e
 split at e
 ·rename_i iw
  obtain rfl:=TF e;have hs:=hv.nZ
  cases hs with
  |cU b off _ j0 h1 h2 h3 h4=>
   refine⟨b,off,λ_=>rfl,λj q hq=>?_⟩;have hj:=ae hq;refine⟨j0 j,h3 j hj,?_⟩;have:=h4 j hj;rw[T7,hq]at this;exact .val this
 ·rename_i id ep i off
  split at e
  ·rename_i o ho
   obtain⟨e1,e2,e3⟩:=getM_some ho
   split at e
   ·rename_i el eE
    obtain rfl:=TF e;obtain⟨bc,hb⟩:=cm H.len e1;obtain⟨h1,h2,h3⟩:=hv.qu;have:=h3 o bc e1 hb e3 e2;obtain⟨T,cs,k1,k2,k3,k4,k5⟩:=(H.obj id o bc e1 hb e3).c (h2 o e1).2;refine⟨bc.1,i * o.aP+off,λ_=>this,λj q hq=>?_⟩;rw[T9]at hq;obtain⟨u,m1,m2⟩:=(k5 i el eE).2 (off+j) q hq;refine⟨u,?_,m2⟩;rw[cell_of_row w bc.1 _ cs T (0,0) k1,US];exact m1
   cases e
  cases e
 cases e
theorem cG(b off n:Nat):(⟨b,off,none⟩:Addr).add n=⟨b,off+n,none⟩:=by unfold Addr.add;split <;>simp_all
theorem rU(w:World)(b off n:Nat)(R:Nat->Value->Prop)(hc:∀j,j<n->∃u,w.cell? ⟨b,off+j,none⟩=some u/\R j u):
  ∃vs:List Value,vs.length=n/\(loadCells ⟨b,off,none⟩ n).run P w=.ok vs.toArray w/\∀j,j<n->R j (vs.getD j undef):=by
 obtain⟨vs,hl,hr⟩:=lJ n hc;refine⟨vs,hl,?_,λj hj=>(hr j hj).2⟩
 have:=run_loadCells_list (P:=P) (w:=w) ⟨b,off,none⟩ vs (λj v hv=>by
  have hj:=ae hv;rw[cG];have:=(hr j (by omega)).1;rwa[T7,hv]at this)
 rwa[hl]at this
theorem xE(H:aG w F Y h){v:Value}{p q:PV}{t:TypeId}(hv:ar w (Av F h Y) Y h v p)(e:fC P h t p=some q):
  ∃u,(Instr.loadAt t v).run P w=.ok u w/\ar w (Av F h Y) Y h u q:=by
 unfold fC at e
 split at e
 ·rename_i sz cs h1 h2 h3
  split at e
  ·rename_i hle
   obtain rfl:=TF e;obtain⟨b,off,k1,k2⟩:=uw H hv h3
   by_cases hn:cs=[]
   subst hn;simp at hle;omega
   ·have hle:=hle.2;rw[k1 hn]
    obtain⟨vs,l1,l2,l3⟩:=rU (P:=P) w b off sz (λj u=>ar w (Av F h Y) Y h u (cs.getD j .any)) (λj hj=>by
     have Bn:j<cs.length:=by omega
     obtain⟨u,m1,m2⟩:=k2 j cs[j] (TJ Bn);exact⟨u,m1,by simpa[List.getD,Bn]using m2⟩)
    refine⟨.agg vs.toArray,?_,?_⟩;simp only[Instr.loadAt,Instr.sureAddr,Sem.run_bind,Sem.run_pure,Result.andThen_ok,loadVar,nY h2,bQ h1,l2,if_true]
    ·refine .agg vs _ (by simp;omega) (λj hj=>?_);simp at hj;have:=l3 j (by omega);simpa[List.getD,TX,show j<sz by omega]using this
  cases e
 ·rename_i sz cs h1 h2 h3
  obtain⟨b,off,k1,k2⟩:=uw H hv h3
  cases cs with
  |nil=>simp at e
  |cons c r=>
   simp at e;subst e;obtain⟨u,m1,m2⟩:=k2 0 c rfl;rw[k1 (by simp)];refine⟨u,?_,m2⟩;simp only[Instr.loadAt,Instr.sureAddr,Sem.run_bind,Sem.run_pure,Result.andThen_ok,loadVar,nY h2,TR,if_false,run_load];rw[show(⟨b,off,none⟩:Addr)=⟨b,off+0,none⟩ by simp,m1]
 cases e
theorem n3{s:TypeId}{f off:Nat}{ft:TypeId}(e:kV P s f=some (off,ft))(a:Addr)(w:World):
  (Instr.fieldAt s (.pointer (some a)) f).run P w=.ok (.pointer (some (a.add off))) w:=by
 unfold kV at e
 split at e
 ·rename_i fs hu
  split at e
  ·rename_i fl hf
   split at e
   ·rename_i sz hs
    split at e
    cases e
    ·rename_i hz
     simp at e;obtain⟨rfl,rfl⟩:=e;simp[Instr.fieldAt,aR hu,hf,Instr.sureAddr,fieldPlace,bQ hs,hz]
   cases e
  cases e
 cases e
theorem sY(H:aG w F Y h){v:Value}{p q:PV}{s:TypeId}{f:Nat}(hv:ar w (Av F h Y) Y h v p)(e:fu P s p f=some q):
  ∃u,(Instr.fieldAt s v f).run P w=.ok u w/\ar w (Av F h Y) Y h u q:=by
 unfold fu at e
 split at e
 ·rename_i off ft cs h1
  split at e
  ·rename_i cx
   obtain rfl:=TF e;have hs:=hv.nZ
   cases hs with
   |cU b o _ j0 k1 k2 k3 k4=>
    refine⟨_,n3 h1 _ w,?_⟩;rw[cG];refine .val (.cU b (o+off) _ (λj=>j0 (off+j)) ?_ k2 (λj hj=>?_) (λj hj=>?_))
    ·intro hn
     have:=congrArg List.length hn;simp at this;omega
    ·simp at hj;have:=k3 (off+j) (by omega);rwa[<-US]at this
    ·simp at hj;have:=k4 (off+j) (by omega);simpa[List.getD,T9]using this
  cases e
 ·rename_i off ft id ep i o h1
  obtain rfl:=TF e
  cases hv with
  |val hs=>cases hs
  |ptr _ _ _ _ _ oo bc h0 k1 k2 k3 k4 k5=>
   obtain⟨a,rfl⟩:=h0;refine⟨_,n3 h1 _ w,.ptr _ id ep i (o+off) oo bc ⟨_,rfl⟩ k1 k2 k3 k4 (λn4=>?_)⟩;have:=k5 n4;simp at this;rw[this,cG,US]
 cases e
theorem ar.part{A:Nat->Prop}{v:Value}{cs:List PV}(hv:ar w A Y h v (.agg cs)){t:TypeId}{off:Nat}{q:PV}(e:qK P t cs off=some q):
  ∃vs:Array Value,v=.agg vs/\∃u,(part t vs off).run P w=.ok u w/\ar w A Y h u q:=by
 obtain⟨vs,rfl,hl,hr⟩:=hv.nC;refine⟨vs.toArray,rfl,?_⟩;unfold qK at e
 split at e
 ·rename_i sz h1 h2
  split at e
  ·rename_i hle
   obtain rfl:=TF e;refine⟨.agg ((vs.drop off).take sz).toArray,?_,.agg _ _ (by simp;omega) (λj hj=>?_)⟩
   ·simp only[Go.part,Sem.run_bind,nY h1,bQ h2,Result.andThen_ok,if_true,Sem.run_pure]
    congr 2
    apply UH;simp[List.extract_eq_take_drop]
   ·simp at hj;have:=hr (off+j) (by omega);simpa[List.getD,TX,T9,show j<sz by omega]using this
  cases e
 ·rename_i sz h1 h2
  split at e
  ·rename_i c hc
   obtain rfl:=TF e;have hj:=ae hc;have:=hr off hj;refine⟨vs[off]'(by omega),?_,?_⟩;simp[Go.part,nY h1,show off<vs.length by omega];simpa[List.getD,hc,show off<vs.length by omega]using this
  cases e
 cases e
theorem BO{v:Value}{p q:PV}{s:TypeId}{f:Nat}{A:Nat->Prop}(hv:ar w A Y h v p)(e:uS P s p f=some q):
  ∃u,(Instr.field s v f).run P w=.ok u w/\ar w A Y h u q:=by
 unfold uS at e
 split at e
 ·rename_i fs cs hu
  split at e
  ·rename_i fl hf
   obtain⟨vs,rfl,u,h1,h2⟩:=hv.part e;exact⟨u,by simp[Instr.field,aR hu,asAgg,hf,h1],h2⟩
  cases e
 cases e
theorem BP{v vi:Value}{p i q:PV}{t:TypeId}{A:Nat->Prop}(hv:ar w A Y h v p)(hi:ar w A Y h vi i)(e:qL P t p i=some q):
  ∃u,(Instr.index t v vi).run P w=.ok u w/\ar w A Y h u q:=by
 unfold qL at e
 split at e
 ·rename_i n el cs k i hu
  obtain rfl:=hi.cr
  split at e
  ·rename_i sz hs
   split at e
   ·rename_i hc
    obtain⟨vs,rfl,u,h1,h2⟩:=hv.part e;exact⟨u,by simp[Instr.index,asIntOf,aR hu,hc,bQ hs,h1],h2⟩
   cases e
  cases e
 ·rename_i s k i hu
  obtain rfl:=hi.cr;obtain rfl:=hv.gg
  split at e
  ·rename_i hc
   split at e
   ·rename_i b hb
    obtain rfl:=TF e;exact⟨_,by simp[Instr.index,asIntOf,aR hu,hc,hb],.val (.int _ _)⟩
   cases e
  cases e
 cases e
theorem aS.fZ{A:Nat->Prop}{v:Value}{full:Bool}{es:List PV}(hv:aS w A v (.ab full es)):∃a cap,v=.slice a es.length cap/\es.length<=cap/\(full=true->cap=es.length):=by
 cases hv with
 |dP a cap _ hf=>exact⟨a,cap,rfl,UG _,hf⟩
 |ab b off cap sz _ _ j0 h1 h2 h3=>exact⟨_,cap,rfl,h2,h3⟩
theorem sZ(H:aG w F Y h){v vi:Value}{p i q:PV}{t:TypeId}(hv:ar w (Av F h Y) Y h v p)(hi:ar w (Av F h Y) Y h vi i)(e:bT P h t p i=some q):
  ∃u,(Instr.indexAt t v vi).run P w=.ok u w/\ar w (Av F h Y) Y h u q:=by
 unfold bT at e
 split at e
 ·rename_i el full es k i hu
  obtain rfl:=hi.cr
  split at e
  ·rename_i sz hs
   split at e
   ·rename_i hc
    split at e
    ·rename_i x hx
     split at e
     ·rename_i hz
      obtain rfl:=TF e;have cx:=ae hx;have OV:=hv.dM
      cases OV with
      |dP=>simp at cx
      |ab b off cap Ay _ _ j0 k1 k2 k3 k4 k5 k6 k7 k8=>
       have ez:Ay=sz:=by
        have:=k6 i.toNat cx;rw[T7,hx]at this;exact this.symm.trans hz.2
       subst ez;refine⟨.pointer (some ⟨b,off+i.toNat * Ay,none⟩),?_,.val (.cU b _ _ (j0 i.toNat) ?_ k4 (λj hj=>?_) (λj hj=>?_))⟩;simp[Instr.indexAt,asIntOf,aR hu,hc,bQ hs,cG]
       intro hn;rw[hn]at hz;simp at hz;omega
       rw[US];exact k7 _ j cx (by omega)
       ·have:=k8 i.toNat j cx (by omega);rwa[T7 (l:=es),hx]at this
     cases e
    cases e
   cases e
  cases e
 ·rename_i el id ep off len k i hu
  obtain rfl:=hi.cr
  split at e
  ·rename_i sz o hs ho
   split at e
   ·rename_i hc
    obtain rfl:=TF e;obtain⟨e1,e2,e3⟩:=getM_some ho;obtain⟨bc,hb⟩:=cm H.len e1;obtain⟨h1,h2,h3⟩:=hv.cO;obtain⟨cap,rfl,k2⟩:=h3 o bc e1 hb e3 e2 hc.2.2.2;obtain⟨OK,Gf,rfl,Ts⟩:=hc;refine⟨.pointer (some ⟨bc.1,off * o.aP+i.toNat * o.aP,none⟩),?_,.ptr _ id ep _ 0 o bc ⟨_,rfl⟩ e1 hb e3 (h2 o e1) (λn4=>?_)⟩;simp[Instr.indexAt,asIntOf,aR hu,OK,Gf,bQ hs,cG];rw[Ur];simp
   cases e
  cases e
 ·rename_i n el cs k i hu
  obtain rfl:=hi.cr
  split at e
  ·rename_i sz hs
   split at e
   ·rename_i hc
    obtain rfl:=TF e;have OV:=hv.nZ
    cases OV with
    |cU b off _ j0 k1 k2 k3 k4=>
     refine⟨.pointer (some ⟨b,off+i.toNat * sz,none⟩),?_,.val (.cU b _ _ (λj=>j0 (i.toNat * sz+j)) ?_ k2 (λj hj=>?_) (λj hj=>?_))⟩;simp[Instr.indexAt,asIntOf,aR hu,hc.1,hc.2.1,bQ hs,cG,Instr.sureAddr]
     ·intro hn
      have:=congrArg List.length hn;simp at this;omega
     ·simp at hj;have:=k3 (i.toNat * sz+j) (by omega);rwa[<-US]at this
     ·simp at hj;have:=k4 (i.toNat * sz+j) (by omega);simpa[List.getD,T9]using this
   cases e
  cases e
 ·rename_i n el id ep kk o k i hu
  obtain rfl:=hi.cr
  split at e
  ·rename_i sz hs
   split at e
   ·rename_i hc
    obtain rfl:=TF e
    cases hv with
    |val hs=>cases hs
    |ptr _ _ _ _ _ oo bc h0 k1 k2 k3 k4 k5=>
     obtain⟨a,rfl⟩:=h0;refine⟨.pointer (some (a.add (i.toNat * sz))),?_,.ptr _ id ep kk _ oo bc ⟨_,rfl⟩ k1 k2 k3 k4 (λn4=>?_)⟩;simp[Instr.indexAt,asIntOf,aR hu,hc.1,hc.2,bQ hs,Instr.sureAddr]
     ·have:=k5 n4;simp at this;rw[this,cG,US]
   cases e
  cases e
 cases e
theorem uo{h:aa}{id:Nat}{o:aC}(e:wg h id=some o):h[id]?=some o/\o.ep=0/\o.mu≠.x/\o.aP=0:=by
 unfold wg at e
 split at e
 ·rename_i o' ho
  split at e
  ·rename_i hz
   obtain rfl:=TF e;obtain⟨h1,h2,h3⟩:=getM_some ho;exact⟨h1,h2,h3,hz⟩
  cases e
 cases e
theorem D0(H:aG w F Y h){v:Value}{id:Nat}{o:aC}(hv:ar w (Av F h Y) Y h v (.fe id))(ho:wg h id=some o):
  ∃(bc:Nat×Nat) (es:Array MapEntry) (clock:Nat),v=.map (some bc.1)/\w.heap[bc.1]?=some (.map es clock)/\es.size=o.es.length/\
   (∀(i:Nat) (e:PV),o.es[i]?=some e->∃(k v:PV) (m:MapEntry),e=.agg [k,v]/\es[i]?=some m/\ar w (Av F h Y) Y h m.key k/\ar w (Av F h Y) Y h m.val v):=by
 obtain⟨e1,e2,e3,e4⟩:=uo ho;obtain⟨bc,hb⟩:=cm H.len e1;obtain⟨_,es,clock,k1,k2,k3⟩:=(H.obj id o bc e1 hb e3).m e4;exact⟨bc,es,clock,hv.xw e1 hb e2,k1,k2,k3⟩
theorem iZ{b clock:Nat}{es:Array MapEntry}(e:w.heap[b]?=some (.map es clock)):(getObj b).run P w=.ok (.map es clock) w:=by simp[getObj,Sem.run,e]
theorem Gp(H:aG w F Y h){v:Value}{p q:PV}{t:TypeId}{ts:Array TypeId}{ty:TypeId}{rest:List Value}(ht:ts[0]?=some t)(hv:ar w (Av F h Y) Y h v p)(e:mL P h t p=some q):
  (∃u,(Builtin.len_ ts ty (v::rest).toArray).run P w=.ok u w/\ar w (Av F h Y) Y h u q):=by
 unfold mL at e
 split at e
 ·rename_i s hu
  obtain rfl:=TF e;obtain rfl:=hv.gg;exact⟨_,by simp[Builtin.len_,ht,aR hu,goInt],.val (.int _ _)⟩
 ·rename_i n el hu
  obtain rfl:=TF e;refine⟨_,?_,.val (.int _ _)⟩
  cases v <;>simp[Builtin.len_,ht,aR hu,goInt]
 ·rename_i el full es hu
  obtain rfl:=TF e;obtain⟨a,cap,rfl,_⟩:=hv.dM.fZ;exact⟨_,by simp[Builtin.len_,ht,aR hu,goInt],.val (.int _ _)⟩
 ·rename_i hu
  obtain rfl:=TF e;obtain rfl:=hv.xu;exact⟨_,by simp[Builtin.len_,ht,aR hu,goInt],.val (.int _ _)⟩
 ·rename_i kt et id hu
  split at e
  ·rename_i o ho
   obtain rfl:=TF e;obtain⟨bc,es,clock,k1,k2,k3,k4⟩:=D0 H hv ho;subst k1;exact⟨_,by simp[Builtin.len_,ht,aR hu,goInt,iZ k2,k3],.val (.int _ _)⟩
  cases e
 ·rename_i el id ep off len hu
  split at e
  ·rename_i o ho
   split at e
   ·rename_i hle
    obtain rfl:=TF e;obtain⟨e1,e2,e3⟩:=getM_some ho;obtain⟨bc,hb⟩:=cm H.len e1;obtain⟨h1,h2,h3⟩:=hv.cO;obtain⟨cap,rfl,k2⟩:=h3 o bc e1 hb e3 e2 hle;exact⟨_,by simp[Builtin.len_,ht,aR hu,goInt],.val (.int _ _)⟩
   cases e
  cases e
 cases e
theorem eI{α:Type}(l m:List α)(a k:Nat)(hl:a+m.length<=l.length):
  (l.take a++m++l.drop (a+m.length))[k]?=if k<a then l[k]? else if k<a+m.length then m[k - a]? else l[k]?:=by
 by_cases h1:k<a
 rw[if_pos h1,UB,TG (by simp;omega),TX,if_pos h1]
 ·rw[if_neg h1]
  by_cases h2:k<a+m.length
  ·rw[if_pos h2,UB,TQ (by simp;omega)];have:(List.take a l).length=a:=by simp;omega
   rw[this,TG (by omega)]
  ·rw[if_neg h2,TQ (by simp;omega),T9]
   congr 1
   simp;omega
theorem vF(off sz:Nat)(e v:PV)(hv:(Pm.cells v).length=sz):Pm.cells (eF off sz e v)=(Pm.cells e).take off++Pm.cells v++(Pm.cells e).drop (off+sz):=by
 unfold eF
 split
 ·rename_i hc
  obtain⟨rfl,h2⟩:=hc;simp[h2]
 rfl
theorem ig{i k s:Nat}(h:i<k):i * s+s<=k * s:=by
 have:=Uq s (show i+1<=k from h);rwa[Ur,Nat.one_mul]at this
theorem JE{A:Nat->Prop}{u:Value}{q:PV}(r:ar w A Y h u q)(ho:aZ q=true):u.oneCell'=true:=by
 cases r with
 |val hs=>cases hs <;>first |rfl |simp[aZ]at ho
 |undef=>simp[aZ]at ho
 |any=>simp[aZ]at ho
 |an v id ep off len o bc h0=>obtain⟨a,l,c,rfl⟩:=h0;rfl
 |ptr v id ep i off o bc h0=>obtain⟨a,rfl⟩:=h0;rfl
 |fe v id o bc h0=>obtain⟨a,rfl⟩:=h0;rfl
 |agg=>simp[aZ]at ho
 |cT=>simp[aZ]at ho
 |fn=>rfl
 |j4=>rfl
theorem BQ(H:aG w F Y h){v vx:Value}{p x:PV}{t:TypeId}{h':aa}(hv:ar w (Av F h Y) Y h v p)(hx:ar w (Av F h Y) Y h vx x)(e:fq P h t p x=some h'):
  ∃w' Y',(Instr.storeAt t v vx).run P w=.ok () w'/\aG w' F Y' h'/\cP w h Y w' h' Y':=by
 unfold fq at e
 split at e
 ·rename_i id ep i off sz hs
  split at e
  ·rename_i o ho
   split at e
   ·rename_i el eE
    split at e
    ·rename_i hc
     obtain⟨c1,c2,c3,c4⟩:=hc;obtain rfl:=TF e;obtain⟨e1,e2,e3⟩:=getM_some ho;obtain⟨bc,hb⟩:=cm H.len e1;obtain⟨h1,h2,h3⟩:=hv.qu;obtain rfl:=h3 o bc e1 hb e3 e2;obtain⟨T,cs,k1,k2,k3,k4,k5⟩:=(H.obj id o bc e1 hb e3).c (h2 o e1).2;obtain⟨x1,x2⟩:=hx.cells c3;have hi:=ae eE;have Ec:=k5 i el eE;have JF:i * o.aP+o.aP<=cs.size:=T' (ig hi) (T' (Uq _ k2) k3);have gS:i * o.aP+off+0+vx.cells.toList.length<=cs.size:=by simp[x1,c2];omega
     have Ed:=run_storeCells_at P bc.1 (i * o.aP+off) T vx.cells.toList 0 cs w k1 gS (λu hu=>by
      obtain⟨j,hj⟩:=UN hu;have OW:=ae hj;simp only[Uv]at OW;obtain⟨u',m1,m2,m3⟩:=x2 j (Pm.cells x)[j] (TJ (by omega));have:vx.cells[j]?=some u:=by simpa using hj
      rw[m1]at this;obtain rfl:=TF this;exact m3)
     simp only[UK]at Ed;have hlen:vx.cells.toList.length=sz:=by simp[x1,c2]
     rw[hlen]at Ed;refine⟨w.setRow bc.1 (cs.toList.take (i * o.aP+off)++vx.cells.toList++cs.toList.drop (i * o.aP+off+sz)).toArray,Y,?_,?_⟩
     ·simp only[Instr.storeAt,Instr.sureAddr,Sem.run_bind,Sem.run_pure,Result.andThen_ok,storeVar,bQ hs];rw[if_neg (by simp[x1,c2])];exact Ed
     ·have hY:Y=Y.set id bc:=by
       apply Uw
       intro k
       by_cases hk:k=id
       subst hk;rw[TM (by have:=H.len;have:=ae e1;omega)];exact hb;rw[TN (Um hk)]
      have:=aG.set H e1 hb c1 (w':=w.setRow bc.1 (cs.toList.take (i * o.aP+off)++vx.cells.toList++cs.toList.drop (i * o.aP+off+sz)).toArray) T
       (cs.toList.take (i * o.aP+off)++vx.cells.toList++cs.toList.drop (i * o.aP+off+sz)).toArray (o.es.set i (eF off sz el x)) o.ep bc (by simp)
       (setRow_heap w bc.1 cs _ T (0,0) k1) (λb hb aU=>setRow_other w bc.1 b _ aU) (.inl ⟨rfl,λ_=>by simp⟩) (TI _) rfl rfl rfl (by simpa using k2)
       (by simp;omega) (λi' e' KB=>?_)
      ·rw[<-hY]at this;exact this
      ·by_cases Gh:i'=i
       ·subst Gh;rw[TM hi]at KB;obtain rfl:=TF KB;rw[vF _ _ _ _ c2];refine⟨by simp[c2,Ec.1];omega,λj q hq=>?_⟩;have RX:=c2.symm;subst RX;rw[eI _ _ _ _ (by omega)]at hq
        have key:(cs.toList.take (i' * o.aP+off)++vx.cells.toList++cs.toList.drop (i' * o.aP+off+(Pm.cells x).length)).toArray[i' * o.aP+j]?=if j<off then cs[i' * o.aP+j]? else if j<off+(Pm.cells x).length then vx.cells[j - off]? else cs[i' * o.aP+j]?:=by
         rw[U5,<-hlen,eI _ _ _ _ (by rw[hlen];simp;omega),hlen]
         by_cases q1:j<off
         rw[if_pos (by omega),if_pos q1];simp
         ·rw[if_neg (by omega),if_neg q1]
          by_cases q2:j<off+(Pm.cells x).length
          ·rw[if_pos (by omega),if_pos q2];rw[show i' * o.aP+j - (i' * o.aP+off)=j - off by omega];simp
          rw[if_neg (by omega),if_neg q2];simp
        rw[key]
        split at hq
        ·rename_i cx
         obtain⟨u,m1,m2⟩:=Ec.2 j q hq;exact⟨u,by simp[cx,m1],m2⟩
        ·rename_i uU
         split at hq
         ·rename_i cx
          obtain⟨u,m1,m2,m3⟩:=x2 (j - off) q hq;exact⟨u,by rw[if_neg uU,if_pos cx];exact m1,m2⟩
         ·rename_i OX
          obtain⟨u,m1,m2⟩:=Ec.2 j q hq;exact⟨u,by rw[if_neg uU,if_neg OX];exact m1,m2⟩
       ·rw[TN (Um Gh)]at KB;obtain⟨q1,q2⟩:=k5 i' e' KB;refine⟨q1,λj q hq=>?_⟩;obtain⟨u,m1,m2⟩:=q2 j q hq;refine⟨u,?_,m2⟩;have hj:j<o.aP:=by rw[<-q1];exact ae hq
        rw[U5,<-hlen,eI _ _ _ _ (by rw[hlen];simp;omega),hlen];rcases Nat.lt_or_gt_of_ne Gh with hl |hg
        ·have:=ig (s:=o.aP) hl;rw[if_pos (by omega)];simpa using m1
        ·have:=ig (s:=o.aP) hg;rw[if_neg (by omega),if_neg (by omega)];simpa using m1
    cases e
   cases e
  cases e
 cases e
theorem AT{lv:Nat}(H:aG w F Y h){vx:Value}{x:PV}(t:TypeId)(hx:ar w (Av F h Y) Y h vx x)(h1:(Pm.cells x).all aZ=true)(h2:0<(Pm.cells x).length):
  vq P lv w F Y h (Instr.box t vx) (.ptr h.length 0 0 0) (newObj h (Pm.cells x).length [x]):=by
 obtain⟨x1,x2⟩:=hx.cells h1
 obtain⟨HH,S⟩:=aG.new H (w':=w.alloc (.cells vx.cells t)) t vx.cells {mu:=.m,ep:=0,aP:=(Pm.cells x).length,es:=[x]} 1 rfl rfl rfl rfl rfl (by simp) (by simp[x1]) h2 (λi e he=>by
  cases i with
  |zero=>
   simp at he;subst he;refine⟨rfl,λj p hp=>?_⟩;obtain⟨u,m1,m2,m3⟩:=x2 j p hp;exact⟨u,by simpa using m1,m2⟩
  |succ i=>simp at he)
 refine⟨.pointer (some ⟨w.heap.size,0,none⟩),_,_,rfl,H.Jm h2,HH,S,λ_=>cc.alloc w _⟩
theorem BR{lv:Nat}(H:aG w F Y h){z:PV}(t:TypeId)(e:gv P t=some z)(h1:(Pm.cells z).all aZ=true)(h2:0<(Pm.cells z).length):
  vq P lv w F Y h (Instr.alloc t true (.tuple #[])) (.ptr h.length 0 0 0) (newObj h (Pm.cells z).length [z]):=by
 obtain⟨v,hz,hr⟩:=pf e w (Av F h Y) Y h;obtain⟨u,w',Y',r1,r2⟩:=AT (P:=P) (lv:=lv) H t hr h1 h2;refine⟨u,w',Y',?_,r2⟩;simp only[Instr.alloc,Sem.run_bind,hz,Result.andThen_ok];exact r1
def Flat(w:World)(A:Nat->Prop)(Y:List (Nat×Nat))(h:aa)(sz:Nat)(cs:List Value)(es:List PV):Prop:=
 cs.length=es.length * sz/\∀(i:Nat) (e:PV),es[i]?=some e->(Pm.cells e).length=sz/\∀(j:Nat) (q:PV),(Pm.cells e)[j]?=some q->∃u:Value,cs[i * sz+j]?=some u/\ar w A Y h u q
theorem Flat.nil(w:World)(A:Nat->Prop)(Y:List (Nat×Nat))(h:aa)(sz:Nat):Flat w A Y h sz [] []:=⟨by simp,λi e he=>by simp at he⟩
theorem Flat.append{A:Nat->Prop}{sz:Nat}{cs iw:List Value}{es eD:List PV}(a:Flat w A Y h sz cs es)(b:Flat w A Y h sz iw eD):Flat w A Y h sz (cs++iw) (es++eD):=by
 refine⟨by simp[a.1,b.1,Ur],λi e he=>?_⟩
 by_cases hi:i<es.length
 ·rw[TG hi]at he;obtain⟨h1,h2⟩:=a.2 i e he;refine⟨h1,λj q hq=>?_⟩;obtain⟨u,k1,k2⟩:=h2 j q hq;exact⟨u,by rw[TG (ae k1)];exact k1,k2⟩
 ·rw[TQ (by omega)]at he;obtain⟨h1,h2⟩:=b.2 _ e he;refine⟨h1,λj q hq=>?_⟩;obtain⟨u,k1,k2⟩:=h2 j q hq;refine⟨u,?_,k2⟩;have hm:i * sz=(i - es.length) * sz+es.length * sz:=by rw[<-Ur];congr 1;omega
  rw[TQ (by rw[a.1,hm];omega),a.1,hm];rw[show(i - es.length) * sz+es.length * sz+j - es.length * sz=(i - es.length) * sz+j by omega];exact k1
theorem Flat.take{A:Nat->Prop}{sz:Nat}{cs:List Value}{es:List PV}(a:Flat w A Y h sz cs es)(n:Nat)(hn:n<=es.length):Flat w A Y h sz (cs.take (n * sz)) (es.take n):=by
 have hle:n * sz<=es.length * sz:=Uq _ hn;refine⟨by simp only[UF,a.1];rw[Vc hn,Vc hle],λi e he=>?_⟩;rw[TX]at he
 split at he
 ·rename_i hi
  obtain⟨h1,h2⟩:=a.2 i e he;refine⟨h1,λj q hq=>?_⟩;obtain⟨u,k1,k2⟩:=h2 j q hq;refine⟨u,?_,k2⟩;have hj:=ae hq;have:=ig (s:=sz) hi;rw[TX,if_pos (by omega)];exact k1
 cases he
theorem Flat.Gq{A:Nat->Prop}{sz:Nat}{cs:List Value}{es:List PV}(a:Flat w A Y h sz cs es)(hs:0<sz)(ho:es.all (λv=>decide ((Pm.cells v).length=sz)&& (Pm.cells v).all aZ)=true):∀u∈cs,u.oneCell'=true:=by
 intro u hu
 obtain⟨k,hk⟩:=UN hu;have Bk:=ae hk;rw[a.1]at Bk;have hi:k / sz<es.length:=(Nat.div_lt_iff_lt_mul hs).2 Bk;have eE:=TJ hi;obtain⟨h1,h2⟩:=a.2 _ _ eE;have hj:k % sz<(Pm.cells es[k / sz]).length:=by rw[h1];exact Nat.mod_lt _ hs
 obtain⟨u',m1,m2⟩:=h2 _ _ (TJ hj);rw[VP,Nat.div_add_mod,hk]at m1;obtain rfl:=TF m1;have cZ:=TH.1 ho _ (Up hi);simp only[TK]at cZ;exact JE m2 (TH.1 cZ.2 _ (Up hj))
theorem iY(H:aG w F Y h){v:Value}{p:PV}{ys:List PV}{sz:Nat}(hv:ar w (Av F h Y) Y h v p)(e:bC h p=some ys)(hz:∀y∈ys,(Pm.cells y).length=sz):
  ∃a cap,v=.slice a ys.length cap/\ys.length<=cap/\∃cs:List Value,Flat w (Av F h Y) Y h sz cs ys/\
   (∀w',w'.heap=w.heap->∀n,n<=ys.length->(Builtin.firstCells sz n v).run P w'=.ok (cs.take (n * sz)).toArray w'):=by
 have main:∀(b off cap:Nat) (R:Nat->Nat->Value->Prop),(∀i j,i<ys.length->j<sz->∃u,w.cell? ⟨b,off+(i * sz+j),none⟩=some u/\R i j u)->
   ∃cs:List Value,cs.length=ys.length * sz/\(∀i j,i<ys.length->j<sz->∃u,cs[i * sz+j]?=some u/\R i j u)/\
    ∀w',w'.heap=w.heap->∀n,n<=ys.length->(Builtin.firstCells sz n (.slice (some ⟨b,off,none⟩) ys.length cap)).run P w'=.ok (cs.take (n * sz)).toArray w':=by
  intro b off cap R hc
  obtain⟨cs,l1,l2⟩:=lJ (R:=λk u=>w.cell? ⟨b,off+k,none⟩=some u/\R (k / sz) (k % sz) u) (ys.length * sz) (λk hk=>by
   have hs:0<sz:=by
    rcases Nat.eq_zero_or_pos sz with h0 |h0;subst h0;simp at hk;exact h0
   obtain⟨u,m1,m2⟩:=hc (k / sz) (k % sz) ((Nat.div_lt_iff_lt_mul hs).2 hk) (Nat.mod_lt _ hs);refine⟨u,?_,m2⟩;rw[<-m1,VP,Nat.div_add_mod])
  have at_k:∀i j,i<ys.length->j<sz->i * sz+j<ys.length * sz:=λi j hi hj=>by have:=ig (s:=sz) hi;omega
  refine⟨cs,l1,λi j hi hj=>?_,λw' yB n hn=>?_⟩
  ·have hk:=at_k i j hi hj;have:=(l2 (i * sz+j) hk).2;have hs:0<sz:=by omega
   rw[show(i * sz+j) / sz=i by rw[VP,Nat.mul_add_div hs,Nat.div_eq_of_lt hj,UK],show(i * sz+j) % sz=j by rw[VP,Nat.mul_add_mod,Nat.mod_eq_of_lt hj]]at this;refine⟨cs[i * sz+j]'(by omega),TJ _,?_⟩;simpa[List.getD,show i * sz+j<cs.length by omega]using this
  ·have hle:n * sz<=ys.length * sz:=Uq _ hn
   have:=run_firstCells_some (P:=P) w' sz n ⟨b,off,none⟩ ys.length cap (cs.take (n * sz)) (by simp only[UF,l1];omega) (λj v hj=>by
    have OW:=ae hj;simp only[UF,l1]at OW;rw[TX,if_pos (by omega)]at hj;have:=(l2 j (by omega)).1;rw[cG,iE (w:=w) (w':=w') (by rw[yB]),this];simp[List.getD,hj])
   exact this
 unfold bC at e
 split at e
 ·rename_i full es
  obtain rfl:=TF e;have hs:=hv.dM
  cases hs with
  |dP a cap _ hf=>
   refine⟨a,cap,rfl,UG _,[],Flat.nil _ _ _ _ _,λw' yB n hn=>?_⟩
   ·obtain rfl:n=0:=by simpa using hn
    cases a <;>simp[Builtin.firstCells,loadCells,loadCellsFrom]
  |ab b off cap Ay _ _ j0 k1 k2 k3 k4 k5 k6 k7 k8=>
   have ez:Ay=sz:=by
    have hp:0<es.length:=Vq.2 k1;rw[<-k6 0 hp];apply hz;rw[T7,TJ hp];exact Up hp
   subst ez;obtain⟨cs,l1,l2,l3⟩:=main b off cap (λi j u=>aS w (Av F h Y) u ((Pm.cells (es.getD i .any)).getD j .any)) (λi j hi hj=>⟨j0 i j,k7 i j hi hj,k8 i j hi hj⟩);refine⟨_,cap,rfl,k2,cs,⟨l1,λi e he=>?_⟩,l3⟩
   ·have hi:=ae he;have e1:es.getD i .any=e:=by simp[List.getD,he]
    have e2:=k6 i hi;rw[e1]at e2;refine⟨e2,λj q hq=>?_⟩;have hj:=ae hq;obtain⟨u,m1,m2⟩:=l2 i j hi (by omega);refine⟨u,m1,?_⟩;rw[e1]at m2;have e3:(Pm.cells e).getD j .any=q:=by simp[List.getD,hq]
    rw[e3]at m2;exact .val m2
 ·rename_i id ep off len
  split at e
  ·rename_i o ho
   split at e
   ·rename_i hle
    obtain rfl:=TF e;obtain⟨e1,e2,e3⟩:=getM_some ho;obtain⟨bc,hb⟩:=cm H.len e1;obtain⟨h1,h2,h3⟩:=hv.cO;obtain⟨cap,rfl,c2⟩:=h3 o bc e1 hb e3 e2 hle;obtain⟨T,oC,k1,k2,k3,k4,k5⟩:=(H.obj id o bc e1 hb e3).c (h2 o e1).2;have hlen:((o.es.drop off).take len).length=len:=by simp;omega
    have at_i:∀i,i<len->∃e,((o.es.drop off).take len)[i]?=some e/\o.es[off+i]?=some e:=λi hi=>by
     refine⟨o.es[off+i]'(by omega),?_,TJ (by omega)⟩;rw[TX,if_pos hi,T9];exact TJ (by omega)
    by_cases FC:len=0
    ·subst FC;refine⟨some ⟨bc.1,off * o.aP,none⟩,cap,by simp,by simp,[],by simpa using Flat.nil _ _ _ _ _,λw' yB n hn=>?_⟩
     ·obtain rfl:n=0:=by simpa using hn
      simp[Builtin.firstCells,loadCells,loadCellsFrom]
    ·have ez:o.aP=sz:=by
      obtain⟨el,m1,m2⟩:=at_i 0 (by omega);rw[<-(k5 _ el m2).1];exact hz el (TU m1)
     subst ez
     obtain⟨cs,l1,l2,l3⟩:=main bc.1 (off * o.aP) cap (λi j u=>∀el q,o.es[off+i]?=some el->(Pm.cells el)[j]?=some q->ar w (Av F h Y) Y h u q) (λi j hi hj=>by
      rw[hlen]at hi;obtain⟨el,m1,m2⟩:=at_i i hi;obtain⟨n1,n2⟩:=k5 _ el m2;obtain⟨u,p1,p2⟩:=n2 j (Pm.cells el)[j] (TJ (by omega));refine⟨u,?_,λqf q r1 r2=>?_⟩
      ·rw[cell_of_row w bc.1 _ oC T (0,0) k1,<-US,<-Ur];exact p1
      ·rw[m2]at r1;obtain rfl:=TF r1;rw[TJ (by omega)]at r2;obtain rfl:=TF r2;exact p2)
     rw[hlen]at l2 l3 ⊢;refine⟨_,cap,rfl,by omega,cs,⟨by rw[l1,hlen],λi el he=>?_⟩,λw' yB n hn=>l3 w' yB n hn⟩
     ·have hi:=ae he;rw[hlen]at hi;obtain⟨qf,m1,m2⟩:=at_i i hi;rw[m1]at he;obtain rfl:=TF he;obtain⟨n1,n2⟩:=k5 _ qf m2;refine⟨n1,λj q hq=>?_⟩;have hj:=ae hq;obtain⟨u,r1,r2⟩:=l2 i j hi (by omega);exact⟨u,r1,r2 qf q m2 hq⟩
   cases e
  cases e
 cases e
theorem mi{A:Nat->Prop}{vz:Value}{z:PV}{sz:Nat}(hz:ar w A Y h vz z)(h1:(Pm.cells z).length=sz)(h2:(Pm.cells z).all aZ=true)(hs:0<sz)(n:Nat):
  vz.cells.size=sz/\Flat w A Y h sz (List.map (λi=>vz.cells[i % vz.cells.size]!) (List.range (n * sz))) (List.replicate n z):=by
 obtain⟨x1,x2⟩:=hz.cells h2;refine⟨by omega,by simp,λi e he=>?_⟩;have hi:=ae he;simp at hi;rw[List.getElem?_replicate,if_pos hi]at he;obtain rfl:=TF he;refine⟨h1,λj q hq=>?_⟩;have hj:=ae hq;obtain⟨u,m1,m2,m3⟩:=x2 j q hq;refine⟨u,?_,m2⟩;have hk:i * sz+j<n * sz:=by have:=ig (s:=sz) hi;omega
 rw[TS,VR hk];simp only[TO];rw[x1,h1,VP,Nat.mul_add_mod,Nat.mod_eq_of_lt (by omega)];rw[getElem!_def,m1]
theorem eS(n:Nat)(f:Nat->Value):((Array.range n).map f)=(List.map f (List.range n)).toArray:=by
 apply UH;simp
theorem ni{t:TypeId}{n:Nat}(e:jz P t=some n):∃i,P.info? t=some i/\i.bytes=n:=by
 unfold jz at e
 cases hi:P.info? t with
 |none=>rw[hi]at e;simp at e
 |some i=>rw[hi]at e;simp at e;exact⟨i,rfl,e⟩
def nj:TypeDesc->Bool | .int _=>true |_=>false
theorem nR(H:aG w F Y h){e st xt:TypeId}{sz bytes:Nat}{z:PV}{vz x:Value}{px:PV}{ys:List PV}(hs:bI P e=some sz)(hb:jz P e=some bytes)(hz:gv P e=some z)(ku:0<sz)(fS:bytes<=65536)
  (hx:ar w (Av F h Y) Y h x px) (ea:cL P h z xt px=some ys) (cZ:ys.all (λv=>decide ((Pm.cells v).length=sz)&& (Pm.cells v).all aZ)=true):
  ∃zb:Bool,∃d,P.underlying xt=some d/\zb=nj d/\
   ∃news:List Value,Flat w (Av F h Y) Y h sz news ys/\(∀u∈news,u.oneCell'=true)/\
    (zb=false->(Builtin.lenOf x).run P w=.ok ys.length w/\∀w',w'.heap=w.heap->(Builtin.firstCells sz ys.length x).run P w'=.ok news.toArray w')/\
    (zb=true->∃k,x=.int k ys.length/\ys.length<=1073741824/\∀w',(if ys.length * sz=0 then pure #[]else do pure (Builtin.zeroCells (<-zeroValue e).cells ys.length):Sem (Array Value)).run P w'=.ok news.toArray w'):=by
 unfold cL at ea
 split at ea
 ·rename_i ik k n hu
  split at ea
  ·rename_i hn
   obtain rfl:=TF ea;obtain rfl:=hx.cr;obtain⟨vz,r1,r2⟩:=pf hz w (Av F h Y) Y h
   by_cases h0:n.toNat=0
   ·refine⟨true,_,hu,rfl,[],by rw[h0];simpa using Flat.nil w (Av F h Y) Y h sz,by simp,by simp,λ_=>⟨k,by simp;omega,by simp;omega,λw'=>?_⟩⟩;simp[h0]
   ·have oX:=TH.1 cZ z (by simp;omega);simp only[TK,decide_eq_true_eq]at oX;obtain⟨s1,s2⟩:=mi r2 oX.1 oX.2 ku n.toNat;refine⟨true,_,hu,rfl,_,s2,s2.Gq ku cZ,by simp,λ_=>⟨k,by simp;omega,by simp;omega,λw'=>?_⟩⟩
    have aU:¬(List.replicate n.toNat z).length * sz=0:=by
     rw[Vi];exact Nat.mul_ne_zero h0 (by omega)
    have RY:(zeroValue e).run P w'=.ok vz w':=by
     have:=r1;unfold zeroValue typeInfo at this ⊢;simp only[Sem.run_bind,run_program,Result.andThen_ok]at this ⊢
     cases hi:P.info? e with
     |none=>rw[hi]at this;simp at this
     |some i=>
      rw[hi]at this;simp at this ⊢
      cases OY:i.zero with
      |none=>rw[OY]at this;simp at this
      |some v=>rw[OY]at this;simp at this ⊢;exact this
    rw[if_neg aU];simp only[Sem.run_bind,RY,Result.andThen_ok,Sem.run_pure,Builtin.zeroCells,eS,Vi,s1]
  cases ea
 ·rename_i el hu
  have Dv:∀y∈ys,(Pm.cells y).length=sz:=λy hy=>by
   have:=TH.1 cZ y hy;simp only[TK,decide_eq_true_eq]at this;exact this.1
  obtain⟨a,cap,rfl,hle,cs,f1,f2⟩:=iY (P:=P) H hx ea Dv;refine⟨false,_,hu,rfl,cs,f1,f1.Gq ku cZ,λ_=>⟨by simp[Builtin.lenOf],λw' yB=>?_⟩,by simp⟩;have:=f2 w' yB ys.length (TI _);rwa[Ub (by rw[f1.1];omega)]at this
 cases ea
theorem Flat.obj{A:Nat->Prop}{sz:Nat}{cs rest:List Value}{es:List PV}(a:Flat w A Y h sz cs es)(i:Nat)(e:PV)(he:es[i]?=some e):
  (Pm.cells e).length=sz/\∀(j:Nat) (p:PV),(Pm.cells e)[j]?=some p->∃v:Value,(cs++rest).toArray[i * sz+j]?=some v/\ar w A Y h v p:=by
 obtain⟨h1,h2⟩:=a.2 i e he;refine⟨h1,λj p hp=>?_⟩;obtain⟨u,k1,k2⟩:=h2 j p hp;exact⟨u,by rw[U5,TG (ae k1)];exact k1,k2⟩
theorem wrap_small{n:Nat}(h:n<=1073741824):IntKind.i64.wrap (n:Int)=n:=by
 simp[IntKind.wrap,IntKind.bits,IntKind.signed];omega
theorem max_i64:IntKind.i64.max=9223372036854775807:=by decide
theorem rV{n b:Nat}(h:roomy n b=true):n * b<=17592186044416/\n<=17592186044416:=by
 simpa[roomy]using h
theorem ju{ts:Array TypeId}{ty st xt e:TypeId}{args:Array Value}{sz sLen sCap n:Nat}{base:Option Addr}{x:Value}{d:TypeDesc}{zb:Bool}{news:List Value}
  (h1:ts[0]?=some st) (h2:ts[1]?=some xt) (h3:args[0]?=some (.slice base sLen sCap)) (h4:args[1]?=some x) (hu:P.underlying st=some (.slice e)) (hs:bI P e=some sz)
  (hd:P.underlying xt=some d) (Mp:zb=nj d) {bytes:Nat} (hb:jz P e=some bytes) (fS:bytes<=65536)
  (hf:zb=false->(Builtin.lenOf x).run P w=.ok n w/\∀w',w'.heap=w.heap->(Builtin.firstCells sz n x).run P w'=.ok news.toArray w')
  (ht:zb=true->∃k,x=.int k n/\n<=1073741824/\∀w',(if n * sz=0 then pure #[]else do pure (Builtin.zeroCells (<-zeroValue e).cells n):Sem (Array Value)).run P w'=.ok news.toArray w')
  (gS:sLen+n<=sCap):
  (Builtin.append_ ts ty args).run P w=(match base with |some a=>(storeCells (a.add (sLen * sz)) news).run P w |none=>.ok () w).andThen λ_ w'=>.ok (.slice base (sLen+n) sCap) w':=by
 obtain⟨i,hi,JF⟩:=ni hb;have KD:∀w,(typeInfo e).run P w=.ok i w:=λw=>by simp[typeInfo,hi]
 unfold Builtin.append_;simp only[h1,h3,h4,Sem.run_bind,aR hu,Result.andThen_ok,bQ hs,h2,aR hd,Sem.run_pure]
 cases zb with
 |false=>
  obtain⟨f1,f2⟩:=hf rfl
  cases d with
  |int k=>simp[nj]at Mp
  |_=>
   simp only[TR,if_false,f1,Result.andThen_ok,gS,if_true,Sem.run_bind,Vx,f2 w rfl]
   cases base <;>simp
 |true=>
  obtain⟨k,rfl,hn,t2⟩:=ht rfl
  have oq:¬((n:Int) * (bytes:Int)>2^48):=by
   have:n * bytes<=1073741824 * 65536:=Vy hn fS;have h2:((n * bytes:Nat):Int)<=70368744177664:=by omega
   rw[Int.natCast_mul]at h2;omega
  have Ee:¬((n:Int)<0):=by omega
  cases d with
  |int k=>
   simp only[if_true,asInt,asIntOf,Sem.run_bind,Sem.run_pure,Result.andThen_ok,wrap_small hn,Sem.run_ite,Ee,if_false,KD,JF,oq,Vf,gS,Vl,TR];have:=t2 w;simp only[Sem.run_ite,Sem.run_bind,Sem.run_pure]at this;rw[this]
   cases base <;>simp
  |_=>simp[nj]at Mp
theorem rW(w:World)(need old:Nat)(e:TypeId)(hn:need<=17592186044416):∃c,need<=c/\(choose (.appendCap need old e)).run P w=.ok c w.drew:=by
 refine⟨_,?_,by simp only[run_choose,Question.forced,TR,if_false];rfl⟩;simp[Question.cut]
theorem lL{ts:Array TypeId}{ty st xt e:TypeId}{args:Array Value}{sz sLen sCap n:Nat}{base:Option Addr}{x vz:Value}{d:TypeDesc}{zb:Bool}{news olds:List Value}
  (h1:ts[0]?=some st) (h2:ts[1]?=some xt) (h3:args[0]?=some (.slice base sLen sCap)) (h4:args[1]?=some x) (hu:P.underlying st=some (.slice e)) (hs:bI P e=some sz)
  (hd:P.underlying xt=some d) (Mp:zb=nj d) {bytes:Nat} (hb:jz P e=some bytes) (fS:bytes<=65536) (hz:∀w,(zeroValue e).run P w=.ok vz w)
  (hf:zb=false->(Builtin.lenOf x).run P w=.ok n w/\∀w',w'.heap=w.heap->(Builtin.firstCells sz n x).run P w'=.ok news.toArray w')
  (ht:zb=true->∃k,x=.int k n/\n<=1073741824/\∀w',(if n * sz=0 then pure #[]else do pure (Builtin.zeroCells (<-zeroValue e).cells n):Sem (Array Value)).run P w'=.ok news.toArray w')
  (hold:∀w',w'.heap=w.heap->(Builtin.firstCells sz sLen (.slice base sLen sCap)).run P w'=.ok olds.toArray w')
  (gS:¬sLen+n<=sCap) (Jr:(sLen+n) * bytes<=17592186044416) (DR:sLen+n<=17592186044416):
  ∃c,sLen+n<=c/\(Builtin.append_ ts ty args).run P w=.ok (.slice (some ⟨w.heap.size,0,none⟩) (sLen+n) c)
   (w.drew.alloc (.cells (olds.toArray++news.toArray++Builtin.zeroCells vz.cells (c - (sLen+n))) e)):=by
 obtain⟨i,hi,JF⟩:=ni hb;have KD:∀w,(typeInfo e).run P w=.ok i w:=λw=>by simp[typeInfo,hi]
 obtain⟨c,c1,c2⟩:=rW (P:=P) w (sLen+n) sCap e DR;refine⟨c,c1,?_⟩;have Aq:¬(((sLen+n:Nat):Int)>IntKind.i64.max):=by rw[max_i64];omega
 have Mq:¬(Builtin.nextslicecap (sLen+n) sCap * i.bytes>2^48):=by
  have:=growslice_fits (need:=sLen+n) (old:=sCap) (bytes:=i.bytes) (by omega) (by rw[JF];omega);omega
 unfold Builtin.append_;simp only[h1,h3,h4,Sem.run_bind,aR hu,Result.andThen_ok,bQ hs,h2,aR hd,Sem.run_pure];have fin:((choose (.appendCap (sLen+n) sCap e)).run P w).andThen (λnewCap w'=>.ok newCap w')=.ok c w.drew:=by rw[c2];rfl
 cases zb with
 |false=>
  obtain⟨f1,f2⟩:=hf rfl
  cases d with
  |int k=>simp[nj]at Mp
  |_=>
   simp only[TR,if_false,f1,Result.andThen_ok,gS,Sem.run_bind,Vx,KD,Sem.run_ite,Aq,false_and,Mq,c2,run_askRoom,hold w.drew rfl,f2 w.drew rfl,if_true,hz,Sem.run_pure,newRow,run_newObj]
   rfl
 |true=>
  obtain⟨k,rfl,hn,t2⟩:=ht rfl
  have oq:¬((n:Int) * (bytes:Int)>2^48):=by
   have:n * bytes<=1073741824 * 65536:=Vy hn fS;have h2:((n * bytes:Nat):Int)<=70368744177664:=by omega
   rw[Int.natCast_mul]at h2;omega
  have Ee:¬((n:Int)<0):=by omega
  cases d with
  |int k=>
   have Qd:=t2 w.drew;simp only[Sem.run_ite,Sem.run_bind,Sem.run_pure,hz,Result.andThen_ok]at Qd;rw[<-JF]at oq;simp only[if_true,asInt,asIntOf,Sem.run_bind,Sem.run_pure,Result.andThen_ok,wrap_small hn,Sem.run_ite,Ee,if_false,KD,oq,Vf,gS,Vl,TR,Aq,false_and,Mq,c2,run_askRoom,hold w.drew rfl,hz,Qd,newRow,run_newObj]
   rfl
  |_=>simp[nj]at Mp
theorem gG{t:TypeId}{z:PV}(e:gv P t=some z):∃v,(∀w,(zeroValue t).run P w=.ok v w)/\∀(w:World) (A:Nat->Prop) (Y:List (Nat×Nat)) (h:aa),ar w A Y h v z:=by
 unfold gv at e
 cases hi:P.info? t with
 |none=>rw[hi]at e;simp at e
 |some i=>
  rw[hi]at e;simp only[VG]at e
  cases hz:i.zero with
  |none=>rw[hz]at e;simp at e
  |some v=>
   rw[hz]at e;simp at e;subst e;exact⟨v,λw=>by simp[zeroValue,typeInfo,hi,hz],λw A Y h=>zy w A Y h v⟩
theorem rX{id:Nat}{bc:Nat×Nat}(hb:Y[id]?=some bc):Y.set id bc=Y:=by
 apply Uw
 intro k
 by_cases hk:k=id
 subst hk;rw[TM (ae hb)];exact hb.symm;rw[TN (Um hk)]
theorem nk(H:aG w F Y h){id:Nat}{o:aC}{bc:Nat×Nat}(eo:h[id]?=some o)(eb:Y[id]?=some bc)(em:o.mu=.m){news:List Value}{ys:List PV}(off:Nat)
  (hf:Flat w (Av F h Y) Y h o.aP news ys) (h1:∀u∈news,u.oneCell'=true) (hle:off+ys.length<=o.es.length) (hz:0<o.aP:=by first |assumption |omega):
  ∃w',(storeCells ⟨bc.1,off * o.aP,none⟩ news).run P w=.ok () w'/\
   aG w' F Y (h.set id {o with es:=o.es.take off++ys++o.es.drop (off+ys.length)})/\cP w h Y w' (h.set id {o with es:=o.es.take off++ys++o.es.drop (off+ys.length)}) Y:=by
 obtain⟨T,cs,k1,k2,k3,k4,k5⟩:=(H.obj id o bc eo eb (by rw[em];simp)).c hz;have hn:news.length=ys.length * o.aP:=hf.1
 have Gr:off * o.aP+ys.length * o.aP<=cs.size:=by
  rw[<-Ur];exact T' (Uq _ (by omega)) k3
 have Ed:=run_storeCells_at P bc.1 (off * o.aP) T news 0 cs w k1 (by omega) h1;simp only[UK]at Ed
 have eJ:(cs.toList.take (off * o.aP)++news++cs.toList.drop (off * o.aP+news.length)).length=cs.size:=by
  simp only[T0,UF,List.length_drop,Uv];omega
 have eE:(o.es.take off++ys++o.es.drop (off+ys.length)).length=o.es.length:=by simp;omega
 refine⟨_,Ed,?_⟩
 have:=aG.set H eo eb em (w':=w.setRow bc.1 (cs.toList.take (off * o.aP)++news++cs.toList.drop (off * o.aP+news.length)).toArray) T
  (cs.toList.take (off * o.aP)++news++cs.toList.drop (off * o.aP+news.length)).toArray (o.es.take off++ys++o.es.drop (off+ys.length)) o.ep bc (by simp)
  (setRow_heap w bc.1 cs _ T (0,0) k1) (λb hb aU=>setRow_other w bc.1 b _ aU) (.inl ⟨rfl,λ_=>eE⟩) (TI _) rfl rfl rfl (by rw[eE];exact k2) (by rw[VB,eJ];exact k3) (λi e he=>?_)
 ·rw[rX eb]at this;exact this
 ·rw[eI _ _ _ _ hle]at he
  have hi:i<o.es.length:=by
   rcases T8 i o.es.length with hh |hh;exact hh;rw[if_neg (by omega),if_neg (by omega),TZ hh]at he;cases he
  by_cases hA:off<=i/\i<off+ys.length
  ·rw[if_neg (by omega),if_pos hA.2]at he;obtain⟨n1,n2⟩:=hf.2 _ e he;refine⟨n1,λj q hq=>?_⟩;obtain⟨u,p1,p2⟩:=n2 j q hq;have hj:=ae hq;refine⟨u,?_,p2⟩;have e1:i * o.aP=off * o.aP+(i - off) * o.aP:=by rw[<-Ur];congr 1;omega
   have e2:=ig (s:=o.aP) (show i - off<ys.length by omega);rw[U5,eI _ _ _ _ (by rw[hn];simpa using Gr),if_neg (by omega),if_pos (by rw[hn];omega),e1];rw[show off * o.aP+(i - off) * o.aP+j - off * o.aP=(i - off) * o.aP+j by omega];exact p1
  ·have KB:o.es[i]?=some e:=by
    by_cases hB:i<off
    ·rwa[if_pos hB]at he
    ·rwa[if_neg hB,if_neg (by omega)]at he
   obtain⟨n1,n2⟩:=k5 i e KB;refine⟨n1,λj q hq=>?_⟩;obtain⟨u,p1,p2⟩:=n2 j q hq;have hj:=ae hq;refine⟨u,?_,p2⟩;rw[U5,eI _ _ _ _ (by rw[hn];simpa using Gr)]
   by_cases hB:i<off
   ·have:=ig (s:=o.aP) hB;rw[if_pos (by omega)];simpa using p1
   ·have:(off+ys.length) * o.aP<=i * o.aP:=Uq _ (by omega);rw[Ur]at this;rw[if_neg (by omega),if_neg (by rw[hn];omega)];simpa using p1
theorem zz(H:aG w F Y h){ts:Array TypeId}{ty st xt:TypeId}{args:Array Value}{lv:Nat}{sv x:Value}{s px r:PV}{h':aa}
  (h1:ts[0]?=some st) (h2:ts[1]?=some xt) (h3:args[0]?=some sv) (h4:args[1]?=some x) (hs:ar w (Av F h Y) Y h sv s) (hx:ar w (Av F h Y) Y h x px)
  (e:cg P lv h st xt s px=some (r,h')):vq P lv w F Y h (Builtin.append_ ts ty args) r h':=by
 unfold cg at e
 split at e
 ·rename_i el hu
  split at e
  ·rename_i sz bytes z q1 q2 q3
   split at e
   ·rename_i ys hy
    split at e
    ·rename_i hc
     obtain⟨ku,fS,Qe,cZ⟩:=hc;obtain⟨vz,z1,z2⟩:=gG (P:=P) q3;obtain⟨zb,d,a1,a2,news,a3,a4,a5,a6⟩:=nR (st:=st) (vz:=vz) H q1 q2 q3 ku fS hx hy cZ;have zsz:vz.cells.size=sz:=by rw[((z2 w (Av F h Y) Y h).cells Qe.2).1];exact Qe.1
     have arr:∀(cs:List Value) (n:Nat),cs.toArray++news.toArray++Builtin.zeroCells vz.cells n=(cs++news++(Builtin.zeroCells vz.cells n).toList).toArray:=λcs n=>by apply UH;simp
     have arrsz:∀(cs:List Value) (k m c:Nat),cs.length=k * sz->k+m<=c->news.length=m * sz->c * sz<=(cs.toArray++news.toArray++Builtin.zeroCells vz.cells (c - (k+m))).size:=λcs k m c e1 e2 e3=>by
      simp only[Array.size_append,VB,size_zeroCells,zsz,e1,e3,<-Ur];rw[show k+m+(c - (k+m))=c by omega];exact TI _
     split at e
     ·-- a snapshot
      rename_i full es
      obtain⟨a,cap,rfl,hle,pQ⟩:=hs.dM.fZ
      split at e
      ·rename_i Gm
       obtain rfl:ys=[]:=by simpa using Gm
       obtain⟨rfl,rfl⟩:=TL (TF e);have hn:news=[]:=T3 (by simpa using a3.1);subst hn;have:=ju (P:=P) (w:=w) (ty:=ty) h1 h2 h3 h4 hu q1 a1 a2 q2 fS (n:=0) a5 a6 (by omega);refine vq.still H (v:=.slice a es.length cap) ?_ hs;rw[this]
       cases a <;>simp[storeCells]
      ·rename_i aU
       split at e
       ·rename_i Gf
        obtain⟨rfl,Ea,zA,h9⟩:=Gf;obtain⟨rfl,rfl⟩:=TL (TF e);obtain⟨b1,b2⟩:=rV zA
        have RZ:0<ys.length:=by
         cases ys with
         |nil=>simp at aU
         |cons=>simp
        have oB:=pQ rfl
        have R9:∀y∈es,(Pm.cells y).length=sz:=λy hy=>by
         have:=TH.1 h9 y hy;simp only[TK,decide_eq_true_eq]at this;exact this.1
        obtain⟨a',wY,ev,_,cs,f1,f2⟩:=iY (P:=P) H hs (show bC h (.ab true es)=some es from rfl) R9
        obtain⟨c,c1,c2⟩:=lL (P:=P) (w:=w) (ty:=ty) (sLen:=es.length) h1 h2 h3 h4 hu q1 a1 a2 q2 fS z1 a5 a6 (λw' yB=>by
         have:=f2 w' yB es.length (TI _);rwa[Ub (by rw[f1.1];omega)]at this) (by omega) b1 b2
        have Hw:=f1.append a3
        obtain⟨HH,S⟩:=aG.new H (w':=w.drew.alloc (.cells (cs.toArray++news.toArray++Builtin.zeroCells vz.cells (c - (es.length+ys.length))) el)) el
         (cs.toArray++news.toArray++Builtin.zeroCells vz.cells (c - (es.length+ys.length))) {mu:=.m,ep:=0,aP:=sz,es:=es++ys} c rfl rfl rfl rfl rfl (by simpa using c1)
         (arrsz cs _ _ c f1.1 c1 a3.1) ku (λi e he=>by
          rw[arr];exact Hw.obj (rest:=(Builtin.zeroCells vz.cells (c - (es.length+ys.length))).toList) i e he)
        exact⟨_,_,_,c2,H.qz,HH,S,λ_=>(cc.drew w).trans (cc.alloc _ _)⟩
       cases e
     ·-- a reference
      rename_i id ep off len
      split at e
      ·rename_i o ho
       obtain⟨e1,e2,e3⟩:=getM_some ho;obtain⟨bc,hb⟩:=cm H.len e1;obtain⟨m1,m2,m3⟩:=hs.cO
       split at e
       ·rename_i Gf
        obtain⟨hle,ez⟩:=Gf;obtain⟨cap,rfl,c2⟩:=m3 o bc e1 hb e3 e2 hle;obtain⟨T,oC,k1,k2,k3,k4,k5⟩:=(H.obj id o bc e1 hb e3).c (m2 o e1).2
        split at e
        ·rename_i Gm
         obtain rfl:ys=[]:=by simpa using Gm
         obtain⟨rfl,rfl⟩:=TL (TF e);have hn:news=[]:=T3 (by simpa using a3.1);subst hn;have:=ju (P:=P) (w:=w) (ty:=ty) h1 h2 h3 h4 hu q1 a1 a2 q2 fS (n:=0) a5 a6 (by omega);refine vq.still H (v:=.slice (some ⟨bc.1,off * o.aP,none⟩) len cap) ?_ hs;rw[this];simp[storeCells]
        ·rename_i aU
         split at e
         ·rename_i OZ
          obtain⟨rfl,Ea,xa,_,mz⟩:=OZ;obtain⟨rfl,rfl⟩:=TL (TF e);subst ez;have bJ:=ju (P:=P) (w:=w) (ty:=ty) h1 h2 h3 h4 hu q1 a1 a2 q2 fS a5 a6 (show len+ys.length<=cap by omega);obtain⟨w',s1,s2,s3⟩:=nk (P:=P) H e1 hb xa len a3 a4 mz;simp only[UQ,cG,Uu]at bJ;rw[s1]at bJ;simp only[Result.andThen_ok]at bJ;refine⟨_,w',Y,bJ,?_,s2,s3,λhh=>by omega⟩;refine .an _ id ep 0 (len+ys.length) {o with es:=o.es.take len++ys++o.es.drop (len+ys.length)} bc ⟨_,_,_,rfl⟩ (TM (ae e1)) hb (by show o.mu≠.x;rw[xa];simp) ⟨by show ep<=o.ep;omega,k4⟩ (λ_ _=>⟨cap,by simp,c2⟩)
         split at e
         ·rename_i OZ
          obtain⟨rfl,Ea,xa,zA⟩:=OZ;obtain⟨rfl,rfl⟩:=TL (TF e);obtain⟨b1,b2⟩:=rV zA
          have RZ:0<ys.length:=by
           cases ys with
           |nil=>simp at aU
           |cons=>simp
          subst ez;have h9:bC h (.an id ep 0 len)=some ((o.es.drop 0).take len):=by simp only[bC,ho,if_pos hle]
          have CH:((o.es.drop 0).take len).length=len:=by simp;omega
          obtain⟨a',wY,ev,_,cs,f1,f2⟩:=iY (P:=P) (sz:=o.aP) H hs h9 (λy hy=>by
           obtain⟨k,hk⟩:=UN hy;rw[TX]at hk
           split at hk
           simp at hk;exact(k5 k y hk).1
           cases hk)
          simp only[U']at f1 CH f2;have Hd:len<=o.es.length:=by omega
          by_cases gS:len+ys.length<=cap
          ·-- there is room
           have bJ:=ju (P:=P) (w:=w) (ty:=ty) h1 h2 h3 h4 hu q1 a1 a2 q2 fS a5 a6 gS;have Sa:(len+ys.length) * o.aP<=oC.size:=T' (Uq _ (by omega)) k3;rw[Ur]at Sa;have Ed:=run_storeCells_at P bc.1 (0 * o.aP+len * o.aP) T news 0 oC w k1 (by rw[a3.1];omega) a4;simp only[UQ,Uu,UK]at Ed bJ;rw[cG,Uu,Ed]at bJ;simp only[Result.andThen_ok]at bJ
           have JG:Flat w (Av F h Y) Y h o.aP (oC.toList.take (len * o.aP)) (o.es.take len):=by
            refine⟨by simp only[UF,Uv];rw[Vc Hd,Vc (by omega)],λi e he=>?_⟩;rw[TX]at he
            split at he
            ·rename_i hi
             obtain⟨n1,n2⟩:=k5 i e he;refine⟨n1,λj q hq=>?_⟩;obtain⟨u,p1,p2⟩:=n2 j q hq;have hj:=ae hq;have:=ig (s:=o.aP) hi;exact⟨u,by rw[TX,if_pos (by omega)];simpa using p1,p2⟩
            cases he
           have Hw:=JG.append a3
           have wa:(oC.toList.take (len * o.aP)++news++oC.toList.drop (len * o.aP+news.length)).length=oC.size:=by
            simp only[T0,UF,List.length_drop,Uv,a3.1];omega
           obtain⟨HH,S⟩:=aG.set H e1 hb xa (w':=w.setRow bc.1 (oC.toList.take (len * o.aP)++news++oC.toList.drop (len * o.aP+news.length)).toArray) T
            (oC.toList.take (len * o.aP)++news++oC.toList.drop (len * o.aP+news.length)).toArray (o.es.take len++ys) (ep+1) bc (by simp)
            (setRow_heap w bc.1 oC _ T (0,0) k1) (λb hb aU=>setRow_other w bc.1 b _ aU) (.inl ⟨rfl,λhe=>by omega⟩) (by omega) rfl rfl rfl (by simp;omega)
            (by rw[VB,wa];exact k3) (λi e he=>Hw.obj i e he)
           exact⟨_,_,_,bJ,by have:=H.AL (w':=w.setRow bc.1 (oC.toList.take (len * o.aP)++news++oC.toList.drop (len * o.aP+news.length)).toArray) (A:=Av F (h.set id {o with es:=o.es.take len++ys,ep:=ep+1}) (Y.set id bc)) e1 xa (b:=bc.1) (cap:=cap) (len:=len+ys.length) (ep:=ep+1) (es:=o.es.take len++ys);simpa[show cap=bc.2 by omega]using this,HH,S,λhh=>by omega⟩
          ·-- it moves
           obtain⟨c,c1,bJ⟩:=lL (P:=P) (w:=w) (ty:=ty) (olds:=cs) h1 h2 h3 h4 hu q1 a1 a2 q2 fS z1 a5 a6 (λw' yB=>by
            have e3:(.slice (some ⟨bc.1,0 * o.aP,none⟩) len cap:Value)=.slice (some ⟨bc.1,0 * o.aP,none⟩) len cap:=rfl;have:=f2 w' yB len (by omega);rwa[Ub (by rw[f1.1,CH];exact TI _)]at this) gS b1 b2
           have Hw:=f1.append a3
           obtain⟨HH,S⟩:=aG.set H e1 hb xa (w':=w.drew.alloc (.cells (cs.toArray++news.toArray++Builtin.zeroCells vz.cells (c - (len+ys.length))) el)) el
            (cs.toArray++news.toArray++Builtin.zeroCells vz.cells (c - (len+ys.length))) (o.es.take len++ys) (ep+1) (w.heap.size,c) (by simp)
            (heap_alloc_new w.drew _) (λb hb aU=>heap_alloc_old w.drew _ b hb) (.inr ⟨TI _,by omega⟩) (by omega) rfl rfl rfl (by simp;omega)
            (arrsz cs _ _ c (by rw[f1.1,CH]) c1 a3.1) (λi e he=>by
             rw[arr];exact Hw.obj (rest:=(Builtin.zeroCells vz.cells (c - (len+ys.length))).toList) i e he)
           exact⟨_,_,_,bJ,H.AL e1 xa,HH,S,λhh=>by omega⟩
         cases e
       cases e
      cases e
     cases e
    cases e
   cases e
  cases e
 cases e
theorem Ef(H:aG w F Y h){ts:Array TypeId}{ty dt:TypeId}{args:Array Value}{lv:Nat}{dv x:Value}{d px r:PV}{h':aa}
  (h1:ts[0]?=some dt) (h3:args[0]?=some dv) (h4:args[1]?=some x) (hd:ar w (Av F h Y) Y h dv d) (hx:ar w (Av F h Y) Y h x px)
  (e:tj P lv h dt d px=some (r,h')):vq P lv w F Y h (Builtin.copy_ ts ty args) r h':=by
 unfold tj at e
 split at e
 ·rename_i el id ep off len ys hu hy
  split at e
  ·rename_i sz o hs ho
   split at e
   ·rename_i hc
    obtain⟨Ea,xa,rfl,hle,cZ,Mr⟩:=hc;obtain⟨rfl,rfl⟩:=TL (TF e);obtain⟨e1,e2,e3⟩:=getM_some ho;obtain⟨bc,hb⟩:=cm H.len e1;obtain⟨m1,m2,m3⟩:=hd.cO;obtain⟨cap,rfl,c2⟩:=m3 o bc e1 hb e3 e2 hle
    obtain⟨a,wY,rfl,Sb,cs,f1,f2⟩:=iY (P:=P) (sz:=o.aP) H hx hy (λy hy=>by
     have:=TH.1 cZ y hy;simpa only[decide_eq_true_eq]using this)
    obtain⟨T,oC,k1,k2,k3,k4,k5⟩:=(H.obj id o bc e1 hb e3).c (m2 o e1).2;have hn:min ys.length len<=ys.length:=Nat.min_le_left _ _;have ft:=f1.take (min ys.length len) hn;have CH:(ys.take (min ys.length len)).length=min ys.length len:=by simp only[UF];omega
    obtain⟨w',r1,r2,r3⟩:=nk (P:=P) H e1 hb xa off ft (λu hu=>ft.Gq k4 Mr u hu) (by rw[CH];omega);rw[CH]at r2 r3;refine⟨.int .i64 (min ys.length len:Nat),w',Y,?_,.val (.int _ _),r2,r3,λhh=>by omega⟩;have bJ:=f2 w rfl (min ys.length len) hn;simp only[Builtin.copy_,h1,h3,h4,Sem.run_bind,aR hu,Result.andThen_ok,Builtin.lenOf,Sem.run_pure,bQ hs,goInt];have e0:Nat.min ys.length len=min ys.length len:=rfl;rw[e0,bJ];simp only[Result.andThen_ok];rw[r1];simp
   cases e
  cases e
 cases e
theorem BS(H:aG w F Y h){ts:Array TypeId}{ty t:TypeId}{args:Array Value}{lv:Nat}{dv:Value}{d r:PV}{h':aa}
  (h1:ts[0]?=some t) (h3:args[0]?=some dv) (hd:ar w (Av F h Y) Y h dv d)
  (e:kW P lv h t d=some (r,h')):vq P lv w F Y h (Builtin.clear_ ts ty args) r h':=by
 unfold kW at e
 split at e
 ·rename_i el id ep off len hu
  split at e
  ·rename_i sz z o hs hz ho
   split at e
   ·rename_i hc
    obtain⟨Ea,xa,rfl,hle,Cz,CA⟩:=hc;obtain⟨rfl,rfl⟩:=TL (TF e);obtain⟨e1,e2,e3⟩:=getM_some ho;obtain⟨bc,hb⟩:=cm H.len e1;obtain⟨m1,m2,m3⟩:=hd.cO;obtain⟨cap,rfl,c2⟩:=m3 o bc e1 hb e3 e2 hle;obtain⟨T,oC,k1,k2,k3,k4,k5⟩:=(H.obj id o bc e1 hb e3).c (m2 o e1).2;obtain⟨vz,z1,z2⟩:=gG (P:=P) hz;obtain⟨s1,s2⟩:=mi (z2 w (Av F h Y) Y h) Cz CA k4 len
    have cZ:(List.replicate len z).all (λv=>decide ((Pm.cells v).length=o.aP)&& (Pm.cells v).all aZ)=true:=by
     rw[TH]
     intro x hx
     rw[Vv]at hx;simp[hx.2,Cz,CA]
    obtain⟨w',r1,r2,r3⟩:=nk (P:=P) H e1 hb xa off s2 (s2.Gq k4 cZ) (by simpa using hle);simp only[Vi]at r2 r3
    by_cases hl:len=0
    ·subst hl;refine⟨.tuple #[],w,Y,?_,.val (.cT [] [] rfl (by simp)),?_⟩;simp only[Builtin.clear_,h1,h3,Sem.run_bind,aR hu,Result.andThen_ok,Sem.run_pure]
     ·simp[storeCells]at r1;subst r1;exact⟨r2,r3,λ_=>cc.refl _⟩
    ·refine⟨.tuple #[],w',Y,?_,.val (.cT [] [] rfl (by simp)),r2,r3,λhh=>by omega⟩;obtain⟨n,rfl⟩:∃n,len=n+1:=⟨len - 1,by omega⟩;simp only[Builtin.clear_,h1,h3,Sem.run_bind,aR hu,Result.andThen_ok,z1,Builtin.zeroCells,eS,s1];rw[s1]at r1;rw[r1];simp
   cases e
  cases e
 ·rename_i el full hu
  obtain⟨rfl,rfl⟩:=TL (TF e);obtain⟨a,cap,rfl,_⟩:=hd.dM.fZ;refine vq.still H (v:=.tuple #[]) ?_ (.val (.cT [] [] rfl (by simp)))
  cases a <;>simp[Builtin.clear_,h1,h3,aR hu]
 cases e
theorem Eg(H:aG w F Y h){t:TypeId}{lv:Nat}{vl vc:Value}{l c r:PV}{h':aa}(hl:ar w (Av F h Y) Y h vl l)(hc:ar w (Av F h Y) Y h vc c)
  (e:iG P lv h t l c=some (r,h')):vq P lv w F Y h (Instr.makeSlice t vl vc) r h':=by
 unfold iG at e
 split at e
 ·rename_i el k1 n k2 c hu
  obtain rfl:=hl.cr;obtain rfl:=hc.cr
  split at e
  ·rename_i sz bytes z hs hb hz
   split at e
   ·rename_i sN
    obtain⟨Ea,hn,Nb,H0,ku,fS,Cz,CA⟩:=sN;obtain⟨rfl,rfl⟩:=TL (TF e);obtain⟨vz,z1,z2⟩:=gG (P:=P) hz;obtain⟨s1,s2⟩:=mi (z2 w (Av F h Y) Y h) Cz CA ku n.toNat;obtain⟨i,hi,JF⟩:=ni hb;have KD:∀w,(typeInfo el).run P w=.ok i w:=λw=>by simp[typeInfo,hi]
    obtain⟨cn,rfl⟩:=UU (show 0<=c by omega);obtain⟨ln,rfl⟩:=UU hn;have Qf:cn<=1073741824:=by omega
    have FP:ln<=1073741824:=by omega
    have j3:¬((i.bytes:Int) * (cn:Int)>2^48):=by
     have:bytes * cn<=65536 * 1073741824:=Vy fS Qf;have h2:((bytes * cn:Nat):Int)<=70368744177664:=by omega
     rw[Int.natCast_mul]at h2;rw[JF];omega
    have pQ:List.map (λi=>vz.cells[i % vz.cells.size]!) (List.range (cn * sz))=List.map (λi=>vz.cells[i % vz.cells.size]!) (List.range (ln * sz))++List.drop (ln * sz) (List.map (λi=>vz.cells[i % vz.cells.size]!) (List.range (cn * sz))):=by
     have hle:ln * sz<=cn * sz:=Uq _ (by omega)
     have:List.map (λi=>vz.cells[i % vz.cells.size]!) (List.range (ln * sz))=List.take (ln * sz) (List.map (λi=>vz.cells[i % vz.cells.size]!) (List.range (cn * sz))):=by
      rw[<-List.map_take,List.take_range,Vc hle]
     rw[this,VI]
    obtain⟨HH,S⟩:=aG.new H (w':=w.alloc (.cells (List.map (λi=>vz.cells[i % vz.cells.size]!) (List.range (cn * sz))).toArray el)) el
     (List.map (λi=>vz.cells[i % vz.cells.size]!) (List.range (cn * sz))).toArray {mu:=.m,ep:=0,aP:=sz,es:=List.replicate ln z} cn rfl rfl rfl rfl rfl (by simp;omega) (by simp) ku (λi e he=>by
      rw[pQ];exact s2.obj i e (by simpa using he))
    refine⟨.slice (some ⟨w.heap.size,0,none⟩) ln cn,_,_,?_,H.qz,HH,S,λ_=>cc.alloc w _⟩
    ·have Ee:¬((cn:Int)<0):=by omega
     have Ms:¬((ln:Int)<0):=by omega
     have Qg:¬((ln:Int)>(cn:Int)):=by omega
     simp only[Instr.makeSlice,Sem.run_bind,aR hu,Result.andThen_ok,asInt,asIntOf,Sem.run_pure,KD,wrap_small Qf,wrap_small FP,Sem.run_ite,Ee,Ms,Qg,j3,decide_false,Bool.or_self,TR,if_false,run_askRoom,bQ hs,Vf,z1,newRow,run_newObj]
     by_cases um:cn * sz=0
     ·simp only[um,if_true,eS,List.range_zero,T5]
      rfl
     ·simp only[um,if_false,eS]
      rfl
   cases e
  cases e
 cases e
theorem Gs{args:List Value}{ps:List PV}{r:PV}{ts:Array TypeId}{ty:TypeId}{A:Nat->Prop}(hr:L2 (ar w A Y h) args ps)(e:CM ps=some r):
  ∃u,(Builtin.max_ ts ty args.toArray).run P w=.ok u w/\ar w A Y h u r:=by
 unfold CM at e
 split at e
 ·rename_i k a k' b
  obtain rfl:=TF e;obtain⟨hl,hh⟩:=hr
  match args,hl with
  |[x,y],_=>
   have h0:=hh 0 (by simp);have h1:=hh 1 (by simp);simp only[Vo,Vp]at h0 h1;obtain rfl:=h0.cr;obtain rfl:=h1.cr;exact⟨_,by simp[Builtin.max_,Builtin.max2],.val (.int _ _)⟩
 cases e
theorem Gt{args:List Value}{ps:List PV}{r:PV}{ts:Array TypeId}{ty:TypeId}{A:Nat->Prop}(hr:L2 (ar w A Y h) args ps)(e:Fs ps=some r):
  ∃u,(Builtin.min_ ts ty args.toArray).run P w=.ok u w/\ar w A Y h u r:=by
 unfold Fs at e
 split at e
 ·rename_i k a k' b
  obtain rfl:=TF e;obtain⟨hl,hh⟩:=hr
  match args,hl with
  |[x,y],_=>
   have h0:=hh 0 (by simp);have h1:=hh 1 (by simp);simp only[Vo,Vp]at h0 h1;obtain rfl:=h0.cr;obtain rfl:=h1.cr;exact⟨_,by simp[Builtin.min_,Builtin.min2],.val (.int _ _)⟩
 cases e
theorem vG(d:Nat){t:TypeId}(hu:P.underlying t=some .bool)(a b:Bool)(w:World):(Op.equalIn (d+1) t (.bool a) (.bool b)).run P w=.ok (a==b) w:=by
 simp[Op.equalIn,aR hu]
theorem rY{t:TypeId}(hu:P.underlying t=some .bool)(a b:Bool)(w:World):(Op.equal t (.bool a) (.bool b)).run P w=.ok (a==b) w:=vG 9999 hu a b w
theorem Gu{op:BinOp}{t:TypeId}{x y:Value}{px py r:PV}{ox oy:Operand}{A:Nat->Prop}(hx:ar w A Y h x px)(hy:ar w A Y h y py)(e:dY P op t px py=some r):
  ∃u,((do eqGuard op t ox oy x y;binOp op t x y:Sem Value)).run P w=.ok u w/\ar w A Y h u r:=by
 unfold dY at e
 split at e
 ·rename_i k a k' b
  obtain rfl:=hx.cr;obtain rfl:=hy.cr
  have guard:(eqGuard op t ox oy (.int k a) (.int k' b)).run P w=.ok () w:=by
   cases op <;>simp[eqGuard]
  simp only[Sem.run_bind,guard,Result.andThen_ok]
  split at e
  ·unfold nu at e
   split at e
   cases e
   ·rename_i hb
    obtain rfl:=TF e;refine⟨_,?_,.val (.int _ _)⟩;simp[binOp,Op.shift,hb]
  ·unfold nu at e
   split at e
   cases e
   ·rename_i hb
    obtain rfl:=TF e;refine⟨_,?_,.val (.int _ _)⟩;simp[binOp,Op.shift,hb]
  ·rename_i n1 n2
   split at e
   ·rename_i hk
    subst hk;unfold fE at e
    split at e
    all_goals first
     |(obtain rfl:=TF e;refine⟨_,?_,.val (.int _ _)⟩;simp[binOp,Op.intArith,Op.intBits];done)
     |(obtain rfl:=TF e;refine⟨_,?_,.val (.bool _)⟩;simp[binOp,Op.intCmp];done)
     |(split at e;cases e;rename_i hb;obtain rfl:=TF e;refine⟨_,?_,.val (.int _ _)⟩;simp[binOp,Op.intDiv,hb];done)
     |cases e
   cases e
 ·rename_i a b
  obtain rfl:=hx.gg;obtain rfl:=hy.gg
  have guard:(eqGuard op t ox oy (.string a) (.string b)).run P w=.ok () w:=by
   cases op <;>simp[eqGuard]
  simp only[Sem.run_bind,guard,Result.andThen_ok];unfold jJ at e
  split at e
  all_goals first
   |(obtain rfl:=TF e;refine⟨_,?_,.val (.bool _)⟩;simp[binOp,Op.stringOp];done)
   |(split at e;cases e;rename_i hb;obtain rfl:=TF e;refine⟨_,?_,.val (.str _)⟩;simp only[binOp,Op.stringOp];rw[if_neg hb];rfl)
   |cases e
 ·rename_i a b
  obtain rfl:=hx.dN;obtain rfl:=hy.dN
  have guard:(eqGuard op t ox oy (.bool a) (.bool b)).run P w=.ok () w:=by
   cases op <;>simp[eqGuard]
  simp only[Sem.run_bind,guard,Result.andThen_ok]
  split at e
  ·rename_i hu
   split at e
   ·obtain rfl:=TF e;refine⟨_,?_,.val (.bool _)⟩;simp only[binOp,Sem.run_bind,rY hu,Result.andThen_ok,Sem.run_pure]
   ·obtain rfl:=TF e;refine⟨_,?_,.val (.bool _)⟩;simp only[binOp,Sem.run_bind,rY hu,Result.andThen_ok,Sem.run_pure]
   cases e
  cases e
 cases e
theorem JH{op:UnOp}{x:Value}{px r:PV}{A:Nat->Prop}(hx:ar w A Y h x px)(e:HN op px=some r):
  ∃u,(Op.unary op x).run P w=.ok u w/\ar w A Y h u r:=by
 unfold HN at e
 split at e
 ·obtain rfl:=TF e;obtain rfl:=hx.cr;exact⟨_,by simp[Op.unary,Op.intArith],.val (.int _ _)⟩
 ·obtain rfl:=TF e;obtain rfl:=hx.dN;exact⟨_,by simp[Op.unary],.val (.bool _)⟩
 cases e
theorem Eh{c:PV}{n:Int}(h:CL c=some n):c=.int .u8 n:=by
 unfold CL at h
 split at h
 cases h;rfl
 cases h
theorem pR{c:PV}{r:List PV}{l:List Int}(e:j8 (c::r)=some l):∃n l',c=.int .u8 n/\j8 r=some l'/\l=n::l':=by
 unfold j8 at e
 split at e
 ·rename_i n h1
  split at e
  ·rename_i l' h2
   exact⟨n,l',Eh h1,h2,(TF e).symm⟩
  cases e
 cases e
theorem rZ:∀{es:List PV} {l:List Int},j8 es=some l->l.length=es.length
 |[],l,e=>by cases e;rfl
 |c::r,l,e=>by
  obtain⟨n,l',_,h,rfl⟩:=pR e;simp[rZ h]
theorem pj:∀{es:List PV} {l:List Int},j8 es=some l->∀i,i<es.length->es.getD i .any=.int .u8 (l.getD i 0)
 |[],l,e,i,h=>by simp at h
 |c::r,l,e,i,h=>by
  obtain⟨n,l',rfl,h1,rfl⟩:=pR e
  cases i with
  |zero=>rfl
  |succ i=>simpa using pj h1 i (by simpa using h)
theorem BT{s d t:TypeId}{x:Value}{full:Bool}{es:List PV}{l:List Int}{A:Nat->Prop}(hx:ar w A Y h x (.ab full es))(h1:P.underlying s=some (.slice t))(h2:P.underlying d=some .string)(h3:P.underlying t=some (.int .u8))(h4:j8 es=some l):
  (convert s d x).run P w=.ok (.string (HO l)) w:=by
 cases hx with
 |val hs=>
  cases hs with
  |dP a cap _ hc=>
   cases h4
   rw[run_convert_bytes_string w s d t a 0 cap h1 h3 h2]
   cases a with
   |none=>simp[Conv.bytesToString];rfl
   |some a=>exact run_bytesToString w a 0 cap [] (by simp[loadCells,loadCellsFrom])
  |ab b off cap sz _ _ j0 aU hle hf hA ez hlen iO O0=>
   have hl:=rZ h4;have h0:0<es.length:=Vq.2 aU
   have PN:sz=1:=by
    have:=hlen 0 h0;rw[pj h4 0 h0]at this;exact this.symm
   subst PN
   have hc:∀i,i<es.length->w.cell? ⟨b,off+i,none⟩=some (.int .u8 (l.getD i 0)):=λi hi=>by
    have r1:=iO i 0 hi (by omega);have r2:=O0 i 0 hi (by omega);rw[pj h4 i hi]at r2;simp only[cells,Vo]at r2
    cases hv:j0 i 0 with
    |int k n=>rw[hv]at r2 r1;cases r2;simpa using r1
    |_=>rw[hv]at r2;cases r2
   exact run_convert_bytes_arg w s t h1 h3 b off es.length cap l hl hc d h2
theorem Ei{s d:TypeId}{x:Value}{px r:PV}{A:Nat->Prop}(hx:ar w A Y h x px)(e:th P s d px=some r):
  ∃u,(convert s d x).run P w=.ok u w/\ar w A Y h u r:=by
 unfold th at e
 split at e
 ·rename_i ds k k' n h1 h2
  obtain rfl:=TF e;obtain rfl:=hx.cr;refine⟨_,?_,.val (.int _ _)⟩;simp only[convert,Sem.run_bind,aR h1,aR h2,Result.andThen_ok]
  cases ds <;>simp[Conv.intToInt]
 ·rename_i ds st h1 h2
  obtain rfl:=TF e;obtain rfl:=hx.gg;refine⟨_,?_,.val (.str _)⟩;simp only[convert,Sem.run_bind,aR h1,aR h2,Result.andThen_ok]
  cases ds <;>simp
 ·rename_i h1 h2
  split at e
  ·rename_i h3 h4
   obtain rfl:=TF e;exact⟨_,BT hx h1 h2 h3 h4,.val (.str _)⟩
  cases e
 cases e
def qC(w:World)(A:Nat->Prop)(Y:List (Nat×Nat))(h:aa):Option Value->Option PV->Prop
 |none,none=>True
 |some v,some p=>ar w A Y h v p
 |_,_=>False
theorem dW{A:Nat->Prop}{v:Value}{p:PV}{d t n:Nat}{code:BoundsCode}(hr:ar w A Y h v p)(e:ck (some p) d t=some n):
  n<=t/\∀t',t<=t'->(Instr.sliceBound v t' code).run P w=.ok n w:=by
 unfold ck at e
 split at e
 ·rename_i hn;cases hn
 ·rename_i k i hp
  obtain rfl:=TF hp;obtain rfl:=hr.cr
  split at e
  ·rename_i hc
   obtain rfl:=TF e;refine⟨by omega,λt' ht=>?_⟩;have Fe:0<=i/\i<=(t':Int):=by omega
   simp[Instr.sliceBound,asIntOf,Fe]
  cases e
 cases e
theorem fA{d t n:Nat}(e:ck none d t=some n):n=d:=by
 simpa[ck]using e.symm
theorem zB{A:Nat->Prop}{len cap m b a:Nat}{lo hi mx:Option Value}{plo phi pmx:Option PV}(ud:qC w A Y h lo plo)(ue:qC w A Y h hi phi)(Aq:qC w A Y h mx pmx)
  (hle:len<=cap) (e1:ck pmx len len=some m) (e2:ck phi len m=some b) (e3:ck plo 0 b=some a) (e4:(pmx.isSome&&phi.isNone)=false):
  ∃mc,(Instr.sliceBounds true len cap lo hi mx).run P w=.ok (a,b,mc) w/\a<=b/\b<=len/\b<=mc/\(pmx=none->mc=cap)/\(pmx≠none->mc=m):=by
 have h3:a<=b/\∀c,(match lo with |some v=>Instr.sliceBound v b c |none=>pure 0:Sem Nat).run P w=.ok a w:=by
  cases plo with
  |none=>cases lo with
   |none=>obtain rfl:=fA e3;exact⟨UG _,λc=>rfl⟩
   |some _=>simp[qC]at ud
  |some pl=>cases lo with
   |none=>simp[qC]at ud
   |some vl=>
    refine⟨(dW (P:=P) (code:=.sliceB) (show ar w A Y h vl pl from ud) e3).1,λc=>?_⟩;exact(dW (P:=P) (show ar w A Y h vl pl from ud) e3).2 _ (TI _)
 cases pmx with
 |none=>
  cases mx with
  |some _=>simp[qC]at Aq
  |none=>
   obtain rfl:=fA e1;refine⟨cap,?_,h3.1,?_,?_,λ_=>rfl,λhh=>absurd rfl hh⟩
   ·cases phi with
    |none=>cases hi with
     |none=>
      obtain rfl:=fA e2;simp only[Instr.sliceBounds,Sem.run_bind,Sem.run_pure,Result.andThen_ok];have:=h3.2 .sliceB
      cases lo <;>simp_all
     |some _=>simp[qC]at ue
    |some ph=>cases hi with
     |none=>simp[qC]at ue
     |some vh=>
      have hb:=(dW (P:=P) (code:=.sliceAcap) (show ar w A Y h vh ph from ue) e2).2 cap hle;simp only[Instr.sliceBounds,Sem.run_bind,Sem.run_pure,Result.andThen_ok,if_true,hb];have:=h3.2 .sliceB
      cases lo <;>simp_all
   ·cases phi with
    |none=>obtain rfl:=fA e2;exact TI _
    |some ph=>cases hi with
     |none=>simp[qC]at ue
     |some vh=>exact(dW (P:=P) (code:=.sliceAcap) (show ar w A Y h vh ph from ue) e2).1
   ·cases phi with
    |none=>obtain rfl:=fA e2;exact hle
    |some ph=>cases hi with
     |none=>simp[qC]at ue
     |some vh=>exact T' (dW (P:=P) (code:=.sliceAcap) (show ar w A Y h vh ph from ue) e2).1 hle
 |some pm=>
  cases mx with
  |none=>simp[qC]at Aq
  |some vm=>
   obtain⟨m1,m2⟩:=dW (P:=P) (code:=.slice3Acap) (show ar w A Y h vm pm from Aq) e1
   cases phi with
   |none=>simp at e4
   |some ph=>cases hi with
    |none=>simp[qC]at ue
    |some vh=>
     obtain⟨b1,b2⟩:=dW (P:=P) (code:=.slice3B) (show ar w A Y h vh ph from ue) e2;refine⟨m,?_,h3.1,by omega,b1,(λhh=>by cases hh),(λ_=>rfl)⟩;simp only[Instr.sliceBounds,Sem.run_bind,Result.andThen_ok,if_true,m2 cap hle,b2 m (TI _)];have:=h3.2 .slice3C
     cases lo <;>simp_all
theorem aS.mb{A:Nat->Prop}{v:Value}{full:Bool}{es:List PV}(hv:aS w A v (.ab full es)):es=[]\/
  ∃b off cap sz,∃j0:Nat->Nat->Value,v=.slice (some ⟨b,off,none⟩) es.length cap/\¬A b/\0<sz/\(∀i,i<es.length->(Pm.cells (es.getD i .any)).length=sz)/\
   (∀i j,i<es.length->j<sz->w.cell? ⟨b,off+(i * sz+j),none⟩=some (j0 i j))/\
   (∀i j,i<es.length->j<sz->aS w A (j0 i j) ((Pm.cells (es.getD i .any)).getD j .any)):=by
 cases hv with
 |dP a cap _ hf=>exact .inl rfl
 |ab b off cap sz _ _ j0 h1 h2 h3 h4 h5 h6 h7 h8=>exact .inr ⟨b,off,cap,sz,j0,rfl,h4,h5,h6,h7,h8⟩
theorem BU(H:aG w F Y h){t:TypeId}{x:Value}{px r:PV}{lo hi mx:Option Value}{plo phi pmx:Option PV}(hx:ar w (Av F h Y) Y h x px)
  (ud:qC w (Av F h Y) Y h lo plo) (ue:qC w (Av F h Y) Y h hi phi) (Aq:qC w (Av F h Y) Y h mx pmx) (e:bO P h t px plo phi pmx=some r):
  ∃u,(Instr.sliceAt t x lo hi mx).run P w=.ok u w/\ar w (Av F h Y) Y h u r:=by
 unfold bO at e
 split at e
 ·-- a string
  rename_i s hu
  obtain rfl:=hx.gg
  split at e
  cases e
  ·rename_i hm
   obtain rfl:pmx=none:=by simpa using hm
   obtain rfl:mx=none:=by cases mx <;>simp_all[qC]
   split at e
   ·rename_i b hb
    split at e
    ·rename_i a ha
     obtain rfl:=TF e
     have h1:∃ew,(match hi with |some v=>Instr.sliceBound v s.size .sliceAlen |none=>pure s.size:Sem Nat).run P w=.ok b w/\ew=b:=by
      cases phi with
      |none=>cases hi with
       |none=>exact⟨b,by simp[fA hb],rfl⟩
       |some _=>simp[qC]at ue
      |some ph=>cases hi with
       |none=>simp[qC]at ue
       |some vh=>exact⟨b,(dW (P:=P) (show ar w _ Y h vh ph from ue) hb).2 _ (TI _),rfl⟩
     have h2:(match lo with |some v=>Instr.sliceBound v b .sliceB |none=>pure 0:Sem Nat).run P w=.ok a w:=by
      cases plo with
      |none=>cases lo with
       |none=>simp[fA ha]
       |some _=>simp[qC]at ud
      |some pl=>cases lo with
       |none=>simp[qC]at ud
       |some vl=>exact(dW (P:=P) (show ar w _ Y h vl pl from ud) ha).2 _ (TI _)
     obtain⟨_,h1,_⟩:=h1;refine⟨.string (s.extract a b),?_,.val (.str _)⟩;simp only[Instr.sliceAt,Sem.run_bind,aR hu,Result.andThen_ok,Instr.slice,Instr.sliceBounds]
     cases hi <;>cases lo <;>simp_all
    cases e
   cases e
 ·-- a snapshot
  rename_i el full es hu
  split at e
  ·rename_i sz hs
   split at e
   ·rename_i m hm
    split at e
    ·rename_i b hb
     split at e
     ·rename_i a ha
      split at e
      ·rename_i hc
       obtain⟨wP,oX⟩:=hc;obtain rfl:=TF e;obtain⟨ad,cap,rfl,hle,pQ⟩:=hx.dM.fZ;obtain⟨mc,r1,r2,r3,r4,r5,r6⟩:=zB (P:=P) ud ue Aq hle hm hb ha wP
       have bJ:(Instr.sliceAt t (.slice ad es.length cap) lo hi mx).run P w=.ok (.slice (if mc=a then ad else ad.map (·.add (a * sz))) (b - a) (mc - a)) w:=by
        simp only[Instr.sliceAt,Sem.run_bind,aR hu,Result.andThen_ok,Instr.slice,r1,bQ hs,Sem.run_pure]
       refine⟨_,bJ,.val ?_⟩
       have CC:((if pmx.isSome then m==b else full&&b==es.length)=true->mc - a=b - a):=by
        intro hh
        cases pmx with
        |none=>
         simp at hh;have h1:=r5 rfl;have h2:=pQ hh.1;omega
        |some pm=>
         simp at hh;have h1:=r6 (by simp);omega
       by_cases Ny:b - a=0
       ·rw[Ny];have:(es.drop a).take 0=[]:=by simp
        rw[this];exact .dP _ _ _ (λhh=>by have:=CC hh;omega)
       ·have Sc:mc≠a:=by omega
        rw[if_neg Sc];rcases hx.dM.mb with rfl |⟨b0,off,wY,Ay,j0,ev,k4,k5,k6,k7,k8⟩;simp at r3;omega
        ·simp at ev;obtain⟨rfl,rfl⟩:=ev
         have ez:Ay=sz:=by
          have:=k6 a (by omega);have Lg:es[a]?=some es[a]:=TJ (by omega);rw[Lg]at oX;simp[List.getD,show a<es.length by omega]at this oX;omega
         subst ez;have hlen:((es.drop a).take (b - a)).length=b - a:=by simp;omega
         have xF:∀i,i<b - a->((es.drop a).take (b - a)).getD i .any=es.getD (a+i) .any:=λi hi=>by
          simp[List.getD,T9,hi]
         have:=aS.ab (w:=w) (A:=Av F h Y) b0 (off+a * Ay) (mc - a) Ay (if pmx.isSome then m==b else full&&b==es.length) ((es.drop a).take (b - a)) (λi j=>j0 (a+i) j)
          (by intro hn;rw[hn]at hlen;simp at hlen;omega) (by rw[hlen];omega) (λhh=>by rw[hlen];exact CC hh) k4 k5
          (λi hi=>by rw[hlen]at hi;rw[xF i hi];exact k6 (a+i) (by omega))
          (λi j hi hj=>by
           rw[hlen]at hi;have:=k7 (a+i) j (by omega) hj;rw[Ur]at this;rw[show off+a * Ay+(i * Ay+j)=off+(a * Ay+i * Ay+j) by omega];exact this)
          (λi j hi hj=>by rw[hlen]at hi;rw[xF i hi];exact k8 (a+i) j (by omega) hj)
         rw[hlen]at this;simpa[cG]using this
      cases e
     cases e
    cases e
   cases e
  cases e
 ·-- a reference
  rename_i el id ep off len hu
  split at e
  ·rename_i sz o hs ho
   split at e
   ·rename_i hc
    obtain⟨rfl,hle⟩:=hc;obtain⟨e1,e2,e3⟩:=getM_some ho;obtain⟨bc,IH⟩:=cm H.len e1;obtain⟨m1,m2,m3⟩:=hx.cO;obtain⟨cap,rfl,c2⟩:=m3 o bc e1 IH e3 e2 hle;obtain⟨T,oC,k1,k2,k3,k4,k5⟩:=(H.obj id o bc e1 IH e3).c (m2 o e1).2
    split at e
    ·rename_i b BV
     split at e
     ·rename_i a ha
      obtain⟨O1,kk,ii,O2,Qg,yg⟩:pmx=none/\∃kk ii,phi=some (.int kk ii)/\(len:Int)<ii/\ck (some (.int kk ii)) 0 (o.es.length - off)=some b:=by
       unfold beyond at BV
       split at BV
       ·rename_i kk ii
        split at BV
        exact⟨rfl,kk,ii,rfl,by assumption,BV⟩
        cases BV
       cases BV
      subst O1;subst O2;obtain⟨mc,r1,r2,r3,r4,r5,r6⟩:=zB (P:=P) (len:=o.es.length - off) (cap:=cap) (m:=o.es.length - off) ud ue Aq (by omega) rfl yg ha rfl;have O3:mx=none:=by cases mx with |none=>rfl |some _=>simp[qC]at Aq
      subst O3
      have Se:(Instr.sliceBounds true len cap lo hi none).run P w=.ok (a,b,mc) w:=by
       cases hi with
       |none=>simp[qC]at ue
       |some vh=>exact r1
      have bJ:(Instr.sliceAt t (.slice (some ⟨bc.1,off * o.aP,none⟩) len cap) lo hi none).run P w=.ok (.slice (if mc=a then some ⟨bc.1,off * o.aP,none⟩else some ⟨bc.1,off * o.aP+a * o.aP,none⟩) (b - a) (mc - a)) w:=by
       simp only[Instr.sliceAt,Sem.run_bind,aR hu,Result.andThen_ok,Instr.slice,Se,bQ hs,Sem.run_pure,TO,cG]
      refine⟨_,bJ,?_⟩;have h1:=r5 rfl
      split at e
      ·rename_i JI
       subst JI;obtain rfl:=TF e;refine .an _ id ep off b o bc ⟨_,_,_,rfl⟩ e1 IH e3 (m2 o e1) (λ_ _=>?_);exact⟨cap,by rw[h1];split <;>simp,c2⟩
      ·rename_i JI
       split at e
       ·rename_i hz
        obtain rfl:=TF e;rw[hz];exact .val (.dP _ _ _ (λhh=>by cases hh))
       ·rename_i hz
        obtain rfl:=TF e;rw[if_neg (by omega)];refine .an _ id ep (off+a) (b - a) o bc ⟨_,_,_,rfl⟩ e1 IH e3 (m2 o e1) (λ_ _=>?_);exact⟨cap - a,by rw[h1,Ur],by omega⟩
     cases e
    split at e
    ·rename_i m hm
     split at e
     ·rename_i b hb
      split at e
      ·rename_i a ha
       split at e
       ·rename_i wP
        obtain⟨mc,r1,r2,r3,r4,r5,r6⟩:=zB (P:=P) (cap:=cap) ud ue Aq (by omega) hm hb ha wP
        have bJ:(Instr.sliceAt t (.slice (some ⟨bc.1,off * o.aP,none⟩) len cap) lo hi mx).run P w=.ok (.slice (if mc=a then some ⟨bc.1,off * o.aP,none⟩else some ⟨bc.1,off * o.aP+a * o.aP,none⟩) (b - a) (mc - a)) w:=by
         simp only[Instr.sliceAt,Sem.run_bind,aR hu,Result.andThen_ok,Instr.slice,r1,bQ hs,Sem.run_pure,TO,cG]
        refine⟨_,bJ,?_⟩
        split at e
        ·rename_i O4
         split at e
         ·rename_i Gv
          obtain rfl:=TF e;have h1:=r6 (by intro hh;rw[hh]at O4;simp at O4);have:b - a=0:=by omega
          rw[this];exact .val (.dP _ _ _ (λ_=>by omega))
         ·obtain rfl:=TF e;exact .any _
        ·rename_i O4
         have h1:=r5 (by cases pmx <;>simp_all)
         split at e
         ·rename_i JI
          subst JI;obtain rfl:=TF e;refine .an _ id ep off b o bc ⟨_,_,_,rfl⟩ e1 IH e3 (m2 o e1) (λ_ _=>?_);exact⟨cap,by rw[h1];split <;>simp,c2⟩
         ·rename_i JI
          split at e
          ·rename_i hz
           obtain rfl:=TF e;rw[hz];exact .val (.dP _ _ _ (λhh=>by cases hh))
          ·rename_i hz
           obtain rfl:=TF e;rw[if_neg (by omega)];refine .an _ id ep (off+a) (b - a) o bc ⟨_,_,_,rfl⟩ e1 IH e3 (m2 o e1) (λ_ _=>?_);exact⟨cap - a,by rw[h1,Ur],by omega⟩
       cases e
      cases e
     cases e
    cases e
   cases e
  cases e
 cases e
theorem BW(l:List Value):∀(i off:Nat) (cs:Array Value),off+i+l.length<=cs.size->
  ((l.zipIdx i).foldl (λcs (x:Value×Nat)=>cs.setIfInBounds (off+x.2) x.1) cs).size=cs.size/\
  ∀k,((l.zipIdx i).foldl (λcs (x:Value×Nat)=>cs.setIfInBounds (off+x.2) x.1) cs)[k]?=if off+i<=k/\k<off+i+l.length then l[k - (off+i)]? else cs[k]?:=by
 induction l with
 |nil=>intro i off cs _;exact⟨rfl,λk=>by rw[if_neg (by simp only[Ut];omega)];rfl⟩
 |cons v r ih=>
  intro i off cs hl
  simp only[T2]at hl;obtain⟨h1,h2⟩:=ih (i+1) off (cs.setIfInBounds (off+i) v) (by simp;omega);refine⟨by simpa[List.zipIdx_cons]using h1,λk=>?_⟩;rw[List.zipIdx_cons,VL,h2 k]
  by_cases hA:off+i=k
  ·subst hA;rw[if_neg (by omega),if_pos (by simp only[T2];omega)];rw[Array.getElem?_setIfInBounds_self_of_lt (by omega)];simp
  ·by_cases hB:off+(i+1)<=k/\k<off+(i+1)+r.length
   ·rw[if_pos hB,if_pos (by simp only[T2];omega)];obtain⟨m,hm⟩:∃m,k - (off+i)=m+1:=⟨k - (off+i) - 1,by omega⟩;rw[hm,Vz]
    congr 1
    omega
   ·rw[if_neg hB,if_neg (by simp only[T2];omega),Array.getElem?_setIfInBounds_ne hA]
theorem xG(v:Value)(off:Nat)(cs:Array Value)(hl:off+v.cells.size<=cs.size):
  (v.cells.zipIdx.foldl (λcs (x:Value×Nat)=>cs.setIfInBounds (off+x.2) x.1) cs).size=cs.size/\
  ∀k,(v.cells.zipIdx.foldl (λcs (x:Value×Nat)=>cs.setIfInBounds (off+x.2) x.1) cs)[k]?=if off<=k/\k<off+v.cells.size then v.cells[k - off]? else cs[k]?:=by
 have:=BW v.cells.toList 0 off cs (by simpa using hl);simp only[UK,Uv,T1]at this;rw[<-Array.foldl_toList,Array.toList_zipIdx];exact this
def jH(w:World)(A:Nat->Prop)(Y:List (Nat×Nat))(h:aa)(vs:List (Nat×Value))(ps:List (Nat×PV)):Prop:=
 vs.length=ps.length/\∀(k:Nat) (x:Nat×PV),ps[k]?=some x->∃v:Value,vs[k]?=some (x.1,v)/\ar w A Y h v x.2
theorem jH.AU{A:Nat->Prop}{vs:List (Nat×Value)}(r:jH w A Y h vs []):vs=[]:=T3 r.1
theorem jH.cons_inv{A:Nat->Prop}{vs:List (Nat×Value)}{x:Nat×PV}{ps:List (Nat×PV)}(r:jH w A Y h vs (x::ps)):∃v zC,vs=(x.1,v)::zC/\ar w A Y h v x.2/\jH w A Y h zC ps:=by
 obtain⟨h1,h2⟩:=r;obtain⟨v,h3,h4⟩:=h2 0 x rfl
 match vs,h1,h3 with
 |y::zC,h1,h3=>
  simp at h3;subst h3;exact⟨v,zC,rfl,h4,by simpa using h1,λk x hx=>by simpa using h2 (k+1) x (by simpa using hx)⟩
def r8(w:World)(A:Nat->Prop)(Y:List (Nat×Nat))(h:aa)(cs:Array Value)(ps:List PV):Prop:=
 cs.size=ps.length/\∀(k:Nat) (q:PV),ps[k]?=some q->∃u:Value,cs[k]?=some u/\ar w A Y h u q
theorem xH{A:Nat->Prop}{pl:Nat->Option (Nat×Nat)}{pl':Nat->Option (Nat×Nat)}(qA:∀i x,pl i=some x->pl' i=some x):∀(ps:List (Nat×PV)) (vs:List (Nat×Value)) (cs:Array Value) (cps r:List PV),
  jH w A Y h vs ps->r8 w A Y h cs cps->iF pl cps ps=some r->∃iw,Instr.fill pl' cs vs=some iw/\r8 w A Y h iw r:=by
 intro ps
 induction ps with
 |nil=>
  intro vs cs cps r hp hc e
  obtain rfl:=hp.AU;simp[iF]at e;subst e;exact⟨cs,by simp[Instr.fill],hc⟩
 |cons x ps ih=>
  intro vs cs cps r hp hc e
  obtain⟨v,zC,rfl,h1,h2⟩:=hp.cons_inv;obtain⟨i,p⟩:=x;simp only[iF]at e
  split at e
  cases e
  ·rename_i off size hi
   split at e
   ·rename_i sN
    obtain⟨c1,c2,c3⟩:=sN;obtain⟨x1,x2⟩:=h1.cells c2;simp only at x1 x2 c1;have ez:=hc.1;obtain⟨f1,f2⟩:=xG v off cs (by omega)
    obtain⟨iw,g1,g2⟩:=ih zC _ (nt cps off (Pm.cells p)) r h2 (by
     refine⟨by rw[f1];simp[nt];omega,λk q hq=>?_⟩;rw[nt,eI _ _ _ _ (by omega)]at hq;rw[f2 k]
     by_cases hA:k<off
     ·rw[if_pos hA]at hq;obtain⟨u,m1,m2⟩:=hc.2 k q hq;exact⟨u,by rw[if_neg (by omega)];exact m1,m2⟩
     ·rw[if_neg hA]at hq
      by_cases hB:k<off+(Pm.cells p).length
      ·rw[if_pos hB]at hq;obtain⟨u,m1,m2,_⟩:=x2 _ q hq;exact⟨u,by rw[if_pos (by omega)];exact m1,m2⟩
      ·rw[if_neg hB]at hq;obtain⟨u,m1,m2⟩:=hc.2 k q hq;exact⟨u,by rw[if_neg (by omega)];exact m1,m2⟩) e
    refine⟨iw,?_,g2⟩;simp only[Instr.fill,qA i _ hi];rw[if_neg (by simp;omega)];exact g1
   cases e
theorem xI(fs:Array Field)(cZ:fs.toList.all (λf=>(bI P f.type).isSome)=true)(w:World):
  ∃pl:Array (Nat×Nat),(fs.mapM (λf=>do pure (f.offset,<-sizeOf f.type)):Sem (Array (Nat×Nat))).run P w=.ok pl w/\∀i x,fD P fs i=some x->pl[i]?=some x:=by
 have main:∀(l:List Field),l.all (λf=>(bI P f.type).isSome)=true->
   ∃pl:List (Nat×Nat),(l.mapM (λf=>do pure (f.offset,<-sizeOf f.type)):Sem (List (Nat×Nat))).run P w=.ok pl w/\∀(i:Nat) (f:Field),l[i]?=some f->∃s,bI P f.type=some s/\pl[i]?=some (f.offset,s):=by
  intro l
  induction l with
  |nil=>intro _;exact⟨[],by simp,λi f hf=>by simp at hf⟩
  |cons f r ih=>
   intro ha
   simp at ha;obtain⟨s,hs⟩:=Vu.1 ha.1;obtain⟨pl,h1,h2⟩:=ih (by simpa using ha.2);refine⟨(f.offset,s)::pl,?_,λi g hg=>?_⟩;simp only[List.mapM_cons,Sem.run_bind,bQ hs,Result.andThen_ok,Sem.run_pure,h1]
   ·cases i with
    |zero=>simp at hg;subst hg;exact⟨s,hs,rfl⟩
    |succ i=>simpa using h2 i g (by simpa using hg)
 obtain⟨pl,h1,h2⟩:=main fs.toList cZ;refine⟨pl.toArray,?_,λi x hx=>?_⟩
 ·rw[<-Array.toArray_toList (xs:=fs),List.mapM_toArray];simp only[Sem.run_map,h1,Result.andThen_ok]
 ·unfold fD at hx
  split at hx
  ·rename_i f hf
   obtain⟨s,g1,g2⟩:=h2 i f (by simpa using hf);rw[g1]at hx;simp at hx;subst hx;simpa using g2
  cases hx
theorem r8.agg{A:Nat->Prop}{cs:Array Value}{ps:List PV}(r:r8 w A Y h cs ps):ar w A Y h (.agg cs) (.agg ps):=by
 have:=ar.agg (w:=w) (A:=A) (Y:=Y) (h:=h) cs.toList ps (by simpa using r.1) (λj hj=>by
  obtain⟨u,m1,m2⟩:=r.2 j ps[j] (TJ hj);have e1:cs.toList.getD j Go.undef=u:=by simp[List.getD,m1]
  have e2:ps.getD j .any=ps[j]:=by simp[List.getD,hj]
  rw[e1,e2];exact m2)
 simpa using this
theorem pS{A:Nat->Prop}{t:TypeId}{z:PV}(e:gv P t=some z)(h1:(Pm.cells z).all aZ=true)(w:World)(Y:List (Nat×Nat))(h:aa):∃v,(∀w,(zeroValue t).run P w=.ok v w)/\r8 w A Y h v.cells (Pm.cells z):=by
 obtain⟨v,z1,z2⟩:=gG (P:=P) e;obtain⟨x1,x2⟩:=(z2 w A Y h).cells h1;exact⟨v,z1,x1,λk q hq=>by obtain⟨u,m1,m2,_⟩:=x2 k q hq;exact⟨u,m1,m2⟩⟩
theorem BX{A:Nat->Prop}{t:TypeId}{vs:Array (Nat×Value)}{ps:List (Nat×PV)}{r:PV}(hp:jH w A Y h vs.toList ps)(e:qJ P t ps=some r):
  ∃u,(Instr.build t vs).run P w=.ok u w/\ar w A Y h u r:=by
 unfold qJ at e
 split at e
 ·rename_i z fs hz hu
  split at e
  ·rename_i cZ
   obtain⟨cZ,oX⟩:=cZ
   cases hf:iF (fD P fs) (Pm.cells z) ps with
   |none=>rw[hf]at e;simp at e
   |some q=>
    rw[hf]at e;simp at e;subst e;obtain⟨v,z1,z2⟩:=pS (P:=P) (A:=A) hz oX w Y h;obtain⟨pl,p1,p2⟩:=xI fs cZ w;obtain⟨iw,g1,g2⟩:=xH (pl':=λi=>pl[i]?) p2 ps vs.toList v.cells (Pm.cells z) q hp z2 hf;refine⟨.agg iw,?_,g2.agg⟩;simp only[Instr.build,Sem.run_bind,z1,Result.andThen_ok,aR hu,p1,g1,Sem.run_pure]
  cases e
 ·rename_i z n el hz hu
  split at e
  ·rename_i size hs
   split at e
   ·rename_i oX
    cases hf:iF (λi=>some (i * size,size)) (Pm.cells z) ps with
    |none=>rw[hf]at e;simp at e
    |some q=>
     rw[hf]at e;simp at e;subst e;obtain⟨v,z1,z2⟩:=pS (P:=P) (A:=A) hz oX w Y h;obtain⟨iw,g1,g2⟩:=xH (pl':=λi=>some (i * size,size)) (λ_ _ hx=>hx) ps vs.toList v.cells (Pm.cells z) q hp z2 hf;refine⟨.agg iw,?_,g2.agg⟩;simp only[Instr.build,Sem.run_bind,z1,Result.andThen_ok,aR hu,bQ hs,g1,Sem.run_pure]
   cases e
  cases e
 cases e
theorem Flat.set{A:Nat->Prop}{sz:Nat}{cs iw:Array Value}{es:List PV}(a:Flat w A Y h sz cs.toList es){v:Value}{p:PV}(hv:ar w A Y h v p)(h1:(Pm.cells p).length=sz)(h2:(Pm.cells p).all aZ=true)
  (i:Nat) (hi:i<es.length) (ez:iw.size=cs.size) (hk:∀k,iw[k]?=if i * sz<=k/\k<i * sz+v.cells.size then v.cells[k - i * sz]? else cs[k]?):Flat w A Y h sz iw.toList (es.set i p):=by
 obtain⟨x1,x2⟩:=hv.cells h2;refine⟨by have:=a.1;simp at this ⊢;omega,λk e he=>?_⟩
 by_cases Ig:k=i
 ·subst Ig;rw[TM hi]at he;obtain rfl:=TF he;refine⟨h1,λj q hq=>?_⟩;have hj:=ae hq;obtain⟨u,m1,m2,_⟩:=x2 j q hq;refine⟨u,?_,m2⟩;rw[T1,hk,if_pos (by omega),show k * sz+j - k * sz=j by omega];exact m1
 ·rw[TN (Um Ig)]at he;obtain⟨n1,n2⟩:=a.2 k e he;refine⟨n1,λj q hq=>?_⟩;have hj:=ae hq;obtain⟨u,m1,m2⟩:=n2 j q hq;refine⟨u,?_,m2⟩;rw[T1,hk,if_neg];simpa using m1
  ·rcases Nat.lt_or_gt_of_ne Ig with hl |hg
   ·have:=ig (s:=sz) hl;omega
   ·have:=ig (s:=sz) hg;omega
theorem BY{A:Nat->Prop}{sz:Nat}:∀(ps:List (Nat×PV)) (vs:List (Nat×Value)) (cs:Array Value) (es:List PV),jH w A Y h vs ps->Flat w A Y h sz cs.toList es->
  (∀x∈ps,(Pm.cells x.2).length=sz/\(Pm.cells x.2).all aZ=true/\x.1<es.length)->
  ∃iw,Instr.fill (λi=>some (i * sz,sz)) cs vs=some iw/\Flat w A Y h sz iw.toList (ps.foldl (λes x=>es.set x.1 x.2) es):=by
 intro ps
 induction ps with
 |nil=>
  intro vs cs es hp hf _
  obtain rfl:=hp.AU;exact⟨cs,by simp[Instr.fill],hf⟩
 |cons x ps ih=>
  intro vs cs es hp hf cZ
  obtain⟨v,zC,rfl,h1,h2⟩:=hp.cons_inv;obtain⟨c1,c2,c3⟩:=cZ x (by simp);obtain⟨x1,_⟩:=h1.cells c2;have hl:=hf.1;have hm:=ig (s:=sz) c3;simp at hl;obtain⟨f1,f2⟩:=xG v (x.1 * sz) cs (by omega);have CC:=hf.set h1 c1 c2 x.1 c3 f1 f2
  obtain⟨iw,g1,g2⟩:=ih zC _ _ h2 CC (λy hy=>by
   obtain⟨d1,d2,d3⟩:=cZ y (by simp[hy]);exact⟨d1,d2,by simpa using d3⟩)
  refine⟨iw,?_,g2⟩;simp only[Instr.fill];rw[if_neg (by simp;omega)];exact g1
theorem Flat.ab{A:Nat->Prop}{sz:Nat}{cs:List Value}{es:List PV}(a:Flat w A Y h sz cs es)(hs:0<sz)(hv:au es=true){w':World}{A':Nat->Prop}{b cap:Nat}{full:Bool}
  (hw:∀k,k<w.heap.size->¬A k->w'.heap[k]?=w.heap[k]?) (hA:∀k,k<w.heap.size->¬A k->¬A' k) (hb:¬A' b) (hc:∀(k:Nat) (u:Value),cs[k]?=some u->w'.cell? ⟨b,k,none⟩=some u) (oB:es.length<=cap) (pQ:full=true->cap=es.length):
  aS w' A' (.slice (some ⟨b,0,none⟩) es.length cap) (.ab full es):=by
 by_cases hn:es=[]
 ·subst hn;exact .dP _ _ _ (λhh=>by simpa using pQ hh)
 ·have isv:∀(l:List PV),au l=true->∀e∈l,aJ e=true:=by
   intro l
   induction l with
   |nil=>intro _ e he;cases he
   |cons c r ih=>
    intro hl e he
    simp[au]at hl;rcases TW.1 he with rfl |he;exact hl.1;exact ih hl.2 e he
  have Bb:∀(e:PV),aJ e=true->∀q∈Pm.cells e,aJ q=true:=by
   intro e he q hq
   cases e <;>first
    |(simp only[Pm.cells,Ua]at hq;subst hq;exact he)
    |(simp[aJ]at he;exact isv _ he q hq)
  have at_:∀i j,i<es.length->j<sz->∃u,cs[i * sz+j]?=some u/\aS w A u ((Pm.cells (es.getD i .any)).getD j .any):=by
   intro i j hi hj
   have he:=TJ hi;obtain⟨n1,n2⟩:=a.2 i _ he;have hq:=TJ (show j<(Pm.cells es[i]).length by omega);obtain⟨u,m1,m2⟩:=n2 j _ hq;have e1:es.getD i .any=es[i]:=by simp[List.getD,hi]
   refine⟨u,m1,?_⟩;rw[e1];have e2:(Pm.cells es[i]).getD j .any=(Pm.cells es[i])[j]'(by omega):=by simp[List.getD,hq]
   rw[e2];exact m2.yz (Bb _ (isv es hv _ (Up hi)) _ (Up _))
  refine .ab b 0 cap sz full es (λi j=>cs.getD (i * sz+j) Go.undef) hn oB pQ hb hs (λi hi=>?_) (λi j hi hj=>?_) (λi j hi hj=>?_)
  ·have e1:es.getD i .any=es[i]:=by simp[List.getD,hi]
   rw[e1];exact(a.2 i _ (TJ hi)).1
  ·obtain⟨u,m1,m2⟩:=at_ i j hi hj;rw[Uu,hc _ u m1];simp[List.getD,m1]
  ·obtain⟨u,m1,m2⟩:=at_ i j hi hj;have:cs.getD (i * sz+j) Go.undef=u:=by simp[List.getD,m1]
   rw[this];exact m2.mono hw hA
theorem r9(H:aG w F Y h){lv:Nat}{t:TypeId}{n:Nat}{vs:Array (Nat×Value)}{ps:List (Nat×PV)}{r:PV}{h':aa}(hp:jH w (Av F h Y) Y h vs.toList ps)(e:cu P lv h t n ps=some (r,h')):
  vq P lv w F Y h (Instr.buildSlice t n vs) r h':=by
 unfold cu at e
 split at e
 ·rename_i el hu
  split at e
  ·rename_i size z hs hz
   split at e
   ·rename_i hc
    obtain⟨ku,Jr,Cz,CA,cZ⟩:=hc;obtain⟨vz,z1,z2⟩:=gG (P:=P) hz;obtain⟨s1,s2⟩:=mi (z2 w (Av F h Y) Y h) Cz CA ku n
    obtain⟨iw,g1,g2⟩:=BY (sz:=size) ps vs.toList (List.map (λi=>vz.cells[i % vz.cells.size]!) (List.range (n * size))).toArray (List.replicate n z) hp (by simpa using s2) (λx hx=>by
     have:=TH.1 cZ x hx;simp only[TK,decide_eq_true_eq]at this;exact⟨this.1.1,this.1.2,by simpa using this.2⟩)
    have O5:ps.foldl (λes x=>es.set x.1 x.2) (List.replicate n z)=uR z n ps:=rfl;rw[O5]at g2
    have yQ:(uR z n ps).length=n:=by
     have:∀(l:List (Nat×PV)) (es:List PV),(l.foldl (λes x=>es.set x.1 x.2) es).length=es.length:=by
      intro l
      induction l with
      |nil=>intro es;rfl
      |cons x l ih=>intro es;rw[VL,ih];simp
     unfold uR;rw[this];simp
    have bJ:(Instr.buildSlice t n vs).run P w=.ok (.slice (some ⟨w.heap.size,0,none⟩) n n) (w.alloc (.cells iw el)):=by
     simp only[Instr.buildSlice,Sem.run_bind,aR hu,Result.andThen_ok,bQ hs,Sem.run_ite];rw[if_neg (by omega)]
     by_cases h0:n * size=0
     ·have Sf:n=0:=by
       rcases Nat.mul_eq_zero.1 h0 with h |h;exact h;omega
      subst Sf;simp only[h0,if_true,Sem.run_pure,Result.andThen_ok,eS,List.range_zero,T5]at g1 ⊢;rw[g1];simp only[Sem.run_bind,newRow,run_newObj,Result.andThen_ok,Sem.run_pure]
      rfl
     ·simp only[h0,if_false,z1,Result.andThen_ok,Sem.run_pure,eS];rw[g1];simp only[Sem.run_bind,newRow,run_newObj,Result.andThen_ok,Sem.run_pure]
      rfl
    split at e
    ·rename_i hv
     obtain⟨rfl,rfl⟩:=TL (TF e);refine⟨_,_,Y,bJ,.val ?_,H.uY (cc.alloc w _),(cc.alloc w _).pG h Y,λ_=>cc.alloc w _⟩
     have:=g2.ab (w':=w.alloc (.cells iw el)) (A':=Av F h Y) (b:=w.heap.size) (cap:=n) (full:=true) ku hv (λk hk _=>heap_alloc_old w _ k hk) (λk _ hk=>hk)
      (λhm=>by have:=Av.lt H hm;omega) (λk u Sg=>by rw[World.cell?_alloc_new];simpa using Sg) (by omega) (λ_=>by omega)
     rwa[yQ]at this
    ·rename_i hv
     split at e
     ·obtain⟨rfl,rfl⟩:=TL (TF e)
      obtain⟨HH,S⟩:=aG.new H (w':=w.alloc (.cells iw el)) el iw {mu:=.m,ep:=0,aP:=size,es:=uR z n ps} n rfl rfl rfl rfl rfl (by simp[yQ])
       (by have:=g2.1;simp[yQ]at this;simp[this]) ku (λi e he=>by
        obtain⟨n1,n2⟩:=g2.2 i e he;exact⟨n1,λj p hp=>by obtain⟨u,m1,m2⟩:=n2 j p hp;exact⟨u,by simpa using m1,m2⟩⟩)
      exact⟨_,_,_,bJ,H.qz,HH,S,λ_=>cc.alloc w _⟩
     cases e
   cases e
  cases e
 cases e
open Go.MapKept
theorem AP{A:Nat->Prop}{t:TypeId}{k:PV}{v:Value}(hk:sO P t k=true)(hv:ar w A Y h v k):∃d,P.underlying t=some d/\IsKey d v/\∀(k':PV) (v':Value) (b:Bool),ti k k'=some b->ar w A Y h v' k'->Instr.sameNow d v v'=some b/\(b=true->Instr.sameBits 10000 v' v=true/\ar w A Y h v k'):=by
 unfold sO at hk
 split at hk
 ·rename_i kd k n hu
  obtain rfl:=hv.cr;have hk:=of_decide_eq_true hk;refine⟨_,hu,by simpa[IsKey]using hk,λk' v' b hs vY=>?_⟩
  cases k' <;>simp only[ti]at hs <;>try(cases hs;done)
  obtain rfl:=vY.cr
  split at hs
  ·rename_i RT
   subst RT;obtain rfl:=TF hs;refine⟨by simp[Instr.sameNow],λhb=>?_⟩;have:=eq_of_beq hb;subst this;exact⟨by simp[Instr.sameBits],hv⟩
  cases hs
 ·rename_i s hu
  obtain rfl:=hv.gg;refine⟨_,hu,by simp[IsKey],λk' v' b hs vY=>?_⟩
  cases k' <;>simp only[ti]at hs <;>try(cases hs;done)
  obtain rfl:=vY.gg;obtain rfl:=TF hs;refine⟨by simp[Instr.sameNow],λhb=>?_⟩;have:=(bytes_beq _ _).1 hb;subst this;exact⟨by simp only[Instr.sameBits];exact hb,hv⟩
 ·rename_i b hu
  obtain rfl:=hv.dN;refine⟨_,hu,by simp[IsKey],λk' v' b hs vY=>?_⟩
  cases k' <;>simp only[ti]at hs <;>try(cases hs;done)
  obtain rfl:=vY.dN;obtain rfl:=TF hs;refine⟨by simp[Instr.sameNow],λhb=>?_⟩;have:=eq_of_beq hb;subst this;exact⟨by simp[Instr.sameBits],hv⟩
 cases hk
def Nu(w:World)(A:Nat->Prop)(Y:List (Nat×Nat))(h:aa)(l:List MapEntry)(ps:List PV):Prop:=
 l.length=ps.length/\∀(i:Nat) (e:PV),ps[i]?=some e->∃(k v:PV) (m:MapEntry),e=.agg [k,v]/\l[i]?=some m/\ar w A Y h m.key k/\ar w A Y h m.val v
theorem lM{A:Nat->Prop}{d:TypeDesc}{k:PV}{v:Value}(hs:∀(k':PV) (v':Value) (b:Bool),ti k k'=some b->ar w A Y h v' k'->Instr.sameNow d v v'=some b/\(b=true->Instr.sameBits 10000 v' v=true/\ar w A Y h v k')):
  ∀(l:List MapEntry) (ps:List PV) (n:Nat) (r:Option (Nat×PV)),Nu w A Y h l ps->pF k ps n=some r->
   match r with
   |none=>Instr.findNow d v l n=some none
   |some (j,p)=>∃(i:Nat) (m:MapEntry) (k':PV),j=n+i/\l[i]?=some m/\ps[i]?=some (.agg [k',p])/\Instr.findNow d v l n=some (some (j,m.val))/\ar w A Y h m.val p/\Instr.sameBits 10000 m.key v=true/\ar w A Y h v k'
 |[],ps,n,r,hR,e=>by
  obtain⟨h1,_⟩:=hR;have:ps=[]:=List.length_eq_zero_iff.1 h1.symm;subst this;simp only[pF]at e;obtain rfl:=TF e
  rfl
 |m::l,[],n,r,hR,e=>by
  obtain⟨h1,_⟩:=hR;simp at h1
 |m::l,p0::ps,n,r,hR,e=>by
  obtain⟨h1,h2⟩:=hR;obtain⟨k0,v0,m0,rfl,hm,Kz,yh⟩:=h2 0 p0 rfl;simp at hm;subst hm
  have hT:Nu w A Y h l ps:=⟨by simpa using h1,λi e he=>by
   obtain⟨k1,v1,m1,g1,g2,g3⟩:=h2 (i+1) e (by simpa using he);exact⟨k1,v1,m1,g1,by simpa using g2,g3⟩⟩
  simp only[pF]at e
  split at e
  ·rename_i vg
   obtain rfl:=TF e;obtain⟨q1,q2⟩:=hs k0 m.key true vg Kz;obtain⟨q3,q4⟩:=q2 rfl;exact⟨0,m,k0,rfl,rfl,rfl,by simp[Instr.findNow,q1],yh,q3,q4⟩
  ·rename_i vg
   obtain⟨q1,_⟩:=hs k0 m.key false vg Kz;have:=lM hs l ps (n+1) r hT e;have hf:Instr.findNow d v (m::l) n=Instr.findNow d v l (n+1):=by simp[Instr.findNow,q1]
   cases r with
   |none=>simpa[hf]using this
   |some jp=>
    obtain⟨j,p⟩:=jp;obtain⟨i,m1,k1,g1,g2,g3,g4,g5⟩:=this;exact⟨i+1,m1,k1,by omega,by simpa using g2,by simpa using g3,by rw[hf];exact g4,g5⟩
  cases e
theorem DZ{A:Nat->Prop}{es:Array MapEntry}{ps:List PV}(h1:es.size=ps.length)(h2:∀(i:Nat) (e:PV),ps[i]?=some e->∃(k v:PV) (m:MapEntry),e=.agg [k,v]/\es[i]?=some m/\ar w A Y h m.key k/\ar w A Y h m.val v):
  Nu w A Y h es.toList ps:=⟨by simpa using h1,λi e he=>by
 obtain⟨k,v,m,g1,g2,g3⟩:=h2 i e he;exact⟨k,v,m,g1,by simpa using g2,g3⟩⟩
theorem zq(H:aG w F Y h){vm vk:Value}{m k q:PV}{t:TypeId}{ok:Bool}(hm:ar w (Av F h Y) Y h vm m)(hk:ar w (Av F h Y) Y h vk k)(e:j9 P h t m k ok=some q):
  ∃u,(Instr.lookup t vm vk ok).run P w=.ok u w/\ar w (Av F h Y) Y h u q:=by
 unfold j9 at e
 split at e
 ·rename_i kt et hu
  split at e
  ·rename_i z hz
   split at e
   ·rename_i cI
    obtain⟨d,hd,yC,xq⟩:=AP cI hk;obtain⟨vz,z1,z2⟩:=pf hz w (Av F h Y) Y h
    have OR:∀{u:Value} {p:PV} (b:Bool),ar w (Av F h Y) Y h u p->ar w (Av F h Y) Y h (if ok then .tuple #[u,.bool b]else u) (eL ok p b):=by
     intro u p b hr
     unfold eL
     cases ok
     exact hr
     ·exact .cT [u,.bool b] [p,.bool b] rfl (λj hj=>by
       match j,hj with
       |0,_=>exact hr
       |1,_=>exact .val (.bool b))
    split at e
    ·obtain rfl:=TF e;obtain rfl:=hm.xu;refine⟨_,?_,OR false z2⟩;simp only[Instr.lookup,Sem.run_bind,aR hu,Result.andThen_ok,Sem.run_pure,run_checkKey hd yC,run_findKey (l:=(#[]:Array MapEntry).toList) hd (a:=none) rfl,z1]
    ·rename_i id
     split at e
     ·rename_i o ho
      obtain⟨bc,es,clock,rfl,k2,k3,k4⟩:=D0 H hm ho;have hE:=DZ k3 k4
      split at e
      ·rename_i j p hf
       obtain rfl:=TF e;obtain⟨i,me,k',g1,g2,g3,g4,g5,g6⟩:=lM xq es.toList o.es 0 _ hE hf;refine⟨_,?_,OR true g5⟩;simp only[Instr.lookup,Sem.run_bind,aR hu,Result.andThen_ok,Sem.run_pure,iZ k2,run_checkKey hd yC,run_findKey hd g4]
      ·rename_i hf
       obtain rfl:=TF e;have g4:=lM xq es.toList o.es 0 _ hE hf;refine⟨_,?_,OR false z2⟩;simp only[Instr.lookup,Sem.run_bind,aR hu,Result.andThen_ok,Sem.run_pure,iZ k2,run_checkKey hd yC,run_findKey hd g4,z1]
      cases e
     cases e
    cases e
   cases e
  cases e
 cases e
theorem xv{lv:Nat}(H:aG w F Y h){t:TypeId}{r:Option PV}{vr:Option Value}(hr:qC w (Av F h Y) Y h vr r){p:PV}{h':aa}(e:jK P lv h t r=some (p,h')):vq P lv w F Y h (Instr.makeMap t vr) p h':=by
 obtain⟨H1,S1⟩:=H.Jk
 have hv:ar (w.alloc (.map #[] 0)) (Av F (newObj h 0 []) (Y++[(w.heap.size,0)])) (Y++[(w.heap.size,0)]) (newObj h 0 []) (.map (some w.heap.size)) (.fe h.length):=
  .fe _ _ {mu:=.m,ep:=0,aP:=0,es:=[]} (w.heap.size,0) ⟨_,rfl⟩ (by simp[newObj]) (by rw[<-H.len];simp) (by simp) (λ_=>rfl)
 unfold jK at e
 split at e
 ·split at e
  ·obtain⟨rfl,rfl⟩:=TL (TF e)
   cases vr with
   |some v=>exact hr.elim
   |none=>exact⟨_,_,_,rfl,hv,H1,S1,λ_=>cc.alloc w _⟩
  ·rename_i k n kt et hu
   obtain⟨rfl,rfl⟩:=TL (TF e)
   cases vr with
   |none=>exact hr.elim
   |some v=>
    obtain rfl:=ar.cr hr;refine⟨_,_,_,?_,hv,H1,S1,λ_=>cc.alloc w _⟩;simp[Instr.makeMap,aR hu,asInt,asIntOf]
  ·cases e
 cases e
theorem rM(H:aG w F Y h){vm vk vx:Value}{m k x:PV}{t:TypeId}{h':aa}(hm:ar w (Av F h Y) Y h vm m)(hk:ar w (Av F h Y) Y h vk k)(hx:ar w (Av F h Y) Y h vx x)(e:j' P h t m k x=some h'):
  ∃w' Y',(Instr.mapUpdate t vm vk vx).run P w=.ok () w'/\aG w' F Y' h'/\cP w h Y w' h' Y':=by
 unfold j' at e
 split at e
 ·rename_i kt et id hu
  split at e
  ·rename_i o ho
   split at e
   ·rename_i hc
    obtain⟨cI,xa⟩:=hc;obtain⟨e1,e2,e3,e4⟩:=uo ho;obtain⟨bc,hb⟩:=cm H.len e1;obtain⟨_,es,clock,k2,k3,k4⟩:=(H.obj id o bc e1 hb e3).m e4;obtain rfl:=hm.xw e1 hb e2;have hE:=DZ k3 k4;obtain⟨d,hd,yC,xq⟩:=AP cI hk;have cx:=(TY.1 k2).1
    have hY:Y=Y.set id bc:=by
     apply Uw
     intro j
     by_cases hj:j=id
     subst hj;rw[TM (by have:=H.len;have:=ae e1;omega)];exact hb;rw[TN (Um hj)]
    have fin:∀(cS:Array MapEntry) (clock2:Nat) (ps:List PV),Nu w (Av F h Y) Y h cS.toList ps->
      aG {w with heap:=w.heap.setIfInBounds bc.1 (.map cS clock2)} F Y (h.set id {o with es:=ps})/\cP w h Y {w with heap:=w.heap.setIfInBounds bc.1 (.map cS clock2)} (h.set id {o with es:=ps}) Y:=by
     intro cS clock2 ps hR
     have dL:({w with heap:=w.heap.setIfInBounds bc.1 (.map cS clock2)}:World).heap[bc.1]?=some (.map cS clock2):=by
      simp[cx]
     have:=aG.LX H e1 hb xa (w':={w with heap:=w.heap.setIfInBounds bc.1 (.map cS clock2)}) ps o.ep bc (by simp) (λb qo aU=>by
      simp only[Array.getElem?_setIfInBounds];rw[if_neg (Um aU)]) (.inl ⟨rfl,λ_=>.inr e4⟩) (TI _) rfl rfl rfl (λhs=>.inr ⟨e4,cS,clock2,dL,by simpa using hR.1,λi e he=>by
       obtain⟨k,v,m,g1,g2,g3,g4⟩:=hR.2 i e he;exact⟨k,v,m,g1,by simpa using g2,g3.mono hs,g4.mono hs⟩⟩)
     rw[<-hY]at this;exact this
    unfold HP at e
    split at e
    ·rename_i eD Gk
     obtain rfl:=TF e
     split at Gk
     ·rename_i j p hf
      obtain rfl:=TF Gk;obtain⟨i,me,k',g1,g2,g3,g4,g5,g6,g7⟩:=lM xq es.toList o.es 0 _ hE hf;obtain rfl:j=i:=by omega
      have K':es[j]?=some me:=by simpa using g2
      obtain⟨HH,SS⟩:=fin (es.modify j λe=>{e with key:=vk,val:=vx}) clock (o.es.set j (.agg [k,x])) (by
       refine⟨by simp[k3],λi e he=>?_⟩
       by_cases hi:i=j
       ·subst hi;rw[TM (ae g3)]at he;obtain rfl:=TF he;refine⟨k,x,{me with key:=vk,val:=vx},rfl,?_,hk,hx⟩;rw[T1,Vj,if_pos rfl,K'];rfl
       ·rw[TN (Um hi)]at he;obtain⟨k1,v1,m1,q1,q2,q3⟩:=k4 i e he;refine⟨k1,v1,m1,q1,?_,q3⟩;rw[T1,Vj,if_neg (Um hi)];exact q2)
      refine⟨_,Y,?_,HH,SS⟩;simp only[Instr.mapUpdate,Sem.run_bind,aR hu,Result.andThen_ok,iZ k2,run_checkKey hd yC,run_findKey hd g4,Instr.keyThatStays,K',TO,Option.getD_some,g6,if_true,Sem.run_pure,run_setObj_map _ k2]
     ·rename_i hf
      obtain rfl:=TF Gk;have g4:=lM xq es.toList o.es 0 _ hE hf
      obtain⟨HH,SS⟩:=fin (es.push {key:=vk,val:=vx,born:=clock}) (clock+1) (o.es++[.agg [k,x]]) (by
       refine⟨by simp[k3],λi e he=>?_⟩
       by_cases hi:i<o.es.length
       ·rw[TG hi]at he;obtain⟨k1,v1,m1,q1,q2,q3⟩:=k4 i e he;refine⟨k1,v1,m1,q1,?_,q3⟩;rw[T1,Array.getElem?_push,if_neg (by omega)];exact q2
       ·have hl:=ae he;simp at hl;obtain rfl:i=o.es.length:=by omega
        rw[TQ (TI _)]at he;simp at he;subst he;refine⟨k,x,{key:=vk,val:=vx,born:=clock},rfl,?_,hk,hx⟩;rw[T1,<-k3];simp)
      refine⟨_,Y,?_,HH,SS⟩;simp only[Instr.mapUpdate,Sem.run_bind,aR hu,Result.andThen_ok,iZ k2,run_checkKey hd yC,run_findKey hd g4,run_setObj_map _ k2]
     cases Gk
    cases e
   cases e
  cases e
 cases e
end Go.Pm
