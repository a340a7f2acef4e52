/-
  A part of the library Pm and its contracts (joined by program): PmHeap PmOps PmOps2 PmOps3. Conditions: none.
-/
import Derived.Test.YtimogkojklpdnaaGreatDoorPzAA
import Derived.Laws.BytesArg
set_option linter.unusedVariables false
set_option linter.unusedSimpArgs false
section
namespace Go.Pm
theorem exists_list {R:Nat→Value→Prop}:∀ (n:Nat),(∀ j,j<n→∃ u,R j u)→∃ vs:List Value,vs.length=n∧∀ j,j<n→R j (vs.getD j undef)
 | 0,_=>⟨[],rfl,fun j hj=>absurd hj (Nat.not_lt_zero _)⟩
 | n+1,h=>by
  obtain ⟨vs,hl,hr⟩:=exists_list n (fun j hj=>h j (by omega))
  obtain ⟨u,hu⟩:=h n (by omega)
  refine ⟨vs++[u],by simp [hl],fun j hj=>?_⟩
  by_cases hjn:j<n
  ·have:(vs++[u]).getD j undef=vs.getD j undef:=by simp [List.getD,List.getElem?_append_left (show j<vs.length by omega)]
   rw [this];exact hr j hjn
  ·obtain rfl:j=n:=by omega
   have:(vs++[u]).getD j undef=u:=by simp [List.getD,← hl]
   rw [this];exact hu
theorem getM_some {h:AHeap} {id ep:Nat} {o:AObj} (e:getM h id ep=some o):h[id]?=some o∧o.ep=ep∧o.mu≠.x:=by
 unfold getM at e
 split at e
 ·rename_i o' ho
  split at e
  ·rename_i hc
   obtain rfl:=Option.some.inj e
   exact ⟨ho,hc.1,hc.2⟩
  ·cases e
 ·cases e
theorem beta_at {h:AHeap} {β:List (Nat × Nat)} (hl:β.length=h.length) {id:Nat} {o:AObj} (e:h[id]?=some o):∃ bc,β[id]?=some bc:=by
 have:id<h.length:=by
  rcases Nat.lt_or_ge id h.length with h1 | h1
  ·exact h1
  ·rw [List.getElem?_eq_none h1] at e;cases e
 exact ⟨β[id]'(by omega),List.getElem?_eq_getElem (by omega)⟩
theorem lt_of_some {α:Type} {l:List α} {i:Nat} {x:α} (h:l[i]?=some x):i<l.length:=by
 rcases Nat.lt_or_ge i l.length with h1 | h1
 ·exact h1
 ·rw [List.getElem?_eq_none h1] at h;cases h
theorem Mb.lt {w:World} {F:Nat→Prop} {β:List (Nat × Nat)} {h:AHeap} (H:HRel w F β h) {b:Nat} (m:Mb h β b):b<w.heap.size:=by
 obtain ⟨id,o,bc,e1,e2,e3,rfl⟩:=m
 exact (H.obj id o bc e1 e2 (by rw [e3];simp)).lt
theorem Av.lt {w:World} {F:Nat→Prop} {β:List (Nat × Nat)} {h:AHeap} (H:HRel w F β h) {b:Nat} (m:Av F h β b):b<w.heap.size:=by
 rcases m with m | m
 ·exact H.fin b m
 ·exact Mb.lt H m
structure Grew (w w':World):Prop where
 size:w.heap.size≤w'.heap.size
 keep:∀ b,b<w.heap.size→w'.heap[b]?=w.heap[b]?
 os:w'.os=w.os
 tape:w'.tape=w.tape
 output:w'.output=w.output
 drawn:w.drawn≤w'.drawn
theorem Grew.refl (w:World):Grew w w:=⟨Nat.le_refl _,fun _ _=>rfl,rfl,rfl,rfl,Nat.le_refl _⟩
theorem Grew.trans {a b c:World} (x:Grew a b) (y:Grew b c):Grew a c:=
 ⟨Nat.le_trans x.size y.size,fun k hk=>(y.keep k (Nat.lt_of_lt_of_le hk x.size)).trans (x.keep k hk),y.os.trans x.os,y.tape.trans x.tape,y.output.trans x.output,Nat.le_trans x.drawn y.drawn⟩
theorem Grew.alloc (w:World) (o:Obj):Grew w (w.alloc o):=⟨by simp,fun b hb=>heap_alloc_old w o b hb,rfl,rfl,rfl,Nat.le_refl _⟩
theorem Grew.drew (w:World):Grew w w.drew:=⟨Nat.le_refl _,fun _ _=>rfl,rfl,rfl,rfl,Nat.le_succ _⟩
theorem Grew.stp {w w':World} (g:Grew w w') (h:AHeap) (β:List (Nat × Nat)):Stp w h β w' h β where
 size:=g.size
 len:=Nat.le_refl _
 keep b hb _:=g.keep b hb
 shr _ _ m:=m
 refs:=Fwd.refl h β
 lck id o h1 _:=⟨h1,rfl⟩
 os:=g.os
 tape:=g.tape
 output:=g.output
 drawn:=g.drawn
theorem ORel.mono {w w':World} {F:Nat→Prop} {h h':AHeap} {β β':List (Nat × Nat)} (s:Stp w h β w' h' β') {o:AObj} {bc:Nat × Nat} (hb:w'.heap[bc.1]?=w.heap[bc.1]?)
  (r:ORel w (Av F h β) β h o bc):ORel w' (Av F h' β') β' h' o bc:=by
 rcases r with ⟨T,cs,h1,h2,h3,h4,h5⟩ | ⟨h0,es,clock,h1,h2,h3⟩
 ·refine .inl ⟨T,cs,hb.trans h1,h2,h3,h4,fun i e he=>⟨(h5 i e he).1,fun j p hp=>?_⟩⟩
  obtain ⟨v,k1,k2⟩:=(h5 i e he).2 j p hp
  exact ⟨v,k1,k2.mono s⟩
 ·refine .inr ⟨h0,es,clock,hb.trans h1,h2,fun i e he=>?_⟩
  obtain ⟨k,v,m,q1,q2,q3,q4⟩:=h3 i e he
  exact ⟨k,v,m,q1,q2,q3.mono s,q4.mono s⟩
theorem HRel.grew {w w':World} {F:Nat→Prop} {β:List (Nat × Nat)} {h:AHeap} (H:HRel w F β h) (g:Grew w w'):HRel w' F β h where
 len:=H.len
 fin b hb:=Nat.lt_of_lt_of_le (H.fin b hb) g.size
 obj id o bc e1 e2 e3:=by
  have r:=H.obj id o bc e1 e2 e3
  exact ORel.mono (g.stp h β) (g.keep _ r.lt) r
 dist:=H.dist
 out:=H.out
theorem HRel.newG {w w':World} {F:Nat→Prop} {β:List (Nat × Nat)} {h:AHeap} (H:HRel w F β h) (ob:Obj) (o:AObj) (cap:Nat)
  (hw:w'.heap=w.heap.push ob) (ho:w'.os=w.os) (ht:w'.tape=w.tape) (hu:w'.output=w.output)
  (hm:o.mu=.m)
  (hR:Stp w h β w' (h++[o]) (β++[(w.heap.size,cap)])→w'.heap[w.heap.size]?=some ob→ORel w' (Av F (h++[o]) (β++[(w.heap.size,cap)])) (β++[(w.heap.size,cap)]) (h++[o]) o (w.heap.size,cap))
  (hd:w.drawn≤w'.drawn:=by first | exact Nat.le_refl _ | exact Nat.le_succ _) :
  HRel w' F (β++[(w.heap.size,cap)]) (h++[o])∧Stp w h β w' (h++[o]) (β++[(w.heap.size,cap)]):=by
 have hsz:w'.heap.size=w.heap.size+1:=by rw [hw];simp
 have hold:∀ b,b<w.heap.size→w'.heap[b]?=w.heap[b]?:=fun b hb=>by rw [hw,Array.getElem?_push,if_neg (by omega)]
 have hnew:w'.heap[w.heap.size]?=some ob:=by rw [hw];simp
 have hlen:=H.len
 have at_old:∀ id,id<h.length→(h++[o])[id]?=h[id]?∧(β++[(w.heap.size,cap)])[id]?=β[id]?:=fun id hid=>
  ⟨List.getElem?_append_left hid,List.getElem?_append_left (by omega)⟩
 have at_new:(h++[o])[h.length]?=some o∧(β++[(w.heap.size,cap)])[h.length]?=some (w.heap.size,cap):=by
  constructor
  ·simp
  ·rw [← hlen];simp
 have split:∀ id (o':AObj) (bc':Nat × Nat),(h++[o])[id]?=some o'→(β++[(w.heap.size,cap)])[id]?=some bc' →
   (id<h.length∧h[id]?=some o'∧β[id]?=some bc')∨(id=h.length∧o'=o∧bc'=(w.heap.size,cap)):=by
  intro id o' bc' e1 e2
  by_cases hid:id<h.length
  ·left;rw [(at_old id hid).1] at e1;rw [(at_old id hid).2] at e2;exact ⟨hid,e1,e2⟩
  ·right
   have:id<(h++[o]).length:=lt_of_some e1
   obtain rfl:id=h.length:=by simp at this;omega
   rw [at_new.1] at e1;rw [at_new.2] at e2
   exact ⟨rfl,(Option.some.inj e1).symm,(Option.some.inj e2).symm⟩
 have hs:Stp w h β w' (h++[o]) (β++[(w.heap.size,cap)]):=by
  refine ⟨by omega,by simp,fun b hb _=>hold b hb,?_,?_,?_,ho,ht,hu,hd⟩
  ·rintro b hb ⟨id,o',bc',e1,e2,e3,rfl⟩
   rcases split id o' bc' e1 e2 with ⟨_,f1,f2⟩ | ⟨_,rfl,rfl⟩
   ·exact ⟨id,o',bc',f1,f2,e3,rfl⟩
   ·simp at hb
  ·intro id o' bc' e1 e2 e3
   have hid:=lt_of_some e1
   exact ⟨o',bc',by rw [(at_old id hid).1];exact e1,by rw [(at_old id hid).2];exact e2,e3,⟨Nat.le_refl _,fun h=>h⟩,fun _=>⟨rfl,fun _=>rfl,rfl⟩⟩
  ·intro id o' e1 _
   have hid:=lt_of_some e1
   exact ⟨by rw [(at_old id hid).1];exact e1,(at_old id hid).2⟩
 refine ⟨⟨by simp [hlen],fun b hb=>by have:=H.fin b hb;omega,?_,?_,?_⟩,hs⟩
 ·intro id o' bc' e1 e2 e3
  rcases split id o' bc' e1 e2 with ⟨_,f1,f2⟩ | ⟨_,rfl,rfl⟩
  ·have r:=H.obj id o' bc' f1 f2 e3
   exact ORel.mono hs (hold _ r.lt) r
  ·exact hR hs hnew
 ·intro id id' o1 o2 bc1 bc2 hne e1 e2 e3 e4 m1 m2
  rcases split id o1 bc1 e1 e3 with ⟨_,f1,f2⟩ | ⟨hid,rfl,rfl⟩ <;> rcases split id' o2 bc2 e2 e4 with ⟨_,g1,g2⟩ | ⟨hid',rfl,rfl⟩
  ·exact H.dist id id' o1 o2 bc1 bc2 hne f1 g1 f2 g2 m1 m2
  ·have:=Mb.lt H ⟨id,o1,bc1,f1,f2,m1,rfl⟩
   simp;omega
  ·have:=(H.obj id' o2 bc2 g1 g2 m2).lt
   simp;omega
  ·omega
 ·intro id o' bc' e1 e2 e3
  rcases split id o' bc' e1 e2 with ⟨_,f1,f2⟩ | ⟨_,rfl,rfl⟩
  ·exact H.out id o' bc' f1 f2 e3
  ·intro hf;have:=H.fin _ hf;simp at this
theorem HRel.new {w w':World} {F:Nat→Prop} {β:List (Nat × Nat)} {h:AHeap} (H:HRel w F β h) (T:TypeId) (cs:Array Value) (o:AObj) (cap:Nat)
  (hw:w'.heap=w.heap.push (.cells cs T)) (ho:w'.os=w.os) (ht:w'.tape=w.tape) (hu:w'.output=w.output)
  (hm:o.mu=.m) (h1:o.es.length≤cap) (h2:cap * o.esz≤cs.size) (h3:0<o.esz)
  (h4:∀ (i:Nat) (e:PV),o.es[i]?=some e→(cells e).length=o.esz∧∀ (j:Nat) (p:PV),(cells e)[j]?=some p→∃ v:Value,cs[i * o.esz+j]?=some v∧VRel w (Av F h β) β h v p)
  (hd:w.drawn≤w'.drawn:=by first | exact Nat.le_refl _ | exact Nat.le_succ _) :
  HRel w' F (β++[(w.heap.size,cap)]) (h++[o])∧Stp w h β w' (h++[o]) (β++[(w.heap.size,cap)]):=
 H.newG (.cells cs T) o cap hw ho ht hu hm (fun hs hnew=>.inl ⟨T,cs,hnew,h1,h2,h3,fun i e he=>⟨(h4 i e he).1,fun j p hp=>by
  obtain ⟨v,k1,k2⟩:=(h4 i e he).2 j p hp
  exact ⟨v,k1,k2.mono hs⟩⟩⟩) hd
theorem HRel.newMap {w:World} {F:Nat→Prop} {β:List (Nat × Nat)} {h:AHeap} (H:HRel w F β h) :
  HRel (w.alloc (.map #[] 0)) F (β++[(w.heap.size,0)]) (newObj h 0 [])∧Stp w h β (w.alloc (.map #[] 0)) (newObj h 0 []) (β++[(w.heap.size,0)]):=
 H.newG (w':=w.alloc (.map #[] 0)) (.map #[] 0) { mu:=.m,ep:=0,esz:=0,es:=[] } 0 rfl rfl rfl rfl rfl (fun hs hnew=>.inr ⟨rfl,#[],0,hnew,rfl,fun i e he=>by simp at he⟩)
theorem HRel.setG {w w':World} {F:Nat→Prop} {β:List (Nat × Nat)} {h:AHeap} (H:HRel w F β h) {id:Nat} {o:AObj} {bc:Nat × Nat} (eo:h[id]?=some o) (eb:β[id]?=some bc) (em:o.mu=.m)
  (es':List PV) (ep':Nat) (bc':Nat × Nat)
  (hsz:w.heap.size≤w'.heap.size) (hother:∀ b,b<w.heap.size→b≠bc.1→w'.heap[b]?=w.heap[b]?)
  (hbc:(bc'=bc∧(o.ep=ep'→es'.length=o.es.length∨o.esz=0))∨(w.heap.size≤bc'.1∧o.ep<ep'))
  (hep:o.ep≤ep') (ho:w'.os=w.os) (ht:w'.tape=w.tape) (hu:w'.output=w.output)
  (hR:Stp w h β w' (h.set id {o with es:=es',ep:=ep' }) (β.set id bc')→ORel w' (Av F (h.set id {o with es:=es',ep:=ep' }) (β.set id bc')) (β.set id bc') (h.set id {o with es:=es',ep:=ep' }) {o with es:=es',ep:=ep' } bc')
  (hd:w.drawn≤w'.drawn:=by first | exact Nat.le_refl _ | exact Nat.le_succ _) :
  HRel w' F (β.set id bc') (h.set id {o with es:=es',ep:=ep' })∧Stp w h β w' (h.set id {o with es:=es',ep:=ep' }) (β.set id bc'):=by
 have hlen:=H.len
 have hid:=lt_of_some eo
 have hblt:bc.1<w.heap.size:=Mb.lt H ⟨id,o,bc,eo,eb,em,rfl⟩
 have hself:(h.set id {o with es:=es',ep:=ep' })[id]?=some {o with es:=es',ep:=ep' }:=by simp [hid]
 have bself:(β.set id bc')[id]?=some bc':=by simp [hlen,hid]
 have hoth:∀ k,k≠id→(h.set id {o with es:=es',ep:=ep' })[k]?=h[k]?:=fun k hk=>List.getElem?_set_ne (Ne.symm hk)
 have both:∀ k,k≠id→(β.set id bc')[k]?=β[k]?:=fun k hk=>List.getElem?_set_ne (Ne.symm hk)
 have hs:Stp w h β w' (h.set id {o with es:=es',ep:=ep' }) (β.set id bc'):=by
  refine ⟨hsz,by simp,fun b hb hm=>hother b hb (fun e=>hm ⟨id,o,bc,eo,eb,em,e.symm⟩),?_,?_,?_,ho,ht,hu,hd⟩
  ·rintro b hb ⟨k,o',c',e1,e2,e3,rfl⟩
   by_cases hk:k=id
   ·subst hk
    rw [bself] at e2
    obtain rfl:=Option.some.inj e2
    rcases hbc with ⟨rfl,_⟩ | ⟨hge,_⟩
    ·exact ⟨k,o,bc',eo,eb,em,rfl⟩
    ·omega
   ·rw [hoth k hk] at e1;rw [both k hk] at e2
    exact ⟨k,o',c',e1,e2,e3,rfl⟩
  ·intro k o' c' e1 e2 e3
   by_cases hk:k=id
   ·subst hk
    rw [eo] at e1;rw [eb] at e2
    obtain rfl:=Option.some.inj e1
    obtain rfl:=Option.some.inj e2
    refine ⟨_,bc',hself,bself,by rw [em];simp,⟨hep,fun h=>h⟩,fun e=>⟨rfl,?_,?_⟩⟩
    ·intro hz
     rcases hbc with ⟨_,hl⟩ | ⟨_,hlt⟩
     ·exact (hl e).resolve_right (by omega)
     ·simp at e;omega
    ·rcases hbc with ⟨hl,_⟩ | ⟨_,hlt⟩
     ·exact hl
     ·simp at e;omega
   ·exact ⟨o',c',by rw [hoth k hk];exact e1,by rw [both k hk];exact e2,e3,⟨Nat.le_refl _,fun h=>h⟩,fun _=>⟨rfl,fun _=>rfl,rfl⟩⟩
  ·intro k o' e1 e2
   have hk:k≠id:=by
    rintro rfl
    rw [eo] at e1
    obtain rfl:=Option.some.inj e1
    exact e2 em
   exact ⟨by rw [hoth k hk];exact e1,both k hk⟩
 refine ⟨⟨by simp [hlen],fun b hb=>Nat.lt_of_lt_of_le (H.fin b hb) hsz,?_,?_,?_⟩,hs⟩
 ·intro k o' c' e1 e2 e3
  by_cases hk:k=id
  ·subst hk
   rw [hself] at e1;rw [bself] at e2
   obtain rfl:=Option.some.inj e1
   obtain rfl:=Option.some.inj e2
   exact hR hs
  ·rw [hoth k hk] at e1;rw [both k hk] at e2
   have r:=H.obj k o' c' e1 e2 e3
   exact ORel.mono hs (hother _ r.lt (fun e=>H.dist id k o o' bc c' (Ne.symm hk) eo e1 eb e2 em e3 e.symm)) r
 ·intro k k' o1 o2 bc1 bc2 hne e1 e2 e3 e4 m1 m2
  by_cases hk:k=id
  ·subst hk
   have hk':k'≠k:=Ne.symm hne
   rw [hoth k' hk'] at e2;rw [both k' hk'] at e4;rw [bself] at e3
   obtain rfl:=Option.some.inj e3
   rcases hbc with ⟨rfl,_⟩ | ⟨hge,_⟩
   ·exact H.dist k k' o o2 bc' bc2 hne eo e2 eb e4 em m2
   ·have:=(H.obj k' o2 bc2 e2 e4 m2).lt
    omega
  ·rw [hoth k hk] at e1;rw [both k hk] at e3
   by_cases hk':k'=id
   ·subst hk'
    rw [bself] at e4
    obtain rfl:=Option.some.inj e4
    rcases hbc with ⟨rfl,_⟩ | ⟨hge,_⟩
    ·exact fun e=>H.dist k' k o o1 bc' bc1 (Ne.symm hne) eo e1 eb e3 em (by rw [m1];simp) e.symm
    ·have:=Mb.lt H ⟨k,o1,bc1,e1,e3,m1,rfl⟩
     omega
   ·rw [hoth k' hk'] at e2;rw [both k' hk'] at e4
    exact H.dist k k' o1 o2 bc1 bc2 hne e1 e2 e3 e4 m1 m2
 ·intro k o' c' e1 e2 e3
  by_cases hk:k=id
  ·subst hk
   rw [bself] at e2
   obtain rfl:=Option.some.inj e2
   rcases hbc with ⟨rfl,_⟩ | ⟨hge,_⟩
   ·exact H.out k o bc' eo eb (.inl em)
   ·intro hf;have:=H.fin _ hf;omega
  ·rw [hoth k hk] at e1;rw [both k hk] at e2
   exact H.out k o' c' e1 e2 e3
theorem HRel.set {w w':World} {F:Nat→Prop} {β:List (Nat × Nat)} {h:AHeap} (H:HRel w F β h) {id:Nat} {o:AObj} {bc:Nat × Nat} (eo:h[id]?=some o) (eb:β[id]?=some bc) (em:o.mu=.m)
  (T:TypeId) (cs:Array Value) (es':List PV) (ep':Nat) (bc':Nat × Nat)
  (hsz:w.heap.size≤w'.heap.size) (hat:w'.heap[bc'.1]?=some (.cells cs T (0,0))) (hother:∀ b,b<w.heap.size→b≠bc.1→w'.heap[b]?=w.heap[b]?)
  (hbc:(bc'=bc∧(o.ep=ep'→es'.length=o.es.length))∨(w.heap.size≤bc'.1∧o.ep<ep'))
  (hep:o.ep≤ep') (ho:w'.os=w.os) (ht:w'.tape=w.tape) (hu:w'.output=w.output)
  (h1:es'.length≤bc'.2) (h2:bc'.2 * o.esz≤cs.size)
  (h4:∀ (i:Nat) (e:PV),es'[i]?=some e→(cells e).length=o.esz∧∀ (j:Nat) (p:PV),(cells e)[j]?=some p→∃ v:Value,cs[i * o.esz+j]?=some v∧VRel w (Av F h β) β h v p)
  (hd:w.drawn≤w'.drawn:=by first | exact Nat.le_refl _ | exact Nat.le_succ _) (hz0:0<o.esz:=by first | assumption | omega) :
  HRel w' F (β.set id bc') (h.set id {o with es:=es',ep:=ep' })∧Stp w h β w' (h.set id {o with es:=es',ep:=ep' }) (β.set id bc'):=by
 have hesz:0<o.esz:=hz0
 exact H.setG eo eb em es' ep' bc' hsz hother (hbc.imp (fun h=>⟨h.1,fun e=>.inl (h.2 e)⟩) (fun h=>h)) hep ho ht hu (fun hs=>.inl ⟨T,cs,hat,h1,h2,hesz,fun i e he=>⟨(h4 i e he).1,fun j p hp=>by
  obtain ⟨v,k1,k2⟩:=(h4 i e he).2 j p hp
  exact ⟨v,k1,k2.mono hs⟩⟩⟩) hd
theorem HRel.mrefNew {w w':World} {F A:Nat→Prop} {β:List (Nat × Nat)} {h:AHeap} (H:HRel w F β h) {b cap len sz:Nat} {es:List PV} (hz:0<sz:=by first | assumption | omega) :
  VRel w' A (β++[(b,cap)]) (newObj h sz es) (.slice (some ⟨b,0,none⟩) len cap) (.mref h.length 0 0 len):=
 .mref _ _ _ _ _ { mu:=.m,ep:=0,esz:=sz,es } (b,cap) ⟨_,_,_,rfl⟩ (by simp [newObj]) (by rw [← H.len];simp) (by simp) ⟨Nat.zero_le _,hz⟩ (fun _ _=>⟨cap,by simp,by simp⟩)
theorem HRel.ptrNew {w w':World} {F A:Nat→Prop} {β:List (Nat × Nat)} {h:AHeap} (H:HRel w F β h) {b cap sz:Nat} {es:List PV} (hz:0<sz:=by first | assumption | omega) :
  VRel w' A (β++[(b,cap)]) (newObj h sz es) (.pointer (some ⟨b,0,none⟩)) (.ptr h.length 0 0 0):=
 .ptr _ _ _ _ _ { mu:=.m,ep:=0,esz:=sz,es } (b,cap) ⟨_,rfl⟩ (by simp [newObj]) (by rw [← H.len];simp) (by simp) ⟨Nat.zero_le _,hz⟩ (fun _=>by simp)
theorem HRel.mrefSet {w w':World} {F A:Nat→Prop} {β:List (Nat × Nat)} {h:AHeap} (H:HRel w F β h) {id:Nat} {o:AObj} (eo:h[id]?=some o) (em:o.mu=.m) {b cap len ep:Nat} {es:List PV} (hz:0<o.esz:=by first | assumption | omega) :
  VRel w' A (β.set id (b,cap)) (h.set id {o with es:=es,ep:=ep }) (.slice (some ⟨b,0,none⟩) len cap) (.mref id ep 0 len):=
 .mref _ _ _ _ _ {o with es:=es,ep:=ep } (b,cap) ⟨_,_,_,rfl⟩ (by simp [lt_of_some eo]) (by simp [H.len,lt_of_some eo]) (by simp [em]) ⟨Nat.le_refl _,hz⟩ (fun _ _=>⟨cap,by simp,by simp⟩)
def Sim (P:Program) (lv:Nat) (w:World) (F:Nat→Prop) (β:List (Nat × Nat)) (h:AHeap) (s:Sem Value) (p:PV) (h':AHeap):Prop:=
 ∃ v w' β',s.run P w=.ok v w'∧VRel w' (Av F h' β') β' h' v p∧HRel w' F β' h'∧Stp w h β w' h' β'∧(lv≤1→Grew w w')
theorem Sim.still {P:Program} {lv:Nat} {w:World} {F:Nat→Prop} {β:List (Nat × Nat)} {h:AHeap} (H:HRel w F β h) {s:Sem Value} {p:PV} {v:Value} (e:s.run P w=.ok v w) (r:VRel w (Av F h β) β h v p) :
  Sim P lv w F β h s p h:=⟨v,w,β,e,r,H,Stp.refl w h β,fun _=>Grew.refl w⟩
end Go.Pm
end
section
namespace Go.Pm
variable {P:Program} {w:World} {F:Nat→Prop} {β:List (Nat × Nat)} {h:AHeap}
theorem tsize_run {t:TypeId} {n:Nat} (e:tsize P t=some n) (w:World):(sizeOf t).run P w=.ok n w:=by
 unfold tsize at e
 cases hi:P.info? t with
 | none=>rw [hi] at e;simp at e
 | some i=>rw [hi] at e;simp at e;subst e;simp [sizeOf,typeInfo,hi]
theorem und_run {t:TypeId} {d:TypeDesc} (e:P.underlying t=some d) (w:World):(underlying t).run P w=.ok d w:=by simp [underlying,e]
theorem tagg_run {t:TypeId} {b:Bool} (e:tagg P t=some b) (w:World):(isAgg t).run P w=.ok b w:=by
 unfold tagg at e
 cases hu:P.underlying t with
 | none=>rw [hu] at e;simp at e
 | some d=>
  rw [hu] at e;simp at e;subst e
  simp only [isAgg,Sem.run_bind,und_run hu,Result.andThen_ok]
  split <;> rename_i h <;> simp_all
theorem cv0_rel (w:World) (A:Nat→Prop) (β:List (Nat × Nat)) (h:AHeap) (v:Value):VRel w A β h v (cv0 v):=by
 unfold cv0
 split
 ·exact .val (.int _ _)
 ·exact .val (.bool _)
 ·exact .val (.str _)
 ·exact .val (.snapE none 0 true (fun _=>rfl))
 ·exact .val .nilp
 ·exact .val .nilf
 ·exact .val .nilm
 ·exact .any _
theorem cv_rel (w:World) (A:Nat→Prop) (β:List (Nat × Nat)) (h:AHeap) (v:Value):VRel w A β h v (cv v):=by
 unfold cv
 split
 ·rename_i cs
  have:=VRel.agg (w:=w) (A:=A) (β:=β) (h:=h) cs.toList (cs.toList.map cv0) (by simp) (fun j hj=>by
   have hj':j<cs.toList.length:=by simpa using hj
   simp only [List.getD,List.getElem?_map]
   rw [List.getElem?_eq_getElem hj']
   simpa using cv0_rel w A β h _)
  simpa using this
 ·exact cv0_rel w A β h _
theorem tzero_run {t:TypeId} {z:PV} (e:tzero P t=some z) (w:World) (A:Nat→Prop) (β:List (Nat × Nat)) (h:AHeap):∃ v,(zeroValue t).run P w=.ok v w∧VRel w A β h v z:=by
 unfold tzero at e
 cases hi:P.info? t with
 | none=>rw [hi] at e;simp at e
 | some i=>
  rw [hi] at e
  simp only [Option.bind_some] at e
  cases hz:i.zero with
  | none=>rw [hz] at e;simp at e
  | some v=>
   rw [hz] at e
   simp at e
   subst e
   exact ⟨v,by simp [zeroValue,typeInfo,hi,hz],cv_rel w A β h v⟩
theorem VRel.cells {A:Nat→Prop} {v:Value} {p:PV} (hv:VRel w A β h v p) (hp:(Pm.cells p).all oneC=true) :
  v.cells.size=(Pm.cells p).length∧(∀ (j:Nat) (q:PV),(Pm.cells p)[j]?=some q→∃ u:Value,v.cells[j]?=some u∧VRel w A β h u q∧u.oneCell'=true):=by
 have one:∀ (u:Value) (q:PV),VRel w A β h u q→oneC q=true→u.oneCell'=true∧u.cells = #[u]:=by
  intro u q r ho
  cases r with
  | val hs=>cases hs <;> first | exact ⟨rfl,rfl⟩ | simp [oneC] at ho
  | undef=>simp [oneC] at ho
  | any=>simp [oneC] at ho
  | mref v id ep off len o bc h0=>obtain ⟨a,l,c,rfl⟩:=h0;exact ⟨rfl,rfl⟩
  | ptr v id ep i off o bc h0=>obtain ⟨a,rfl⟩:=h0;exact ⟨rfl,rfl⟩
  | mapr v id o bc h0=>obtain ⟨a,rfl⟩:=h0;exact ⟨rfl,rfl⟩
  | agg=>simp [oneC] at ho
  | tup=>simp [oneC] at ho
  | fn=>exact ⟨rfl,rfl⟩
  | bfn=>exact ⟨rfl,rfl⟩
 have single:(∀ cs,p≠.agg cs)→v.cells.size=(Pm.cells p).length∧(∀ (j:Nat) (q:PV),(Pm.cells p)[j]?=some q→∃ u:Value,v.cells[j]?=some u∧VRel w A β h u q∧u.oneCell'=true):=by
  intro hna
  have hc:Pm.cells p=[p]:=by cases p <;> first | rfl | exact absurd rfl (hna _)
  rw [hc] at hp ⊢
  obtain ⟨h1,h2⟩:=one v p hv (by simpa using hp)
  rw [h2]
  refine ⟨rfl,fun j q hq=>?_⟩
  cases j with
  | zero=>simp at hq;subst hq;exact ⟨v,rfl,hv,h1⟩
  | succ j=>simp at hq
 cases p with
 | agg cs=>
  obtain ⟨vs,rfl,hl,hr⟩:=hv.agg_inv
  refine ⟨by simpa [Value.cells,Pm.cells] using hl,fun j q hq=>?_⟩
  have hq':cs[j]?=some q:=hq
  have hj:=lt_of_some hq'
  have hj2:j<vs.length:=by omega
  have hr':=hr j hj
  have e1:vs.getD j Go.undef=vs[j]:=by simp [List.getD,hj2]
  have e2:cs.getD j .any=q:=by simp [List.getD,hq']
  rw [e1,e2] at hr'
  have ho:oneC q=true:=List.all_eq_true.1 hp q (List.mem_of_getElem? hq')
  exact ⟨vs[j],by simp [Value.cells,hj2],hr',(one _ _ hr' ho).1⟩
 | _=>exact single (fun cs=>by simp)
theorem pcells_at (H:HRel w F β h) {v:Value} {p:PV} {cs:List PV} (hv:VRel w (Av F h β) β h v p) (e:pcells h p=some cs) :
  ∃ b off,(cs≠[]→v=.pointer (some ⟨b,off,none⟩))∧∀ (j:Nat) (q:PV),cs[j]?=some q→∃ u:Value,w.cell? ⟨b,off+j,none⟩=some u∧VRel w (Av F h β) β h u q:=by
 unfold pcells at e
 split at e
 ·rename_i cs'
  obtain rfl:=Option.some.inj e
  have hs:=hv.sptr_inv
  cases hs with
  | sptr b off _ cvs h1 h2 h3 h4=>
   refine ⟨b,off,fun _=>rfl,fun j q hq=>?_⟩
   have hj:=lt_of_some hq
   refine ⟨cvs j,h3 j hj,?_⟩
   have:=h4 j hj
   rw [List.getD_eq_getElem?_getD,hq] at this
   exact .val this
 ·rename_i id ep i off
  split at e
  ·rename_i o ho
   obtain ⟨e1,e2,e3⟩:=getM_some ho
   split at e
   ·rename_i el hel
    obtain rfl:=Option.some.inj e
    obtain ⟨bc,hb⟩:=beta_at H.len e1
    obtain ⟨h1,h2,h3⟩:=hv.ptr_inv
    have:=h3 o bc e1 hb e3 e2
    obtain ⟨T,cs,k1,k2,k3,k4,k5⟩:=(H.obj id o bc e1 hb e3).c (h2 o e1).2
    refine ⟨bc.1,i * o.esz+off,fun _=>this,fun j q hq=>?_⟩
    rw [List.getElem?_drop] at hq
    obtain ⟨u,m1,m2⟩:=(k5 i el hel).2 (off+j) q hq
    refine ⟨u,?_,m2⟩
    rw [cell_of_row w bc.1 _ cs T (0,0) k1,Nat.add_assoc]
    exact m1
   ·cases e
  ·cases e
 ·cases e
theorem addr_add (b off n:Nat):(⟨b,off,none⟩:Addr).add n=⟨b,off+n,none⟩:=by unfold Addr.add;split <;> simp_all
theorem load_cells_run (w:World) (b off n:Nat) (R:Nat→Value→Prop) (hc:∀ j,j<n→∃ u,w.cell? ⟨b,off+j,none⟩=some u∧R j u) :
  ∃ vs:List Value,vs.length=n∧(loadCells ⟨b,off,none⟩ n).run P w=.ok vs.toArray w∧∀ j,j<n→R j (vs.getD j undef):=by
 obtain ⟨vs,hl,hr⟩:=exists_list n hc
 refine ⟨vs,hl,?_,fun j hj=>(hr j hj).2⟩
 have:=run_loadCells_list (P:=P) (w:=w) ⟨b,off,none⟩ vs (fun j v hv=>by
  have hj:=lt_of_some hv
  rw [addr_add]
  have:=(hr j (by omega)).1
  rwa [List.getD_eq_getElem?_getD,hv] at this)
 rwa [hl] at this
theorem load_run (H:HRel w F β h) {v:Value} {p q:PV} {t:TypeId} (hv:VRel w (Av F h β) β h v p) (e:loadP P h t p=some q) :
  ∃ u,(Instr.loadAt t v).run P w=.ok u w∧VRel w (Av F h β) β h u q:=by
 unfold loadP at e
 split at e
 ·rename_i sz cs h1 h2 h3
  split at e
  ·rename_i hle
   obtain rfl:=Option.some.inj e
   obtain ⟨b,off,k1,k2⟩:=pcells_at H hv h3
   by_cases hn:cs=[]
   ·subst hn;simp at hle;omega
   ·have hle:=hle.2
    rw [k1 hn]
    obtain ⟨vs,l1,l2,l3⟩:=load_cells_run (P:=P) w b off sz (fun j u=>VRel w (Av F h β) β h u (cs.getD j .any)) (fun j hj=>by
     have hj':j<cs.length:=by omega
     obtain ⟨u,m1,m2⟩:=k2 j cs[j] (List.getElem?_eq_getElem hj')
     exact ⟨u,m1,by simpa [List.getD,hj'] using m2⟩)
    refine ⟨.agg vs.toArray,?_,?_⟩
    ·simp only [Instr.loadAt,Instr.sureAddr,Sem.run_bind,Sem.run_pure,Result.andThen_ok,loadVar,tagg_run h2,tsize_run h1,l2,if_true]
    ·refine .agg vs _ (by simp;omega) (fun j hj=>?_)
     simp at hj
     have:=l3 j (by omega)
     simpa [List.getD,List.getElem?_take,show j<sz by omega] using this
  ·cases e
 ·rename_i sz cs h1 h2 h3
  obtain ⟨b,off,k1,k2⟩:=pcells_at H hv h3
  cases cs with
  | nil=>simp at e
  | cons c r=>
   simp at e;subst e
   obtain ⟨u,m1,m2⟩:=k2 0 c rfl
   rw [k1 (by simp)]
   refine ⟨u,?_,m2⟩
   simp only [Instr.loadAt,Instr.sureAddr,Sem.run_bind,Sem.run_pure,Result.andThen_ok,loadVar,tagg_run h2,Bool.false_eq_true,if_false,run_load]
   rw [show (⟨b,off,none⟩:Addr)=⟨b,off+0,none⟩ by simp,m1]
 ·cases e
theorem fieldOff_run {s:TypeId} {f off:Nat} {ft:TypeId} (e:fieldOff P s f=some (off,ft)) (a:Addr) (w:World) :
  (Instr.fieldAt s (.pointer (some a)) f).run P w=.ok (.pointer (some (a.add off))) w:=by
 unfold fieldOff at e
 split at e
 ·rename_i fs hu
  split at e
  ·rename_i fl hf
   split at e
   ·rename_i sz hs
    split at e
    ·cases e
    ·rename_i hz
     simp at e
     obtain ⟨rfl,rfl⟩:=e
     simp [Instr.fieldAt,und_run hu,hf,Instr.sureAddr,fieldPlace,tsize_run hs,hz]
   ·cases e
  ·cases e
 ·cases e
theorem fieldAddr_run (H:HRel w F β h) {v:Value} {p q:PV} {s:TypeId} {f:Nat} (hv:VRel w (Av F h β) β h v p) (e:fieldAddrP P s p f=some q) :
  ∃ u,(Instr.fieldAt s v f).run P w=.ok u w∧VRel w (Av F h β) β h u q:=by
 unfold fieldAddrP at e
 split at e
 ·rename_i off ft cs h1
  split at e
  ·rename_i hlt
   obtain rfl:=Option.some.inj e
   have hs:=hv.sptr_inv
   cases hs with
   | sptr b o _ cvs k1 k2 k3 k4=>
    refine ⟨_,fieldOff_run h1 _ w,?_⟩
    rw [addr_add]
    refine .val (.sptr b (o+off) _ (fun j=>cvs (off+j)) ?_ k2 (fun j hj=>?_) (fun j hj=>?_))
    ·intro hn
     have:=congrArg List.length hn
     simp at this;omega
    ·simp at hj
     have:=k3 (off+j) (by omega)
     rwa [← Nat.add_assoc] at this
    ·simp at hj
     have:=k4 (off+j) (by omega)
     simpa [List.getD,List.getElem?_drop] using this
  ·cases e
 ·rename_i off ft id ep i o h1
  obtain rfl:=Option.some.inj e
  cases hv with
  | val hs=>cases hs
  | ptr _ _ _ _ _ oo bc h0 k1 k2 k3 k4 k5=>
   obtain ⟨a,rfl⟩:=h0
   refine ⟨_,fieldOff_run h1 _ w,.ptr _ id ep i (o+off) oo bc ⟨_,rfl⟩ k1 k2 k3 k4 (fun n4=>?_)⟩
   have:=k5 n4
   simp at this
   rw [this,addr_add,Nat.add_assoc]
 ·cases e
theorem VRel.part {A:Nat→Prop} {v:Value} {cs:List PV} (hv:VRel w A β h v (.agg cs)) {t:TypeId} {off:Nat} {q:PV} (e:partP P t cs off=some q) :
  ∃ vs:Array Value,v=.agg vs∧∃ u,(part t vs off).run P w=.ok u w∧VRel w A β h u q:=by
 obtain ⟨vs,rfl,hl,hr⟩:=hv.agg_inv
 refine ⟨vs.toArray,rfl,?_⟩
 unfold partP at e
 split at e
 ·rename_i sz h1 h2
  split at e
  ·rename_i hle
   obtain rfl:=Option.some.inj e
   refine ⟨.agg ((vs.drop off).take sz).toArray,?_,.agg _ _ (by simp;omega) (fun j hj=>?_)⟩
   ·simp only [Go.part,Sem.run_bind,tagg_run h1,tsize_run h2,Result.andThen_ok,if_true,Sem.run_pure]
    congr 2
    apply Array.ext'
    simp [List.extract_eq_take_drop]
   ·simp at hj
    have:=hr (off+j) (by omega)
    simpa [List.getD,List.getElem?_take,List.getElem?_drop,show j<sz by omega] using this
  ·cases e
 ·rename_i sz h1 h2
  split at e
  ·rename_i c hc
   obtain rfl:=Option.some.inj e
   have hj:=lt_of_some hc
   have:=hr off hj
   refine ⟨vs[off]'(by omega),?_,?_⟩
   ·simp [Go.part,tagg_run h1,show off<vs.length by omega]
   ·simpa [List.getD,hc,show off<vs.length by omega] using this
  ·cases e
 ·cases e
theorem field_run {v:Value} {p q:PV} {s:TypeId} {f:Nat} {A:Nat→Prop} (hv:VRel w A β h v p) (e:fieldP P s p f=some q) :
  ∃ u,(Instr.field s v f).run P w=.ok u w∧VRel w A β h u q:=by
 unfold fieldP at e
 split at e
 ·rename_i fs cs hu
  split at e
  ·rename_i fl hf
   obtain ⟨vs,rfl,u,h1,h2⟩:=hv.part e
   exact ⟨u,by simp [Instr.field,und_run hu,asAgg,hf,h1],h2⟩
  ·cases e
 ·cases e
theorem index_run {v vi:Value} {p i q:PV} {t:TypeId} {A:Nat→Prop} (hv:VRel w A β h v p) (hi:VRel w A β h vi i) (e:indexP P t p i=some q) :
  ∃ u,(Instr.index t v vi).run P w=.ok u w∧VRel w A β h u q:=by
 unfold indexP at e
 split at e
 ·rename_i n el cs k i hu
  obtain rfl:=hi.int_inv
  split at e
  ·rename_i sz hs
   split at e
   ·rename_i hc
    obtain ⟨vs,rfl,u,h1,h2⟩:=hv.part e
    exact ⟨u,by simp [Instr.index,asIntOf,und_run hu,hc,tsize_run hs,h1],h2⟩
   ·cases e
  ·cases e
 ·rename_i s k i hu
  obtain rfl:=hi.int_inv
  obtain rfl:=hv.str_inv
  split at e
  ·rename_i hc
   split at e
   ·rename_i b hb
    obtain rfl:=Option.some.inj e
    exact ⟨_,by simp [Instr.index,asIntOf,und_run hu,hc,hb],.val (.int _ _)⟩
   ·cases e
  ·cases e
 ·cases e
theorem SRel.snap_len {A:Nat→Prop} {v:Value} {full:Bool} {es:List PV} (hv:SRel w A v (.snap full es)):∃ a cap,v=.slice a es.length cap∧es.length≤cap∧(full=true→cap=es.length):=by
 cases hv with
 | snapE a cap _ hf=>exact ⟨a,cap,rfl,Nat.zero_le _,hf⟩
 | snap b off cap sz _ _ cvs h1 h2 h3=>exact ⟨_,cap,rfl,h2,h3⟩
theorem indexAddr_run (H:HRel w F β h) {v vi:Value} {p i q:PV} {t:TypeId} (hv:VRel w (Av F h β) β h v p) (hi:VRel w (Av F h β) β h vi i) (e:indexAddrP P h t p i=some q) :
  ∃ u,(Instr.indexAt t v vi).run P w=.ok u w∧VRel w (Av F h β) β h u q:=by
 unfold indexAddrP at e
 split at e
 ·rename_i el full es k i hu
  obtain rfl:=hi.int_inv
  split at e
  ·rename_i sz hs
   split at e
   ·rename_i hc
    split at e
    ·rename_i x hx
     split at e
     ·rename_i hz
      obtain rfl:=Option.some.inj e
      have hlt:=lt_of_some hx
      have hsr:=hv.snap_inv
      cases hsr with
      | snapE=>simp at hlt
      | snap b off cap sz' _ _ cvs k1 k2 k3 k4 k5 k6 k7 k8=>
       have hsz:sz'=sz:=by
        have:=k6 i.toNat hlt
        rw [List.getD_eq_getElem?_getD,hx] at this
        exact this.symm.trans hz.2
       subst hsz
       refine ⟨.pointer (some ⟨b,off+i.toNat * sz',none⟩),?_,.val (.sptr b _ _ (cvs i.toNat) ?_ k4 (fun j hj=>?_) (fun j hj=>?_))⟩
       ·simp [Instr.indexAt,asIntOf,und_run hu,hc,tsize_run hs,addr_add]
       ·intro hn;rw [hn] at hz;simp at hz;omega
       ·rw [Nat.add_assoc];exact k7 _ j hlt (by omega)
       ·have:=k8 i.toNat j hlt (by omega)
        rwa [List.getD_eq_getElem?_getD (l:=es),hx] at this
     ·cases e
    ·cases e
   ·cases e
  ·cases e
 ·rename_i el id ep off len k i hu
  obtain rfl:=hi.int_inv
  split at e
  ·rename_i sz o hs ho
   split at e
   ·rename_i hc
    obtain rfl:=Option.some.inj e
    obtain ⟨e1,e2,e3⟩:=getM_some ho
    obtain ⟨bc,hb⟩:=beta_at H.len e1
    obtain ⟨h1,h2,h3⟩:=hv.mref_inv
    obtain ⟨cap,rfl,k2⟩:=h3 o bc e1 hb e3 e2 hc.2.2.2
    obtain ⟨hc1,hc2,rfl,hc4⟩:=hc
    refine ⟨.pointer (some ⟨bc.1,off * o.esz+i.toNat * o.esz,none⟩),?_,.ptr _ id ep _ 0 o bc ⟨_,rfl⟩ e1 hb e3 (h2 o e1) (fun n4=>?_)⟩
    ·simp [Instr.indexAt,asIntOf,und_run hu,hc1,hc2,tsize_run hs,addr_add]
    ·rw [Nat.add_mul];simp
   ·cases e
  ·cases e
 ·rename_i n el cs k i hu
  obtain rfl:=hi.int_inv
  split at e
  ·rename_i sz hs
   split at e
   ·rename_i hc
    obtain rfl:=Option.some.inj e
    have hsr:=hv.sptr_inv
    cases hsr with
    | sptr b off _ cvs k1 k2 k3 k4=>
     refine ⟨.pointer (some ⟨b,off+i.toNat * sz,none⟩),?_,.val (.sptr b _ _ (fun j=>cvs (i.toNat * sz+j)) ?_ k2 (fun j hj=>?_) (fun j hj=>?_))⟩
     ·simp [Instr.indexAt,asIntOf,und_run hu,hc.1,hc.2.1,tsize_run hs,addr_add,Instr.sureAddr]
     ·intro hn
      have:=congrArg List.length hn
      simp at this;omega
     ·simp at hj
      have:=k3 (i.toNat * sz+j) (by omega)
      rwa [← Nat.add_assoc] at this
     ·simp at hj
      have:=k4 (i.toNat * sz+j) (by omega)
      simpa [List.getD,List.getElem?_drop] using this
   ·cases e
  ·cases e
 ·rename_i n el id ep kk o k i hu
  obtain rfl:=hi.int_inv
  split at e
  ·rename_i sz hs
   split at e
   ·rename_i hc
    obtain rfl:=Option.some.inj e
    cases hv with
    | val hs=>cases hs
    | ptr _ _ _ _ _ oo bc h0 k1 k2 k3 k4 k5=>
     obtain ⟨a,rfl⟩:=h0
     refine ⟨.pointer (some (a.add (i.toNat * sz))),?_,.ptr _ id ep kk _ oo bc ⟨_,rfl⟩ k1 k2 k3 k4 (fun n4=>?_)⟩
     ·simp [Instr.indexAt,asIntOf,und_run hu,hc.1,hc.2,tsize_run hs,Instr.sureAddr]
     ·have:=k5 n4
      simp at this
      rw [this,addr_add,Nat.add_assoc]
   ·cases e
  ·cases e
 ·cases e
theorem mapO_some {h:AHeap} {id:Nat} {o:AObj} (e:mapO h id=some o):h[id]?=some o∧o.ep=0∧o.mu≠.x∧o.esz=0:=by
 unfold mapO at e
 split at e
 ·rename_i o' ho
  split at e
  ·rename_i hz
   obtain rfl:=Option.some.inj e
   obtain ⟨h1,h2,h3⟩:=getM_some ho
   exact ⟨h1,h2,h3,hz⟩
  ·cases e
 ·cases e
theorem map_at (H:HRel w F β h) {v:Value} {id:Nat} {o:AObj} (hv:VRel w (Av F h β) β h v (.mapr id)) (ho:mapO h id=some o) :
  ∃ (bc:Nat × Nat) (es:Array MapEntry) (clock:Nat),v=.map (some bc.1)∧w.heap[bc.1]?=some (.map es clock)∧es.size=o.es.length ∧
   (∀ (i:Nat) (e:PV),o.es[i]?=some e→∃ (k v:PV) (m:MapEntry),e=.agg [k,v]∧es[i]?=some m∧VRel w (Av F h β) β h m.key k∧VRel w (Av F h β) β h m.val v):=by
 obtain ⟨e1,e2,e3,e4⟩:=mapO_some ho
 obtain ⟨bc,hb⟩:=beta_at H.len e1
 obtain ⟨_,es,clock,k1,k2,k3⟩:=(H.obj id o bc e1 hb e3).m e4
 exact ⟨bc,es,clock,hv.mapr_inv e1 hb e2,k1,k2,k3⟩
theorem getObj_run {b clock:Nat} {es:Array MapEntry} (e:w.heap[b]?=some (.map es clock)):(getObj b).run P w=.ok (.map es clock) w:=by simp [getObj,Sem.run,e]
theorem len_run (H:HRel w F β h) {v:Value} {p q:PV} {t:TypeId} {ts:Array TypeId} {ty:TypeId} {rest:List Value} (ht:ts[0]?=some t) (hv:VRel w (Av F h β) β h v p) (e:lenP P h t p=some q) :
  (∃ u,(Builtin.len_ ts ty (v::rest).toArray).run P w=.ok u w∧VRel w (Av F h β) β h u q):=by
 unfold lenP at e
 split at e
 ·rename_i s hu
  obtain rfl:=Option.some.inj e
  obtain rfl:=hv.str_inv
  exact ⟨_,by simp [Builtin.len_,ht,und_run hu,goInt],.val (.int _ _)⟩
 ·rename_i n el hu
  obtain rfl:=Option.some.inj e
  refine ⟨_,?_,.val (.int _ _)⟩
  cases v <;> simp [Builtin.len_,ht,und_run hu,goInt]
 ·rename_i el full es hu
  obtain rfl:=Option.some.inj e
  obtain ⟨a,cap,rfl,_⟩:=hv.snap_inv.snap_len
  exact ⟨_,by simp [Builtin.len_,ht,und_run hu,goInt],.val (.int _ _)⟩
 ·rename_i hu
  obtain rfl:=Option.some.inj e
  obtain rfl:=hv.nilm_inv
  exact ⟨_,by simp [Builtin.len_,ht,und_run hu,goInt],.val (.int _ _)⟩
 ·rename_i kt et id hu
  split at e
  ·rename_i o ho
   obtain rfl:=Option.some.inj e
   obtain ⟨bc,es,clock,k1,k2,k3,k4⟩:=map_at H hv ho
   subst k1
   exact ⟨_,by simp [Builtin.len_,ht,und_run hu,goInt,getObj_run k2,k3],.val (.int _ _)⟩
  ·cases e
 ·rename_i el id ep off len hu
  split at e
  ·rename_i o ho
   split at e
   ·rename_i hle
    obtain rfl:=Option.some.inj e
    obtain ⟨e1,e2,e3⟩:=getM_some ho
    obtain ⟨bc,hb⟩:=beta_at H.len e1
    obtain ⟨h1,h2,h3⟩:=hv.mref_inv
    obtain ⟨cap,rfl,k2⟩:=h3 o bc e1 hb e3 e2 hle
    exact ⟨_,by simp [Builtin.len_,ht,und_run hu,goInt],.val (.int _ _)⟩
   ·cases e
  ·cases e
 ·cases e
theorem splice_get {α:Type} (l m:List α) (a k:Nat) (hl:a+m.length≤l.length) :
  (l.take a++m++l.drop (a+m.length))[k]?=if k<a then l[k]? else if k<a+m.length then m[k - a]? else l[k]?:=by
 by_cases h1:k<a
 ·rw [if_pos h1,List.append_assoc,List.getElem?_append_left (by simp;omega),List.getElem?_take,if_pos h1]
 ·rw [if_neg h1]
  by_cases h2:k<a+m.length
  ·rw [if_pos h2,List.append_assoc,List.getElem?_append_right (by simp;omega)]
   have:(List.take a l).length=a:=by simp;omega
   rw [this,List.getElem?_append_left (by omega)]
  ·rw [if_neg h2,List.getElem?_append_right (by simp;omega),List.getElem?_drop]
   congr 1
   simp
   omega
theorem cells_recell (off sz:Nat) (e v:PV) (hv:(Pm.cells v).length=sz):Pm.cells (recell off sz e v)=(Pm.cells e).take off++Pm.cells v++(Pm.cells e).drop (off+sz):=by
 unfold recell
 split
 ·rename_i hc
  obtain ⟨rfl,h2⟩:=hc
  simp [h2]
 ·rfl
theorem mul_lt {i k s:Nat} (h:i<k):i * s+s≤k * s:=by
 have:=Nat.mul_le_mul_right s (show i+1≤k from h)
 rwa [Nat.add_mul,Nat.one_mul] at this
theorem one_of {A:Nat→Prop} {u:Value} {q:PV} (r:VRel w A β h u q) (ho:oneC q=true):u.oneCell'=true:=by
 cases r with
 | val hs=>cases hs <;> first | rfl | simp [oneC] at ho
 | undef=>simp [oneC] at ho
 | any=>simp [oneC] at ho
 | mref v id ep off len o bc h0=>obtain ⟨a,l,c,rfl⟩:=h0;rfl
 | ptr v id ep i off o bc h0=>obtain ⟨a,rfl⟩:=h0;rfl
 | mapr v id o bc h0=>obtain ⟨a,rfl⟩:=h0;rfl
 | agg=>simp [oneC] at ho
 | tup=>simp [oneC] at ho
 | fn=>rfl
 | bfn=>rfl
theorem store_run (H:HRel w F β h) {v vx:Value} {p x:PV} {t:TypeId} {h':AHeap} (hv:VRel w (Av F h β) β h v p) (hx:VRel w (Av F h β) β h vx x) (e:storeP P h t p x=some h') :
  ∃ w' β',(Instr.storeAt t v vx).run P w=.ok () w'∧HRel w' F β' h'∧Stp w h β w' h' β':=by
 unfold storeP at e
 split at e
 ·rename_i id ep i off sz hs
  split at e
  ·rename_i o ho
   split at e
   ·rename_i el hel
    split at e
    ·rename_i hc
     obtain ⟨c1,c2,c3,c4⟩:=hc
     obtain rfl:=Option.some.inj e
     obtain ⟨e1,e2,e3⟩:=getM_some ho
     obtain ⟨bc,hb⟩:=beta_at H.len e1
     obtain ⟨h1,h2,h3⟩:=hv.ptr_inv
     obtain rfl:=h3 o bc e1 hb e3 e2
     obtain ⟨T,cs,k1,k2,k3,k4,k5⟩:=(H.obj id o bc e1 hb e3).c (h2 o e1).2
     obtain ⟨x1,x2⟩:=hx.cells c3
     have hi:=lt_of_some hel
     have hel2:=k5 i el hel
     have hib:i * o.esz+o.esz≤cs.size:=Nat.le_trans (mul_lt hi) (Nat.le_trans (Nat.mul_le_mul_right _ k2) k3)
     have hroom:i * o.esz+off+0+vx.cells.toList.length≤cs.size:=by simp [x1,c2];omega
     have hst:=run_storeCells_at P bc.1 (i * o.esz+off) T vx.cells.toList 0 cs w k1 hroom (fun u hu=>by
      obtain ⟨j,hj⟩:=List.getElem?_of_mem hu
      have hjl:=lt_of_some hj
      simp only [Array.length_toList] at hjl
      obtain ⟨u',m1,m2,m3⟩:=x2 j (Pm.cells x)[j] (List.getElem?_eq_getElem (by omega))
      have:vx.cells[j]?=some u:=by simpa using hj
      rw [m1] at this
      obtain rfl:=Option.some.inj this
      exact m3)
     simp only [Nat.add_zero] at hst
     have hlen:vx.cells.toList.length=sz:=by simp [x1,c2]
     rw [hlen] at hst
     refine ⟨w.setRow bc.1 (cs.toList.take (i * o.esz+off)++vx.cells.toList++cs.toList.drop (i * o.esz+off+sz)).toArray,β,?_,?_⟩
     ·simp only [Instr.storeAt,Instr.sureAddr,Sem.run_bind,Sem.run_pure,Result.andThen_ok,storeVar,tsize_run hs]
      rw [if_neg (by simp [x1,c2])]
      exact hst
     ·have hβ:β=β.set id bc:=by
       apply List.ext_getElem?
       intro k
       by_cases hk:k=id
       ·subst hk;rw [List.getElem?_set_self (by have:=H.len;have:=lt_of_some e1;omega)];exact hb
       ·rw [List.getElem?_set_ne (Ne.symm hk)]
      have:=HRel.set H e1 hb c1 (w':=w.setRow bc.1 (cs.toList.take (i * o.esz+off)++vx.cells.toList++cs.toList.drop (i * o.esz+off+sz)).toArray) T
       (cs.toList.take (i * o.esz+off)++vx.cells.toList++cs.toList.drop (i * o.esz+off+sz)).toArray (o.es.set i (recell off sz el x)) o.ep bc (by simp)
       (setRow_heap w bc.1 cs _ T (0,0) k1) (fun b hb hne=>setRow_other w bc.1 b _ hne) (.inl ⟨rfl,fun _=>by simp⟩) (Nat.le_refl _) rfl rfl rfl (by simpa using k2)
       (by simp;omega) (fun i' e' he'=>?_)
      ·rw [← hβ] at this
       exact this
      ·by_cases hii:i'=i
       ·subst hii
        rw [List.getElem?_set_self hi] at he'
        obtain rfl:=Option.some.inj he'
        rw [cells_recell _ _ _ _ c2]
        refine ⟨by simp [c2,hel2.1];omega,fun j q hq=>?_⟩
        have c2':=c2.symm
        subst c2'
        rw [splice_get _ _ _ _ (by omega)] at hq
        have key:(cs.toList.take (i' * o.esz+off)++vx.cells.toList++cs.toList.drop (i' * o.esz+off+(Pm.cells x).length)).toArray[i' * o.esz+j]?=if j<off then cs[i' * o.esz+j]? else if j<off+(Pm.cells x).length then vx.cells[j - off]? else cs[i' * o.esz+j]?:=by
         rw [List.getElem?_toArray,← hlen,splice_get _ _ _ _ (by rw [hlen];simp;omega),hlen]
         by_cases q1:j<off
         ·rw [if_pos (by omega),if_pos q1];simp
         ·rw [if_neg (by omega),if_neg q1]
          by_cases q2:j<off+(Pm.cells x).length
          ·rw [if_pos (by omega),if_pos q2]
           rw [show i' * o.esz+j - (i' * o.esz+off)=j - off by omega];simp
          ·rw [if_neg (by omega),if_neg q2];simp
        rw [key]
        split at hq
        ·rename_i hlt
         obtain ⟨u,m1,m2⟩:=hel2.2 j q hq
         exact ⟨u,by simp [hlt,m1],m2⟩
        ·rename_i hge
         split at hq
         ·rename_i hlt
          obtain ⟨u,m1,m2,m3⟩:=x2 (j - off) q hq
          exact ⟨u,by rw [if_neg hge,if_pos hlt];exact m1,m2⟩
         ·rename_i hge2
          obtain ⟨u,m1,m2⟩:=hel2.2 j q hq
          exact ⟨u,by rw [if_neg hge,if_neg hge2];exact m1,m2⟩
       ·rw [List.getElem?_set_ne (Ne.symm hii)] at he'
        obtain ⟨q1,q2⟩:=k5 i' e' he'
        refine ⟨q1,fun j q hq=>?_⟩
        obtain ⟨u,m1,m2⟩:=q2 j q hq
        refine ⟨u,?_,m2⟩
        have hj:j<o.esz:=by rw [← q1];exact lt_of_some hq
        rw [List.getElem?_toArray,← hlen,splice_get _ _ _ _ (by rw [hlen];simp;omega),hlen]
        rcases Nat.lt_or_gt_of_ne hii with hl | hg
        ·have:=mul_lt (s:=o.esz) hl
         rw [if_pos (by omega)];simpa using m1
        ·have:=mul_lt (s:=o.esz) hg
         rw [if_neg (by omega),if_neg (by omega)];simpa using m1
    ·cases e
   ·cases e
  ·cases e
 ·cases e
theorem box_run {lv:Nat} (H:HRel w F β h) {vx:Value} {x:PV} (t:TypeId) (hx:VRel w (Av F h β) β h vx x) (h1:(Pm.cells x).all oneC=true) (h2:0<(Pm.cells x).length) :
  Sim P lv w F β h (Instr.box t vx) (.ptr h.length 0 0 0) (newObj h (Pm.cells x).length [x]):=by
 obtain ⟨x1,x2⟩:=hx.cells h1
 obtain ⟨HH,S⟩:=HRel.new H (w':=w.alloc (.cells vx.cells t)) t vx.cells { mu:=.m,ep:=0,esz:=(Pm.cells x).length,es:=[x] } 1 rfl rfl rfl rfl rfl (by simp) (by simp [x1]) h2 (fun i e he=>by
  cases i with
  | zero=>
   simp at he;subst he
   refine ⟨rfl,fun j p hp=>?_⟩
   obtain ⟨u,m1,m2,m3⟩:=x2 j p hp
   exact ⟨u,by simpa using m1,m2⟩
  | succ i=>simp at he)
 refine ⟨.pointer (some ⟨w.heap.size,0,none⟩),_,_,rfl,H.ptrNew h2,HH,S,fun _=>Grew.alloc w _⟩
theorem alloc_run {lv:Nat} (H:HRel w F β h) {z:PV} (t:TypeId) (e:tzero P t=some z) (h1:(Pm.cells z).all oneC=true) (h2:0<(Pm.cells z).length) :
  Sim P lv w F β h (Instr.alloc t true (.tuple #[])) (.ptr h.length 0 0 0) (newObj h (Pm.cells z).length [z]):=by
 obtain ⟨v,hz,hr⟩:=tzero_run e w (Av F h β) β h
 obtain ⟨u,w',β',r1,r2⟩:=box_run (P:=P) (lv:=lv) H t hr h1 h2
 refine ⟨u,w',β',?_,r2⟩
 simp only [Instr.alloc,Sem.run_bind,hz,Result.andThen_ok]
 exact r1
end Go.Pm
end
section
namespace Go.Pm
variable {P:Program} {w:World} {F:Nat→Prop} {β:List (Nat × Nat)} {h:AHeap}
def Flat (w:World) (A:Nat→Prop) (β:List (Nat × Nat)) (h:AHeap) (sz:Nat) (cs:List Value) (es:List PV):Prop:=
 cs.length=es.length * sz∧∀ (i:Nat) (e:PV),es[i]?=some e→(Pm.cells e).length=sz∧∀ (j:Nat) (q:PV),(Pm.cells e)[j]?=some q→∃ u:Value,cs[i * sz+j]?=some u∧VRel w A β h u q
theorem Flat.nil (w:World) (A:Nat→Prop) (β:List (Nat × Nat)) (h:AHeap) (sz:Nat):Flat w A β h sz [] []:=⟨by simp,fun i e he=>by simp at he⟩
theorem Flat.append {A:Nat→Prop} {sz:Nat} {cs cs':List Value} {es es':List PV} (a:Flat w A β h sz cs es) (b:Flat w A β h sz cs' es'):Flat w A β h sz (cs++cs') (es++es'):=by
 refine ⟨by simp [a.1,b.1,Nat.add_mul],fun i e he=>?_⟩
 by_cases hi:i<es.length
 ·rw [List.getElem?_append_left hi] at he
  obtain ⟨h1,h2⟩:=a.2 i e he
  refine ⟨h1,fun j q hq=>?_⟩
  obtain ⟨u,k1,k2⟩:=h2 j q hq
  exact ⟨u,by rw [List.getElem?_append_left (lt_of_some k1)];exact k1,k2⟩
 ·rw [List.getElem?_append_right (by omega)] at he
  obtain ⟨h1,h2⟩:=b.2 _ e he
  refine ⟨h1,fun j q hq=>?_⟩
  obtain ⟨u,k1,k2⟩:=h2 j q hq
  refine ⟨u,?_,k2⟩
  have hm:i * sz=(i - es.length) * sz+es.length * sz:=by rw [← Nat.add_mul];congr 1;omega
  rw [List.getElem?_append_right (by rw [a.1,hm];omega),a.1,hm]
  rw [show (i - es.length) * sz+es.length * sz+j - es.length * sz=(i - es.length) * sz+j by omega]
  exact k1
theorem Flat.take {A:Nat→Prop} {sz:Nat} {cs:List Value} {es:List PV} (a:Flat w A β h sz cs es) (n:Nat) (hn:n≤es.length):Flat w A β h sz (cs.take (n * sz)) (es.take n):=by
 have hle:n * sz≤es.length * sz:=Nat.mul_le_mul_right _ hn
 refine ⟨by simp only [List.length_take,a.1];rw [Nat.min_eq_left hn,Nat.min_eq_left hle],fun i e he=>?_⟩
 rw [List.getElem?_take] at he
 split at he
 ·rename_i hi
  obtain ⟨h1,h2⟩:=a.2 i e he
  refine ⟨h1,fun j q hq=>?_⟩
  obtain ⟨u,k1,k2⟩:=h2 j q hq
  refine ⟨u,?_,k2⟩
  have hj:=lt_of_some hq
  have:=mul_lt (s:=sz) hi
  rw [List.getElem?_take,if_pos (by omega)]
  exact k1
 ·cases he
theorem Flat.ones {A:Nat→Prop} {sz:Nat} {cs:List Value} {es:List PV} (a:Flat w A β h sz cs es) (hs:0<sz) (ho:es.all (fun v=>decide ((Pm.cells v).length=sz) && (Pm.cells v).all oneC)=true):∀ u∈cs,u.oneCell'=true:=by
 intro u hu
 obtain ⟨k,hk⟩:=List.getElem?_of_mem hu
 have hkl:=lt_of_some hk
 rw [a.1] at hkl
 have hi:k / sz<es.length:=(Nat.div_lt_iff_lt_mul hs).2 hkl
 have hel:=List.getElem?_eq_getElem hi
 obtain ⟨h1,h2⟩:=a.2 _ _ hel
 have hj:k % sz<(Pm.cells es[k / sz]).length:=by rw [h1];exact Nat.mod_lt _ hs
 obtain ⟨u',m1,m2⟩:=h2 _ _ (List.getElem?_eq_getElem hj)
 rw [Nat.mul_comm,Nat.div_add_mod,hk] at m1
 obtain rfl:=Option.some.inj m1
 have hall:=List.all_eq_true.1 ho _ (List.getElem_mem hi)
 simp only [Bool.and_eq_true] at hall
 exact one_of m2 (List.all_eq_true.1 hall.2 _ (List.getElem_mem hj))
theorem elems_flat (H:HRel w F β h) {v:Value} {p:PV} {ys:List PV} {sz:Nat} (hv:VRel w (Av F h β) β h v p) (e:elems h p=some ys) (hz:∀ y∈ys,(Pm.cells y).length=sz) :
  ∃ a cap,v=.slice a ys.length cap∧ys.length≤cap∧∃ cs:List Value,Flat w (Av F h β) β h sz cs ys ∧
   (∀ w',w'.heap=w.heap→∀ n,n≤ys.length→(Builtin.firstCells sz n v).run P w'=.ok (cs.take (n * sz)).toArray w'):=by
 have main:∀ (b off cap:Nat) (R:Nat→Nat→Value→Prop),(∀ i j,i<ys.length→j<sz→∃ u,w.cell? ⟨b,off+(i * sz+j),none⟩=some u∧R i j u) →
   ∃ cs:List Value,cs.length=ys.length * sz∧(∀ i j,i<ys.length→j<sz→∃ u,cs[i * sz+j]?=some u∧R i j u) ∧
    ∀ w',w'.heap=w.heap→∀ n,n≤ys.length→(Builtin.firstCells sz n (.slice (some ⟨b,off,none⟩) ys.length cap)).run P w'=.ok (cs.take (n * sz)).toArray w':=by
  intro b off cap R hc
  obtain ⟨cs,l1,l2⟩:=exists_list (R:=fun k u=>w.cell? ⟨b,off+k,none⟩=some u∧R (k / sz) (k % sz) u) (ys.length * sz) (fun k hk=>by
   have hs:0<sz:=by
    rcases Nat.eq_zero_or_pos sz with h0 | h0
    ·subst h0;simp at hk
    ·exact h0
   obtain ⟨u,m1,m2⟩:=hc (k / sz) (k % sz) ((Nat.div_lt_iff_lt_mul hs).2 hk) (Nat.mod_lt _ hs)
   refine ⟨u,?_,m2⟩
   rw [← m1,Nat.mul_comm,Nat.div_add_mod])
  have at_k:∀ i j,i<ys.length→j<sz→i * sz+j<ys.length * sz:=fun i j hi hj=>by have:=mul_lt (s:=sz) hi;omega
  refine ⟨cs,l1,fun i j hi hj=>?_,fun w' hw' n hn=>?_⟩
  ·have hk:=at_k i j hi hj
   have:=(l2 (i * sz+j) hk).2
   have hs:0<sz:=by omega
   rw [show (i * sz+j) / sz=i by rw [Nat.mul_comm,Nat.mul_add_div hs,Nat.div_eq_of_lt hj,Nat.add_zero],show (i * sz+j) % sz=j by rw [Nat.mul_comm,Nat.mul_add_mod,Nat.mod_eq_of_lt hj]] at this
   refine ⟨cs[i * sz+j]'(by omega),List.getElem?_eq_getElem _,?_⟩
   simpa [List.getD,show i * sz+j<cs.length by omega] using this
  ·have hle:n * sz≤ys.length * sz:=Nat.mul_le_mul_right _ hn
   have:=run_firstCells_some (P:=P) w' sz n ⟨b,off,none⟩ ys.length cap (cs.take (n * sz)) (by simp only [List.length_take,l1];omega) (fun j v hj=>by
    have hjl:=lt_of_some hj
    simp only [List.length_take,l1] at hjl
    rw [List.getElem?_take,if_pos (by omega)] at hj
    have:=(l2 j (by omega)).1
    rw [addr_add,cell_keep (w:=w) (w':=w') (by rw [hw']),this]
    simp [List.getD,hj])
   exact this
 unfold elems at e
 split at e
 ·rename_i full es
  obtain rfl:=Option.some.inj e
  have hs:=hv.snap_inv
  cases hs with
  | snapE a cap _ hf=>
   refine ⟨a,cap,rfl,Nat.zero_le _,[],Flat.nil _ _ _ _ _,fun w' hw' n hn=>?_⟩
   ·obtain rfl:n=0:=by simpa using hn
    cases a <;> simp [Builtin.firstCells,loadCells,loadCellsFrom]
  | snap b off cap sz' _ _ cvs k1 k2 k3 k4 k5 k6 k7 k8=>
   have hsz:sz'=sz:=by
    have hp:0<es.length:=List.length_pos_iff.2 k1
    rw [← k6 0 hp]
    apply hz
    rw [List.getD_eq_getElem?_getD,List.getElem?_eq_getElem hp]
    exact List.getElem_mem hp
   subst hsz
   obtain ⟨cs,l1,l2,l3⟩:=main b off cap (fun i j u=>SRel w (Av F h β) u ((Pm.cells (es.getD i .any)).getD j .any)) (fun i j hi hj=>⟨cvs i j,k7 i j hi hj,k8 i j hi hj⟩)
   refine ⟨_,cap,rfl,k2,cs,⟨l1,fun i e he=>?_⟩,l3⟩
   ·have hi:=lt_of_some he
    have e1:es.getD i .any=e:=by simp [List.getD,he]
    have e2:=k6 i hi
    rw [e1] at e2
    refine ⟨e2,fun j q hq=>?_⟩
    have hj:=lt_of_some hq
    obtain ⟨u,m1,m2⟩:=l2 i j hi (by omega)
    refine ⟨u,m1,?_⟩
    rw [e1] at m2
    have e3:(Pm.cells e).getD j .any=q:=by simp [List.getD,hq]
    rw [e3] at m2
    exact .val m2
 ·rename_i id ep off len
  split at e
  ·rename_i o ho
   split at e
   ·rename_i hle
    obtain rfl:=Option.some.inj e
    obtain ⟨e1,e2,e3⟩:=getM_some ho
    obtain ⟨bc,hb⟩:=beta_at H.len e1
    obtain ⟨h1,h2,h3⟩:=hv.mref_inv
    obtain ⟨cap,rfl,c2⟩:=h3 o bc e1 hb e3 e2 hle
    obtain ⟨T,cs0,k1,k2,k3,k4,k5⟩:=(H.obj id o bc e1 hb e3).c (h2 o e1).2
    have hlen:((o.es.drop off).take len).length=len:=by simp;omega
    have at_i:∀ i,i<len→∃ e,((o.es.drop off).take len)[i]?=some e∧o.es[off+i]?=some e:=fun i hi=>by
     refine ⟨o.es[off+i]'(by omega),?_,List.getElem?_eq_getElem (by omega)⟩
     rw [List.getElem?_take,if_pos hi,List.getElem?_drop]
     exact List.getElem?_eq_getElem (by omega)
    by_cases hl0:len=0
    ·subst hl0
     refine ⟨some ⟨bc.1,off * o.esz,none⟩,cap,by simp,by simp,[],by simpa using Flat.nil _ _ _ _ _,fun w' hw' n hn=>?_⟩
     ·obtain rfl:n=0:=by simpa using hn
      simp [Builtin.firstCells,loadCells,loadCellsFrom]
    ·have hsz:o.esz=sz:=by
      obtain ⟨el,m1,m2⟩:=at_i 0 (by omega)
      rw [← (k5 _ el m2).1]
      exact hz el (List.mem_of_getElem? m1)
     subst hsz
     obtain ⟨cs,l1,l2,l3⟩:=main bc.1 (off * o.esz) cap (fun i j u=>∀ el q,o.es[off+i]?=some el→(Pm.cells el)[j]?=some q→VRel w (Av F h β) β h u q) (fun i j hi hj=>by
      rw [hlen] at hi
      obtain ⟨el,m1,m2⟩:=at_i i hi
      obtain ⟨n1,n2⟩:=k5 _ el m2
      obtain ⟨u,p1,p2⟩:=n2 j (Pm.cells el)[j] (List.getElem?_eq_getElem (by omega))
      refine ⟨u,?_,fun el' q r1 r2=>?_⟩
      ·rw [cell_of_row w bc.1 _ cs0 T (0,0) k1,← Nat.add_assoc,← Nat.add_mul]
       exact p1
      ·rw [m2] at r1
       obtain rfl:=Option.some.inj r1
       rw [List.getElem?_eq_getElem (by omega)] at r2
       obtain rfl:=Option.some.inj r2
       exact p2)
     rw [hlen] at l2 l3 ⊢
     refine ⟨_,cap,rfl,by omega,cs,⟨by rw [l1,hlen],fun i el he=>?_⟩,fun w' hw' n hn=>l3 w' hw' n hn⟩
     ·have hi:=lt_of_some he
      rw [hlen] at hi
      obtain ⟨el',m1,m2⟩:=at_i i hi
      rw [m1] at he
      obtain rfl:=Option.some.inj he
      obtain ⟨n1,n2⟩:=k5 _ el' m2
      refine ⟨n1,fun j q hq=>?_⟩
      have hj:=lt_of_some hq
      obtain ⟨u,r1,r2⟩:=l2 i j hi (by omega)
      exact ⟨u,r1,r2 el' q m2 hq⟩
   ·cases e
  ·cases e
 ·cases e
theorem zero_flat {A:Nat→Prop} {vz:Value} {z:PV} {sz:Nat} (hz:VRel w A β h vz z) (h1:(Pm.cells z).length=sz) (h2:(Pm.cells z).all oneC=true) (hs:0<sz) (n:Nat) :
  vz.cells.size=sz∧Flat w A β h sz (List.map (fun i=>vz.cells[i % vz.cells.size]!) (List.range (n * sz))) (List.replicate n z):=by
 obtain ⟨x1,x2⟩:=hz.cells h2
 refine ⟨by omega,by simp,fun i e he=>?_⟩
 have hi:=lt_of_some he
 simp at hi
 rw [List.getElem?_replicate,if_pos hi] at he
 obtain rfl:=Option.some.inj he
 refine ⟨h1,fun j q hq=>?_⟩
 have hj:=lt_of_some hq
 obtain ⟨u,m1,m2,m3⟩:=x2 j q hq
 refine ⟨u,?_,m2⟩
 have hk:i * sz+j<n * sz:=by have:=mul_lt (s:=sz) hi;omega
 rw [List.getElem?_map,List.getElem?_range hk]
 simp only [Option.map_some]
 rw [x1,h1,Nat.mul_comm,Nat.mul_add_mod,Nat.mod_eq_of_lt (by omega)]
 rw [getElem!_def,m1]
theorem range_toList (n:Nat) (f:Nat→Value):((Array.range n).map f)=(List.map f (List.range n)).toArray:=by
 apply Array.ext'
 simp
theorem tbytes_run {t:TypeId} {n:Nat} (e:tbytes P t=some n):∃ i,P.info? t=some i∧i.bytes=n:=by
 unfold tbytes at e
 cases hi:P.info? t with
 | none=>rw [hi] at e;simp at e
 | some i=>rw [hi] at e;simp at e;exact ⟨i,rfl,e⟩
def isIntD:TypeDesc→Bool | .int _=>true | _=>false
theorem appendee_run (H:HRel w F β h) {e st xt:TypeId} {sz bytes:Nat} {z:PV} {vz x:Value} {px:PV} {ys:List PV} (hs:tsize P e=some sz) (hb:tbytes P e=some bytes) (hz:tzero P e=some z) (hpos:0<sz) (hby:bytes≤65536)
  (hx:VRel w (Av F h β) β h x px) (ea:appendee P h z xt px=some ys) (hall:ys.all (fun v=>decide ((Pm.cells v).length=sz) && (Pm.cells v).all oneC)=true) :
  ∃ zb:Bool,∃ d,P.underlying xt=some d∧zb=isIntD d ∧
   ∃ news:List Value,Flat w (Av F h β) β h sz news ys∧(∀ u∈news,u.oneCell'=true) ∧
    (zb=false→(Builtin.lenOf x).run P w=.ok ys.length w∧∀ w',w'.heap=w.heap→(Builtin.firstCells sz ys.length x).run P w'=.ok news.toArray w') ∧
    (zb=true→∃ k,x=.int k ys.length∧ys.length≤1073741824∧∀ w',(if ys.length * sz=0 then pure #[] else do pure (Builtin.zeroCells (← zeroValue e).cells ys.length):Sem (Array Value)).run P w'=.ok news.toArray w'):=by
 unfold appendee at ea
 split at ea
 ·rename_i ik k n hu
  split at ea
  ·rename_i hn
   obtain rfl:=Option.some.inj ea
   obtain rfl:=hx.int_inv
   obtain ⟨vz,r1,r2⟩:=tzero_run hz w (Av F h β) β h
   by_cases h0:n.toNat=0
   ·refine ⟨true,_,hu,rfl,[],by rw [h0];simpa using Flat.nil w (Av F h β) β h sz,by simp,by simp,fun _=>⟨k,by simp;omega,by simp;omega,fun w'=>?_⟩⟩
    simp [h0]
   ·have hone:=List.all_eq_true.1 hall z (by simp;omega)
    simp only [Bool.and_eq_true,decide_eq_true_eq] at hone
    obtain ⟨s1,s2⟩:=zero_flat r2 hone.1 hone.2 hpos n.toNat
    refine ⟨true,_,hu,rfl,_,s2,s2.ones hpos hall,by simp,fun _=>⟨k,by simp;omega,by simp;omega,fun w'=>?_⟩⟩
    have hne:¬ (List.replicate n.toNat z).length * sz=0:=by
     rw [List.length_replicate]
     exact Nat.mul_ne_zero h0 (by omega)
    have hzr:(zeroValue e).run P w'=.ok vz w':=by
     have:=r1
     unfold zeroValue typeInfo at this ⊢
     simp only [Sem.run_bind,run_program,Result.andThen_ok] at this ⊢
     cases hi:P.info? e with
     | none=>rw [hi] at this;simp at this
     | some i=>
      rw [hi] at this
      simp at this ⊢
      cases hzz:i.zero with
      | none=>rw [hzz] at this;simp at this
      | some v=>rw [hzz] at this;simp at this ⊢;exact this
    rw [if_neg hne]
    simp only [Sem.run_bind,hzr,Result.andThen_ok,Sem.run_pure,Builtin.zeroCells,range_toList,List.length_replicate,s1]
  ·cases ea
 ·rename_i el hu
  have hz':∀ y∈ys,(Pm.cells y).length=sz:=fun y hy=>by
   have:=List.all_eq_true.1 hall y hy
   simp only [Bool.and_eq_true,decide_eq_true_eq] at this
   exact this.1
  obtain ⟨a,cap,rfl,hle,cs,f1,f2⟩:=elems_flat (P:=P) H hx ea hz'
  refine ⟨false,_,hu,rfl,cs,f1,f1.ones hpos hall,fun _=>⟨by simp [Builtin.lenOf],fun w' hw'=>?_⟩,by simp⟩
  have:=f2 w' hw' ys.length (Nat.le_refl _)
  rwa [List.take_of_length_le (by rw [f1.1];omega)] at this
 ·cases ea
theorem Flat.obj {A:Nat→Prop} {sz:Nat} {cs rest:List Value} {es:List PV} (a:Flat w A β h sz cs es) (i:Nat) (e:PV) (he:es[i]?=some e) :
  (Pm.cells e).length=sz∧∀ (j:Nat) (p:PV),(Pm.cells e)[j]?=some p→∃ v:Value,(cs++rest).toArray[i * sz+j]?=some v∧VRel w A β h v p:=by
 obtain ⟨h1,h2⟩:=a.2 i e he
 refine ⟨h1,fun j p hp=>?_⟩
 obtain ⟨u,k1,k2⟩:=h2 j p hp
 exact ⟨u,by rw [List.getElem?_toArray,List.getElem?_append_left (lt_of_some k1)];exact k1,k2⟩
theorem wrap_small {n:Nat} (h:n≤1073741824):IntKind.i64.wrap (n:Int)=n:=by
 simp [IntKind.wrap,IntKind.bits,IntKind.signed];omega
theorem max_i64:IntKind.i64.max=9223372036854775807:=by decide
theorem roomy_spec {n b:Nat} (h:roomy n b=true):n * b≤17592186044416∧n≤17592186044416:=by
 simpa [roomy] using h
theorem append_room {ts:Array TypeId} {ty st xt e:TypeId} {args:Array Value} {sz sLen sCap n:Nat} {base:Option Addr} {x:Value} {d:TypeDesc} {zb:Bool} {news:List Value}
  (h1:ts[0]?=some st) (h2:ts[1]?=some xt) (h3:args[0]?=some (.slice base sLen sCap)) (h4:args[1]?=some x) (hu:P.underlying st=some (.slice e)) (hs:tsize P e=some sz)
  (hd:P.underlying xt=some d) (hzb:zb=isIntD d) {bytes:Nat} (hb:tbytes P e=some bytes) (hby:bytes≤65536)
  (hf:zb=false→(Builtin.lenOf x).run P w=.ok n w∧∀ w',w'.heap=w.heap→(Builtin.firstCells sz n x).run P w'=.ok news.toArray w')
  (ht:zb=true→∃ k,x=.int k n∧n≤1073741824∧∀ w',(if n * sz=0 then pure #[] else do pure (Builtin.zeroCells (← zeroValue e).cells n):Sem (Array Value)).run P w'=.ok news.toArray w')
  (hroom:sLen+n≤sCap) :
  (Builtin.append_ ts ty args).run P w=(match base with | some a=>(storeCells (a.add (sLen * sz)) news).run P w | none=>.ok () w).andThen fun _ w'=>.ok (.slice base (sLen+n) sCap) w':=by
 obtain ⟨i,hi,hib⟩:=tbytes_run hb
 have hti:∀ w,(typeInfo e).run P w=.ok i w:=fun w=>by simp [typeInfo,hi]
 unfold Builtin.append_
 simp only [h1,h3,h4,Sem.run_bind,und_run hu,Result.andThen_ok,tsize_run hs,h2,und_run hd,Sem.run_pure]
 cases zb with
 | false=>
  obtain ⟨f1,f2⟩:=hf rfl
  cases d with
  | int k=>simp [isIntD] at hzb
  | _=>
   simp only [Bool.false_eq_true,if_false,f1,Result.andThen_ok,hroom,if_true,Sem.run_bind,Bool.not_false,f2 w rfl]
   cases base <;> simp
 | true=>
  obtain ⟨k,rfl,hn,t2⟩:=ht rfl
  have hbn:¬ ((n:Int) * (bytes:Int) > 2 ^ 48):=by
   have:n * bytes≤1073741824 * 65536:=Nat.mul_le_mul hn hby
   have h2:((n * bytes:Nat):Int)≤70368744177664:=by omega
   rw [Int.natCast_mul] at h2
   omega
  have hneg:¬ ((n:Int)<0):=by omega
  cases d with
  | int k=>
   simp only [if_true,asInt,asIntOf,Sem.run_bind,Sem.run_pure,Result.andThen_ok,wrap_small hn,Sem.run_ite,hneg,if_false,hti,hib,hbn,Int.toNat_natCast,hroom,Bool.not_true,Bool.false_eq_true]
   have:=t2 w
   simp only [Sem.run_ite,Sem.run_bind,Sem.run_pure] at this
   rw [this]
   cases base <;> simp
  | _=>simp [isIntD] at hzb
theorem run_choose_cap (w:World) (need old:Nat) (e:TypeId) (hn:need≤17592186044416):∃ c,need≤c∧(choose (.appendCap need old e)).run P w=.ok c w.drew:=by
 refine ⟨_,?_,by simp only [run_choose,Question.forced,Bool.false_eq_true,if_false];rfl⟩
 simp [Question.cut]
theorem append_grow {ts:Array TypeId} {ty st xt e:TypeId} {args:Array Value} {sz sLen sCap n:Nat} {base:Option Addr} {x vz:Value} {d:TypeDesc} {zb:Bool} {news olds:List Value}
  (h1:ts[0]?=some st) (h2:ts[1]?=some xt) (h3:args[0]?=some (.slice base sLen sCap)) (h4:args[1]?=some x) (hu:P.underlying st=some (.slice e)) (hs:tsize P e=some sz)
  (hd:P.underlying xt=some d) (hzb:zb=isIntD d) {bytes:Nat} (hb:tbytes P e=some bytes) (hby:bytes≤65536) (hz:∀ w,(zeroValue e).run P w=.ok vz w)
  (hf:zb=false→(Builtin.lenOf x).run P w=.ok n w∧∀ w',w'.heap=w.heap→(Builtin.firstCells sz n x).run P w'=.ok news.toArray w')
  (ht:zb=true→∃ k,x=.int k n∧n≤1073741824∧∀ w',(if n * sz=0 then pure #[] else do pure (Builtin.zeroCells (← zeroValue e).cells n):Sem (Array Value)).run P w'=.ok news.toArray w')
  (hold:∀ w',w'.heap=w.heap→(Builtin.firstCells sz sLen (.slice base sLen sCap)).run P w'=.ok olds.toArray w')
  (hroom:¬ sLen+n≤sCap) (hbig:(sLen+n) * bytes≤17592186044416) (hbig2:sLen+n≤17592186044416) :
  ∃ c,sLen+n≤c∧(Builtin.append_ ts ty args).run P w=.ok (.slice (some ⟨w.heap.size,0,none⟩) (sLen+n) c)
   (w.drew.alloc (.cells (olds.toArray++news.toArray++Builtin.zeroCells vz.cells (c - (sLen+n))) e)):=by
 obtain ⟨i,hi,hib⟩:=tbytes_run hb
 have hti:∀ w,(typeInfo e).run P w=.ok i w:=fun w=>by simp [typeInfo,hi]
 obtain ⟨c,c1,c2⟩:=run_choose_cap (P:=P) w (sLen+n) sCap e hbig2
 refine ⟨c,c1,?_⟩
 have hmx:¬ (((sLen+n:Nat):Int) > IntKind.i64.max):=by rw [max_i64];omega
 have hnx:¬ (Builtin.nextslicecap (sLen+n) sCap * i.bytes > 2 ^ 48):=by
  have:=growslice_fits (need:=sLen+n) (old:=sCap) (bytes:=i.bytes) (by omega) (by rw [hib];omega)
  omega
 unfold Builtin.append_
 simp only [h1,h3,h4,Sem.run_bind,und_run hu,Result.andThen_ok,tsize_run hs,h2,und_run hd,Sem.run_pure]
 have fin:((choose (.appendCap (sLen+n) sCap e)).run P w).andThen (fun newCap w'=>.ok newCap w')=.ok c w.drew:=by rw [c2];rfl
 cases zb with
 | false=>
  obtain ⟨f1,f2⟩:=hf rfl
  cases d with
  | int k=>simp [isIntD] at hzb
  | _=>
   simp only [Bool.false_eq_true,if_false,f1,Result.andThen_ok,hroom,Sem.run_bind,Bool.not_false,hti,Sem.run_ite,hmx,false_and,hnx,c2,run_askRoom,hold w.drew rfl,f2 w.drew rfl,if_true,hz,Sem.run_pure,newRow,run_newObj]
   rfl
 | true=>
  obtain ⟨k,rfl,hn,t2⟩:=ht rfl
  have hbn:¬ ((n:Int) * (bytes:Int) > 2 ^ 48):=by
   have:n * bytes≤1073741824 * 65536:=Nat.mul_le_mul hn hby
   have h2:((n * bytes:Nat):Int)≤70368744177664:=by omega
   rw [Int.natCast_mul] at h2
   omega
  have hneg:¬ ((n:Int)<0):=by omega
  cases d with
  | int k=>
   have t2':=t2 w.drew
   simp only [Sem.run_ite,Sem.run_bind,Sem.run_pure,hz,Result.andThen_ok] at t2'
   rw [← hib] at hbn
   simp only [if_true,asInt,asIntOf,Sem.run_bind,Sem.run_pure,Result.andThen_ok,wrap_small hn,Sem.run_ite,hneg,if_false,hti,hbn,Int.toNat_natCast,hroom,Bool.not_true,Bool.false_eq_true,hmx,false_and,hnx,c2,run_askRoom,hold w.drew rfl,hz,t2',newRow,run_newObj]
   rfl
  | _=>simp [isIntD] at hzb
theorem tzero_run2 {t:TypeId} {z:PV} (e:tzero P t=some z):∃ v,(∀ w,(zeroValue t).run P w=.ok v w)∧∀ (w:World) (A:Nat→Prop) (β:List (Nat × Nat)) (h:AHeap),VRel w A β h v z:=by
 unfold tzero at e
 cases hi:P.info? t with
 | none=>rw [hi] at e;simp at e
 | some i=>
  rw [hi] at e
  simp only [Option.bind_some] at e
  cases hz:i.zero with
  | none=>rw [hz] at e;simp at e
  | some v=>
   rw [hz] at e
   simp at e
   subst e
   exact ⟨v,fun w=>by simp [zeroValue,typeInfo,hi,hz],fun w A β h=>cv_rel w A β h v⟩
theorem beta_set {id:Nat} {bc:Nat × Nat} (hb:β[id]?=some bc):β.set id bc=β:=by
 apply List.ext_getElem?
 intro k
 by_cases hk:k=id
 ·subst hk;rw [List.getElem?_set_self (lt_of_some hb)];exact hb.symm
 ·rw [List.getElem?_set_ne (Ne.symm hk)]
theorem splice_sim (H:HRel w F β h) {id:Nat} {o:AObj} {bc:Nat × Nat} (eo:h[id]?=some o) (eb:β[id]?=some bc) (em:o.mu=.m) {news:List Value} {ys:List PV} (off:Nat)
  (hf:Flat w (Av F h β) β h o.esz news ys) (h1:∀ u∈news,u.oneCell'=true) (hle:off+ys.length≤o.es.length) (hz:0<o.esz:=by first | assumption | omega) :
  ∃ w',(storeCells ⟨bc.1,off * o.esz,none⟩ news).run P w=.ok () w' ∧
   HRel w' F β (h.set id {o with es:=o.es.take off++ys++o.es.drop (off+ys.length) })∧Stp w h β w' (h.set id {o with es:=o.es.take off++ys++o.es.drop (off+ys.length) }) β:=by
 obtain ⟨T,cs,k1,k2,k3,k4,k5⟩:=(H.obj id o bc eo eb (by rw [em];simp)).c hz
 have hn:news.length=ys.length * o.esz:=hf.1
 have hfit:off * o.esz+ys.length * o.esz≤cs.size:=by
  rw [← Nat.add_mul]
  exact Nat.le_trans (Nat.mul_le_mul_right _ (by omega)) k3
 have hst:=run_storeCells_at P bc.1 (off * o.esz) T news 0 cs w k1 (by omega) h1
 simp only [Nat.add_zero] at hst
 have hcl:(cs.toList.take (off * o.esz)++news++cs.toList.drop (off * o.esz+news.length)).length=cs.size:=by
  simp only [List.length_append,List.length_take,List.length_drop,Array.length_toList];omega
 have hel:(o.es.take off++ys++o.es.drop (off+ys.length)).length=o.es.length:=by simp;omega
 refine ⟨_,hst,?_⟩
 have:=HRel.set H eo eb em (w':=w.setRow bc.1 (cs.toList.take (off * o.esz)++news++cs.toList.drop (off * o.esz+news.length)).toArray) T
  (cs.toList.take (off * o.esz)++news++cs.toList.drop (off * o.esz+news.length)).toArray (o.es.take off++ys++o.es.drop (off+ys.length)) o.ep bc (by simp)
  (setRow_heap w bc.1 cs _ T (0,0) k1) (fun b hb hne=>setRow_other w bc.1 b _ hne) (.inl ⟨rfl,fun _=>hel⟩) (Nat.le_refl _) rfl rfl rfl (by rw [hel];exact k2) (by rw [List.size_toArray,hcl];exact k3) (fun i e he=>?_)
 ·rw [beta_set eb] at this
  exact this
 ·rw [splice_get _ _ _ _ hle] at he
  have hi:i<o.es.length:=by
   rcases Nat.lt_or_ge i o.es.length with hh | hh
   ·exact hh
   ·rw [if_neg (by omega),if_neg (by omega),List.getElem?_eq_none hh] at he;cases he
  by_cases hA:off≤i∧i<off+ys.length
  ·rw [if_neg (by omega),if_pos hA.2] at he
   obtain ⟨n1,n2⟩:=hf.2 _ e he
   refine ⟨n1,fun j q hq=>?_⟩
   obtain ⟨u,p1,p2⟩:=n2 j q hq
   have hj:=lt_of_some hq
   refine ⟨u,?_,p2⟩
   have e1:i * o.esz=off * o.esz+(i - off) * o.esz:=by rw [← Nat.add_mul];congr 1;omega
   have e2:=mul_lt (s:=o.esz) (show i - off<ys.length by omega)
   rw [List.getElem?_toArray,splice_get _ _ _ _ (by rw [hn];simpa using hfit),if_neg (by omega),if_pos (by rw [hn];omega),e1]
   rw [show off * o.esz+(i - off) * o.esz+j - off * o.esz=(i - off) * o.esz+j by omega]
   exact p1
  ·have he':o.es[i]?=some e:=by
    by_cases hB:i<off
    ·rwa [if_pos hB] at he
    ·rwa [if_neg hB,if_neg (by omega)] at he
   obtain ⟨n1,n2⟩:=k5 i e he'
   refine ⟨n1,fun j q hq=>?_⟩
   obtain ⟨u,p1,p2⟩:=n2 j q hq
   have hj:=lt_of_some hq
   refine ⟨u,?_,p2⟩
   rw [List.getElem?_toArray,splice_get _ _ _ _ (by rw [hn];simpa using hfit)]
   by_cases hB:i<off
   ·have:=mul_lt (s:=o.esz) hB
    rw [if_pos (by omega)];simpa using p1
   ·have:(off+ys.length) * o.esz≤i * o.esz:=Nat.mul_le_mul_right _ (by omega)
    rw [Nat.add_mul] at this
    rw [if_neg (by omega),if_neg (by rw [hn];omega)];simpa using p1
theorem append_run (H:HRel w F β h) {ts:Array TypeId} {ty st xt:TypeId} {args:Array Value} {lv:Nat} {sv x:Value} {s px r:PV} {h':AHeap}
  (h1:ts[0]?=some st) (h2:ts[1]?=some xt) (h3:args[0]?=some sv) (h4:args[1]?=some x) (hs:VRel w (Av F h β) β h sv s) (hx:VRel w (Av F h β) β h x px)
  (e:appendP P lv h st xt s px=some (r,h')):Sim P lv w F β h (Builtin.append_ ts ty args) r h':=by
 unfold appendP at e
 split at e
 ·rename_i el hu
  split at e
  ·rename_i sz bytes z q1 q2 q3
   split at e
   ·rename_i ys hy
    split at e
    ·rename_i hc
     obtain ⟨hpos,hby,hzc,hall⟩:=hc
     obtain ⟨vz,z1,z2⟩:=tzero_run2 (P:=P) q3
     obtain ⟨zb,d,a1,a2,news,a3,a4,a5,a6⟩:=appendee_run (st:=st) (vz:=vz) H q1 q2 q3 hpos hby hx hy hall
     have zsz:vz.cells.size=sz:=by rw [((z2 w (Av F h β) β h).cells hzc.2).1];exact hzc.1
     have arr:∀ (cs:List Value) (n:Nat),cs.toArray++news.toArray++Builtin.zeroCells vz.cells n=(cs++news++(Builtin.zeroCells vz.cells n).toList).toArray:=fun cs n=>by apply Array.ext';simp
     have arrsz:∀ (cs:List Value) (k m c:Nat),cs.length=k * sz→k+m≤c→news.length=m * sz→c * sz≤(cs.toArray++news.toArray++Builtin.zeroCells vz.cells (c - (k+m))).size:=fun cs k m c e1 e2 e3=>by
      simp only [Array.size_append,List.size_toArray,size_zeroCells,zsz,e1,e3,← Nat.add_mul]
      rw [show k+m+(c - (k+m))=c by omega]
      exact Nat.le_refl _
     split at e
     ·-- a snapshot
      rename_i full es
      obtain ⟨a,cap,rfl,hle,hfull⟩:=hs.snap_inv.snap_len
      split at e
      ·rename_i hemp
       obtain rfl:ys=[]:=by simpa using hemp
       obtain ⟨rfl,rfl⟩:=Prod.mk.inj (Option.some.inj e)
       have hn:news=[]:=List.eq_nil_of_length_eq_zero (by simpa using a3.1)
       subst hn
       have:=append_room (P:=P) (w:=w) (ty:=ty) h1 h2 h3 h4 hu q1 a1 a2 q2 hby (n:=0) a5 a6 (by omega)
       refine Sim.still H (v:=.slice a es.length cap) ?_ hs
       rw [this]
       cases a <;> simp [storeCells]
      ·rename_i hne
       split at e
       ·rename_i hc2
        obtain ⟨rfl,hlv,hroomy,hes⟩:=hc2
        obtain ⟨rfl,rfl⟩:=Prod.mk.inj (Option.some.inj e)
        obtain ⟨b1,b2⟩:=roomy_spec hroomy
        have hy0:0<ys.length:=by
         cases ys with
         | nil=>simp at hne
         | cons=>simp
        have hcap:=hfull rfl
        have hez:∀ y∈es,(Pm.cells y).length=sz:=fun y hy=>by
         have:=List.all_eq_true.1 hes y hy
         simp only [Bool.and_eq_true,decide_eq_true_eq] at this
         exact this.1
        obtain ⟨a',cap',ev,_,cs,f1,f2⟩:=elems_flat (P:=P) H hs (show elems h (.snap true es)=some es from rfl) hez
        obtain ⟨c,c1,c2⟩:=append_grow (P:=P) (w:=w) (ty:=ty) (sLen:=es.length) h1 h2 h3 h4 hu q1 a1 a2 q2 hby z1 a5 a6 (fun w' hw'=>by
         have:=f2 w' hw' es.length (Nat.le_refl _)
         rwa [List.take_of_length_le (by rw [f1.1];omega)] at this) (by omega) b1 b2
        have hfl:=f1.append a3
        obtain ⟨HH,S⟩:=HRel.new H (w':=w.drew.alloc (.cells (cs.toArray++news.toArray++Builtin.zeroCells vz.cells (c - (es.length+ys.length))) el)) el
         (cs.toArray++news.toArray++Builtin.zeroCells vz.cells (c - (es.length+ys.length))) { mu:=.m,ep:=0,esz:=sz,es:=es++ys } c rfl rfl rfl rfl rfl (by simpa using c1)
         (arrsz cs _ _ c f1.1 c1 a3.1) hpos (fun i e he=>by
          rw [arr]
          exact hfl.obj (rest:=(Builtin.zeroCells vz.cells (c - (es.length+ys.length))).toList) i e he)
        exact ⟨_,_,_,c2,H.mrefNew,HH,S,fun _=>(Grew.drew w).trans (Grew.alloc _ _)⟩
       ·cases e
     ·-- a reference
      rename_i id ep off len
      split at e
      ·rename_i o ho
       obtain ⟨e1,e2,e3⟩:=getM_some ho
       obtain ⟨bc,hb⟩:=beta_at H.len e1
       obtain ⟨m1,m2,m3⟩:=hs.mref_inv
       split at e
       ·rename_i hc2
        obtain ⟨hle,hsz⟩:=hc2
        obtain ⟨cap,rfl,c2⟩:=m3 o bc e1 hb e3 e2 hle
        obtain ⟨T,cs0,k1,k2,k3,k4,k5⟩:=(H.obj id o bc e1 hb e3).c (m2 o e1).2
        split at e
        ·rename_i hemp
         obtain rfl:ys=[]:=by simpa using hemp
         obtain ⟨rfl,rfl⟩:=Prod.mk.inj (Option.some.inj e)
         have hn:news=[]:=List.eq_nil_of_length_eq_zero (by simpa using a3.1)
         subst hn
         have:=append_room (P:=P) (w:=w) (ty:=ty) h1 h2 h3 h4 hu q1 a1 a2 q2 hby (n:=0) a5 a6 (by omega)
         refine Sim.still H (v:=.slice (some ⟨bc.1,off * o.esz,none⟩) len cap) ?_ hs
         rw [this]
         simp [storeCells]
        ·rename_i hne
         split at e
         ·rename_i hc3
          obtain ⟨rfl,hlv,hmu,_,hin⟩:=hc3
          obtain ⟨rfl,rfl⟩:=Prod.mk.inj (Option.some.inj e)
          subst hsz
          have hrun:=append_room (P:=P) (w:=w) (ty:=ty) h1 h2 h3 h4 hu q1 a1 a2 q2 hby a5 a6 (show len+ys.length≤cap by omega)
          obtain ⟨w',s1,s2,s3⟩:=splice_sim (P:=P) H e1 hb hmu len a3 a4 hin
          simp only [Nat.zero_mul,addr_add,Nat.zero_add] at hrun
          rw [s1] at hrun
          simp only [Result.andThen_ok] at hrun
          refine ⟨_,w',β,hrun,?_,s2,s3,fun hh=>by omega⟩
          refine .mref _ id ep 0 (len+ys.length) {o with es:=o.es.take len++ys++o.es.drop (len+ys.length) } bc ⟨_,_,_,rfl⟩ (List.getElem?_set_self (lt_of_some e1)) hb (by show o.mu≠.x;rw [hmu];simp) ⟨by show ep≤o.ep;omega,k4⟩ (fun _ _=>⟨cap,by simp,c2⟩)
         split at e
         ·rename_i hc3
          obtain ⟨rfl,hlv,hmu,hroomy⟩:=hc3
          obtain ⟨rfl,rfl⟩:=Prod.mk.inj (Option.some.inj e)
          obtain ⟨b1,b2⟩:=roomy_spec hroomy
          have hy0:0<ys.length:=by
           cases ys with
           | nil=>simp at hne
           | cons=>simp
          subst hsz
          have hes:elems h (.mref id ep 0 len)=some ((o.es.drop 0).take len):=by simp only [elems,ho,if_pos hle]
          have htl:((o.es.drop 0).take len).length=len:=by simp;omega
          obtain ⟨a',cap',ev,_,cs,f1,f2⟩:=elems_flat (P:=P) (sz:=o.esz) H hs hes (fun y hy=>by
           obtain ⟨k,hk⟩:=List.getElem?_of_mem hy
           rw [List.getElem?_take] at hk
           split at hk
           ·simp at hk;exact (k5 k y hk).1
           ·cases hk)
          simp only [List.drop_zero] at f1 htl f2
          have hlen0:len≤o.es.length:=by omega
          by_cases hroom:len+ys.length≤cap
          ·-- there is room
           have hrun:=append_room (P:=P) (w:=w) (ty:=ty) h1 h2 h3 h4 hu q1 a1 a2 q2 hby a5 a6 hroom
           have hk3:(len+ys.length) * o.esz≤cs0.size:=Nat.le_trans (Nat.mul_le_mul_right _ (by omega)) k3
           rw [Nat.add_mul] at hk3
           have hst:=run_storeCells_at P bc.1 (0 * o.esz+len * o.esz) T news 0 cs0 w k1 (by rw [a3.1];omega) a4
           simp only [Nat.zero_mul,Nat.zero_add,Nat.add_zero] at hst hrun
           rw [addr_add,Nat.zero_add,hst] at hrun
           simp only [Result.andThen_ok] at hrun
           have hflat0:Flat w (Av F h β) β h o.esz (cs0.toList.take (len * o.esz)) (o.es.take len):=by
            refine ⟨by simp only [List.length_take,Array.length_toList];rw [Nat.min_eq_left hlen0,Nat.min_eq_left (by omega)],fun i e he=>?_⟩
            rw [List.getElem?_take] at he
            split at he
            ·rename_i hi
             obtain ⟨n1,n2⟩:=k5 i e he
             refine ⟨n1,fun j q hq=>?_⟩
             obtain ⟨u,p1,p2⟩:=n2 j q hq
             have hj:=lt_of_some hq
             have:=mul_lt (s:=o.esz) hi
             exact ⟨u,by rw [List.getElem?_take,if_pos (by omega)];simpa using p1,p2⟩
            ·cases he
           have hfl:=hflat0.append a3
           have hdl:(cs0.toList.take (len * o.esz)++news++cs0.toList.drop (len * o.esz+news.length)).length=cs0.size:=by
            simp only [List.length_append,List.length_take,List.length_drop,Array.length_toList,a3.1];omega
           obtain ⟨HH,S⟩:=HRel.set H e1 hb hmu (w':=w.setRow bc.1 (cs0.toList.take (len * o.esz)++news++cs0.toList.drop (len * o.esz+news.length)).toArray) T
            (cs0.toList.take (len * o.esz)++news++cs0.toList.drop (len * o.esz+news.length)).toArray (o.es.take len++ys) (ep+1) bc (by simp)
            (setRow_heap w bc.1 cs0 _ T (0,0) k1) (fun b hb hne=>setRow_other w bc.1 b _ hne) (.inl ⟨rfl,fun he=>by omega⟩) (by omega) rfl rfl rfl (by simp;omega)
            (by rw [List.size_toArray,hdl];exact k3) (fun i e he=>hfl.obj i e he)
           exact ⟨_,_,_,hrun,by have:=H.mrefSet (w':=w.setRow bc.1 (cs0.toList.take (len * o.esz)++news++cs0.toList.drop (len * o.esz+news.length)).toArray) (A:=Av F (h.set id {o with es:=o.es.take len++ys,ep:=ep+1 }) (β.set id bc)) e1 hmu (b:=bc.1) (cap:=cap) (len:=len+ys.length) (ep:=ep+1) (es:=o.es.take len++ys);simpa [show cap=bc.2 by omega] using this,HH,S,fun hh=>by omega⟩
          ·-- it moves
           obtain ⟨c,c1,hrun⟩:=append_grow (P:=P) (w:=w) (ty:=ty) (olds:=cs) h1 h2 h3 h4 hu q1 a1 a2 q2 hby z1 a5 a6 (fun w' hw'=>by
            have e3:(.slice (some ⟨bc.1,0 * o.esz,none⟩) len cap:Value)=.slice (some ⟨bc.1,0 * o.esz,none⟩) len cap:=rfl
            have:=f2 w' hw' len (by omega)
            rwa [List.take_of_length_le (by rw [f1.1,htl];exact Nat.le_refl _)] at this) hroom b1 b2
           have hfl:=f1.append a3
           obtain ⟨HH,S⟩:=HRel.set H e1 hb hmu (w':=w.drew.alloc (.cells (cs.toArray++news.toArray++Builtin.zeroCells vz.cells (c - (len+ys.length))) el)) el
            (cs.toArray++news.toArray++Builtin.zeroCells vz.cells (c - (len+ys.length))) (o.es.take len++ys) (ep+1) (w.heap.size,c) (by simp)
            (heap_alloc_new w.drew _) (fun b hb hne=>heap_alloc_old w.drew _ b hb) (.inr ⟨Nat.le_refl _,by omega⟩) (by omega) rfl rfl rfl (by simp;omega)
            (arrsz cs _ _ c (by rw [f1.1,htl]) c1 a3.1) (fun i e he=>by
             rw [arr]
             exact hfl.obj (rest:=(Builtin.zeroCells vz.cells (c - (len+ys.length))).toList) i e he)
           exact ⟨_,_,_,hrun,H.mrefSet e1 hmu,HH,S,fun hh=>by omega⟩
         ·cases e
       ·cases e
      ·cases e
     ·cases e
    ·cases e
   ·cases e
  ·cases e
 ·cases e
end Go.Pm
end
section
namespace Go.Pm
variable {P:Program} {w:World} {F:Nat→Prop} {β:List (Nat × Nat)} {h:AHeap}
theorem copy_run (H:HRel w F β h) {ts:Array TypeId} {ty dt:TypeId} {args:Array Value} {lv:Nat} {dv x:Value} {d px r:PV} {h':AHeap}
    (h1:ts[0]?=some dt) (h3:args[0]?=some dv) (h4:args[1]?=some x) (hd:VRel w (Av F h β) β h dv d) (hx:VRel w (Av F h β) β h x px)
    (e:copyP P lv h dt d px=some (r,h')):Sim P lv w F β h (Builtin.copy_ ts ty args) r h':=by
  unfold copyP at e
  split at e
  · rename_i el id ep off len ys hu hy
    split at e
    · rename_i sz o hs ho
      split at e
      · rename_i hc
        obtain ⟨hlv,hmu,rfl,hle,hall,hones⟩:=hc
        obtain ⟨rfl,rfl⟩:=Prod.mk.inj (Option.some.inj e)
        obtain ⟨e1,e2,e3⟩:=getM_some ho
        obtain ⟨bc,hb⟩:=beta_at H.len e1
        obtain ⟨m1,m2,m3⟩:=hd.mref_inv
        obtain ⟨cap,rfl,c2⟩:=m3 o bc e1 hb e3 e2 hle
        obtain ⟨a,cap',rfl,hlec,cs,f1,f2⟩:=elems_flat (P:=P) (sz:=o.esz) H hx hy (fun y hy=>by
          have:=List.all_eq_true.1 hall y hy
          simpa only [decide_eq_true_eq] using this)
        obtain ⟨T,cs0,k1,k2,k3,k4,k5⟩:=(H.obj id o bc e1 hb e3).c (m2 o e1).2
        have hn:min ys.length len≤ys.length:=Nat.min_le_left _ _
        have ft:=f1.take (min ys.length len) hn
        have htl:(ys.take (min ys.length len)).length=min ys.length len:=by simp only [List.length_take];omega
        obtain ⟨w',r1,r2,r3⟩:=splice_sim (P:=P) H e1 hb hmu off ft (fun u hu=>ft.ones k4 hones u hu) (by rw [htl];omega)
        rw [htl] at r2 r3
        refine ⟨.int .i64 (min ys.length len:Nat),w',β,?_,.val (.int _ _),r2,r3,fun hh=>by omega⟩
        have hrun:=f2 w rfl (min ys.length len) hn
        simp only [Builtin.copy_,h1,h3,h4,Sem.run_bind,und_run hu,Result.andThen_ok,Builtin.lenOf,Sem.run_pure,tsize_run hs,goInt]
        have e0:Nat.min ys.length len=min ys.length len:=rfl
        rw [e0,hrun]
        simp only [Result.andThen_ok]
        rw [r1]
        simp
      · cases e
    · cases e
  · cases e
theorem clear_run (H:HRel w F β h) {ts:Array TypeId} {ty t:TypeId} {args:Array Value} {lv:Nat} {dv:Value} {d r:PV} {h':AHeap}
    (h1:ts[0]?=some t) (h3:args[0]?=some dv) (hd:VRel w (Av F h β) β h dv d)
    (e:clearP P lv h t d=some (r,h')):Sim P lv w F β h (Builtin.clear_ ts ty args) r h':=by
  unfold clearP at e
  split at e
  · rename_i el id ep off len hu
    split at e
    · rename_i sz z o hs hz ho
      split at e
      · rename_i hc
        obtain ⟨hlv,hmu,rfl,hle,hz1,hz2⟩:=hc
        obtain ⟨rfl,rfl⟩:=Prod.mk.inj (Option.some.inj e)
        obtain ⟨e1,e2,e3⟩:=getM_some ho
        obtain ⟨bc,hb⟩:=beta_at H.len e1
        obtain ⟨m1,m2,m3⟩:=hd.mref_inv
        obtain ⟨cap,rfl,c2⟩:=m3 o bc e1 hb e3 e2 hle
        obtain ⟨T,cs0,k1,k2,k3,k4,k5⟩:=(H.obj id o bc e1 hb e3).c (m2 o e1).2
        obtain ⟨vz,z1,z2⟩:=tzero_run2 (P:=P) hz
        obtain ⟨s1,s2⟩:=zero_flat (z2 w (Av F h β) β h) hz1 hz2 k4 len
        have hall:(List.replicate len z).all (fun v=>decide ((Pm.cells v).length=o.esz) && (Pm.cells v).all oneC)=true:=by
          rw [List.all_eq_true]
          intro x hx
          rw [List.mem_replicate] at hx
          simp [hx.2,hz1,hz2]
        obtain ⟨w',r1,r2,r3⟩:=splice_sim (P:=P) H e1 hb hmu off s2 (s2.ones k4 hall) (by simpa using hle)
        simp only [List.length_replicate] at r2 r3
        by_cases hl:len=0
        · subst hl
          refine ⟨.tuple #[],w,β,?_,.val (.tup [] [] rfl (by simp)),?_⟩
          · simp only [Builtin.clear_,h1,h3,Sem.run_bind,und_run hu,Result.andThen_ok,Sem.run_pure]
          · simp [storeCells] at r1
            subst r1
            exact ⟨r2,r3,fun _=>Grew.refl _⟩
        · refine ⟨.tuple #[],w',β,?_,.val (.tup [] [] rfl (by simp)),r2,r3,fun hh=>by omega⟩
          obtain ⟨n,rfl⟩:∃ n,len=n+1:=⟨len - 1,by omega⟩
          simp only [Builtin.clear_,h1,h3,Sem.run_bind,und_run hu,Result.andThen_ok,z1,Builtin.zeroCells,range_toList,s1]
          rw [s1] at r1
          rw [r1]
          simp
      · cases e
    · cases e
  · rename_i el full hu
    obtain ⟨rfl,rfl⟩:=Prod.mk.inj (Option.some.inj e)
    obtain ⟨a,cap,rfl,_⟩:=hd.snap_inv.snap_len
    refine Sim.still H (v:=.tuple #[]) ?_ (.val (.tup [] [] rfl (by simp)))
    cases a <;> simp [Builtin.clear_,h1,h3,und_run hu]
  · cases e
theorem make_run (H:HRel w F β h) {t:TypeId} {lv:Nat} {vl vc:Value} {l c r:PV} {h':AHeap} (hl:VRel w (Av F h β) β h vl l) (hc:VRel w (Av F h β) β h vc c)
    (e:makeSliceP P lv h t l c=some (r,h')):Sim P lv w F β h (Instr.makeSlice t vl vc) r h':=by
  unfold makeSliceP at e
  split at e
  · rename_i el k1 n k2 c hu
    obtain rfl:=hl.int_inv
    obtain rfl:=hc.int_inv
    split at e
    · rename_i sz bytes z hs hb hz
      split at e
      · rename_i hcc
        obtain ⟨hlv,hn,hnc,hcm,hpos,hby,hz1,hz2⟩:=hcc
        obtain ⟨rfl,rfl⟩:=Prod.mk.inj (Option.some.inj e)
        obtain ⟨vz,z1,z2⟩:=tzero_run2 (P:=P) hz
        obtain ⟨s1,s2⟩:=zero_flat (z2 w (Av F h β) β h) hz1 hz2 hpos n.toNat
        obtain ⟨i,hi,hib⟩:=tbytes_run hb
        have hti:∀ w,(typeInfo el).run P w=.ok i w:=fun w=>by simp [typeInfo,hi]
        obtain ⟨cn,rfl⟩:=Int.eq_ofNat_of_zero_le (show 0≤c by omega)
        obtain ⟨ln,rfl⟩:=Int.eq_ofNat_of_zero_le hn
        have hcn:cn≤1073741824:=by omega
        have hln:ln≤1073741824:=by omega
        have hbc:¬ ((i.bytes:Int) * (cn:Int) > 2 ^ 48):=by
          have:bytes * cn≤65536 * 1073741824:=Nat.mul_le_mul hby hcn
          have h2:((bytes * cn:Nat):Int)≤70368744177664:=by omega
          rw [Int.natCast_mul] at h2
          rw [hib];omega
        have hfull:List.map (fun i=>vz.cells[i % vz.cells.size]!) (List.range (cn * sz))=List.map (fun i=>vz.cells[i % vz.cells.size]!) (List.range (ln * sz))++List.drop (ln * sz) (List.map (fun i=>vz.cells[i % vz.cells.size]!) (List.range (cn * sz))):=by
          have hle:ln * sz≤cn * sz:=Nat.mul_le_mul_right _ (by omega)
          have:List.map (fun i=>vz.cells[i % vz.cells.size]!) (List.range (ln * sz))=List.take (ln * sz) (List.map (fun i=>vz.cells[i % vz.cells.size]!) (List.range (cn * sz))):=by
            rw [← List.map_take,List.take_range,Nat.min_eq_left hle]
          rw [this,List.take_append_drop]
        obtain ⟨HH,S⟩:=HRel.new H (w':=w.alloc (.cells (List.map (fun i=>vz.cells[i % vz.cells.size]!) (List.range (cn * sz))).toArray el)) el
          (List.map (fun i=>vz.cells[i % vz.cells.size]!) (List.range (cn * sz))).toArray { mu:=.m,ep:=0,esz:=sz,es:=List.replicate ln z } cn rfl rfl rfl rfl rfl (by simp;omega) (by simp) hpos (fun i e he=>by
            rw [hfull]
            exact s2.obj i e (by simpa using he))
        refine ⟨.slice (some ⟨w.heap.size,0,none⟩) ln cn,_,_,?_,H.mrefNew,HH,S,fun _=>Grew.alloc w _⟩
        · have hneg:¬ ((cn:Int)<0):=by omega
          have hneg2:¬ ((ln:Int)<0):=by omega
          have hgt:¬ ((ln:Int) > (cn:Int)):=by omega
          simp only [Instr.makeSlice,Sem.run_bind,und_run hu,Result.andThen_ok,asInt,asIntOf,Sem.run_pure,hti,wrap_small hcn,wrap_small hln,Sem.run_ite,hneg,hneg2,hgt,hbc,decide_false,Bool.or_self,Bool.false_eq_true,if_false,run_askRoom,tsize_run hs,Int.toNat_natCast,z1,newRow,run_newObj]
          by_cases hc0:cn * sz=0
          · simp only [hc0,if_true,range_toList,List.range_zero,List.map_nil]
            rfl
          · simp only [hc0,if_false,range_toList]
            rfl
      · cases e
    · cases e
  · cases e
theorem max_run {args:List Value} {ps:List PV} {r:PV} {ts:Array TypeId} {ty:TypeId} {A:Nat→Prop} (hr:L2 (VRel w A β h) args ps) (e:maxP ps=some r) :
    ∃ u,(Builtin.max_ ts ty args.toArray).run P w=.ok u w∧VRel w A β h u r:=by
  unfold maxP at e
  split at e
  · rename_i k a k' b
    obtain rfl:=Option.some.inj e
    obtain ⟨hl,hh⟩:=hr
    match args,hl with
    | [x,y],_=>
      have h0:=hh 0 (by simp)
      have h1:=hh 1 (by simp)
      simp only [List.getD_cons_zero,List.getD_cons_succ] at h0 h1
      obtain rfl:=h0.int_inv
      obtain rfl:=h1.int_inv
      exact ⟨_,by simp [Builtin.max_,Builtin.max2],.val (.int _ _)⟩
  · cases e
theorem min_run {args:List Value} {ps:List PV} {r:PV} {ts:Array TypeId} {ty:TypeId} {A:Nat→Prop} (hr:L2 (VRel w A β h) args ps) (e:minP ps=some r) :
    ∃ u,(Builtin.min_ ts ty args.toArray).run P w=.ok u w∧VRel w A β h u r:=by
  unfold minP at e
  split at e
  · rename_i k a k' b
    obtain rfl:=Option.some.inj e
    obtain ⟨hl,hh⟩:=hr
    match args,hl with
    | [x,y],_=>
      have h0:=hh 0 (by simp)
      have h1:=hh 1 (by simp)
      simp only [List.getD_cons_zero,List.getD_cons_succ] at h0 h1
      obtain rfl:=h0.int_inv
      obtain rfl:=h1.int_inv
      exact ⟨_,by simp [Builtin.min_,Builtin.min2],.val (.int _ _)⟩
  · cases e
theorem equalIn_bool (d:Nat) {t:TypeId} (hu:P.underlying t=some .bool) (a b:Bool) (w:World):(Op.equalIn (d+1) t (.bool a) (.bool b)).run P w=.ok (a == b) w:=by
  simp [Op.equalIn,und_run hu]
theorem equal_bool {t:TypeId} (hu:P.underlying t=some .bool) (a b:Bool) (w:World):(Op.equal t (.bool a) (.bool b)).run P w=.ok (a == b) w:=equalIn_bool 9999 hu a b w
theorem bin_run {op:BinOp} {t:TypeId} {x y:Value} {px py r:PV} {ox oy:Operand} {A:Nat→Prop} (hx:VRel w A β h x px) (hy:VRel w A β h y py) (e:binP P op t px py=some r) :
    ∃ u,((do eqGuard op t ox oy x y;binOp op t x y:Sem Value)).run P w=.ok u w∧VRel w A β h u r:=by
  unfold binP at e
  split at e
  · rename_i k a k' b
    obtain rfl:=hx.int_inv
    obtain rfl:=hy.int_inv
    have guard:(eqGuard op t ox oy (.int k a) (.int k' b)).run P w=.ok () w:=by
      cases op <;> simp [eqGuard]
    simp only [Sem.run_bind,guard,Result.andThen_ok]
    split at e
    · unfold shiftOp at e
      split at e
      · cases e
      · rename_i hb
        obtain rfl:=Option.some.inj e
        refine ⟨_,?_,.val (.int _ _)⟩
        simp [binOp,Op.shift,hb]
    · unfold shiftOp at e
      split at e
      · cases e
      · rename_i hb
        obtain rfl:=Option.some.inj e
        refine ⟨_,?_,.val (.int _ _)⟩
        simp [binOp,Op.shift,hb]
    · rename_i n1 n2
      split at e
      · rename_i hk
        subst hk
        unfold intOp at e
        split at e
        all_goals first
          | (obtain rfl:=Option.some.inj e;refine ⟨_,?_,.val (.int _ _)⟩;simp [binOp,Op.intArith,Op.intBits];done)
          | (obtain rfl:=Option.some.inj e;refine ⟨_,?_,.val (.bool _)⟩;simp [binOp,Op.intCmp];done)
          | (split at e
             · cases e
             · rename_i hb
               obtain rfl:=Option.some.inj e
               refine ⟨_,?_,.val (.int _ _)⟩
               simp [binOp,Op.intDiv,hb])
          | cases e
      · cases e
  · rename_i a b
    obtain rfl:=hx.str_inv
    obtain rfl:=hy.str_inv
    have guard:(eqGuard op t ox oy (.string a) (.string b)).run P w=.ok () w:=by
      cases op <;> simp [eqGuard]
    simp only [Sem.run_bind,guard,Result.andThen_ok]
    unfold strOp at e
    split at e
    all_goals first
      | (obtain rfl:=Option.some.inj e;refine ⟨_,?_,.val (.bool _)⟩;simp [binOp,Op.stringOp];done)
      | (split at e
         · cases e
         · rename_i hb
           obtain rfl:=Option.some.inj e
           refine ⟨_,?_,.val (.str _)⟩
           simp only [binOp,Op.stringOp]
           rw [if_neg hb]
           rfl)
      | cases e
  · rename_i a b
    obtain rfl:=hx.bool_inv
    obtain rfl:=hy.bool_inv
    have guard:(eqGuard op t ox oy (.bool a) (.bool b)).run P w=.ok () w:=by
      cases op <;> simp [eqGuard]
    simp only [Sem.run_bind,guard,Result.andThen_ok]
    split at e
    · rename_i hu
      split at e
      · obtain rfl:=Option.some.inj e
        refine ⟨_,?_,.val (.bool _)⟩
        simp only [binOp,Sem.run_bind,equal_bool hu,Result.andThen_ok,Sem.run_pure]
      · obtain rfl:=Option.some.inj e
        refine ⟨_,?_,.val (.bool _)⟩
        simp only [binOp,Sem.run_bind,equal_bool hu,Result.andThen_ok,Sem.run_pure]
      · cases e
    · cases e
  · cases e
theorem un_run {op:UnOp} {x:Value} {px r:PV} {A:Nat→Prop} (hx:VRel w A β h x px) (e:unP op px=some r) :
    ∃ u,(Op.unary op x).run P w=.ok u w∧VRel w A β h u r:=by
  unfold unP at e
  split at e
  · obtain rfl:=Option.some.inj e
    obtain rfl:=hx.int_inv
    exact ⟨_,by simp [Op.unary,Op.intArith],.val (.int _ _)⟩
  · obtain rfl:=Option.some.inj e
    obtain rfl:=hx.bool_inv
    exact ⟨_,by simp [Op.unary],.val (.bool _)⟩
  · cases e
theorem byteV_eq {c:PV} {n:Int} (h:byteV c=some n):c=.int .u8 n:=by
  unfold byteV at h
  split at h
  · cases h;rfl
  · cases h
theorem bytesP_cons {c:PV} {r:List PV} {l:List Int} (e:bytesP (c::r)=some l):∃ n l',c=.int .u8 n∧bytesP r=some l'∧l=n::l':=by
  unfold bytesP at e
  split at e
  · rename_i n h1
    split at e
    · rename_i l' h2
      exact ⟨n,l',byteV_eq h1,h2,(Option.some.inj e).symm⟩
    · cases e
  · cases e
theorem bytesP_len:∀ {es:List PV} {l:List Int},bytesP es=some l→l.length=es.length
  | [],l,e=>by cases e;rfl
  | c::r,l,e=>by
    obtain ⟨n,l',_,h,rfl⟩:=bytesP_cons e
    simp [bytesP_len h]
theorem bytesP_at:∀ {es:List PV} {l:List Int},bytesP es=some l→∀ i,i<es.length→es.getD i .any=.int .u8 (l.getD i 0)
  | [],l,e,i,h=>by simp at h
  | c::r,l,e,i,h=>by
    obtain ⟨n,l',rfl,h1,rfl⟩:=bytesP_cons e
    cases i with
    | zero=>rfl
    | succ i=>simpa using bytesP_at h1 i (by simpa using h)
theorem bytes_run {s d t:TypeId} {x:Value} {full:Bool} {es:List PV} {l:List Int} {A:Nat→Prop} (hx:VRel w A β h x (.snap full es)) (h1:P.underlying s=some (.slice t)) (h2:P.underlying d=some .string) (h3:P.underlying t=some (.int .u8)) (h4:bytesP es=some l) :
    (convert s d x).run P w=.ok (.string (strN l)) w:=by
  cases hx with
  | val hs=>
    cases hs with
    | snapE a cap _ hc=>
      cases h4
      rw [run_convert_bytes_string w s d t a 0 cap h1 h3 h2]
      cases a with
      | none=>simp [Conv.bytesToString];rfl
      | some a=>exact run_bytesToString w a 0 cap [] (by simp [loadCells,loadCellsFrom])
    | snap b off cap sz _ _ cvs hne hle hf hA hsz hlen hcell hrel=>
      have hl:=bytesP_len h4
      have h0:0<es.length:=List.length_pos_iff.2 hne
      have hs1:sz=1:=by
        have:=hlen 0 h0
        rw [bytesP_at h4 0 h0] at this
        exact this.symm
      subst hs1
      have hc:∀ i,i<es.length→w.cell? ⟨b,off+i,none⟩=some (.int .u8 (l.getD i 0)):=fun i hi=>by
        have r1:=hcell i 0 hi (by omega)
        have r2:=hrel i 0 hi (by omega)
        rw [bytesP_at h4 i hi] at r2
        simp only [cells,List.getD_cons_zero] at r2
        cases hv:cvs i 0 with
        | int k n=>rw [hv] at r2 r1;cases r2;simpa using r1
        | _=>rw [hv] at r2;cases r2
      exact run_convert_bytes_arg w s t h1 h3 b off es.length cap l hl hc d h2
theorem conv_run {s d:TypeId} {x:Value} {px r:PV} {A:Nat→Prop} (hx:VRel w A β h x px) (e:convP P s d px=some r) :
    ∃ u,(convert s d x).run P w=.ok u w∧VRel w A β h u r:=by
  unfold convP at e
  split at e
  · rename_i ds k k' n h1 h2
    obtain rfl:=Option.some.inj e
    obtain rfl:=hx.int_inv
    refine ⟨_,?_,.val (.int _ _)⟩
    simp only [convert,Sem.run_bind,und_run h1,und_run h2,Result.andThen_ok]
    cases ds <;> simp [Conv.intToInt]
  · rename_i ds st h1 h2
    obtain rfl:=Option.some.inj e
    obtain rfl:=hx.str_inv
    refine ⟨_,?_,.val (.str _)⟩
    simp only [convert,Sem.run_bind,und_run h1,und_run h2,Result.andThen_ok]
    cases ds <;> simp
  · rename_i h1 h2
    split at e
    · rename_i h3 h4
      obtain rfl:=Option.some.inj e
      exact ⟨_,bytes_run hx h1 h2 h3 h4,.val (.str _)⟩
    · cases e
  · cases e
end Go.Pm
end
