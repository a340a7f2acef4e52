/-
  A part of the library Pm and its contracts (joined by program): PmOpen PmCode PmMask PmAbs PmDraw PmDraw2 PmDraw3. Conditions: none.
-/
import Derived.Test.YtimogkojklpdnaaGreatDoorPzAC
import Derived.Test.YtimogkojklpdnaaGreatDoorPzAA
set_option linter.unusedVariables false
set_option linter.unusedSimpArgs false
section
namespace Go.Pm
variable {P:Program} {w:World} {F:Nat→Prop} {β:List (Nat × Nat)} {h:AHeap}
def Alike (h h':AHeap):Prop:=h.length=h'.length∧∀ (id:Nat) (o o':AObj),h[id]?=some o→h'[id]?=some o'→o.ep=o'.ep∧o.esz=o'.esz∧o.es=o'.es∧(o.mu=.x↔o'.mu=.x)
theorem at_of_lt {α:Type} {l:List α} {i:Nat} (h:i<l.length):∃ x,l[i]?=some x:=⟨l[i],List.getElem?_eq_getElem h⟩
theorem Alike.fwd {h':AHeap} (a:Alike h h') (β:List (Nat × Nat)):Fwd h β h' β:=by
 intro id o bc e1 e2 e3
 have hid:=lt_of_some e1
 obtain ⟨o',ho⟩:=at_of_lt (l:=h') (i:=id) (by rw [← a.1];exact hid)
 obtain ⟨p1,p2,p3,p4⟩:=a.2 id o o' e1 ho
 exact ⟨o',bc,ho,e2,fun hh=>e3 (p4.2 hh),⟨by omega,fun hz=>by omega⟩,fun _=>⟨p2.symm,fun _=>by rw [p3],rfl⟩⟩
theorem VRel.alike {h':AHeap} (a:Alike h h') {A A':Nat→Prop} (hA:∀ b,A' b→A b) {v:Value} {p:PV} (r:VRel w A β h v p):VRel w A' β h' v p:=
 r.fwd (a.fwd β) (fun _ _ _=>rfl) (fun b _ hn ha=>hn (hA b ha))
theorem ORel.alike {h':AHeap} (a:Alike h h') {A A':Nat→Prop} (hA:∀ b,A' b→A b) {o o':AObj} {bc:Nat × Nat} (e1:o.esz=o'.esz) (e2:o.es=o'.es) (r:ORel w A β h o bc):ORel w A' β h' o' bc:=by
 rcases r with ⟨T,cs,h1,h2,h3,h4,h5⟩ | ⟨h0,es,clock,h1,h2,h3⟩
 ·refine .inl ⟨T,cs,h1,by rw [← e2];exact h2,by rw [← e1];exact h3,by rw [← e1];exact h4,fun i e he=>?_⟩
  rw [← e2] at he
  obtain ⟨k1,k2⟩:=h5 i e he
  refine ⟨by rw [← e1];exact k1,fun j p hp=>?_⟩
  obtain ⟨v,m1,m2⟩:=k2 j p hp
  exact ⟨v,by rw [← e1];exact m1,m2.alike a hA⟩
 ·refine .inr ⟨by rw [← e1];exact h0,es,clock,h1,by rw [← e2];exact h2,fun i e he=>?_⟩
  rw [← e2] at he
  obtain ⟨k,v,m,q1,q2,q3,q4⟩:=h3 i e he
  exact ⟨k,v,m,q1,q2,q3.alike a hA,q4.alike a hA⟩
theorem lock1_shape (o:AObj):(lock1 o).ep=o.ep∧(lock1 o).esz=o.esz∧(lock1 o).es=o.es∧((lock1 o).mu=.x↔o.mu=.x)∧(lock1 o).mu≠.m∧((lock1 o).mu=.f↔o.mu=.f):=by
 cases o with
 | mk mu ep esz es=>cases mu <;> simp [lock1]
theorem alike_lock (h:AHeap):Alike h (h.map lock1):=by
 refine ⟨by simp,fun id o o' e1 e2=>?_⟩
 rw [List.getElem?_map,e1] at e2
 obtain rfl:=Option.some.inj e2
 obtain ⟨p1,p2,p3,p4,_⟩:=lock1_shape o
 exact ⟨p1.symm,p2.symm,p3.symm,p4.symm⟩
theorem lock_Mb (h:AHeap) (β:List (Nat × Nat)) (b:Nat):¬ Mb (h.map lock1) β b:=by
 rintro ⟨id,o,bc,e1,e2,e3,e4⟩
 rw [List.getElem?_map] at e1
 cases hh:h[id]? with
 | none=>rw [hh] at e1;cases e1
 | some o2=>
  rw [hh] at e1
  obtain rfl:=Option.some.inj e1
  exact (lock1_shape o2).2.2.2.2.1 e3
theorem lock_at {h:AHeap} {id:Nat} {o:AObj} (e:(h.map lock1)[id]?=some o):∃ o2,h[id]?=some o2∧o=lock1 o2:=by
 rw [List.getElem?_map] at e
 cases hh:h[id]? with
 | none=>rw [hh] at e;cases e
 | some o2=>rw [hh] at e;exact ⟨o2,rfl,(Option.some.inj e).symm⟩
theorem HRel.lock (H:HRel w F β h):HRel w (Av F h β) β (h.map lock1):=by
 have hA:∀ b,Av (Av F h β) (h.map lock1) β b→Av F h β b:=fun b hb=>hb.elim id (fun hm=>absurd hm (lock_Mb h β b))
 refine ⟨by simp [H.len],fun b hb=>Av.lt H hb,?_,?_,?_⟩
 ·intro id o bc e1 e2 e3
  obtain ⟨o2,f1,rfl⟩:=lock_at e1
  obtain ⟨p1,p2,p3,p4,_⟩:=lock1_shape o2
  exact (H.obj id o2 bc f1 e2 (fun hh=>e3 (p4.2 hh))).alike (alike_lock h) hA p2.symm p3.symm
 ·intro id id' o o' bc bc' hne e1 e2 e3 e4 m1 m2
  obtain ⟨o2,f1,rfl⟩:=lock_at e1
  exact absurd m1 (lock1_shape o2).2.2.2.2.1
 ·intro id o bc e1 e2 e3
  obtain ⟨o2,f1,rfl⟩:=lock_at e1
  obtain ⟨p1,p2,p3,p4,p5,p6⟩:=lock1_shape o2
  rcases e3 with e3 | e3
  ·exact absurd e3 p5
  ·exact frozen_out H f1 e2 (p6.1 e3)
theorem HRel.unlock (H:HRel w F β h) {w':World} {h1:AHeap} {β1:List (Nat × Nat)} (q2:HRel w' (Av F h β) β1 h1) (q3:Stp w (h.map lock1) β w' h1 β1) (hnl:(h1.drop h.length).all (fun o=>decide (o.mu≠.l))=true) :
  (∀ (v:Value) (p:PV),VRel w' (Av (Av F h β) h1 β1) β1 h1 v p→VRel w' (Av F (h++h1.drop h.length) β1) β1 (h++h1.drop h.length) v p)∧HRel w' F β1 (h++h1.drop h.length)∧Stp w h β w' (h++h1.drop h.length) β1∧Grew w w':=by
 have hn:h.length≤h1.length:=by have:=q3.len;simpa using this
 have hb1:β1.length=h1.length:=q2.len
 have old:∀ (id:Nat) (o:AObj),h[id]?=some o→h1[id]?=some (lock1 o)∧β1[id]?=β[id]?:=fun id o ho=>by
  have e1:(h.map lock1)[id]?=some (lock1 o):=by rw [List.getElem?_map,ho];rfl
  exact q3.lck id (lock1 o) e1 (lock1_shape o).2.2.2.2.1
 have hhlt:∀ (id:Nat),id<h.length→(h++h1.drop h.length)[id]?=h[id]?:=fun id hid=>List.getElem?_append_left hid
 have hhge:∀ (id:Nat),h.length≤id→(h++h1.drop h.length)[id]?=h1[id]?:=fun id hid=>by
  rw [List.getElem?_append_right hid,List.getElem?_drop];congr 1;omega
 have al:Alike h1 (h++h1.drop h.length):=by
  refine ⟨by simp;omega,fun id o o' e1 e2=>?_⟩
  by_cases hid:id<h.length
  ·rw [hhlt id hid] at e2
   rw [(old id o' e2).1] at e1
   obtain rfl:=Option.some.inj e1
   obtain ⟨p1,p2,p3,p4,_⟩:=lock1_shape o'
   exact ⟨p1,p2,p3,p4⟩
  ·rw [hhge id (by omega)] at e2
   rw [e1] at e2
   obtain rfl:=Option.some.inj e2
   exact ⟨rfl,rfl,rfl,Iff.rfl⟩
 have hA1:∀ b,Av F (h++h1.drop h.length) β1 b→Av (Av F h β) h1 β1 b:=by
  rintro b (hb | ⟨id,o,bc,e1,e2,e3,e4⟩)
  ·exact .inl (.inl hb)
  ·by_cases hid:id<h.length
   ·rw [hhlt id hid] at e1
    rw [(old id o e1).2] at e2
    exact .inl (.inr ⟨id,o,bc,e1,e2,e3,e4⟩)
   ·rw [hhge id (by omega)] at e1
    exact .inr ⟨id,o,bc,e1,e2,e3,e4⟩
 have newmu:∀ (id:Nat) (o:AObj),h.length≤id→h1[id]?=some o→o.mu≠.l:=fun id o hid ho=>by
  have:o∈h1.drop h.length:=by
   apply List.mem_of_getElem? (i:=id - h.length)
   rw [List.getElem?_drop]
   rw [show h.length+(id - h.length)=id by omega];exact ho
  have:=List.all_eq_true.1 hnl o this
  simpa using this
 refine ⟨fun v p q1=>q1.alike al hA1,⟨by rw [hb1,← al.1],fun b hb=>Nat.lt_of_lt_of_le (H.fin b hb) q3.size,?_,?_,?_⟩,?_,⟨q3.size,fun b hb=>q3.keep b hb (lock_Mb h β b),q3.os,q3.tape,q3.output,q3.drawn⟩⟩
 ·intro id o bc e1 e2 e3
  by_cases hid:id<h.length
  ·rw [hhlt id hid] at e1
   obtain ⟨p1,p2,p3,p4,_⟩:=lock1_shape o
   exact (q2.obj id (lock1 o) bc (old id o e1).1 e2 (fun hh=>e3 (p4.1 hh))).alike al hA1 p2 p3
  ·rw [hhge id (by omega)] at e1
   exact (q2.obj id o bc e1 e2 e3).alike al hA1 rfl rfl
 ·intro id id' o o' bc bc' hne e1 e2 e3 e4 m1 m2
  by_cases hid:id<h.length <;> by_cases hid':id'<h.length
  ·rw [hhlt id hid] at e1;rw [hhlt id' hid'] at e2
   rw [(old id o e1).2] at e3;rw [(old id' o' e2).2] at e4
   exact H.dist id id' o o' bc bc' hne e1 e2 e3 e4 m1 m2
  ·rw [hhlt id hid] at e1;rw [hhge id' (by omega)] at e2
   have nl:=newmu id' o' (by omega) e2
   cases hm:o'.mu with
   | m=>
    have:=q2.dist id' id o' (lock1 o) bc' bc (Ne.symm hne) e2 (old id o e1).1 e4 e3 hm (fun hh=>by rw [(lock1_shape o).2.2.2.1] at hh;rw [m1] at hh;cases hh)
    exact Ne.symm this
   | l=>exact absurd hm nl
   | f=>
    have h1':=q2.out id' o' bc' e2 e4 (.inr hm)
    rw [(old id o e1).2] at e3
    intro heq
    exact h1' (.inr ⟨id,o,bc,e1,e3,m1,heq⟩)
   | x=>exact absurd hm m2
  ·rw [hhge id (by omega)] at e1;rw [hhlt id' hid'] at e2
   exact q2.dist id id' o (lock1 o') bc bc' hne e1 (old id' o' e2).1 e3 e4 m1 (fun hh=>m2 ((lock1_shape o').2.2.2.1.1 hh))
  ·rw [hhge id (by omega)] at e1;rw [hhge id' (by omega)] at e2
   exact q2.dist id id' o o' bc bc' hne e1 e2 e3 e4 m1 m2
 ·intro id o bc e1 e2 e3
  by_cases hid:id<h.length
  ·rw [hhlt id hid] at e1
   rw [(old id o e1).2] at e2
   exact H.out id o bc e1 e2 e3
  ·rw [hhge id (by omega)] at e1
   exact fun hf=>q2.out id o bc e1 e2 e3 (.inl hf)
 ·refine ⟨q3.size,by simp,fun b hb _=>q3.keep b hb (lock_Mb h β b),?_,?_,?_,q3.os,q3.tape,q3.output,q3.drawn⟩
  ·rintro b hb ⟨id,o,bc,e1,e2,e3,e4⟩
   by_cases hid:id<h.length
   ·rw [hhlt id hid] at e1
    rw [(old id o e1).2] at e2
    exact ⟨id,o,bc,e1,e2,e3,e4⟩
   ·rw [hhge id (by omega)] at e1
    exact absurd (q3.shr b hb ⟨id,o,bc,e1,e2,e3,e4⟩) (lock_Mb h β b)
  ·intro id o bc e1 e2 e3
   have hid:=lt_of_some e1
   exact ⟨o,bc,by rw [hhlt id hid];exact e1,by rw [(old id o e1).2];exact e2,e3,⟨Nat.le_refl _,fun h=>h⟩,fun _=>⟨rfl,fun _=>rfl,rfl⟩⟩
  ·intro id o e1 _
   exact ⟨by rw [hhlt id (lt_of_some e1)];exact e1,(old id o e1).2⟩
theorem lockCall_sim {f:FuncId} {g:List PV→AHeap→Option (PV × AHeap)} (S:SimRun P f g) {lv:Nat} {args:List PV} {r:PV} {h':AHeap} (e:lockCall g lv args h=some (r,h')) (H:HRel w F β h) {vs:List Value}
  (ha:L2 (VRel w (Av F h β) β h) vs args):CSim P lv w F β h f vs r h':=by
 unfold lockCall at e
 split at e
 ·rename_i hlv
  refine (S args h r h' e w F β vs H ha).mono ?_
  rintro en w' ⟨v,β1,q0,q1,q2,q3,q4⟩
  exact ⟨v,β1,q0,q1,q2,q3,fun hh=>by omega⟩
 ·split at e
  ·split at e
   ·rename_i r0 h1 he
    split at e
    ·rename_i hnl
     obtain ⟨rfl,rfl⟩:=Prod.mk.inj (Option.some.inj e)
     have hAl:∀ b,Av (Av F h β) (h.map lock1) β b→Av F h β b:=fun b hb=>hb.elim id (fun hm=>absurd hm (lock_Mb h β b))
     refine (S args (h.map lock1) r0 h1 he w (Av F h β) β vs H.lock ⟨ha.1,fun j hj=>(ha.2 j hj).alike (alike_lock h) hAl⟩).mono ?_
     rintro en w' ⟨v,β1,rfl,q1,q2,q3,q4⟩
     obtain ⟨u1,u2,u3,u4⟩:=H.unlock q2 q3 hnl
     exact ⟨v,β1,rfl,u1 v _ q1,u2,u3,fun _=>u4⟩
    ·cases e
   ·cases e
  ·cases e
theorem take_at {α:Type} {l:List α} {n i:Nat} {x:α} (e:(l.take n)[i]?=some x):i<n∧l[i]?=some x:=by
 rw [List.getElem?_take] at e
 split at e
 ·exact ⟨by assumption,e⟩
 ·cases e
theorem VRel.trunc1 {A A':Nat→Prop} (hA:∀ b,A' b→A b) {n:Nat} (hn:n≤h.length) {v:Value} {p:PV} (r:VRel w A β h v p) (hb:below1 n p=true):VRel w A' (β.take n) (h.take n) v p:=by
 cases p with
 | mref id ep off len=>
  have hid:id<n:=by simpa [below1] using hb
  cases r with
  | val hs=>cases hs
  | mref _ _ _ _ _ o bc h0 h1 h2 h3 h4 h5=>
   exact .mref v id ep off len o bc h0 (by rw [List.getElem?_take,if_pos hid];exact h1) (by rw [List.getElem?_take,if_pos hid];exact h2) h3 h4 h5
 | ptr id ep i off=>
  have hid:id<n:=by simpa [below1] using hb
  cases r with
  | val hs=>cases hs
  | ptr _ _ _ _ _ o bc h0 h1 h2 h3 h4 h5=>
   exact .ptr v id ep i off o bc h0 (by rw [List.getElem?_take,if_pos hid];exact h1) (by rw [List.getElem?_take,if_pos hid];exact h2) h3 h4 h5
 | _=>exact .val ((r.toS (by simpa [below1] using hb)).weak hA)
theorem VRel.truncA {A A':Nat→Prop} (hA:∀ b,A' b→A b) {n:Nat} (hn:n≤h.length) {v:Value} {p:PV} (r:VRel w A β h v p) (hb:belowA n p=true):VRel w A' (β.take n) (h.take n) v p:=by
 unfold belowA at hb
 split at hb
 ·obtain ⟨vs,rfl,hl,hh⟩:=r.agg_inv
  exact .agg vs _ hl (fun j hj=>(hh j hj).trunc1 hA hn (all_getD hb hj))
 ·exact r.trunc1 hA hn hb
theorem VRel.truncR {A A':Nat→Prop} (hA:∀ b,A' b→A b) {n:Nat} (hn:n≤h.length) {v:Value} {p:PV} (r:VRel w A β h v p) (hb:belowR n p=true):VRel w A' (β.take n) (h.take n) v p:=by
 unfold belowR at hb
 split at hb
 ·obtain ⟨vs,rfl,hl,hh⟩:=r.tup_inv
  exact .tup vs _ hl (fun j hj=>(hh j hj).truncA hA hn (all_getD hb hj))
 ·exact r.truncA hA hn hb
theorem below_cells {n:Nat} {e q:PV} (hb:belowA n e=true) (hq:q∈Pm.cells e):below1 n q=true:=by
 cases e <;> first
  | (simp only [Pm.cells,List.mem_singleton] at hq;subst hq;exact hb)
  | (simp only [belowA] at hb;exact List.all_eq_true.1 hb q hq)
theorem callOpen_sim {run:Run} {f:FuncId} (S:SimRun P f (run f)) {lv:Nat} {args:List PV} {r:PV} {h':AHeap} (e:callOpen run lv f args h=some (r,h')) (H:HRel w F β h) {vs:List Value}
  (ha:L2 (VRel w (Av F h β) β h) vs args):CSim P lv w F β h f vs r h':=by
 unfold callOpen at e
 split at e
 ·rename_i r0 h1 he
  have C:=lockCall_sim S he H ha
  split at e
  ·rename_i hc
   obtain ⟨rfl,rfl⟩:=Prod.mk.inj (Option.some.inj e)
   simp only [Bool.and_eq_true] at hc
   refine C.mono ?_
   rintro en w' ⟨v,β1,rfl,q1,q2,q3,q4⟩
   have hn:=q3.len
   have hA:∀ b,Av F (h1.take h.length) (β1.take h.length) b→Av F h1 β1 b:=by
    rintro b (hb | ⟨id,o,bc,e1,e2,e3,e4⟩)
    ·exact .inl hb
    ·exact .inr ⟨id,o,bc,(take_at e1).2,(take_at e2).2,e3,e4⟩
   refine ⟨v,β1.take h.length,rfl,q1.truncR hA hn hc.1,⟨by simp [q2.len],q2.fin,?_,?_,?_⟩,?_,q4⟩
   ·intro id o bc e1 e2 e3
    have hmem:o∈h1.take h.length:=List.mem_of_getElem? e1
    have hall:=List.all_eq_true.1 (List.all_eq_true.1 hc.2 o hmem)
    rcases q2.obj id o bc (take_at e1).2 (take_at e2).2 e3 with ⟨T,cs,k1,k2,k3,k4,k5⟩ | ⟨k0,es,clock,k1,k2,k3⟩
    ·refine .inl ⟨T,cs,k1,k2,k3,k4,fun i el hel=>⟨(k5 i el hel).1,fun j p hp=>?_⟩⟩
     obtain ⟨u,m1,m2⟩:=(k5 i el hel).2 j p hp
     exact ⟨u,m1,m2.trunc1 hA hn (below_cells (hall el (List.mem_of_getElem? hel)) (List.mem_of_getElem? hp))⟩
    ·refine .inr ⟨k0,es,clock,k1,k2,fun i el hel=>?_⟩
     obtain ⟨k,v,m,g1,g2,g3,g4⟩:=k3 i el hel
     have hb:=hall el (List.mem_of_getElem? hel)
     subst g1
     exact ⟨k,v,m,rfl,g2,g3.trunc1 hA hn (below_cells hb (by simp [Pm.cells])),g4.trunc1 hA hn (below_cells hb (by simp [Pm.cells]))⟩
   ·intro id id' o o' bc bc' hne e1 e2 e3 e4 m1 m2
    exact q2.dist id id' o o' bc bc' hne (take_at e1).2 (take_at e2).2 (take_at e3).2 (take_at e4).2 m1 m2
   ·intro id o bc e1 e2 e3
    exact q2.out id o bc (take_at e1).2 (take_at e2).2 e3
   ·refine ⟨q3.size,by simp;omega,q3.keep,?_,?_,?_,q3.os,q3.tape,q3.output,q3.drawn⟩
    ·rintro b hb ⟨id,o,bc,e1,e2,e3,e4⟩
     exact q3.shr b hb ⟨id,o,bc,(take_at e1).2,(take_at e2).2,e3,e4⟩
    ·intro id o bc e1 e2 e3
     obtain ⟨o',bc',f1,f2,f3,f4,f5⟩:=q3.refs id o bc e1 e2 e3
     have hid:=lt_of_some e1
     exact ⟨o',bc',by rw [List.getElem?_take,if_pos hid];exact f1,by rw [List.getElem?_take,if_pos hid];exact f2,f3,f4,f5⟩
    ·intro id o e1 e2
     obtain ⟨f1,f2⟩:=q3.lck id o e1 e2
     have hid:=lt_of_some e1
     exact ⟨by rw [List.getElem?_take,if_pos hid];exact f1,by rw [List.getElem?_take,if_pos hid];exact f2⟩
  ·obtain ⟨rfl,rfl⟩:=Prod.mk.inj (Option.some.inj e)
   exact C
 ·cases e
def PrimQ (P:Program) (f:FuncId) (g:List PV→Option PV):Prop:=
 ∀ args r,g args=some r→∀ (w:World) (A:Nat→Prop) (vs:List Value),(∀ b,A b→b<w.heap.size)→L2 (SRel w A) vs args →
  Calls P f vs.toArray w fun e w'=>∃ v,e=.returned v∧SRel w' A v r∧Grew w w'
structure CfgOk (C:Cfg):Prop where
 enters : ∀ f, (∀ h : C.mode f = .no, False) → (∀ g, C.mode f ≠ .ext g) → ∃ fn, C.P.funcs[f]? = some fn ∧ fn.body.isSome = true ∧ (fn.name == "runtime.NumGoroutine") = false
 primQ:∀ f g,C.mode f=.primQ g→PrimQ C.P f g
 primL:∀ f g,C.mode f=.primL g→SimRun C.P f g
 ext:∀ f g,C.mode f=.ext g→∀ args r,g args=some r→∀ (w:World) (A:Nat→Prop) (vs:List Value),L2 (SRel w A) vs args→∃ v,(callFunc f vs.toArray).run C.P w=.ok (.value v) w∧SRel w A v r
theorem callF_sim {C:Cfg} (K:CfgOk C) {run:Run} {f:FuncId} (S:C.mode f=.pure∨C.mode f=.opened→SimRun C.P f (run f)) {lv:Nat} {args:List PV} {r:PV} {h':AHeap} (e:callF C run lv f args h=some (r,h')) (H:HRel w F β h) {vs:List Value}
  (ha:L2 (VRel w (Av F h β) β h) vs args) (hne:∀ g,C.mode f≠.ext g):CSim C.P lv w F β h f vs r h'∧C.mode f≠.no:=by
 unfold callF at e
 split at e
 ·cases e
 ·rename_i hm
  exact ⟨callPure_sim (S (.inl hm)) e H ha,by rw [hm];simp⟩
 ·rename_i hm
  exact ⟨callOpen_sim (S (.inr hm)) e H ha,by rw [hm];simp⟩
 ·rename_i g hm
  refine ⟨?_,by rw [hm];simp⟩
  split at e
  ·rename_i hv
   obtain ⟨e1,rfl⟩:=map_pair e
   rw [isVals_eq] at hv
   refine (K.primQ f g hm (nrms args) r e1 w (Av F h' β) vs (fun b hb=>Av.lt H hb) ⟨by simp [nrms_eq,ha.1],fun j hj=>?_⟩).mono ?_
   ·rw [nrm_getD]
    have hj':j<args.length:=by simpa [nrms_eq] using hj
    exact ((ha.2 j hj').toS (all_getD hv hj')).nrm
   ·rintro en w' ⟨v,rfl,q1,q2⟩
    exact ⟨v,β,rfl,.val q1,H.grew q2,q2.stp h' β,fun _=>q2⟩
  ·cases e
 ·rename_i g hm
  exact ⟨lockCall_sim (K.primL f g hm) e H ha,by rw [hm];simp⟩
 ·rename_i g hm
  exact absurd hm (hne g)
end Go.Pm
end
section
namespace Go.Pm
variable {w:World} {F:Nat→Prop} {β:List (Nat × Nat)} {h:AHeap}
theorem callFunc_run {C:Cfg} (K:CfgOk C) {f:FuncId} (hm:C.mode f≠.no) (hne:∀ g,C.mode f≠.ext g) (args:Array Value) (w:World):(callFunc f args).run C.P w=.ok (.enter f args) w:=by
 obtain ⟨fn,h1,h2,h3⟩:=K.enters f hm hne
 have hb:fn.body.isNone=false:=by cases hh:fn.body <;> simp_all
 simp only [callFunc,Sem.run_bind,run_program,Result.andThen_ok,h1,h3,hb,Bool.false_eq_true,if_false,Sem.run_pure]
def RunsOk (C:Cfg) (run:Run):Prop:=∀ f,(C.mode f=.pure∨C.mode f=.opened)→SimRun C.P f (run f)
theorem L2.append {R:Value→PV→Prop} {vs us:List Value} {cs ds:List PV} (a:L2 R vs cs) (b:L2 R us ds):L2 R (vs++us) (cs++ds):=by
 obtain ⟨a1,a2⟩:=a
 obtain ⟨b1,b2⟩:=b
 refine ⟨by simp [a1,b1],fun j hj=>?_⟩
 by_cases hjc:j<cs.length
 ·have:=a2 j hjc
  simp only [List.getD] at this ⊢
  rwa [List.getElem?_append_left (by omega),List.getElem?_append_left hjc]
 ·have:=b2 (j - cs.length) (by simp at hj;omega)
  simp only [List.getD] at this ⊢
  rwa [List.getElem?_append_right (by omega),List.getElem?_append_right (by omega),a1]
theorem L2.take {R:Value→PV→Prop} {vs:List Value} {cs:List PV} (a:L2 R vs cs) (k:Nat):L2 R (vs.take k) (cs.take k):=by
 refine ⟨by simp [a.1],fun j hj=>?_⟩
 simp only [List.length_take] at hj
 have:=a.2 j (by omega)
 simp only [List.getD] at this ⊢
 rwa [List.getElem?_take,List.getElem?_take,if_pos (by omega),if_pos (by omega)]
theorem L2.drop {R:Value→PV→Prop} {vs:List Value} {cs:List PV} (a:L2 R vs cs) (k:Nat):L2 R (vs.drop k) (cs.drop k):=by
 refine ⟨by simp [a.1],fun j hj=>?_⟩
 simp only [List.length_drop] at hj
 have:=a.2 (k+j) (by omega)
 simp only [List.getD] at this ⊢
 rwa [List.getElem?_drop,List.getElem?_drop]
theorem opVal_wp {C:Cfg} (K:CfgOk C) {run:Run} (S:RunsOk C run) (H:HRel w F β h) {a:Act} {ρ:Nat→PV} (R:ERel w (Av F h β) β h a ρ) {lv:Nat} {o:Oper} {p:PV} {h':AHeap} (e:opVal C run lv o.op ρ h=some (p,h'))
  {next:Act→World→Prop} {Q:Exit→Act→World→Prop} (hK:∀ v w' β',VRel w' (Av F h' β') β' h' v p→HRel w' F β' h'→Stp w h β w' h' β'→(lv≤1→Grew w w')→next (a.put o.dst v) w'):o.wp C.P a w next Q:=by
 have simple:OSim C.P lv w F β h (execOp a.eval o) p h'→o.wp C.P a w next Q:=by
  rintro ⟨v,w',β',h1,h2,h3,h4,h5⟩
  unfold Oper.wp
  rcases h1 with h1 | ⟨h1,rfl⟩
  ·rw [h1];exact hK v w' β' h2 h3 h4 h5
  ·rw [h1];exact hK undef w' β' h2 h3 h4 h5
 unfold opVal at e
 split at e
 ·rename_i c hop
  have hex:execOp a.eval o=(do let d ← resolve a.eval c o.type;invoke d.target d.args):=by
   cases o;simp only at hop;subst hop;rfl
  split at e
  ·rename_i f hcf
   unfold calleeP at e
   split at e
   ·rename_i g caps hf
    have hv:=R.ev f
    rw [hf] at hv
    obtain ⟨cv,c1,c2,c3⟩:=hv.fn_inv
    have hargs:=(R.evs c.args.toList).append (show L2 (VRel w (Av F h β) β h) cv caps from ⟨c2,c3⟩)
    by_cases hx:∃ q,C.mode g=.ext q
    ·obtain ⟨q,hq⟩:=hx
     unfold callF at e
     rw [hq] at e
     simp only at e
     split at e
     ·rename_i hvv
      obtain ⟨e1,rfl⟩:=map_pair e
      rw [isVals_eq] at hvv
      obtain ⟨v,x1,x2⟩:=K.ext g q hq _ p e1 w (Av F h' β) (c.args.toList.map a.eval++cv) ⟨by simp only [nrms_eq,List.length_map];exact hargs.1,fun j hj=>by
       rw [nrm_getD]
       have hj':j<(c.args.toList.map (Pm.ev ρ)++caps).length:=by simpa [nrms_eq] using hj
       exact ((hargs.2 j hj').toS (all_getD hvv hj')).nrm⟩
      refine simple ⟨v,w,β,.inl ?_,.val x2,H,Stp.refl w h' β,fun _=>Grew.refl w⟩
      rw [hex]
      simp only [resolve,hcf,c1,Deferred.ofValue,Sem.run_bind,Sem.run_pure,Result.andThen_ok,invoke]
      rw [← x1]
      congr 2
      apply Array.ext'
      simp
     ·cases e
    have hne:∀ q,C.mode g≠.ext q:=fun q hq=>hx ⟨q,hq⟩
    obtain ⟨cs,hm⟩:=callF_sim K (S g) e H hargs hne
    have hrun:(execOp a.eval o).run C.P w=.ok (.enter g ((c.args.toList.map a.eval)++cv).toArray) w:=by
     rw [hex]
     simp only [resolve,hcf,c1,Deferred.ofValue,Sem.run_bind,Sem.run_pure,Result.andThen_ok,invoke]
     rw [callFunc_run K hm hne]
     congr 2
     apply Array.ext'
     simp
    unfold Oper.wp
    rw [hrun]
    refine cs.mono ?_
    rintro en w' ⟨v,β',rfl,q1,q2,q3,q4⟩
    exact hK v w' β' q1 q2 q3 q4
   ·rename_i g kk caps hf
    have hv:=R.ev f
    rw [hf] at hv
    obtain ⟨cv,c1,c2,c3⟩:=hv.bfn_inv
    have hcc:L2 (VRel w (Av F h β) β h) cv caps:=⟨c2,c3⟩
    have hargs:=((hcc.take kk).append (R.evs c.args.toList)).append (hcc.drop kk)
    by_cases hx:∃ q,C.mode g=.ext q
    ·obtain ⟨q,hq⟩:=hx
     unfold callF at e
     rw [hq] at e
     simp only at e
     split at e
     ·rename_i hvv
      obtain ⟨e1,rfl⟩:=map_pair e
      rw [isVals_eq] at hvv
      obtain ⟨v,x1,x2⟩:=K.ext g q hq _ p e1 w (Av F h' β) (cv.take kk++c.args.toList.map a.eval++cv.drop kk) ⟨by simp only [nrms_eq,List.length_map];exact hargs.1,fun j hj=>by
       rw [nrm_getD]
       have hj':j<(caps.take kk++c.args.toList.map (Pm.ev ρ)++caps.drop kk).length:=by simpa [nrms_eq] using hj
       exact ((hargs.2 j hj').toS (all_getD hvv hj')).nrm⟩
      refine simple ⟨v,w,β,.inl ?_,.val x2,H,Stp.refl w h' β,fun _=>Grew.refl w⟩
      rw [hex]
      simp only [resolve,hcf,c1,Deferred.ofValue,Sem.run_bind,Sem.run_pure,Result.andThen_ok,invoke]
      rw [← x1]
      congr 2
      apply Array.ext'
      simp
     ·cases e
    have hne:∀ q,C.mode g≠.ext q:=fun q hq=>hx ⟨q,hq⟩
    obtain ⟨cs,hm⟩:=callF_sim K (S g) e H hargs hne
    have hrun:(execOp a.eval o).run C.P w=.ok (.enter g (cv.take kk++c.args.toList.map a.eval++cv.drop kk).toArray) w:=by
     rw [hex]
     simp only [resolve,hcf,c1,Deferred.ofValue,Sem.run_bind,Sem.run_pure,Result.andThen_ok,invoke]
     rw [callFunc_run K hm hne]
     congr 2
     apply Array.ext'
     simp
    unfold Oper.wp
    rw [hrun]
    refine cs.mono ?_
    rintro en w' ⟨v,β',rfl,q1,q2,q3,q4⟩
    exact hK v w' β' q1 q2 q3 q4
   ·cases e
  ·rename_i b hcb
   refine simple ?_
   have hb:∀ cb cb',builtin b c.argTypes o.type cb (c.args.map a.eval)=builtin b c.argTypes o.type cb' (c.args.map a.eval):=by
    intro cb cb'
    cases b <;> first | rfl | simp [builtinP] at e
   have hrun:(execOp a.eval o).run C.P w=(builtin b c.argTypes o.type #[] (c.args.map a.eval)).run C.P w:=by
    rw [hex]
    simp only [resolve,hcb,Sem.run_bind,Sem.run_pure,Result.andThen_ok,invoke]
    rw [hb _ #[]]
   obtain ⟨v,w',β',h1,h2⟩:=builtin_sim (ty:=o.type) (cb:=#[]) H R e
   refine ⟨v,w',β',?_,h2⟩
   rw [hrun]
   exact h1
  ·cases e
 ·rename_i hnc
  exact simple (stepOp_sim H R hnc e)
structure SR (N:Nat) (w:World) (F:Nat→Prop) (β:List (Nat × Nat)) (s:St) (a:Act):Prop where
 hr:HRel w F β s.h
 er:ERel w (Av F s.h β) β s.h a s.ρ
 df:a.defers=[]
 sz:N≤a.tmps.size
theorem put_tmps (a:Act) (d:Option Nat) (v:Value) (t:Nat) (N:Nat) (hd:∀ k,d=some k→k<a.tmps.size):(a.put d v).tmps.getD t undef=if d=some t then v else a.tmps.getD t undef:=by
 cases d with
 | none=>simp [Act.put]
 | some k=>
  have:=hd k rfl
  by_cases hk:k=t
  ·subst hk;simp [Act.put,this]
  ·have:¬ (some k=some t):=fun h=>hk (Option.some.inj h)
   simp [Act.put,this,hk]
theorem updO_at (ρ:Nat→PV) (d:Option Nat) (p:PV) (t:Nat):updO ρ d p t=if d=some t then p else ρ t:=by
 cases d with
 | none=>simp [updO]
 | some k=>
  by_cases hk:t=k
  ·subst hk;simp [updO,upd]
  ·have:¬ (some k=some t):=fun h=>hk (Option.some.inj h).symm
   simp [updO,upd,hk,this]
theorem put_size (a:Act) (d:Option Nat) (v:Value):(a.put d v).tmps.size=a.tmps.size:=by cases d <;> simp [Act.put]
theorem put_defers' (a:Act) (d:Option Nat) (v:Value):(a.put d v).defers=a.defers:=by cases d <;> simp [Act.put]
theorem ERel.put {A:Nat→Prop} {a:Act} {ρ:Nat→PV} (r:ERel w A β h a ρ) {d:Option Nat} (hd:∀ k,d=some k→k<a.tmps.size) {v:Value} {p:PV} (hv:VRel w A β h v p):ERel w A β h (a.put d v) (updO ρ d p):=by
 intro t
 rw [put_tmps a d v t 0 hd,updO_at]
 split
 ·exact hv
 ·exact r t
theorem ERel.mono {w':World} {h':AHeap} {β':List (Nat × Nat)} (s:Stp w h β w' h' β') {a:Act} {ρ:Nat→PV} (r:ERel w (Av F h β) β h a ρ):ERel w' (Av F h' β') β' h' a ρ:=fun t=>(r t).mono s
theorem wanted_sim {A:Nat→Prop} {a:Act} {ρ:Nat→PV} (r:ERel w A β h a ρ) {ops:Array Oper} {o:Oper} {b:Bool} (e:wantedA ops o ρ=some b):Region.wanted o (yielded ops a.tmps)=b:=by
 unfold wantedA at e
 unfold Region.wanted
 split at e
 ·rename_i hg
  rw [hg]
  exact Option.some.inj e
 ·rename_i j want hg
  rw [hg]
  simp only
  split at e
  ·rename_i hd
   obtain rfl:=Option.some.inj e
   have:((ops[j]?).bind (·.dst))=none:=by simpa using hd
   simp [yielded,this]
  ·rename_i d hd
   have hd':((ops[j]?).bind (·.dst))=some d:=by simpa using hd
   have hr:=r d
   split at e
   ·rename_i bb hb
    obtain rfl:=Option.some.inj e
    rw [hb] at hr
    have hv:=hr.bool_inv
    have:a.tmps[d]?=some (.bool bb):=by
     rcases Nat.lt_or_ge d a.tmps.size with hlt | hge
     ·simp [hlt] at hv;simp [hlt,hv]
     ·simp [Array.getElem?_eq_none hge,undef] at hv
    simp [yielded,hd',this]
   ·rename_i hb
    obtain rfl:=Option.some.inj e
    rw [hb] at hr
    have hv:=hr.undef_inv
    rcases Nat.lt_or_ge d a.tmps.size with hlt | hge
    ·simp [hlt] at hv;simp [yielded,hd',hlt,hv]
    ·simp [yielded,hd',Array.getElem?_eq_none hge]
   ·cases e
def dstOk (N:Nat) (o:Oper):Bool:=match o.dst with | some d=>decide (d<N) | none=>true
theorem dstOk_lt {N:Nat} {o:Oper} (hd:dstOk N o=true) {a:Act} (hs:N≤a.tmps.size):∀ k,o.dst=some k→k<a.tmps.size:=by
 intro k hk
 have:k<N:=by simpa [dstOk,hk] using hd
 exact Nat.lt_of_lt_of_le this hs
theorem opStep_wp {C:Cfg} (K:CfgOk C) {run:Run} (S:RunsOk C run) {N:Nat} {s s':St} {a:Act} (R:SR N w F β s a) {ops:Array Oper} {o:Oper} (hd:dstOk N o=true) (e:opStep C run ops o s=some s')
  {next:Act→World→Prop} {Q:Exit→Act→World→Prop} (hK:∀ a' w' β',SR N w' F β' s' a'→Stp w s.h β w' s'.h β'→next a' w') :
  if Region.wanted o (yielded ops a.tmps) then o.wp C.P a w next Q else next (a.put o.dst undef) w:=by
 unfold opStep at e
 have hdl:=dstOk_lt hd R.sz
 split at e
 ·rename_i hw
  rw [wanted_sim R.er hw,if_pos rfl]
  split at e
  ·rename_i v h' hv
   obtain rfl:=Option.some.inj e
   refine opVal_wp K S R.hr R.er hv (fun u w' β' q1 q2 q3 _=>hK _ w' β' ⟨q2,(R.er.mono q3).put hdl q1,by rw [put_defers'];exact R.df,by rw [put_size];exact R.sz⟩ q3)
  ·cases e
 ·rename_i hw
  rw [wanted_sim R.er hw,if_neg (by simp)]
  obtain rfl:=Option.some.inj e
  exact hK _ w β ⟨R.hr,R.er.put hdl .undef,by rw [put_defers'];exact R.df,by rw [put_size];exact R.sz⟩ (Stp.refl w s.h β)
 ·cases e
theorem evalOps_wp {C:Cfg} (K:CfgOk C) {run:Run} (S:RunsOk C run) {N:Nat} {ops:Array Oper} {Q:Exit→Act→World→Prop} (hd:ops.toList.all (dstOk N)=true) :
  ∀ (l:List Oper) (k:Nat) {w:World} {β:List (Nat × Nat)} {s s':St} {a:Act},ops.toList.drop k=l→SR N w F β s a→evalOps C run ops l s=some s' →
   (∀ a' w' β',SR N w' F β' s' a'→Stp w s.h β w' s'.h β'→Q .normal a' w')→wpOps C.P ops Q (List.map (· + k) (List.range l.length)) a w:=by
 intro l
 induction l with
 | nil=>
  intro k w β s s' a hl R e hQ
  simp [evalOps] at e
  subst e
  simpa [wpOps] using hQ a w β R (Stp.refl w s.h β)
 | cons o r ih=>
  intro k w β s s' a hl R e hQ
  simp only [evalOps] at e
  have hk:ops[k]?=some o:=by
   rw [← Array.getElem?_toList]
   have:(ops.toList.drop k)[0]?=some o:=by rw [hl];rfl
   rwa [List.getElem?_drop] at this
  have hr:ops.toList.drop (k+1)=r:=by
   have:=congrArg (List.drop 1) hl
   rwa [List.drop_drop] at this
  have hrange:List.map (· + k) (List.range (o::r).length)=k::List.map (· + (k+1)) (List.range r.length):=by
   rw [List.length_cons,List.range_succ_eq_map]
   simp only [List.map_cons,Nat.zero_add,List.map_map]
   congr 1
   apply List.map_congr_left
   intro x _
   simp;omega
  rw [hrange]
  simp only [wpOps,hk]
  split at e
  ·rename_i s1 he
   have hdo:dstOk N o=true:=List.all_eq_true.1 hd o (by
    have:o∈ops.toList.drop k:=by rw [hl];simp
    exact List.mem_of_mem_drop this)
   have:=opStep_wp K S R hdo he (Q:=Q) (next:=wpOps C.P ops Q (List.map (· + (k+1)) (List.range r.length))) (fun a' w' β' R' S'=>ih (k+1) hr R' e (fun a2 w2 β2 R2 S2=>hQ a2 w2 β2 R2 (S'.trans S2)))
   split
   ·rename_i hw;rw [if_pos hw] at this;exact .inl this
   ·rename_i hw;rw [if_neg hw] at this;exact this
  ·cases e
theorem region_wp {C:Cfg} (K:CfgOk C) {run:Run} (S:RunsOk C run) {N:Nat} {ops:Array Oper} {id:Nat} {Q:Exit→Act→World→Prop} (hd:ops.toList.all (dstOk N)=true) {s s':St} {a:Act} (R:SR N w F β s a)
  (e:evalOps C run ops ops.toList s=some s') (hQ:∀ a' w' β',SR N w' F β' s' a'→Stp w s.h β w' s'.h β'→Q .normal a' w'):(Code.region id ops false).wp C.P Q a w:=by
 refine wp_region ?_
 have:=evalOps_wp K S hd ops.toList 0 (by simp) R e hQ
 simpa using this
end Go.Pm
end
section
namespace Go.Pm
variable {w:World} {F:Nat→Prop} {β:List (Nat × Nat)} {h:AHeap}
theorem visible_iff {h:AHeap} {id:Nat}:visible h id=true↔∃ o,h[id]?=some o∧o.mu≠.x:=by
 unfold visible
 cases h[id]? with
 | none=>simp
 | some o=>simp
theorem visRs_eq (f:Nat→Bool) (cs:List PV):visRs f cs=cs.all (visR f):=by
 induction cs with
 | nil=>rfl
 | cons c r ih=>simp [visRs,ih]
theorem VRel.restrict {A A':Nat→Prop} {M:AHeap} {β':List (Nat × Nat)} (hM:∀ (id:Nat) (o:AObj),M[id]?=some o→o.mu≠.x→h[id]?=some o∧β'[id]?=β[id]?) (hA:∀ b,A' b→A b)
  {v:Value} {p:PV} (r:VRel w A β h v p) (hv:visR (visible M) p=true):VRel w A' β' M v p:=by
 induction r with
 | val hs=>exact .val (hs.weak hA)
 | undef=>exact .undef
 | any v=>exact .any v
 | mref v id ep off len o bc h0 h1 h2 h3 h4 h5=>
  obtain ⟨o',e1,e2⟩:=visible_iff.1 (by simpa [visR] using hv)
  obtain ⟨f1,f2⟩:=hM id o' e1 e2
  rw [h1] at f1
  obtain rfl:=Option.some.inj f1
  exact .mref v id ep off len o bc h0 e1 (by rw [f2];exact h2) h3 h4 h5
 | ptr v id ep i off o bc h0 h1 h2 h3 h4 h5=>
  obtain ⟨o',e1,e2⟩:=visible_iff.1 (by simpa [visR] using hv)
  obtain ⟨f1,f2⟩:=hM id o' e1 e2
  rw [h1] at f1
  obtain rfl:=Option.some.inj f1
  exact .ptr v id ep i off o bc h0 e1 (by rw [f2];exact h2) h3 h4 h5
 | mapr v id o bc h0 h1 h2 h3 h5=>
  obtain ⟨o',e1,e2⟩:=visible_iff.1 (by simpa [visR] using hv)
  obtain ⟨f1,f2⟩:=hM id o' e1 e2
  rw [h1] at f1
  obtain rfl:=Option.some.inj f1
  exact .mapr v id o bc h0 e1 (by rw [f2];exact h2) h3 h5
 | agg vs cs hl _ ih=>exact .agg vs cs hl (fun j hj=>ih j hj (by simp only [visR,visRs_eq] at hv;exact all_getD hv hj))
 | tup vs cs hl _ ih=>exact .tup vs cs hl (fun j hj=>ih j hj (by simp only [visR,visRs_eq] at hv;exact all_getD hv hj))
 | fn f vs cs hl _ ih=>exact .fn f vs cs hl (fun j hj=>ih j hj (by simp only [visR,visRs_eq] at hv;exact all_getD hv hj))
 | bfn f k vs cs hl _ ih=>exact .bfn f k vs cs hl (fun j hj=>ih j hj (by simp only [visR,visRs_eq] at hv;exact all_getD hv hj))
theorem visR_cells {f:Nat→Bool} {e q:PV} (hv:visR f e=true) (hq:q∈Pm.cells e):visR f q=true:=by
 cases e <;> first
  | (simp only [Pm.cells,List.mem_singleton] at hq;subst hq;exact hv)
  | (simp only [visR,visRs_eq] at hv;exact List.all_eq_true.1 hv q hq)
theorem ORel.to {w':World} {h':AHeap} {β':List (Nat × Nat)} {A A':Nat→Prop} {o:AObj} {bc:Nat × Nat} (hb:w'.heap[bc.1]?=w.heap[bc.1]?)
  (r:ORel w A β h o bc) (hv:∀ (v:Value) (e p:PV),e∈o.es→p∈Pm.cells e→VRel w A β h v p→VRel w' A' β' h' v p):ORel w' A' β' h' o bc:=by
 rcases r with ⟨T,cs,h1,h2,h3,h4,h5⟩ | ⟨h0,es,clock,h1,h2,h3⟩
 ·refine .inl ⟨T,cs,hb.trans h1,h2,h3,h4,fun i e he=>⟨(h5 i e he).1,fun j p hp=>?_⟩⟩
  obtain ⟨v,k1,k2⟩:=(h5 i e he).2 j p hp
  exact ⟨v,k1,hv v e p (List.mem_of_getElem? he) (List.mem_of_getElem? hp) k2⟩
 ·refine .inr ⟨h0,es,clock,hb.trans h1,h2,fun i e he=>?_⟩
  obtain ⟨k,v,m,q1,q2,q3,q4⟩:=h3 i e he
  subst q1
  exact ⟨k,v,m,rfl,q2,hv _ _ _ (List.mem_of_getElem? he) (by simp [Pm.cells]) q3,hv _ _ _ (List.mem_of_getElem? he) (by simp [Pm.cells]) q4⟩
theorem HRel.pad (H:HRel w F β h) (ext:AHeap) (γ:List (Nat × Nat)) (hl:γ.length=ext.length) (hx:∀ o∈ext,o.mu=.x) :
  HRel w F (β++γ) (h++ext)∧Stp w h β w (h++ext) (β++γ):=by
 have hlen:=H.len
 have back:∀ (id:Nat) (o:AObj) (bc:Nat × Nat),(h++ext)[id]?=some o→(β++γ)[id]?=some bc→o.mu≠.x→h[id]?=some o∧β[id]?=some bc:=by
  intro id o bc e1 e2 e3
  by_cases hid:id<h.length
  ·rw [List.getElem?_append_left hid] at e1
   rw [List.getElem?_append_left (by omega)] at e2
   exact ⟨e1,e2⟩
  ·rw [List.getElem?_append_right (by omega)] at e1
   exact absurd (hx o (List.mem_of_getElem? e1)) e3
 have forth:∀ (id:Nat),id<h.length→(h++ext)[id]?=h[id]?∧(β++γ)[id]?=β[id]?:=fun id hid=>
  ⟨List.getElem?_append_left hid,List.getElem?_append_left (by omega)⟩
 have hm:∀ b,Mb (h++ext) (β++γ) b→Mb h β b:=by
  rintro b ⟨id,o,bc,e1,e2,e3,e4⟩
  obtain ⟨f1,f2⟩:=back id o bc e1 e2 (by rw [e3];simp)
  exact ⟨id,o,bc,f1,f2,e3,e4⟩
 have hs:Stp w h β w (h++ext) (β++γ):=by
  refine ⟨Nat.le_refl _,by simp,fun _ _ _=>rfl,fun b _ m=>hm b m,?_,?_,rfl,rfl,rfl,Nat.le_refl _⟩
  ·intro id o bc e1 e2 e3
   obtain ⟨f1,f2⟩:=forth id (lt_of_some e1)
   exact ⟨o,bc,by rw [f1];exact e1,by rw [f2];exact e2,e3,⟨Nat.le_refl _,fun h=>h⟩,fun _=>⟨rfl,fun _=>rfl,rfl⟩⟩
  ·intro id o e1 _
   obtain ⟨f1,f2⟩:=forth id (lt_of_some e1)
   exact ⟨by rw [f1];exact e1,f2⟩
 refine ⟨⟨by simp [hlen,hl],H.fin,?_,?_,?_⟩,hs⟩
 ·intro id o bc e1 e2 e3
  obtain ⟨f1,f2⟩:=back id o bc e1 e2 e3
  exact ORel.mono hs rfl (H.obj id o bc f1 f2 e3)
 ·intro id id' o o' bc bc' hne e1 e2 e3 e4 m1 m2
  obtain ⟨f1,f2⟩:=back id o bc e1 e3 (by rw [m1];simp)
  obtain ⟨g1,g2⟩:=back id' o' bc' e2 e4 m2
  exact H.dist id id' o o' bc bc' hne f1 g1 f2 g2 m1 m2
 ·intro id o bc e1 e2 e3
  obtain ⟨f1,f2⟩:=back id o bc e1 e2 (by rcases e3 with e3 | e3 <;> rw [e3] <;> simp)
  exact H.out id o bc f1 f2 e3
def Fp (F:Nat→Prop) (β:List (Nat × Nat)) (h M:AHeap) (b:Nat):Prop:=F b∨∃ (id:Nat) (o:AObj) (bc:Nat × Nat),h[id]?=some o∧β[id]?=some bc∧o.mu=.m∧bc.1=b∧M[id]?≠some o
theorem Fp.av {M:AHeap} {b:Nat} (hf:Fp F β h M b):Av F h β b:=by
 rcases hf with hf | ⟨id,o,bc,e1,e2,e3,e4,_⟩
 ·exact .inl hf
 ·exact .inr ⟨id,o,bc,e1,e2,e3,e4⟩
theorem HRel.part (H:HRel w F β h) {M:AHeap} (hl:M.length≤h.length) (hM:∀ (id:Nat) (o:AObj),M[id]?=some o→o.mu≠.x→h[id]?=some o) (hc:closedH M=true) :
  HRel w (Fp F β h M) (β.take M.length) M∧(∀ (v:Value) (p:PV),VRel w (Av F h β) β h v p→visR (visible M) p=true→VRel w (Av (Fp F β h M) M (β.take M.length)) (β.take M.length) M v p):=by
 have hlen:=H.len
 have hb:∀ id,id<M.length→(β.take M.length)[id]?=β[id]?:=fun id hid=>by rw [List.getElem?_take,if_pos hid]
 have hM':∀ (id:Nat) (o:AObj),M[id]?=some o→o.mu≠.x→h[id]?=some o∧(β.take M.length)[id]?=β[id]?:=fun id o e1 e2=>⟨hM id o e1 e2,hb id (lt_of_some e1)⟩
 have hA:∀ b,Av (Fp F β h M) M (β.take M.length) b→Av F h β b:=by
  rintro b (hf | ⟨id,o,bc,e1,e2,e3,e4⟩)
  ·exact hf.av
  ·obtain ⟨f1,f2⟩:=hM' id o e1 (by rw [e3];simp)
   exact .inr ⟨id,o,bc,f1,by rw [← f2];exact e2,e3,e4⟩
 have hv:∀ (v:Value) (p:PV),VRel w (Av F h β) β h v p→visR (visible M) p=true→VRel w (Av (Fp F β h M) M (β.take M.length)) (β.take M.length) M v p:=fun v p r hv=>r.restrict hM' hA hv
 refine ⟨⟨by simp;omega,fun b hb=>Av.lt H (Fp.av hb),?_,?_,?_⟩,hv⟩
 ·intro id o bc e1 e2 e3
  obtain ⟨f1,f2⟩:=hM' id o e1 e3
  rw [f2] at e2
  refine (H.obj id o bc f1 e2 e3).to rfl (fun v e p he hp r=>hv v p r ?_)
  have:=List.all_eq_true.1 hc o (List.mem_of_getElem? e1)
  simp only [Bool.or_eq_true,decide_eq_true_eq,visRs_eq] at this
  exact visR_cells (List.all_eq_true.1 (this.resolve_left e3) e he) hp
 ·intro id id' o o' bc bc' hne e1 e2 e3 e4 m1 m2
  obtain ⟨f1,f2⟩:=hM' id o e1 (by rw [m1];simp)
  obtain ⟨g1,g2⟩:=hM' id' o' e2 m2
  exact H.dist id id' o o' bc bc' hne f1 g1 (by rw [← f2];exact e3) (by rw [← g2];exact e4) m1 m2
 ·intro id o bc e1 e2 e3
  have e3':o.mu≠.x:=by rcases e3 with e3 | e3 <;> rw [e3] <;> simp
  obtain ⟨f1,f2⟩:=hM' id o e1 e3'
  rw [f2] at e2
  rintro (hf | ⟨id2,o2,bc2,g1,g2,g3,g4,g5⟩)
  ·exact H.out id o bc f1 e2 e3 hf
  ·have hne:id2≠id:=by
    rintro rfl
    rw [f1] at g1
    obtain rfl:=Option.some.inj g1
    exact g5 e1
   exact H.dist id2 id o2 o bc2 bc hne g1 f1 g2 e2 g3 e3' g4
theorem HRel.merge (H:HRel w F β h) {M ext h':AHeap} {β1:List (Nat × Nat)} {w':World} (hl:M.length+ext.length≤h.length) (hM:∀ (id:Nat) (o:AObj),M[id]?=some o→o.mu≠.x→h[id]?=some o)
  (H1:HRel w' (Fp F β h M) β1 (M++ext)) (S1:Stp w M (β.take M.length) w' (M++ext) β1) (G:Grew w w') (hnl:∀ o∈ext,o.mu≠.l)
  (hlen':h'.length=h.length) (hin:∀ id:Nat,M.length≤id→id<M.length+ext.length→h'[id]?=ext[id - M.length]?) (hout:∀ id:Nat,(id<M.length∨M.length+ext.length≤id)→h'[id]?=h[id]?)
  (hhid:∀ (id:Nat) (o:AObj),M.length≤id→id<M.length+ext.length→h[id]?=some o→o.mu=.x) :
  ∃ β',HRel w' F β' h'∧Fwd h β h' β'∧(∀ b,b<w.heap.size→¬ Av F h β b→¬ Av F h' β' b)∧(∀ b,b<w.heap.size→Mb h' β' b→Mb h β b)∧(∀ id:Nat,id<M.length→β'[id]?=β[id]?) ∧
   (∀ (v:Value) (p:PV),VRel w' (Av (Fp F β h M) (M++ext) β1) β1 (M++ext) v p→VRel w' (Av F h' β') β' h' v p):=by
 have hlen:=H.len
 have hl1:=H1.len
 simp only [List.length_append] at hl1
 have hml:(β1.drop M.length).length=ext.length:=by simp;omega
 have hβ:∀ k,(β.take M.length++β1.drop M.length++β.drop (M.length+(β1.drop M.length).length))[k]?=if k<M.length then β[k]? else if k<M.length+ext.length then β1[k]? else β[k]?:=by
  intro k
  rw [splice_get _ _ _ _ (by omega),hml]
  split
  ·rfl
  ·split
   ·rw [List.getElem?_drop];congr 1;omega
   ·rfl
 refine ⟨β.take M.length++β1.drop M.length++β.drop (M.length+(β1.drop M.length).length),?_⟩
 generalize hβ':β.take M.length++β1.drop M.length++β.drop (M.length+(β1.drop M.length).length)=β' at hβ ⊢
 have hlb:β'.length=h'.length:=by
  rw [← hβ',hlen']
  simp;omega
 have bin:∀ id,M.length≤id→id<M.length+ext.length→β'[id]?=β1[id]?:=fun id h1 h2=>by rw [hβ,if_neg (by omega),if_pos h2]
 have bout:∀ id,(id<M.length∨M.length+ext.length≤id)→β'[id]?=β[id]?:=fun id h1=>by
  rw [hβ]
  by_cases h2:id<M.length
  ·rw [if_pos h2]
  ·rw [if_neg h2,if_neg (by omega)]
 have pin:∀ id,M.length≤id→id<M.length+ext.length→(M++ext)[id]?=ext[id - M.length]?:=fun id h1 _=>List.getElem?_append_right h1
 have pold:∀ id,id<M.length→(M++ext)[id]?=M[id]?:=fun id h1=>List.getElem?_append_left h1
 have both:∀ (id:Nat) (o:AObj) (bc:Nat × Nat),M[id]?=some o→o.mu≠.x→β[id]?=some bc→β1[id]?=some bc:=by
  intro id o bc e1 e2 e3
  have hid:=lt_of_some e1
  obtain ⟨o',bc',f1,f2,f3,f4,f5⟩:=S1.refs id o bc e1 (by rw [List.getElem?_take,if_pos hid];exact e3) e2
  rw [pold id hid,e1] at f1
  obtain rfl:=Option.some.inj f1
  rw [(f5 rfl).2.2] at f2
  exact f2
 have cases':∀ id:Nat,(M.length≤id∧id<M.length+ext.length)∨(id<M.length∨M.length+ext.length≤id):=fun id=>by omega
 have newb:∀ (id:Nat) (o:AObj) (bc:Nat × Nat),M.length≤id→id<M.length+ext.length→h'[id]?=some o→β'[id]?=some bc→o.mu=.m→w.heap.size≤bc.1:=by
  intro id o bc a1 a2 e1 e2 e3
  rw [hin id a1 a2,← pin id a1 a2] at e1
  rw [bin id a1 a2] at e2
  rcases Nat.lt_or_ge bc.1 w.heap.size with hlt | hge
  ·obtain ⟨id2,o2,bc2,f1,f2,f3,f4⟩:=S1.shr bc.1 hlt ⟨id,o,bc,e1,e2,e3,rfl⟩
   have hid2:=lt_of_some f1
   rw [List.getElem?_take,if_pos hid2] at f2
   exact absurd f4.symm (H1.dist id id2 o o2 bc bc2 (by omega) e1 (by rw [pold id2 hid2];exact f1) e2 (both id2 o2 bc2 f1 (by rw [f3];simp) f2) e3 (by rw [f3];simp))
  ·exact hge
 have fwd0:Fwd h β h' β':=by
  intro id o bc e1 e2 e3
  rcases cases' id with ⟨a1,a2⟩ | a
  ·exact absurd (hhid id o a1 a2 e1) e3
  ·exact ⟨o,bc,by rw [hout id a];exact e1,by rw [bout id a];exact e2,e3,⟨Nat.le_refl _,fun h=>h⟩,fun _=>⟨rfl,fun _=>rfl,rfl⟩⟩
 have shr:∀ b,b<w.heap.size→Mb h' β' b→Mb h β b:=by
  rintro b hb ⟨id,o,bc,e1,e2,e3,rfl⟩
  rcases cases' id with ⟨a1,a2⟩ | a
  ·have:=newb id o bc a1 a2 e1 e2 e3;omega
  ·exact ⟨id,o,bc,by rw [← hout id a];exact e1,by rw [← bout id a];exact e2,e3,rfl⟩
 have hA0:∀ b,b<w.heap.size→¬ Av F h β b→¬ Av F h' β' b:=by
  rintro b hb hn (hf | hm)
  ·exact hn (.inl hf)
  ·exact hn (.inr (shr b hb hm))
 have fwd1:Fwd (M++ext) β1 h' β':=by
  intro id o bc e1 e2 e3
  have hid:=lt_of_some e1
  simp at hid
  by_cases hid2:id<M.length
  ·rw [pold id hid2] at e1
   have e4:=hM id o e1 e3
   obtain ⟨bc0,e5⟩:=beta_at H.len e4
   have:=both id o bc0 e1 e3 e5
   rw [this] at e2
   obtain rfl:=Option.some.inj e2
   exact ⟨o,bc0,by rw [hout id (.inl hid2)];exact e4,by rw [bout id (.inl hid2)];exact e5,e3,⟨Nat.le_refl _,fun h=>h⟩,fun _=>⟨rfl,fun _=>rfl,rfl⟩⟩
  ·exact ⟨o,bc,by rw [hin id (by omega) hid,← pin id (by omega) hid];exact e1,by rw [bin id (by omega) hid];exact e2,e3,⟨Nat.le_refl _,fun h=>h⟩,fun _=>⟨rfl,fun _=>rfl,rfl⟩⟩
 have hA1:∀ b,Av F h' β' b→Av (Fp F β h M) (M++ext) β1 b:=by
  rintro b (hf | ⟨id,o,bc,e1,e2,e3,e4⟩)
  ·exact .inl (.inl hf)
  ·rcases cases' id with ⟨a1,a2⟩ | a
   ·rw [hin id a1 a2,← pin id a1 a2] at e1
    rw [bin id a1 a2] at e2
    exact .inr ⟨id,o,bc,e1,e2,e3,e4⟩
   ·rw [hout id a] at e1
    rw [bout id a] at e2
    by_cases hm:M[id]?=some o
    ·have hid:=lt_of_some hm
     exact .inr ⟨id,o,bc,by rw [pold id hid];exact hm,both id o bc hm (by rw [e3];simp) e2,e3,e4⟩
    ·exact .inl (.inr ⟨id,o,bc,e1,e2,e3,e4,hm⟩)
 have v0:∀ (v:Value) (p:PV),VRel w (Av F h β) β h v p→VRel w' (Av F h' β') β' h' v p:=fun v p r=>r.fwd fwd0 (fun b hb _=>G.keep b hb) hA0
 have v1:∀ (v:Value) (p:PV),VRel w' (Av (Fp F β h M) (M++ext) β1) β1 (M++ext) v p→VRel w' (Av F h' β') β' h' v p:=fun v p r=>r.fwd fwd1 (fun _ _ _=>rfl) (fun b _ hn ha=>hn (hA1 b ha))
 refine ⟨⟨hlb,fun b hb=>Nat.lt_of_lt_of_le (H.fin b hb) G.size,?_,?_,?_⟩,fwd0,hA0,shr,fun id hid=>bout id (.inl hid),v1⟩
 ·intro id o bc e1 e2 e3
  rcases cases' id with ⟨a1,a2⟩ | a
  ·rw [hin id a1 a2,← pin id a1 a2] at e1
   rw [bin id a1 a2] at e2
   exact (H1.obj id o bc e1 e2 e3).to rfl (fun v e p _ _ r=>v1 v p r)
  ·rw [hout id a] at e1
   rw [bout id a] at e2
   have r:=H.obj id o bc e1 e2 e3
   exact r.to (G.keep _ r.lt) (fun v e p _ _ r=>v0 v p r)
 ·intro id id' o o' bc bc' hne e1 e2 e3 e4 m1 m2
  rcases cases' id with ⟨a1,a2⟩ | a <;> rcases cases' id' with ⟨b1,b2⟩ | b
  ·rw [hin id a1 a2,← pin id a1 a2] at e1;rw [bin id a1 a2] at e3
   rw [hin id' b1 b2,← pin id' b1 b2] at e2;rw [bin id' b1 b2] at e4
   exact H1.dist id id' o o' bc bc' hne e1 e2 e3 e4 m1 m2
  ·have h1:=newb id o bc a1 a2 e1 e3 m1
   rw [hout id' b] at e2;rw [bout id' b] at e4
   have:=(H.obj id' o' bc' e2 e4 m2).lt
   omega
  ·rw [hout id a] at e1;rw [bout id a] at e3
   rw [hin id' b1 b2,← pin id' b1 b2] at e2;rw [bin id' b1 b2] at e4
   by_cases hm:M[id]?=some o
   ·have hid:=lt_of_some hm
    exact H1.dist id id' o o' bc bc' hne (by rw [pold id hid];exact hm) e2 (both id o bc hm (by rw [m1];simp) e3) e4 m1 m2
   ·have nl:o'.mu≠.l:=by
     rw [pin id' b1 b2] at e2
     exact hnl o' (List.mem_of_getElem? e2)
    have hmf:o'.mu=.m∨o'.mu=.f:=by
     cases hh:o'.mu with
     | m=>exact .inl rfl
     | l=>exact absurd hh nl
     | f=>exact .inr rfl
     | x=>exact absurd hh m2
    intro heq
    exact H1.out id' o' bc' e2 e4 hmf (.inr ⟨id,o,bc,e1,e3,m1,heq,hm⟩)
  ·rw [hout id a] at e1;rw [bout id a] at e3
   rw [hout id' b] at e2;rw [bout id' b] at e4
   exact H.dist id id' o o' bc bc' hne e1 e2 e3 e4 m1 m2
 ·intro id o bc e1 e2 e3
  rcases cases' id with ⟨a1,a2⟩ | a
  ·rw [hin id a1 a2,← pin id a1 a2] at e1
   rw [bin id a1 a2] at e2
   exact fun hf=>H1.out id o bc e1 e2 e3 (.inl hf)
  ·rw [hout id a] at e1;rw [bout id a] at e2
   exact H.out id o bc e1 e2 e3
end Go.Pm
end
section
namespace Go.Pm
theorem map_ev_congr {ρ ρ':Nat→PV} {xs:List Operand} (h:∀ x∈xs,ev ρ x=ev ρ' x):xs.map (ev ρ)=xs.map (ev ρ'):=List.map_congr_left h
theorem pairs_ev_congr {ρ ρ':Nat→PV} {xs:List (Nat × Operand)} (h:∀ x∈xs.map (·.2),ev ρ x=ev ρ' x):(xs.map fun (i,x)=>(i,ev ρ x))=xs.map fun (i,x)=>(i,ev ρ' x):=
  List.map_congr_left fun p hp=>by
    obtain ⟨i,x⟩:=p
    simp only [h x (List.mem_map.2 ⟨(i,x),hp,rfl⟩)]
theorem opVal_congr {C:Cfg} {run:Run} {lv:Nat} {op:Op} {ρ ρ':Nat→PV} {hp:AHeap} (h:∀ x∈op.operands.toList,ev ρ x=ev ρ' x):opVal C run lv op ρ hp=opVal C run lv op ρ' hp:=by
  cases op
  case call c=>
    have ha:c.args.toList.map (ev ρ)=c.args.toList.map (ev ρ'):=map_ev_congr fun x hx=>h x (by simp [Op.operands,Call.operands];exact .inr (by simpa using hx))
    simp only [opVal,ha]
    cases hc:c.callee with
    | value f=>simp only [h f (by simp [Op.operands,Call.operands,hc])]
    | invoke r m=>rfl
    | builtin b=>rfl
  case build t ps=>simp only [opVal,stepOp,pairs_ev_congr (ρ:=ρ) (ρ':=ρ') (xs:=ps.toList) fun x hx=>h x (by simpa [Op.operands] using hx)]
  case buildSlice t n ps=>simp only [opVal,stepOp,pairs_ev_congr (ρ:=ρ) (ρ':=ρ') (xs:=ps.toList) fun x hx=>h x (by simpa [Op.operands] using hx)]
  case makeFunc fn first caps=>
    have ha:caps.toList.map (ev ρ)=caps.toList.map (ev ρ'):=map_ev_congr fun x hx=>h x (by simp [Op.operands];exact .inr (by simpa using hx))
    have hb:(first.toList++caps.toList).map (ev ρ)=(first.toList++caps.toList).map (ev ρ'):=map_ev_congr fun x hx=>h x (by simp only [Op.operands,Array.toList_append];exact hx)
    simp only [opVal,stepOp]
    cases fn <;> simp only [ha,hb]
  case makeMap t r=>
    simp only [Op.operands] at h
    have h2:r.map (ev ρ)=r.map (ev ρ'):=by cases r with | none=>rfl | some y=>simp [h y (by simp)]
    simp only [opVal,stepOp,h2]
  case slice t x lo hi mx=>
    simp only [Op.operands] at h
    have h1:=h x (by simp)
    have h2:lo.map (ev ρ)=lo.map (ev ρ'):=by cases lo with | none=>rfl | some y=>simp [h y (by simp)]
    have h3:hi.map (ev ρ)=hi.map (ev ρ'):=by cases hi with | none=>rfl | some y=>simp [h y (by simp)]
    have h4:mx.map (ev ρ)=mx.map (ev ρ'):=by cases mx with | none=>rfl | some y=>simp [h y (by simp)]
    simp only [opVal,stepOp,h1,h2,h3,h4]
  all_goals (simp only [Op.operands] at h;simp only [opVal,stepOp];try simp_all)
theorem map_pair' {α:Type} {x:Option α} {h:AHeap} {p:α} {h':AHeap} (e:x.map (·,h)=some (p,h')):x=some p∧h'=h:=by
  cases x with
  | none=>cases e
  | some y=>simp at e;exact ⟨by rw [e.1],e.2.symm⟩
theorem opVal_plain {C:Cfg} {run:Run} {lv lv2:Nat} {op:Op} {ρ:Nat→PV} {h1 h1' h2:AHeap} {r:PV} (hn:heapy op=false) (e:opVal C run lv op ρ h1=some (r,h1')):opVal C run lv2 op ρ h2=some (r,h2):=by
  cases op <;> simp [heapy] at hn <;> simp only [opVal,stepOp] at e ⊢
  case move x=>simp at e;simp [e.1]
  case assign x=>simp at e;simp [e.1]
  case pick c x y=>split at e <;> simp_all
  case build t ps=>obtain ⟨e1,_⟩:=map_pair' e;rw [e1];rfl
  case nilCheck x=>split at e <;> simp_all
  case binOp=>obtain ⟨e1,_⟩:=map_pair' e;rw [e1];rfl
  case unOp=>obtain ⟨e1,_⟩:=map_pair' e;rw [e1];rfl
  case convert=>obtain ⟨e1,_⟩:=map_pair' e;rw [e1];rfl
  case makeFunc fn first caps=>
    cases fn <;> simp only at e ⊢ <;> try (cases e;done)
    split at e
    · rename_i hf;simp at e;simp [hf,e.1]
    · rename_i hf;obtain ⟨rfl,rfl⟩:=Prod.mk.inj (Option.some.inj e);rw [if_neg hf]
  case fieldAddr=>obtain ⟨e1,_⟩:=map_pair' e;rw [e1];rfl
  case field=>obtain ⟨e1,_⟩:=map_pair' e;rw [e1];rfl
  case index=>obtain ⟨e1,_⟩:=map_pair' e;rw [e1];rfl
  case extract x i=>
    split at e
    · split at e <;> simp_all
    · cases e
def Ext (h h':AHeap):Prop:=∃ ext,h'=h++ext
theorem Ext.refl (h:AHeap):Ext h h:=⟨[],by simp⟩
theorem lockCall_ext {g:List PV→AHeap→Option (PV × AHeap)} {lv:Nat} (hl:lv≤1) {args:List PV} {h h':AHeap} {r:PV} (e:lockCall g lv args h=some (r,h')):Ext h h':=by
  unfold lockCall at e
  rw [if_neg (by omega)] at e
  split at e
  · split at e
    · split at e
      · obtain ⟨rfl,rfl⟩:=Prod.mk.inj (Option.some.inj e);exact ⟨_,rfl⟩
      · cases e
    · cases e
  · cases e
theorem callF_ext {C:Cfg} {run:Run} {lv:Nat} (hl:lv≤1) {f:FuncId} {args:List PV} {h h':AHeap} {r:PV} (e:callF C run lv f args h=some (r,h')):Ext h h':=by
  unfold callF at e
  split at e
  · cases e
  · unfold callPure at e
    split at e
    · split at e
      · split at e
        · obtain ⟨rfl,rfl⟩:=Prod.mk.inj (Option.some.inj e);exact Ext.refl _
        · cases e
      · cases e
    · split at e
      · split at e
        · split at e
          · split at e
            · obtain ⟨rfl,rfl⟩:=Prod.mk.inj (Option.some.inj e);exact Ext.refl _
            · rw [if_neg (by omega)] at e;cases e
          · cases e
        · cases e
      · split at e
        · split at e
          · split at e
            · split at e
              · obtain ⟨rfl,rfl⟩:=Prod.mk.inj (Option.some.inj e);exact Ext.refl _
              · cases e
            · cases e
          · cases e
        · cases e
  · unfold callOpen at e
    split at e
    · rename_i r0 h1 he
      obtain ⟨ext,rfl⟩:=lockCall_ext hl he
      split at e
      · obtain ⟨rfl,rfl⟩:=Prod.mk.inj (Option.some.inj e);simp;exact Ext.refl _
      · obtain ⟨rfl,rfl⟩:=Prod.mk.inj (Option.some.inj e);exact ⟨_,rfl⟩
    · cases e
  · split at e
    · obtain ⟨_,rfl⟩:=map_pair' e;exact Ext.refl _
    · cases e
  · exact lockCall_ext hl e
  · split at e
    · obtain ⟨_,rfl⟩:=map_pair' e;exact Ext.refl _
    · cases e
theorem builtin_ext {P:Program} {lv:Nat} (hl:lv≤1) {b:Builtin} {ts:List TypeId} {args:List PV} {h h':AHeap} {r:PV} (e:builtinP P lv h b ts args=some (r,h')):Ext h h':=by
  unfold builtinP at e
  split at e
  · obtain ⟨_,rfl⟩:=map_pair' e;exact Ext.refl _
  · unfold appendP at e
    repeat' split at e
    all_goals first
      | (cases e;done)
      | (obtain ⟨rfl,rfl⟩:=Prod.mk.inj (Option.some.inj e);first | exact Ext.refl _ | exact ⟨_,rfl⟩)
      | (exfalso;omega)
      | (rename_i hh;exfalso;obtain ⟨a1,a2,a3⟩:=hh;omega)
  · unfold copyP at e
    repeat' split at e
    all_goals first
      | (cases e;done)
      | (rename_i hh;exfalso;omega)
  · unfold clearP at e
    repeat' split at e
    all_goals first
      | (cases e;done)
      | (obtain ⟨rfl,rfl⟩:=Prod.mk.inj (Option.some.inj e);exact Ext.refl _)
      | (rename_i hh;exfalso;omega)
  · obtain ⟨_,rfl⟩:=map_pair' e;exact Ext.refl _
  · obtain ⟨_,rfl⟩:=map_pair' e;exact Ext.refl _
  · obtain ⟨_,rfl⟩:=map_pair' e;exact Ext.refl _
  · cases e
theorem stepOp_ext {P:Program} {lv:Nat} (hl:lv≤1) {op:Op} {ρ:Nat→PV} {h h':AHeap} {r:PV} (e:stepOp P lv op ρ h=some (r,h')):Ext h h':=by
  cases op <;> simp only [stepOp] at e
  case alloc t=>
    split at e
    · split at e
      · obtain ⟨rfl,rfl⟩:=Prod.mk.inj (Option.some.inj e);exact ⟨_,rfl⟩
      · cases e
    · cases e
  case box t x=>
    split at e
    · obtain ⟨rfl,rfl⟩:=Prod.mk.inj (Option.some.inj e);exact ⟨_,rfl⟩
    · cases e
  case buildSlice t n ps=>
    unfold buildSliceP at e
    repeat' split at e
    all_goals first
      | (cases e;done)
      | (obtain ⟨rfl,rfl⟩:=Prod.mk.inj (Option.some.inj e);first | exact Ext.refl _ | exact ⟨_,rfl⟩)
  case store t x y=>rw [if_neg (by omega)] at e;cases e
  case mapUpdate t m k x=>rw [if_neg (by omega)] at e;cases e
  case insert t m k x=>rw [if_neg (by omega)] at e;cases e
  case makeMap t r=>
    unfold makeMapP at e
    repeat' split at e
    all_goals first
      | (cases e;done)
      | (obtain ⟨rfl,rfl⟩:=Prod.mk.inj (Option.some.inj e);exact ⟨_,rfl⟩)
  case makeSlice t l c=>
    unfold makeSliceP at e
    repeat' split at e
    all_goals first
      | (cases e;done)
      | (obtain ⟨rfl,rfl⟩:=Prod.mk.inj (Option.some.inj e);exact ⟨_,rfl⟩)
  case makeFunc fn first caps=>
    cases fn <;> simp only at e <;> try (cases e;done)
    split at e
    · obtain ⟨rfl,rfl⟩:=Prod.mk.inj (Option.some.inj e);exact Ext.refl _
    · obtain ⟨rfl,rfl⟩:=Prod.mk.inj (Option.some.inj e);exact Ext.refl _
  all_goals first
    | (cases e;done)
    | (obtain ⟨rfl,rfl⟩:=Prod.mk.inj (Option.some.inj e);exact Ext.refl _)
    | (obtain ⟨_,rfl⟩:=map_pair' e;exact Ext.refl _)
    | (repeat' split at e
       all_goals first
         | (cases e;done)
         | (obtain ⟨rfl,rfl⟩:=Prod.mk.inj (Option.some.inj e);exact Ext.refl _))
theorem opVal_ext {C:Cfg} {run:Run} {lv:Nat} (hl:lv≤1) {op:Op} {ρ:Nat→PV} {h h':AHeap} {r:PV} (e:opVal C run lv op ρ h=some (r,h')):Ext h h':=by
  unfold opVal at e
  split at e
  · split at e
    · unfold calleeP at e
      split at e
      · exact callF_ext hl e
      · exact callF_ext hl e
      · cases e
    · exact builtin_ext hl e
    · cases e
  · exact stepOp_ext hl e
end Go.Pm
end
section
namespace Go.Pm
def Anc (ops:Array Oper) (i j:Nat):Prop:=((before ops).getD i 0).testBit j=true
theorem fold_bits (f:Edge→Nat) (j:Nat):∀ (l:List Edge) (s0:Nat),(l.foldl (fun s e=>s ||| 2 ^ e.on ||| f e) s0).testBit j=true→s0.testBit j=true∨∃ e∈l,j=e.on∨(f e).testBit j=true
 | [],s0,h=>.inl h
 | e::l,s0,h=>by
  rcases fold_bits f j l _ h with h | ⟨e',h1,h2⟩
  ·simp only [Nat.testBit_or,Bool.or_eq_true,Nat.testBit_two_pow,decide_eq_true_eq] at h
   rcases h with (h | h) | h
   ·exact .inl h
   ·exact .inr ⟨e,by simp,.inl h.symm⟩
   ·exact .inr ⟨e,by simp,.inr h⟩
  ·exact .inr ⟨e',by simp [h1],h2⟩
theorem before_go (all:List Oper):∀ (l pre:List Oper) (acc:List Nat),all=pre++l→acc.length=pre.length →
  (∀ i j,(acc.getD i 0).testBit j=true→∃ o,all[i]?=some o∧∃ e∈aft o,j=e.on∨(acc.getD e.on 0).testBit j=true) →
  ∀ i j,((l.foldl (fun acc o=>acc++[(aft o).foldl (fun s e=>s ||| 2 ^ e.on ||| acc.getD e.on 0) 0]) acc).getD i 0).testBit j=true →
   ∃ o,all[i]?=some o∧∃ e∈aft o,j=e.on∨((l.foldl (fun acc o=>acc++[(aft o).foldl (fun s e=>s ||| 2 ^ e.on ||| acc.getD e.on 0) 0]) acc).getD e.on 0).testBit j=true
 | [],pre,acc,h1,h2,h3=>h3
 | o::l,pre,acc,h1,h2,h3=>by
  have keep:∀ k x (v:Nat),(acc.getD k 0).testBit x=true→((acc++[v]).getD k 0).testBit x=true:=fun k x v h=>by
   rcases Nat.lt_or_ge k acc.length with hk | hk
   ·simpa [List.getD,List.getElem?_append_left hk] using h
   ·simp [List.getD,List.getElem?_eq_none hk] at h
  refine before_go all l (pre++[o]) _ (by simp [h1]) (by simp [h2]) ?_
  intro i j hij
  by_cases hi:i<acc.length
  ·have hij':(acc.getD i 0).testBit j=true:=by simpa [List.getD,List.getElem?_append_left hi] using hij
   obtain ⟨o',e1,e,e2,e3⟩:=h3 i j hij'
   exact ⟨o',e1,e,e2,e3.imp id (keep _ _ _)⟩
  ·by_cases hi2:i=acc.length
   ·subst hi2
    have hij':(((aft o).foldl (fun s e=>s ||| 2 ^ e.on ||| acc.getD e.on 0) 0)).testBit j=true:=by simpa [List.getD] using hij
    rcases fold_bits (fun e=>acc.getD e.on 0) j _ _ hij' with h | ⟨e,h4,h5⟩
    ·simp at h
    ·exact ⟨o,by rw [h1,h2,List.getElem?_append_right (Nat.le_refl _)];simp,e,h4,h5.imp id (keep _ _ _)⟩
   ·rw [List.getD_eq_getElem?_getD,List.getElem?_eq_none (by simp;omega)] at hij
    simp at hij
theorem anc_spec {ops:Array Oper} {i j:Nat} (h:Anc ops i j):∃ o,ops[i]?=some o∧∃ e∈aft o,j=e.on∨Anc ops e.on j:=by
 obtain ⟨o,h1,e,h2,h3⟩:=before_go ops.toList ops.toList [] [] rfl rfl (fun i j h=>by simp at h) i j h
 exact ⟨o,by simpa using h1,e,h2,h3⟩
def hits (ops:Array Oper) (o o':Oper):Bool:=
 match o'.dst with
 | some d=>(o.looksAt ops).contains d || o.dst == some d
 | none=>false
def drawOk (ops:Array Oper):Bool:=
 ops.toList.zipIdx.all fun (o,i)=>(aft o).all (fun e=>decide (e.on<i)) &&
  ops.toList.zipIdx.all fun (o',j)=>decide (i≤j) || !(hits ops o o' || hits ops o' o) || ((before ops).getD i 0).testBit j
theorem drawOk_spec {ops:Array Oper} (h:drawOk ops=true) :
  (∀ (i:Nat) (o:Oper),ops[i]?=some o→∀ e∈aft o,e.on<i) ∧
  (∀ (i j:Nat) (o o':Oper),ops[i]?=some o→ops[j]?=some o'→j<i→(hits ops o o'=true∨hits ops o' o=true)→Anc ops i j):=by
 have mem:∀ (i:Nat) (o:Oper),ops[i]?=some o→(o,i)∈ops.toList.zipIdx:=fun i o e=>by
  rw [List.mem_iff_getElem?]
  exact ⟨i,by simp [e]⟩
 unfold drawOk at h
 rw [List.all_eq_true] at h
 constructor
 ·intro i o e ed he
  have:=h _ (mem i o e)
  simp only [Bool.and_eq_true] at this
  have:=List.all_eq_true.1 this.1 ed he
  simpa using this
 ·intro i j o o' e e' hji hh
  have:=h _ (mem i o e)
  simp only [Bool.and_eq_true] at this
  have:=List.all_eq_true.1 this.2 _ (mem j o' e')
  simp only [Bool.or_eq_true,decide_eq_true_eq,Bool.not_eq_true',Bool.or_eq_false_iff] at this
  rcases this with (h1 | h1) | h1
  ·omega
  ·rw [h1.1,h1.2] at hh;simp at hh
  ·exact h1
theorem level_spec {ops:Array Oper} {i:Nat} (h:level ops (before ops) i=2) {j:Nat} {o:Oper} (e:ops[j]?=some o) (hh:heapy o.op=true):j=i∨Anc ops i j∨Anc ops j i:=by
 unfold level at h
 split at h
 ·rename_i hall
  have:=List.all_eq_true.1 hall (o,j) (by rw [List.mem_iff_getElem?];exact ⟨j,by simp [e]⟩)
  simp only [hh,Bool.not_true,Bool.false_or,cmpB,Bool.or_eq_true,beq_iff_eq] at this
  rcases this with (h1 | h1) | h1
  ·exact .inl h1.symm
  ·exact .inr (.inl h1)
  ·exact .inr (.inr h1)
 ·cases h
theorem anc_lt {ops:Array Oper} (hd:drawOk ops=true):∀ (i j:Nat),Anc ops i j→j<i:=by
 intro i
 induction i using Nat.strongRecOn with
 | ind i ih=>
  intro j h
  obtain ⟨o,h1,e,h2,h3⟩:=anc_spec h
  have:=(drawOk_spec hd).1 i o h1 e h2
  rcases h3 with rfl | h3
  ·exact this
  ·have:=ih e.on this j h3;omega
theorem anc_closed {ops:Array Oper} (hd:drawOk ops=true) {E:Nat→Bool} (hE:∀ (i:Nat) (o:Oper),ops[i]?=some o→E i=true→∀ e∈aft o,E e.on=true):∀ (i j:Nat),E i=true→Anc ops i j→E j=true:=by
 intro i
 induction i using Nat.strongRecOn with
 | ind i ih=>
  intro j hi h
  obtain ⟨o,h1,e,h2,h3⟩:=anc_spec h
  have hl:=(drawOk_spec hd).1 i o h1 e h2
  have he:=hE i o h1 hi e h2
  rcases h3 with rfl | h3
  ·exact he
  ·exact ih e.on hl j he h3
theorem maskE_len {e:Nat→Bool} {L0:Nat} {own:List Nat} {h:AHeap} (h1:L0≤h.length) (h2:own.length=h.length - L0):(maskE e L0 own h).length=h.length:=by
 unfold maskE;simp;omega
theorem maskE_app {e:Nat→Bool} {L0:Nat} {own own2:List Nat} {h ext:AHeap} (h1:L0≤h.length) (h2:own.length=h.length - L0) :
  maskE e L0 (own++own2) (h++ext)=maskE e L0 own h++List.zipWith (fun o j=>if e j then o else hide1 o) ext own2:=by
 unfold maskE
 rw [List.take_append_of_le_length h1,List.drop_append_of_le_length h1,List.zipWith_append (by simp;omega),List.append_assoc]
theorem zip_congr {e e':Nat→Bool}:∀ (h:AHeap) (own:List Nat),(∀ j∈own,e j=e' j)→List.zipWith (fun o j=>if e j then o else hide1 o) h own=List.zipWith (fun o j=>if e' j then o else hide1 o) h own
 | [],own,_=>by simp
 | _::_,[],_=>by simp
 | o::h,j::own,hh=>by
  simp only [List.zipWith_cons_cons,hh j (by simp)]
  rw [zip_congr h own (fun k hk=>hh k (by simp [hk]))]
theorem maskE_congr {e e':Nat→Bool} {L0:Nat} {own:List Nat} {h:AHeap} (hh:∀ j∈own,e j=e' j):maskE e L0 own h=maskE e' L0 own h:=by
 unfold maskE
 rw [zip_congr _ _ hh]
theorem zip_all {e:Nat→Bool}:∀ (h:AHeap) (own:List Nat),own.length=h.length→(∀ j∈own,e j=true)→List.zipWith (fun o j=>if e j then o else hide1 o) h own=h
 | [],own,_,_=>by simp
 | o::h,[],hl,_=>by simp at hl
 | o::h,j::own,hl,hh=>by
  simp only [List.zipWith_cons_cons,hh j (by simp),if_true]
  rw [zip_all h own (by simpa using hl) (fun k hk=>hh k (by simp [hk]))]
theorem maskE_all {e:Nat→Bool} {L0:Nat} {own:List Nat} {h:AHeap} (h2:own.length=h.length - L0) (hh:∀ j∈own,e j=true):maskE e L0 own h=h:=by
 unfold maskE
 rw [zip_all _ _ (by simp [h2]) hh,List.take_append_drop]
theorem maskE_get {e:Nat→Bool} {L0:Nat} {own:List Nat} {h:AHeap} (h1:L0≤h.length) (h2:own.length=h.length - L0) (id:Nat) :
  (maskE e L0 own h)[id]?=if id<L0 then h[id]? else (h[id]?).map fun o=>if e (own.getD (id - L0) 0) then o else hide1 o:=by
 unfold maskE
 by_cases hid:id<L0
 ·rw [if_pos hid,List.getElem?_append_left (by simp;omega),List.getElem?_take,if_pos hid]
 ·rw [if_neg hid,List.getElem?_append_right (by simp;omega)]
  have hl:(List.take L0 h).length=L0:=by simp;omega
  rw [hl,List.getElem?_zipWith,List.getElem?_drop,show L0+(id - L0)=id by omega]
  cases ho:h[id]? with
  | none=>simp
  | some o=>
   have:=lt_of_some ho
   have hw:own[id - L0]?=some (own[id - L0]'(by omega)):=List.getElem?_eq_getElem (by omega)
   simp [hw]
section
variable {C:Cfg} {run:Run} {ops:Array Oper}
theorem evalOpsD_trace:∀ (l:List Oper) (k:Nat) (x y:DSt),evalOpsD C run ops (before ops) k l x=some y →
  ∃ tr:Nat→DSt,tr k=x∧(∀ (i:Nat) (o:Oper),l[i]?=some o→opStepD C run ops (before ops) (k+i) o (tr (k+i))=some (tr (k+i+1)))∧tr (k+l.length)=y
 | [],k,x,y,e=>by
  simp [evalOpsD] at e
  exact ⟨fun _=>x,rfl,fun i o h=>by simp at h,by simpa using e⟩
 | o::l,k,x,y,e=>by
  simp only [evalOpsD] at e
  split at e
  ·rename_i x' hx
   obtain ⟨tr,t1,t2,t3⟩:=evalOpsD_trace l (k+1) x' y e
   refine ⟨fun j=>if j≤k then x else tr j,by simp,?_,?_⟩
   ·intro i o' ho
    cases i with
    | zero=>
     simp at ho;subst ho
     simp [t1,hx]
     intro hh;omega
    | succ i=>
     have:=t2 i o' (by simpa using ho)
     have e1:¬ (k+(i+1)≤k):=by omega
     have e2:¬ (k+(i+1)+1≤k):=by omega
     simp only [e1,e2,if_false]
     rw [show k+(i+1)=k+1+i by omega]
     exact this
   ·have e1:¬ (k+(o::l).length≤k):=by simp
    simp only [e1,if_false]
    rw [← t3];congr 1;simp;omega
  ·cases e
inductive StepV (C:Cfg) (run:Run) (ops:Array Oper) (i:Nat) (o:Oper) (x y:DSt):Prop
 | off:wantedA ops o x.s.ρ=some false→y=⟨⟨updO x.s.ρ o.dst .undef,x.s.h⟩,x.L0,x.own⟩→StepV C run ops i o x y
 | plain (r:PV) (h1:AHeap):wantedA ops o x.s.ρ=some true→heapy o.op=false→opVal C run 1 o.op x.s.ρ x.s.h=some (r,h1)→y=⟨⟨updO x.s.ρ o.dst r,x.s.h⟩,x.L0,x.own⟩→StepV C run ops i o x y
 | two (r:PV) (h':AHeap):wantedA ops o x.s.ρ=some true→heapy o.op=true→level ops (before ops) i=2→opVal C run 2 o.op x.s.ρ x.s.h=some (r,h')→y=⟨⟨updO x.s.ρ o.dst r,h'⟩,h'.length,[]⟩→StepV C run ops i o x y
 | one (r:PV) (ext:AHeap):wantedA ops o x.s.ρ=some true→heapy o.op=true→level ops (before ops) i≠2→closedH (maskE ((before ops).getD i 0).testBit x.L0 x.own x.s.h)=true →
   (∀ z∈o.op.operands.toList,visR (visible (maskE ((before ops).getD i 0).testBit x.L0 x.own x.s.h)) (ev x.s.ρ z)=true) →
   opVal C run 1 o.op x.s.ρ (maskE ((before ops).getD i 0).testBit x.L0 x.own x.s.h)=some (r,maskE ((before ops).getD i 0).testBit x.L0 x.own x.s.h++ext) →
   (∀ o∈ext,o.mu≠.l)→y=⟨⟨updO x.s.ρ o.dst r,x.s.h++ext⟩,x.L0,x.own++List.replicate ext.length i⟩→StepV C run ops i o x y
theorem stepV {i:Nat} {o:Oper} {x y:DSt} (h1:x.L0≤x.s.h.length) (h2:x.own.length=x.s.h.length - x.L0) (e:opStepD C run ops (before ops) i o x=some y):StepV C run ops i o x y:=by
 unfold opStepD at e
 split at e
 ·rename_i hw
  split at e
  ·rename_i hh
   split at e
   ·rename_i r hx hv;exact .plain r hx hw hh hv (Option.some.inj e).symm
   ·cases e
  ·rename_i hh
   have hh':heapy o.op=true:=by simpa using hh
   split at e
   ·rename_i hl
    split at e
    ·rename_i r h' hv;exact .two r h' hw hh' hl hv (Option.some.inj e).symm
    ·cases e
   ·rename_i hl
    simp only at e
    split at e
    ·rename_i hc
     split at e
     ·rename_i r h' hv
      obtain ⟨ext,rfl⟩:=opVal_ext (Nat.le_refl 1) hv
      have hd:(maskE ((before ops).getD i 0).testBit x.L0 x.own x.s.h++ext).drop x.s.h.length=ext:=by
       rw [← maskE_len (e:=((before ops).getD i 0).testBit) h1 h2,List.drop_left]
      rw [hd] at e
      split at e
      ·rename_i hnl
       exact .one r ext hw hh' hl hc.1 (fun z hz=>List.all_eq_true.1 hc.2 z hz) hv (fun o ho=>by simpa using List.all_eq_true.1 hnl o ho) (Option.some.inj e).symm
      ·cases e
     ·cases e
    ·cases e
 ·rename_i hw;exact .off hw (Option.some.inj e).symm
 ·cases e
end
end Go.Pm
end
section
namespace Go.Pm
structure Lex (C:Cfg) (run:Run) (ops:Array Oper) (tr:Nat→DSt):Prop where
 ok:drawOk ops=true
 st:∀ (i:Nat) (o:Oper),ops[i]?=some o→opStepD C run ops (before ops) i o (tr i)=some (tr (i+1))
 h0:(tr 0).L0≤(tr 0).s.h.length
 o0:(tr 0).own=[]∧(tr 0).L0=(tr 0).s.h.length
def Ran (ops:Array Oper) (tr:Nat→DSt) (j:Nat):Prop:=∃ o,ops[j]?=some o∧heapy o.op=true∧wantedA ops o (tr j).s.ρ=some true
variable {C:Cfg} {run:Run} {ops:Array Oper} {tr:Nat→DSt}
theorem op_at {k:Nat} (h:k<ops.size):∃ o,ops[k]?=some o:=⟨ops[k],Array.getElem?_eq_getElem h⟩
theorem Lex.wf (L:Lex C run ops tr):∀ k,k≤ops.size→(tr k).L0≤(tr k).s.h.length∧(tr k).own.length=(tr k).s.h.length - (tr k).L0∧∀ j∈(tr k).own,j<k∧Ran ops tr j:=by
 intro k
 induction k with
 | zero=>
  intro _
  obtain ⟨h1,h2⟩:=L.o0
  rw [h1,h2]
  exact ⟨Nat.le_refl _,by simp,fun j hj=>by cases hj⟩
 | succ k ih=>
  intro hk
  obtain ⟨h1,h2,h3⟩:=ih (by omega)
  obtain ⟨o,ho⟩:=op_at (ops:=ops) (k:=k) (by omega)
  have keep:∀ j∈(tr k).own,j<k+1∧Ran ops tr j:=fun j hj=>⟨by have:=(h3 j hj).1;omega,(h3 j hj).2⟩
  cases stepV h1 h2 (L.st k o ho) with
  | off _ hy=>rw [hy];exact ⟨h1,h2,keep⟩
  | plain r hx _ _ _ hy=>rw [hy];exact ⟨h1,h2,keep⟩
  | two r h' _ _ _ _ hy=>rw [hy];exact ⟨Nat.le_refl _,by simp,fun j hj=>by cases hj⟩
  | one r ext hw hh _ _ _ _ _ hy=>
   rw [hy]
   refine ⟨by simp;omega,by simp;omega,fun j hj=>?_⟩
   rcases List.mem_append.1 hj with hj | hj
   ·exact keep j hj
   ·obtain ⟨_,rfl⟩:=List.mem_replicate.1 hj
    exact ⟨by omega,o,ho,hh,hw⟩
theorem Lex.view (L:Lex C run ops tr) {k:Nat} {o:Oper} (ho:ops[k]?=some o):StepV C run ops k o (tr k) (tr (k+1)):=by
 have hk:k<ops.size:=(Array.getElem?_eq_some_iff.1 ho).1
 obtain ⟨h1,h2,_⟩:=L.wf k (by omega)
 exact stepV h1 h2 (L.st k o ho)
theorem Lex.rho (L:Lex C run ops tr) {k:Nat} {o:Oper} (ho:ops[k]?=some o):∃ r,(tr (k+1)).s.ρ=updO (tr k).s.ρ o.dst r:=by
 cases L.view ho with
 | off _ hy=>exact ⟨_,by rw [hy]⟩
 | plain r hx _ _ _ hy=>exact ⟨_,by rw [hy]⟩
 | two r h' _ _ _ _ hy=>exact ⟨_,by rw [hy]⟩
 | one r ext hw hh _ _ _ _ _ hy=>exact ⟨_,by rw [hy]⟩
theorem Lex.rho_keep (L:Lex C run ops tr) {t:Nat} {i:Nat}:∀ k,i≤k→k≤ops.size→(∀ j o,i≤j→j<k→ops[j]?=some o→o.dst≠some t)→(tr k).s.ρ t=(tr i).s.ρ t:=by
 intro k
 induction k with
 | zero=>intro h1 _ _;obtain rfl:i=0:=(by omega);rfl
 | succ k ih=>
  intro h1 h2 h3
  by_cases hi:i=k+1
  ·subst hi;rfl
  ·obtain ⟨o,ho⟩:=op_at (ops:=ops) (k:=k) (by omega)
   obtain ⟨r,hr⟩:=L.rho ho
   rw [hr,updO_at,if_neg (h3 k o (by omega) (by omega) ho)]
   exact ih (by omega) (by omega) (fun j o' a b c=>h3 j o' a (by omega) c)
theorem Lex.phase (L:Lex C run ops tr) {i:Nat}:∀ k,i≤k→k≤ops.size→(∀ j,i≤j→j<k→¬ (Ran ops tr j∧level ops (before ops) j=2)) →
  ∃ ext own2,(tr k).s.h=(tr i).s.h++ext∧(tr k).L0=(tr i).L0∧(tr k).own=(tr i).own++own2∧own2.length=ext.length∧∀ j∈own2,i≤j:=by
 intro k
 induction k with
 | zero=>intro h1 _ _;obtain rfl:i=0:=(by omega);exact ⟨[],[],by simp,rfl,by simp,rfl,fun j hj=>by cases hj⟩
 | succ k ih=>
  intro h1 h2 h3
  by_cases hi:i=k+1
  ·subst hi;exact ⟨[],[],by simp,rfl,by simp,rfl,fun j hj=>by cases hj⟩
  ·obtain ⟨ext,own2,e1,e2,e3,e4,e5⟩:=ih (by omega) (by omega) (fun j a b=>h3 j a (by omega))
   obtain ⟨o,ho⟩:=op_at (ops:=ops) (k:=k) (by omega)
   cases L.view ho with
   | off _ hy=>rw [hy];exact ⟨ext,own2,e1,e2,e3,e4,e5⟩
   | plain r hx _ _ _ hy=>rw [hy];exact ⟨ext,own2,e1,e2,e3,e4,e5⟩
   | two r h' hw hh hl _ hy=>exact absurd ⟨⟨o,ho,hh,hw⟩,hl⟩ (h3 k (by omega) (by omega))
   | one r ext2 hw hh _ _ _ _ _ hy=>
    rw [hy]
    refine ⟨ext++ext2,own2++List.replicate ext2.length k,by simp [e1],e2,by simp [e3],by simp [e4],fun j hj=>?_⟩
    rcases List.mem_append.1 hj with hj | hj
    ·exact e5 j hj
    ·obtain ⟨_,rfl⟩:=List.mem_replicate.1 hj;omega
def Kh (tr:Nat→DSt) (E:Nat→Bool) (k:Nat):AHeap:=maskE E (tr k).L0 (tr k).own (tr k).s.h
structure DAt (ops:Array Oper) (tr:Nat→DSt) (N:Nat) (F:Nat→Prop) (w0:World) (h0:AHeap) (β0:List (Nat × Nat)) (E:Nat→Bool) (a:Act) (w:World) (k:Nat) (ρ:Nat→PV) (β:List (Nat × Nat)):Prop where
 kn:k≤ops.size
 lo:∀ j,Ran ops tr j→E j=true→j<k
 hi:∀ j,Ran ops tr j→level ops (before ops) j=2→j<k→E j=true
 base:h0.length≤(tr k).L0
 hr:HRel w F β (Kh tr E k)
 er:ERel w (Av F (Kh tr E k) β) β (Kh tr E k) a ρ
 rh:∀ t k',k'≤ops.size→(∀ j o,ops[j]?=some o→o.dst=some t→(E j=true↔j<k'))→ρ t=(tr k').s.ρ t
 sp:Stp w0 h0 β0 w (Kh tr E k) β
 df:a.defers=[]
 sz:N≤a.tmps.size
variable {N:Nat} {F:Nat→Prop} {w0:World} {h0:AHeap} {β0:List (Nat × Nat)} {E:Nat→Bool} {a:Act} {w:World}
theorem DAt.adv1 (L:Lex C run ops tr) {k:Nat} {ρ:Nat→PV} {β:List (Nat × Nat)} (D:DAt ops tr N F w0 h0 β0 E a w k ρ β) (hk:k<ops.size) (hn:¬ (Ran ops tr k∧level ops (before ops) k=2)) :
  ∃ β',DAt ops tr N F w0 h0 β0 E a w (k+1) ρ β':=by
 obtain ⟨o,ho⟩:=op_at (ops:=ops) hk
 have hE:Ran ops tr k→E k=false:=fun hr=>by
  cases he:E k with
  | false=>rfl
  | true=>have:=D.lo k hr he;omega
 have hlo:∀ j,Ran ops tr j→E j=true→j<k+1:=fun j h1 h2=>by have:=D.lo j h1 h2;omega
 have hhi:∀ j,Ran ops tr j→level ops (before ops) j=2→j<k+1→E j=true:=fun j h1 h2 h3=>by
  by_cases hj:j=k
  ·subst hj;exact absurd ⟨h1,h2⟩ hn
  ·exact D.hi j h1 h2 (by omega)
 have same:(tr (k+1)).s.h=(tr k).s.h→(tr (k+1)).L0=(tr k).L0→(tr (k+1)).own=(tr k).own→∃ β',DAt ops tr N F w0 h0 β0 E a w (k+1) ρ β':=fun e1 e2 e3=>by
  have hK:Kh tr E (k+1)=Kh tr E k:=by unfold Kh;rw [e1,e2,e3]
  exact ⟨β,⟨hk,hlo,hhi,by rw [e2];exact D.base,by rw [hK];exact D.hr,by rw [hK];exact D.er,D.rh,by rw [hK];exact D.sp,D.df,D.sz⟩⟩
 cases L.view ho with
 | off _ hy=>exact same (by rw [hy]) (by rw [hy]) (by rw [hy])
 | plain r hx _ _ _ hy=>exact same (by rw [hy]) (by rw [hy]) (by rw [hy])
 | two r h' hw hh hl _ hy=>exact absurd ⟨⟨o,ho,hh,hw⟩,hl⟩ hn
 | one r ext hw hh _ _ _ _ _ hy=>
  obtain ⟨w1,w2,_⟩:=L.wf k (by omega)
  have hek:=hE ⟨o,ho,hh,hw⟩
  have hK:Kh tr E (k+1)=Kh tr E k++List.zipWith (fun o j=>if E j then o else hide1 o) ext (List.replicate ext.length k):=by
   unfold Kh
   rw [hy]
   exact maskE_app w1 w2
  have hzx:∀ o∈List.zipWith (fun o j=>if E j then o else hide1 o) ext (List.replicate ext.length k),o.mu=.x:=by
   intro o ho
   obtain ⟨i,hi⟩:=List.getElem?_of_mem ho
   rw [List.getElem?_zipWith] at hi
   cases h1:ext[i]? with
   | none=>rw [h1] at hi;simp at hi
   | some y=>
    have hlt:=lt_of_some h1
    rw [h1,show (List.replicate ext.length k)[i]?=some k by simp [hlt]] at hi
    simp [hek] at hi
    subst hi
    rfl
  obtain ⟨P1,P2⟩:=D.hr.pad (List.zipWith (fun o j=>if E j then o else hide1 o) ext (List.replicate ext.length k)) (List.replicate ext.length (0,0)) (by simp) hzx
  rw [← hK] at P1 P2
  refine ⟨_,⟨hk,hlo,hhi,by rw [hy];exact D.base,P1,D.er.mono P2,D.rh,D.sp.trans P2,D.df,D.sz⟩⟩
theorem DAt.adv (L:Lex C run ops tr) {ρ:Nat→PV}:∀ (d:Nat) {k:Nat} {β:List (Nat × Nat)},DAt ops tr N F w0 h0 β0 E a w k ρ β→k+d≤ops.size→(∀ j,k≤j→j<k+d→¬ (Ran ops tr j∧level ops (before ops) j=2)) →
  ∃ β',DAt ops tr N F w0 h0 β0 E a w (k+d) ρ β'
 | 0,k,β,D,_,_=>⟨β,D⟩
 | d+1,k,β,D,h1,h2=>by
  obtain ⟨β1,D1⟩:=D.adv1 L (by omega) (h2 k (Nat.le_refl _) (by omega))
  obtain ⟨β2,D2⟩:=DAt.adv L d D1 (by omega) (fun j a b=>h2 j (by omega) (by omega))
  exact ⟨β2,by rw [show k+(d+1)=k+1+d by omega];exact D2⟩
end Go.Pm
end
section
namespace Go.Pm
variable {C:Cfg} {run:Run} {ops:Array Oper} {tr:Nat→DSt}
variable {N:Nat} {F:Nat→Prop} {w0:World} {h0:AHeap} {β0:List (Nat × Nat)} {E E':Nat→Bool} {a:Act} {w:World}
def DInv (ops:Array Oper) (tr:Nat→DSt) (N:Nat) (F:Nat→Prop) (w0:World) (h0:AHeap) (β0:List (Nat × Nat)) (E:Nat→Bool) (a:Act) (w:World):Prop:=∃ k ρ β,DAt ops tr N F w0 h0 β0 E a w k ρ β
theorem hits_dst {o o':Oper} {t:Nat} (h1:o'.dst=some t) (h2:t∈o.looksAt ops∨o.dst=some t):hits ops o o'=true:=by
 unfold hits
 rw [h1]
 rcases h2 with h2 | h2
 ·simp [h2]
 ·simp [h2]
structure Rdy (ops:Array Oper) (E E':Nat→Bool) (i:Nat) (o:Oper):Prop where
 at_:ops[i]?=some o
 out:E i=false
 anc:∀ j,Anc ops i j→E j=true
 cl:∀ i j,E i=true→Anc ops i j→E j=true
 upd:∀ j,E' j=true↔E j=true∨j=i
theorem Rdy.later {i j:Nat} {o:Oper} (R:Rdy ops E E' i o) (h:Anc ops j i):E j=false:=by
 cases he:E j with
 | false=>rfl
 | true=>have:=R.cl j i he h;rw [R.out] at this;cases this
theorem DAt.look (L:Lex C run ops tr) {k:Nat} {ρ:Nat→PV} {β:List (Nat × Nat)} (D:DAt ops tr N F w0 h0 β0 E a w k ρ β) {i:Nat} {o:Oper} (R:Rdy ops E E' i o) {t:Nat} (ht:t∈o.looksAt ops):ρ t=(tr i).s.ρ t:=by
 have hi:i<ops.size:=(Array.getElem?_eq_some_iff.1 R.at_).1
 refine D.rh t i (by omega) (fun j o' hj hd=>?_)
 rcases Nat.lt_trichotomy j i with h | h | h
 ·exact ⟨fun _=>h,fun _=>R.anc j ((drawOk_spec L.ok).2 i j o o' R.at_ hj h (.inl (hits_dst hd (.inl ht))))⟩
 ·subst h;rw [R.out];simp
 ·have:=R.later ((drawOk_spec L.ok).2 j i o' o hj R.at_ h (.inr (hits_dst hd (.inl ht))))
  rw [this]
  constructor
  ·intro hh;cases hh
  ·intro hh;omega
theorem DAt.evs (L:Lex C run ops tr) {k:Nat} {ρ:Nat→PV} {β:List (Nat × Nat)} (D:DAt ops tr N F w0 h0 β0 E a w k ρ β) {i:Nat} {o:Oper} (R:Rdy ops E E' i o):∀ x∈o.op.operands.toList,ev ρ x=ev (tr i).s.ρ x:=by
 intro x hx
 cases x with
 | tmp t=>exact D.look L R (List.mem_append_left _ (List.mem_filterMap.2 ⟨.tmp t,hx,rfl⟩))
 | _=>rfl
theorem DAt.wants (L:Lex C run ops tr) {k:Nat} {ρ:Nat→PV} {β:List (Nat × Nat)} (D:DAt ops tr N F w0 h0 β0 E a w k ρ β) {i:Nat} {o:Oper} (R:Rdy ops E E' i o):wantedA ops o ρ=wantedA ops o (tr i).s.ρ:=by
 unfold wantedA
 cases hg:o.guard with
 | none=>rfl
 | some jw=>
  obtain ⟨j,want⟩:=jw
  simp only
  cases hd:(ops.toList[j]?).bind (·.dst) with
  | none=>rfl
  | some d=>
   have hd':(ops[j]?).bind (·.dst)=some d:=by simpa using hd
   have:ρ d=(tr i).s.ρ d:=D.look L R (List.mem_append_right _ (by simp [hg,hd']))
   simp only [this]
theorem DAt.rh' (L:Lex C run ops tr) {k:Nat} {ρ:Nat→PV} {β:List (Nat × Nat)} (D:DAt ops tr N F w0 h0 β0 E a w k ρ β) {i:Nat} {o:Oper} (R:Rdy ops E E' i o) {r:PV} (hr:(tr (i+1)).s.ρ=updO (tr i).s.ρ o.dst r) :
  ∀ t k',k'≤ops.size→(∀ j o,ops[j]?=some o→o.dst=some t→(E' j=true↔j<k'))→updO ρ o.dst r t=(tr k').s.ρ t:=by
 intro t k' hk hw
 rw [updO_at]
 split
 ·rename_i ht
  have hik:i<k':=(hw i o R.at_ ht).1 ((R.upd i).2 (.inr rfl))
  rw [L.rho_keep (t:=t) (i:=i+1) k' hik hk (fun j o' h1 h2 h3 h4=>?_),hr,updO_at,if_pos ht]
  have he:=(hw j o' h3 h4).2 h2
  rcases (R.upd j).1 he with he | he
  ·rw [R.later ((drawOk_spec L.ok).2 j i o' o h3 R.at_ (by omega) (.inl (hits_dst ht (.inr h4))))] at he
   cases he
  ·omega
 ·rename_i ht
  refine D.rh t k' hk (fun j o' h1 h2=>?_)
  have hji:j≠i:=by
   rintro rfl
   rw [R.at_] at h1
   obtain rfl:=Option.some.inj h1
   exact ht h2
  rw [← hw j o' h1 h2,R.upd]
  simp [hji]
theorem DAt.still (L:Lex C run ops tr) {k:Nat} {ρ:Nat→PV} {β:List (Nat × Nat)} (D:DAt ops tr N F w0 h0 β0 E a w k ρ β) {i:Nat} {o:Oper} (R:Rdy ops E E' i o) (hd:dstOk N o=true) (hn:¬ Ran ops tr i)
  {r:PV} (hr:(tr (i+1)).s.ρ=updO (tr i).s.ρ o.dst r) {v:Value} (hv:VRel w (Av F (Kh tr E k) β) β (Kh tr E k) v r):DInv ops tr N F w0 h0 β0 E' (a.put o.dst v) w:=by
 have hK:Kh tr E' k=Kh tr E k:=by
  unfold Kh
  refine maskE_congr (fun j hj=>?_)
  have hji:j≠i:=by
   rintro rfl
   exact hn ((L.wf k D.kn).2.2 j hj).2
  have:=R.upd j
  simp only [hji,or_false] at this
  cases h1:E j <;> cases h2:E' j <;> simp_all
 refine ⟨k,updO ρ o.dst r,β,D.kn,?_,?_,D.base,by rw [hK];exact D.hr,by rw [hK];exact D.er.put (dstOk_lt hd D.sz) hv,D.rh' L R hr,by rw [hK];exact D.sp,by rw [put_defers'];exact D.df,by rw [put_size];exact D.sz⟩
 ·intro j h1 h2
  rcases (R.upd j).1 h2 with h2 | rfl
  ·exact D.lo j h1 h2
  ·exact absurd h1 hn
 ·intro j h1 h2 h3
  exact (R.upd j).2 (.inl (D.hi j h1 h2 h3))
theorem VRel.stripped {A:Nat→Prop} {β:List (Nat × Nat)} {M:AHeap} {v:Value} {p:PV} (f:Nat→Bool) (h:visR f p=true→VRel w A β M v p):VRel w A β M v (if visR f p then p else .any):=by
 split
 ·rename_i hv;exact h hv
 ·exact .any v
theorem DInv.step (K:CfgOk C) (S:RunsOk C run) (L:Lex C run ops tr) (D:DInv ops tr N F w0 h0 β0 E a w) {i:Nat} {o:Oper} (R:Rdy ops E E' i o) (hd:dstOk N o=true)
  {Q:Exit→Act→World→Prop} {next:Act→World→Prop} (hK:∀ a' w',DInv ops tr N F w0 h0 β0 E' a' w'→next a' w'):wpOp C.P ops Q i next a w:=by
 obtain ⟨k,ρ,β,D⟩:=D
 have hi:i<ops.size:=(Array.getElem?_eq_some_iff.1 R.at_).1
 have hwant:=D.wants L R
 have hevs:=D.evs L R
 have hval:∀ lv h,opVal C run lv o.op ρ h=opVal C run lv o.op (tr i).s.ρ h:=fun lv h=>opVal_congr hevs
 unfold wpOp
 rw [R.at_]
 simp only
 obtain ⟨wf1,wf2,wf3⟩:=L.wf i (by omega)
 cases L.view R.at_ with
 | off hw hy=>
  rw [wanted_sim D.er (by rw [hwant];exact hw),if_neg (by simp)]
  refine hK _ _ (D.still L R hd ?_ (by rw [hy]) .undef)
  rintro ⟨o',h1,h2,h3⟩
  rw [R.at_] at h1
  obtain rfl:=Option.some.inj h1
  rw [hw] at h3;cases h3
 | plain r hx hw hh hv hy=>
  rw [wanted_sim D.er (by rw [hwant];exact hw),if_pos rfl]
  refine .inl ?_
  have hn:¬ Ran ops tr i:=by
   rintro ⟨o',h1,h2,h3⟩
   rw [R.at_] at h1
   obtain rfl:=Option.some.inj h1
   rw [hh] at h2;cases h2
  have e:opVal C run 1 o.op ρ (Kh tr E k)=some (r,Kh tr E k):=by
   rw [hval];exact opVal_plain hh hv
  refine opVal_wp K S D.hr D.er e (fun v w' β' q1 q2 q3 q4=>?_)
  have G:=q4 (Nat.le_refl 1)
  have D':DAt ops tr N F w0 h0 β0 E a w' k ρ β':=⟨D.kn,D.lo,D.hi,D.base,q2,D.er.mono q3,D.rh,D.sp.trans q3,D.df,D.sz⟩
  exact hK _ _ (D'.still L R hd hn (by rw [hy]) q1)
 | two r h' hw hh hl hv hy=>
  rw [wanted_sim D.er (by rw [hwant];exact hw),if_pos rfl]
  refine .inl ?_
  have hran:Ran ops tr i:=⟨o,R.at_,hh,hw⟩
  have hki:k≤i:=by
   rcases Nat.lt_or_ge i k with h | h
   ·have:=D.hi i hran hl h;rw [R.out] at this;cases this
   ·exact h
  have anc_of:∀ j,Ran ops tr j→j<i→E j=true:=fun j hj hlt=>by
   obtain ⟨oj,g1,g2,_⟩:=hj
   rcases level_spec hl g1 g2 with h | h | h
   ·omega
   ·exact R.anc j h
   ·have:=anc_lt L.ok j i h;omega
  obtain ⟨β1,D1⟩:=D.adv L (i - k) (by omega) (fun j h1 h2 h3=>by
   have:=D.lo j h3.1 (anc_of j h3.1 (by omega));omega)
  rw [show k+(i - k)=i by omega] at D1
  have hKi:Kh tr E i=(tr i).s.h:=maskE_all wf2 (fun j hj=>anc_of j (wf3 j hj).2 (wf3 j hj).1)
  have hr1:=D1.hr
  have er1:=D1.er
  have sp1:=D1.sp
  rw [hKi] at hr1 er1 sp1
  refine opVal_wp K S hr1 er1 (by rw [hval];exact hv) (fun v w' β' q1 q2 q3 q4=>hK _ _ ?_)
  have hK':Kh tr E' (i+1)=h':=by
   unfold Kh
   rw [hy]
   exact maskE_all (by simp) (fun j hj=>by cases hj)
  refine ⟨i+1,updO ρ o.dst r,β',by omega,?_,?_,?_,by rw [hK'];exact q2,by rw [hK'];exact (er1.mono q3).put (dstOk_lt hd D.sz) q1,D.rh' L R (by rw [hy]),by rw [hK'];exact sp1.trans q3,by rw [put_defers'];exact D.df,by rw [put_size];exact D.sz⟩
  ·intro j h1 h2
   rcases (R.upd j).1 h2 with h2 | rfl
   ·have:=D1.lo j h1 h2;omega
   ·omega
  ·intro j h1 h2 h3
   by_cases hj:j=i
   ·exact (R.upd j).2 (.inr hj)
   ·exact (R.upd j).2 (.inl (anc_of j h1 (by omega)))
  ·rw [hy]
   have:=(sp1.trans q3).len
   exact this
 | one r ext hw hh hl hcl hops hv hnl hy=>
  rw [wanted_sim D.er (by rw [hwant];exact hw),if_pos rfl]
  refine .inl ?_
  have hran:Ran ops tr i:=⟨o,R.at_,hh,hw⟩
  obtain ⟨k,β,D,hik⟩:∃ k β,DAt ops tr N F w0 h0 β0 E a w k ρ β∧i<k:=by
   rcases Nat.lt_or_ge i k with h | h
   ·exact ⟨k,β,D,h⟩
   ·obtain ⟨β1,D1⟩:=D.adv L (i+1 - k) (by omega) (fun j h1 h2 h3=>by
     obtain ⟨⟨oj,g1,g2,g3⟩,g4⟩:=h3
     by_cases hj:j=i
     ·subst hj;exact hl g4
     ·rcases level_spec g4 R.at_ hh with h5 | h5 | h5
      ·omega
      ·have:=anc_lt L.ok j i h5;omega
      ·have:=D.lo j ⟨oj,g1,g2,g3⟩ (R.anc j h5);omega)
    exact ⟨i+1,β1,by rw [show i+1=k+(i+1 - k) by omega];exact D1,by omega⟩
  have hno:∀ j,i+1≤j→j<k→¬ (Ran ops tr j∧level ops (before ops) j=2):=fun j h1 h2 h3=>by
   have he:=D.hi j h3.1 h3.2 h2
   rcases level_spec h3.2 R.at_ hh with h5 | h5 | h5
   ·omega
   ·rw [R.later h5] at he;cases he
   ·have:=anc_lt L.ok i j h5;omega
  obtain ⟨ext2,own2,p1,p2,p3,p4,p5⟩:=L.phase k hik D.kn hno
  rw [hy] at p1 p2 p3
  simp only at p1 p2 p3
  have wfx:(tr i).L0≤((tr i).s.h++ext).length∧((tr i).own++List.replicate ext.length i).length=((tr i).s.h++ext).length - (tr i).L0:=by
   refine ⟨by simp;omega,by simp;omega⟩
  have hKE:∀ e:Nat→Bool,Kh tr e k=maskE e (tr i).L0 (tr i).own (tr i).s.h++List.zipWith (fun o j=>if e j then o else hide1 o) ext (List.replicate ext.length i)++List.zipWith (fun o j=>if e j then o else hide1 o) ext2 own2:=fun e=>by
   unfold Kh
   rw [p1,p2,p3,maskE_app wfx.1 wfx.2,maskE_app wf1 wf2]
  have hE'old:∀ j∈(tr i).own,E j=E' j:=fun j hj=>by
   have hji:j≠i:=by have:=(wf3 j hj).1;omega
   have:=R.upd j
   simp only [hji,or_false] at this
   cases h1:E j <;> cases h2:E' j <;> simp_all
  have hE'new:∀ j∈own2,E j=E' j:=fun j hj=>by
   have hji:j≠i:=by have:=p5 j hj;omega
   have:=R.upd j
   simp only [hji,or_false] at this
   cases h1:E j <;> cases h2:E' j <;> simp_all
  have hA:=hKE E
  have hB:=hKE E'
  rw [← maskE_congr hE'old,← zip_congr ext2 own2 hE'new,zip_all (e:=E') ext (List.replicate ext.length i) (by simp) (fun j hj=>by obtain ⟨_,rfl⟩:=List.mem_replicate.1 hj;exact (R.upd j).2 (.inr rfl))] at hB
  have hlA:(maskE E (tr i).L0 (tr i).own (tr i).s.h).length=(tr i).s.h.length:=maskE_len wf1 wf2
  have hlM:(maskE ((before ops).getD i 0).testBit (tr i).L0 (tr i).own (tr i).s.h).length=(tr i).s.h.length:=maskE_len wf1 wf2
  have hlz:(List.zipWith (fun o j=>if E j then o else hide1 o) ext (List.replicate ext.length i)).length=ext.length:=by simp
  have atA:∀ id,id<(tr i).s.h.length→(Kh tr E k)[id]?=(maskE E (tr i).L0 (tr i).own (tr i).s.h)[id]?:=fun id hid=>by
   rw [hA,List.append_assoc,List.getElem?_append_left (by omega)]
  have hM:∀ (id:Nat) (o:AObj),(maskE ((before ops).getD i 0).testBit (tr i).L0 (tr i).own (tr i).s.h)[id]?=some o→o.mu≠.x→(Kh tr E k)[id]?=some o:=by
   intro id o e1 e2
   have hid:id<(tr i).s.h.length:=by have:=lt_of_some e1;omega
   rw [atA id hid]
   rw [maskE_get wf1 wf2] at e1 ⊢
   split at e1
   ·rename_i hl0;rw [if_pos hl0];exact e1
   ·rename_i hl0
    rw [if_neg hl0]
    cases ho:(tr i).s.h[id]? with
    | none=>rw [ho] at e1;cases e1
    | some o1=>
     rw [ho] at e1
     simp only [Option.map_some,Option.some.injEq] at e1 ⊢
     split at e1
     ·rename_i hb
      rw [if_pos (R.anc _ hb)];exact e1
     ·subst e1;exact absurd rfl e2
  obtain ⟨HM,VM⟩:=D.hr.part (M:=maskE ((before ops).getD i 0).testBit (tr i).L0 (tr i).own (tr i).s.h) (by rw [hlM,hA];simp [hlA]) hM hcl
  have erM:ERel w (Av (Fp F β (Kh tr E k) (maskE ((before ops).getD i 0).testBit (tr i).L0 (tr i).own (tr i).s.h)) (maskE ((before ops).getD i 0).testBit (tr i).L0 (tr i).own (tr i).s.h) (β.take (maskE ((before ops).getD i 0).testBit (tr i).L0 (tr i).own (tr i).s.h).length))
    (β.take (maskE ((before ops).getD i 0).testBit (tr i).L0 (tr i).own (tr i).s.h).length) (maskE ((before ops).getD i 0).testBit (tr i).L0 (tr i).own (tr i).s.h) a
    (fun t=>if visR (visible (maskE ((before ops).getD i 0).testBit (tr i).L0 (tr i).own (tr i).s.h)) (ρ t) then ρ t else .any):=fun t=>VRel.stripped _ (fun hv=>VM _ _ (D.er t) hv)
  have eM:opVal C run 1 o.op (fun t=>if visR (visible (maskE ((before ops).getD i 0).testBit (tr i).L0 (tr i).own (tr i).s.h)) (ρ t) then ρ t else .any) (maskE ((before ops).getD i 0).testBit (tr i).L0 (tr i).own (tr i).s.h) =
    some (r,maskE ((before ops).getD i 0).testBit (tr i).L0 (tr i).own (tr i).s.h++ext):=by
   rw [← hv]
   refine opVal_congr (fun x hx=>?_)
   have h1:=hops x hx
   have h2:=hevs x hx
   cases x with
   | tmp t=>
    simp only [ev] at h1 h2 ⊢
    rw [h2,if_pos h1]
   | _=>rfl
  refine opVal_wp K S HM erM eM (fun v w' β1 q1 q2 q3 q4=>hK _ _ ?_)
  have G:=q4 (Nat.le_refl 1)
  have hlt:∀ id,(tr i).s.h.length≤id→id<(tr i).s.h.length+ext.length→(Kh tr E k)[id]?=(List.zipWith (fun o j=>if E j then o else hide1 o) ext (List.replicate ext.length i))[id - (tr i).s.h.length]?∧(Kh tr E' k)[id]?=ext[id - (tr i).s.h.length]?:=fun id h1 h2=>by
   constructor
   ·rw [hA,List.getElem?_append_left (by rw [List.length_append,hlA,hlz];omega),List.getElem?_append_right (by omega),hlA]
   ·rw [hB,List.getElem?_append_left (by rw [List.length_append,hlA];omega),List.getElem?_append_right (by omega),hlA]
  obtain ⟨β',m1,m2,m3,m4,m5,m6⟩:=D.hr.merge (h':=Kh tr E' k) (by rw [hlM,hA];simp [hlA]) hM q2 q3 G hnl (by rw [hA,hB];simp)
   (fun id h1 h2=>by rw [hlM] at h1 h2 ⊢;exact (hlt id h1 h2).2)
   (fun id h1=>by
    rw [hlM] at h1
    rcases h1 with h1 | h1
    ·rw [atA id h1,hB,List.append_assoc,List.getElem?_append_left (by omega)]
    ·rw [hA,hB,List.getElem?_append_right (by rw [List.length_append,hlA];omega),List.getElem?_append_right (by rw [List.length_append,hlA,hlz];omega)]
     simp)
   (fun id o h1 h2 h3=>by
    rw [hlM] at h1 h2
    rw [(hlt id h1 h2).1,List.getElem?_zipWith] at h3
    cases h4:ext[id - (tr i).s.h.length]? with
    | none=>rw [h4] at h3;simp at h3
    | some y=>
     have:=lt_of_some h4
     rw [h4,show (List.replicate ext.length i)[id - (tr i).s.h.length]?=some i by simp [this]] at h3
     simp [R.out] at h3
     subst h3
     rfl)
  have hb0:h0.length≤(tr i).s.h.length:=by
   have:=D.base
   rw [p2] at this
   omega
  refine ⟨k,updO ρ o.dst r,β',D.kn,?_,?_,D.base,m1,?_,D.rh' L R (by rw [hy]),?_,by rw [put_defers'];exact D.df,by rw [put_size];exact D.sz⟩
  ·intro j h1 h2
   rcases (R.upd j).1 h2 with h2 | rfl
   ·exact D.lo j h1 h2
   ·exact hik
  ·intro j h1 h2 h3
   exact (R.upd j).2 (.inl (D.hi j h1 h2 h3))
  ·exact ERel.put (fun t=>(D.er t).fwd m2 (fun b hb _=>G.keep b hb) m3) (dstOk_lt hd D.sz) (m6 _ _ q1)
  ·refine ⟨Nat.le_trans D.sp.size G.size,?_,?_,?_,D.sp.refs.trans m2,?_,G.os.trans D.sp.os,G.tape.trans D.sp.tape,G.output.trans D.sp.output,Nat.le_trans D.sp.drawn G.drawn⟩
   ·have h1:=D.sp.len
    rw [hA] at h1
    rw [hB]
    simp at h1 ⊢
    omega
   ·intro b hb hm
    rw [G.keep b (Nat.lt_of_lt_of_le hb D.sp.size)]
    exact D.sp.keep b hb hm
   ·intro b hb hm
    exact D.sp.shr b hb (m4 b (Nat.lt_of_lt_of_le hb D.sp.size) hm)
   ·intro id o e1 e2
    obtain ⟨f1,f2⟩:=D.sp.lck id o e1 e2
    have hid:id<(tr i).s.h.length:=by have:=lt_of_some e1;omega
    refine ⟨?_,by rw [m5 id (by rw [hlM];exact hid)];exact f2⟩
    rw [← f1,atA id hid,hB,List.append_assoc,List.getElem?_append_left (by omega)]
theorem countP_lt {p q:Nat→Bool}:∀ (l:List Nat),(∀ j∈l,q j=true→p j=true)→(∃ i∈l,p i=true∧q i=false)→l.countP q<l.countP p
 | [],_,⟨i,h,_⟩=>by cases h
 | j::l,h1,⟨i,h2,h3,h4⟩=>by
  have le:l.countP q≤l.countP p:=List.countP_mono_left (fun j hj=>h1 j (by simp [hj]))
  rcases List.mem_cons.1 h2 with rfl | h2
  ·rw [List.countP_cons,List.countP_cons,h3,h4];simp;omega
  ·have:=countP_lt l (fun j hj=>h1 j (by simp [hj])) ⟨i,h2,h3,h4⟩
   rw [List.countP_cons,List.countP_cons]
   have hj:=h1 j (by simp)
   cases hq:q j with
   | false=>simp;omega
   | true=>rw [hj hq];simp;omega
theorem DInv.done (L:Lex C run ops tr) (D:DInv ops tr N F w0 h0 β0 E a w) (hE:∀ j,j<ops.size→E j=true):∃ β,SR N w F β (tr ops.size).s a∧Stp w0 h0 β0 w (tr ops.size).s.h β:=by
 obtain ⟨k,ρ,β,D⟩:=D
 obtain ⟨β1,D1⟩:=D.adv L (ops.size - k) (by have:=D.kn;omega) (fun j h1 h2 h3=>by
  have:=D.lo j h3.1 (hE j (by have:=D.kn;omega));omega)
 rw [show k+(ops.size - k)=ops.size by have:=D.kn;omega] at D1
 obtain ⟨w1,w2,w3⟩:=L.wf ops.size (Nat.le_refl _)
 have hK:Kh tr E ops.size=(tr ops.size).s.h:=maskE_all w2 (fun j hj=>hE j (w3 j hj).1)
 have hρ:ρ=(tr ops.size).s.ρ:=by
  funext t
  refine D1.rh t ops.size (Nat.le_refl _) (fun j o hj _=>?_)
  have:j<ops.size:=(Array.getElem?_eq_some_iff.1 hj).1
  simp [hE j this,this]
 have h1:=D1.hr
 have h2:=D1.er
 have h3:=D1.sp
 rw [hK] at h1 h2 h3
 rw [hρ] at h2
 exact ⟨β1,⟨h1,h2,D1.df,D1.sz⟩,h3⟩
theorem wpAny_gen (ok:drawOk ops=true) (Inv:(Nat→Bool)→Act→World→Prop) {Q:Exit→Act→World→Prop}
  (hstep:∀ (E E':Nat→Bool) (a:Act) (w:World) (i:Nat) (o:Oper),Inv E a w→Rdy ops E E' i o→∀ next:Act→World→Prop,(∀ a' w',Inv E' a' w'→next a' w')→wpOp C.P ops Q i next a w)
  (hdone:∀ (E:Nat→Bool) (a:Act) (w:World),Inv E a w→(∀ j,j<ops.size→E j=true)→Q .normal a w) :
  ∀ (fuel:Nat) (listed:Array Bool) (a:Act) (w:World),listed.size=ops.size→(∀ (i:Nat) (o:Oper),ops[i]?=some o→listed.getD i false=true→∀ e∈aft o,listed.getD e.on false=true) →
   (List.range ops.size).countP (fun j=>!listed.getD j false)≤fuel→Inv (fun j=>listed.getD j false) a w→wpAny C.P .any ops Q fuel listed a w:=by
 have all_of:∀ (listed:Array Bool),listed.size=ops.size→Region.ready .any ops listed=[]→∀ j,j<ops.size→listed.getD j false=true:=by
  intro listed hs hr j
  induction j using Nat.strongRecOn with
  | ind j ih=>
   intro hj
   obtain ⟨o,ho⟩:=op_at (ops:=ops) hj
   cases hl:listed.getD j false with
   | true=>rfl
   | false=>
    have hm:j∈Region.ready .any ops listed:=mem_ready.2 ⟨by simp [hs,hj] at hl ⊢;exact hl,o,ho,fun e he hb=>by
     have hlt:=(drawOk_spec ok).1 j o ho e (List.mem_filter.2 ⟨by simpa using he,hb⟩)
     exact ih e.on hlt (by omega)⟩
    rw [hr] at hm;cases hm
 have fin:∀ (listed:Array Bool) (a:Act) (w:World),(∀ j,j<ops.size→listed.getD j false=true)→Inv (fun j=>listed.getD j false) a w→Q .normal a w:=fun listed a w hall D=>hdone _ a w D hall
 intro fuel
 induction fuel with
 | zero=>
  intro listed a w hs hc hn D
  have hall:∀ j,j<ops.size→listed.getD j false=true:=fun j hj=>by
   have h0:=List.countP_eq_zero.1 (Nat.le_zero.1 hn) j (List.mem_range.2 hj)
   simpa using h0
  refine ⟨?_,fin listed a w hall D⟩
  apply List.eq_nil_iff_forall_not_mem.2
  intro j hj
  obtain ⟨h1,o,h2,_⟩:=mem_ready.1 hj
  have hjs:j<ops.size:=(Array.getElem?_eq_some_iff.1 h2).1
  have:=hall j hjs
  simp [hs,hjs] at h1 this
  rw [h1] at this;cases this
 | succ fuel ih=>
  intro listed a w hs hc hn D
  refine ⟨fun hr=>fin listed a w (all_of listed hs hr) D,fun i hi=>?_⟩
  obtain ⟨h1,o,h2,h3⟩:=mem_ready.1 hi
  have his:i<ops.size:=(Array.getElem?_eq_some_iff.1 h2).1
  have hout:listed.getD i false=false:=by simp [hs,his] at h1 ⊢;exact h1
  have hcl:=anc_closed ok (E:=fun j=>listed.getD j false) hc
  have hedge:∀ e∈aft o,listed.getD e.on false=true:=fun e he=>by
   have:=List.mem_filter.1 he
   exact h3 e (by simpa using this.1) this.2
  have hanc:∀ j,Anc ops i j→listed.getD j false=true:=fun j hj=>by
   obtain ⟨o',g1,e,g2,g3⟩:=anc_spec hj
   rw [h2] at g1
   obtain rfl:=Option.some.inj g1
   rcases g3 with rfl | g3
   ·exact hedge e g2
   ·exact hcl e.on j (hedge e g2) g3
  have hupd:∀ j,(listed.setIfInBounds i true).getD j false=true↔listed.getD j false=true∨j=i:=fun j=>by
   by_cases hj:i=j
   ·subst hj;simp [hs,his]
   ·rw [getD_set_ne false hj];simp [Ne.symm hj]
  refine hstep _ (fun j=>(listed.setIfInBounds i true).getD j false) a w i o D ⟨h2,hout,hanc,hcl,hupd⟩ _ (fun a' w' D'=>?_)
  refine ih (listed.setIfInBounds i true) a' w' (by simp [hs]) (fun j o' hj hl e he=>?_) ?_ D'
  ·refine (hupd e.on).2 (.inl ?_)
   rcases (hupd j).1 hl with hl | rfl
   ·exact hc j o' hj hl e he
   ·rw [h2] at hj
    obtain rfl:=Option.some.inj hj
    exact hedge e he
  ·have:=countP_lt (p:=fun j=>!listed.getD j false) (q:=fun j=>!(listed.setIfInBounds i true).getD j false) (List.range ops.size) (fun j _ hq=>by
    cases hl:listed.getD j false with
    | false=>rfl
    | true=>have:=(hupd j).2 (.inl hl);simp [this] at hq) ⟨i,List.mem_range.2 his,by simp [hout],by simp [(hupd i).2 (.inr rfl)]⟩
   omega
theorem wpAny_sim (K:CfgOk C) (S:RunsOk C run) (L:Lex C run ops tr) (hd:ops.toList.all (dstOk N)=true) {Q:Exit→Act→World→Prop}
  (hQ:∀ a w β,SR N w F β (tr ops.size).s a→Stp w0 h0 β0 w (tr ops.size).s.h β→Q .normal a w) :
  ∀ (fuel:Nat) (listed:Array Bool) (a:Act) (w:World),listed.size=ops.size→(∀ (i:Nat) (o:Oper),ops[i]?=some o→listed.getD i false=true→∀ e∈aft o,listed.getD e.on false=true) →
   (List.range ops.size).countP (fun j=>!listed.getD j false)≤fuel→DInv ops tr N F w0 h0 β0 (fun j=>listed.getD j false) a w→wpAny C.P .any ops Q fuel listed a w:=
 wpAny_gen L.ok (fun E a w=>DInv ops tr N F w0 h0 β0 E a w)
  (fun E E' a w i o D R next hK=>DInv.step K S L D R (List.all_eq_true.1 hd o (Array.mem_toList_iff.2 (Array.mem_of_getElem? R.at_))) hK)
  (fun E a w D hall=>by obtain ⟨β,h1,h2⟩:=D.done L hall;exact hQ a w β h1 h2)
theorem getD_none (n j:Nat):(Array.replicate n false).getD j false=false:=by
 simp only [Array.getD_eq_getD_getElem?,Array.getElem?_replicate]
 split <;> rfl
theorem regionD_wp (K:CfgOk C) (S:RunsOk C run) (hm:C.P.follows .mixedOrders=true) {id:Nat} {Q:Exit→Act→World→Prop} (hd:ops.toList.all (dstOk N)=true) (hk:drawOk ops=true) {β:List (Nat × Nat)} {s:St} {y:DSt} (R:SR N w F β s a)
  (e:evalOpsD C run ops (before ops) 0 ops.toList ⟨s,s.h.length,[]⟩=some y) (hQ:∀ a' w' β',SR N w' F β' y.s a'→Stp w s.h β w' y.s.h β'→Q .normal a' w'):(Code.region id ops true).wp C.P Q a w:=by
 obtain ⟨tr,t1,t2,t3⟩:=evalOpsD_trace ops.toList 0 _ _ e
 have L:Lex C run ops tr:=⟨hk,fun i o ho=>by simpa using t2 i o (by simpa using ho),by rw [t1];exact Nat.le_refl _,by rw [t1];exact ⟨rfl,rfl⟩⟩
 have t3':tr ops.size=y:=by simpa using t3
 refine wp_region_any hm (wpAny_sim (w0:=w) (h0:=s.h) (β0:=β) K S L hd (F:=F) (fun a' w' β' R' S'=>by rw [t3'] at R' S';exact hQ a' w' β' R' S') ops.size _ a _ (by simp) (fun i o ho hl=>by rw [getD_none] at hl;cases hl) ?_ ?_)
 ·refine Nat.le_trans (List.countP_le_length) (by simp)
 ·have hE:∀ j,(Array.replicate ops.size false).getD j false=false:=fun j=>getD_none _ j
  have hK:Kh tr (fun j=>(Array.replicate ops.size false).getD j false) 0=s.h:=by
   unfold Kh
   rw [t1]
   exact maskE_all (by simp) (fun j hj=>by cases hj)
  have G:Grew w {w with drawn:=w.drawn+1 }:=Grew.drew w
  refine ⟨0,s.ρ,β,⟨Nat.zero_le _,fun j _ h=>(by rw [hE] at h;cases h),fun j _ _ h=>by omega,by rw [t1];exact Nat.le_refl _,by rw [hK];exact R.hr.grew G,by rw [hK];exact R.er.mono (G.stp s.h β),?_,by rw [hK];exact G.stp s.h β,R.df,R.sz⟩⟩
  intro t k' hk' hw
  rw [L.rho_keep (t:=t) (i:=0) k' (Nat.zero_le _) hk' (fun j o h1 h2 h3 h4=>by
   have:=(hw j o h3 h4).2 h2
   rw [hE] at this;cases this),t1]
end Go.Pm
end
