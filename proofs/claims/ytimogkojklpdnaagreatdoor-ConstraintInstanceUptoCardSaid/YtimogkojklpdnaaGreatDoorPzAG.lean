/-
  A part of the library Pm and its contracts (joined by program): PmCalm PmSim PmPrim PmOk6 PmC0 PmClo PmROps PmRTerm PmFew PmRInv PmXT PmRead. Conditions: none.
-/
import Derived.Test.YtimogkojklpdnaaGreatDoorPzAF
import Derived.LoopN
import Derived.Scope
import Derived.Test.YtimogkojklpdnaaGreatDoorPzAA
import Derived.Test.YtimogkojklpdnaaGreatDoorPzAB
import Derived.Test.YtimogkojklpdnaaGreatDoorPzAC
import Derived.Laws.Externs
import Derived.Test.YtimogkojklpdnaaGreatDoorPzAD
import Derived.Laws.Cover3
import Derived.Test.YtimogkojklpdnaaGreatDoorPzAE
import Derived.Test.YtimogkojklpdnaaGreatDoorRows
import Derived.WalkKit
import Derived.ProofKit
import Derived.Deep.Slices
import Derived.ChangeArms
set_option linter.unusedVariables false
set_option linter.unusedSimpArgs false
section
namespace Go.Pm
theorem evalOpsK_trace {C:Cfg} {run:Run} {ops:Array Oper} {h0:AHeap}:∀ (l:List Oper) (k:Nat) (x y:St),evalOpsK C run ops (before ops) h0 k l x=some y →
  ∃ tr:Nat→St,tr k=x∧(∀ (i:Nat) (o:Oper),l[i]?=some o→opStepK C run ops (before ops) h0 (k+i) o (tr (k+i))=some (tr (k+i+1)))∧tr (k+l.length)=y
 | [],k,x,y,e=>by
  simp [evalOpsK] at e
  exact ⟨fun _=>x,rfl,fun i o h=>by simp at h,by simpa using e⟩
 | o::l,k,x,y,e=>by
  simp only [evalOpsK] at e
  split at e
  ·rename_i x' hx
   obtain ⟨tr,t1,t2,t3⟩:=evalOpsK_trace l (k+1) x' y e
   refine ⟨fun j=>if j≤k then x else tr j,by simp,?_,?_⟩
   ·intro i o' ho
    cases i with
    | zero=>
     simp at ho;subst ho
     simp [t1,hx]
     intro hh;omega
    | succ i=>
     have:=t2 i o' (by simpa using ho)
     have e1:¬ (k+(i+1)≤k):=by omega
     have e2:¬ (k+(i+1)+1≤k):=by omega
     simp only [e1,e2,if_false]
     rw [show k+(i+1)=k+1+i by omega]
     exact this
   ·have e1:¬ (k+(o::l).length≤k):=by simp
    simp only [e1,if_false]
    rw [← t3];congr 1;simp;omega
  ·cases e
inductive StepK (C:Cfg) (run:Run) (ops:Array Oper) (h0:AHeap) (i:Nat) (o:Oper) (x y:St):Prop
 | off:wantedA ops o x.ρ=some false→y=⟨updO x.ρ o.dst .undef,x.h⟩→StepK C run ops h0 i o x y
 | plain (r:PV) (h1:AHeap):wantedA ops o x.ρ=some true→heapy o.op=false→opVal C run 1 o.op x.ρ x.h=some (r,h1)→y=⟨updO x.ρ o.dst r,x.h⟩→StepK C run ops h0 i o x y
 | rd (r:PV) (h1:AHeap):wantedA ops o x.ρ=some true→isRdK o.op=true→(∀ id,rdId o.op x.ρ=some id→stillI h0 id=true∨(levelR ops (before ops) i=true∧rdOk ops (before ops) i x.ρ id=true))→stepOp C.P 1 o.op x.ρ x.h=some (r,h1)→y=⟨updO x.ρ o.dst r,x.h⟩→StepK C run ops h0 i o x y
 | made (r:PV) (h':AHeap):wantedA ops o x.ρ=some true→isBs o.op=true→stepOp C.P 1 o.op x.ρ x.h=some (r,h')→y=⟨updO x.ρ o.dst r,x.h⟩→StepK C run ops h0 i o x y
 | two (r:PV) (h':AHeap):wantedA ops o x.ρ=some true→heapy o.op=true→isRdK o.op=false→(isBs o.op=true→stepOp C.P 1 o.op x.ρ x.h=none)→levelK ops (before ops) i (isBs o.op)=true→opVal C run 2 o.op x.ρ x.h=some (r,h')→x.h.length≤h'.length→y=⟨updO x.ρ o.dst r,keepL x.h h'⟩→StepK C run ops h0 i o x y
theorem stepK {C:Cfg} {run:Run} {ops:Array Oper} {h0:AHeap} {i:Nat} {o:Oper} {x y:St} (e:opStepK C run ops (before ops) h0 i o x=some y):StepK C run ops h0 i o x y:=by
 unfold opStepK at e
 split at e
 ·rename_i hw
  split at e
  ·rename_i hh
   split at e
   ·rename_i r hx hv;exact .plain r hx hw hh hv (Option.some.inj e).symm
   ·cases e
  ·rename_i hh
   split at e
   ·rename_i hl
    split at e
    ·rename_i hc
     split at e
     ·rename_i r h1 hs
      refine .rd r h1 hw hl (fun id hid=>?_) hs (Option.some.inj e).symm
      unfold rdGate at hc
      rw [hid] at hc
      simp only [Bool.or_eq_true,Bool.and_eq_true] at hc
      exact hc
     ·cases e
    ·cases e
   ·rename_i hl
    split at e
    ·rename_i r h1 hs
     split at hs
     ·rename_i hb;exact .made r h1 hw hb hs (Option.some.inj e).symm
     ·cases hs
    ·rename_i hs
     split at e
     ·rename_i hk
      split at e
      ·rename_i r h' hv
       split at e
       ·rename_i hle
        exact .two r h' hw (by simpa using hh) (by simpa using hl) (fun hb=>by rw [if_pos hb] at hs;exact hs) hk hv hle (Option.some.inj e).symm
       ·cases e
      ·cases e
     ·cases e
 ·rename_i hw;exact .off hw (Option.some.inj e).symm
 ·cases e
theorem cmpB_inv {ops:Array Oper} {i j:Nat} (h:cmpB (before ops) i j=true):j=i∨Anc ops i j∨Anc ops j i:=by
 simp only [cmpB,Bool.or_eq_true,beq_iff_eq] at h
 rcases h with (h1 | h1) | h1
 ·exact .inl h1.symm
 ·exact .inr (.inl h1)
 ·exact .inr (.inr h1)
theorem levelK_spec {ops:Array Oper} {i:Nat} {bs:Bool} (h:levelK ops (before ops) i bs=true) {j:Nat} {o:Oper} (e:ops[j]?=some o) (hh:heapy o.op=true) (hl:isRdK o.op=false) (hb:bs=true∨isBs o.op=false) :
  (j=i∨Anc ops i j∨Anc ops j i)∨((sinks ops (before ops)).isSome=true∧ops.size≤i+2∧ops.size≤j+2):=by
 have:=List.all_eq_true.1 h (o,j) (by rw [List.mem_iff_getElem?];exact ⟨j,by simp [e]⟩)
 have hb2:(bs || !isBs o.op)=true:=by rcases hb with hb | hb <;> simp [hb]
 simp only [hh,hl,hb2,Bool.not_false,Bool.and_self,Bool.not_true,Bool.false_or,Bool.or_eq_true,Bool.and_eq_true,decide_eq_true_eq] at this
 rcases this with h1 | h1
 ·exact .inl (cmpB_inv h1)
 ·exact .inr ⟨h1.1.1,h1.1.2,h1.2⟩
theorem levelR_spec {ops:Array Oper} {i:Nat} (h:levelR ops (before ops) i=true) {j:Nat} {o:Oper} (e:ops[j]?=some o) (hh:heapy o.op=true) (hl:isRdK o.op=false) (hb:isBs o.op=false) :
  (j=i∨Anc ops i j∨Anc ops j i)∨((sinks ops (before ops)).isSome=true∧ops.size≤j+2):=by
 have:=List.all_eq_true.1 h (o,j) (by rw [List.mem_iff_getElem?];exact ⟨j,by simp [e]⟩)
 simp only [hh,hl,hb,Bool.not_false,Bool.and_self,Bool.not_true,Bool.false_or,Bool.or_eq_true,Bool.and_eq_true,decide_eq_true_eq] at this
 rcases this with h1 | h1
 ·exact .inl (cmpB_inv h1)
 ·exact .inr h1
theorem step_made {P:Program} {op:Op} {ρ ρ':Nat→PV} {h1 h1' h2:AHeap} {r:PV} (hb:isBs op=true) (hv:∀ h,stepOp P 1 op ρ' h=stepOp P 1 op ρ h) (e:stepOp P 1 op ρ h1=some (r,h1')):stepOp P 1 op ρ' h2=some (r,h2):=by
 rw [hv]
 cases op <;> simp [isBs] at hb
 simp only [stepOp,buildSliceP] at e ⊢
 repeat' split at e
 all_goals first
  | (cases e;done)
  | (rename_i hh;exfalso;omega)
  | skip
 rename_i hz hc hi
 obtain ⟨rfl,rfl⟩:=Prod.mk.inj (Option.some.inj e)
 simp only [*,if_true,and_self]
theorem ix_congr {P:Program} {h1 h2:AHeap} {t:TypeId} {p q:PV} (h:∀ id ep off len,p=.mref id ep off len→getM h2 id ep=getM h1 id ep):indexAddrP P h2 t p q=indexAddrP P h1 t p q:=by
 unfold indexAddrP
 split
 ·rfl
 ·simp only [h _ _ _ _ rfl]
 ·rfl
 ·rfl
 ·rfl
theorem ix_some {P:Program} {h1:AHeap} {t:TypeId} {id ep off len:Nat} {q r:PV} (e:indexAddrP P h1 t (.mref id ep off len) q=some r):∃ o,getM h1 id ep=some o:=by
 cases hg:getM h1 id ep with
 | some o=>exact ⟨o,rfl⟩
 | none=>
  unfold indexAddrP at e
  split at e <;> simp_all
  all_goals (split at e <;> simp_all)
theorem ld_congr {P:Program} {h1 h2:AHeap} {t:TypeId} {p:PV} (h:∀ id ep i off,p=.ptr id ep i off→getM h2 id ep=getM h1 id ep):loadP P h2 t p=loadP P h1 t p:=by
 have:pcells h2 p=pcells h1 p:=by
  unfold pcells
  split
  ·rfl
  ·rw [h _ _ _ _ rfl]
  ·rfl
 unfold loadP
 rw [this]
theorem ld_some {P:Program} {h1:AHeap} {t:TypeId} {id ep i off:Nat} {r:PV} (e:loadP P h1 t (.ptr id ep i off)=some r):∃ o,getM h1 id ep=some o:=by
 cases hg:getM h1 id ep with
 | some o=>exact ⟨o,rfl⟩
 | none=>
  simp only [loadP,pcells,hg] at e
  split at e <;> simp_all
theorem getM_mk {h:AHeap} {id ep:Nat} {o:AObj} (h1:h[id]?=some o) (h2:o.ep=ep) (h3:o.mu≠.x):getM h id ep=some o:=by simp [getM,h1,h2,h3]
theorem getM_lt {h:AHeap} {id ep:Nat} {o:AObj} (e:getM h id ep=some o):id<h.length:=lt_of_some (getM_some e).1
theorem rd_same {P:Program} {op:Op} {ρ:Nat→PV} {h1 h1' h2:AHeap} {r:PV} (hr:isRdK op=true) (e:stepOp P 1 op ρ h1=some (r,h1')) (hs:∀ id,rdId op ρ=some id→h2[id]?=h1[id]?):stepOp P 1 op ρ h2=some (r,h2)∧∀ id,rdId op ρ=some id→id<h1.length:=by
 cases op <;> simp [isRdK] at hr
 case load t x=>
  simp only [stepOp,rdId] at e hs ⊢
  obtain ⟨e1,_⟩:=map_pair' e
  constructor
  ·rw [ld_congr (h1:=h1) (fun id ep i off hp=>?_),e1]
   ·rfl
   ·rw [hp] at hs
    simp only [getM,hs id rfl]
  ·intro id hid
   split at hid
   ·rename_i hx
    obtain rfl:=Option.some.inj hid
    rw [hx] at e1
    obtain ⟨o,ho⟩:=ld_some e1
    exact getM_lt ho
   ·cases hid
 case indexAddr t x ix=>
  simp only [stepOp,rdId] at e hs ⊢
  obtain ⟨e1,_⟩:=map_pair' e
  constructor
  ·rw [ix_congr (h1:=h1) (fun id ep i off hp=>?_),e1]
   ·rfl
   ·rw [hp] at hs
    simp only [getM,hs id rfl]
  ·intro id hid
   split at hid
   ·rename_i hx
    obtain rfl:=Option.some.inj hid
    rw [hx] at e1
    obtain ⟨o,ho⟩:=ix_some e1
    exact getM_lt ho
   ·cases hid
theorem keepL_lt {h h':AHeap} (hl:h.length≤h'.length) {id:Nat} {o:AObj} (ho:h[id]?=some o):(keepL h h')[id]?=if o.mu=.m then h'[id]? else some o:=by
 have hid:=lt_of_some ho
 unfold keepL
 rw [List.getElem?_append_left (by simp;omega),List.getElem?_zipWith,ho]
 obtain ⟨o',ho'⟩:=at_of_lt (l:=h') (i:=id) (by omega)
 rw [ho']
 simp only
 split <;> rfl
theorem keepL_ge {h h':AHeap} (hl:h.length≤h'.length) {id:Nat} (hid:h.length≤id):(keepL h h')[id]?=h'[id]?:=by
 unfold keepL
 rw [List.getElem?_append_right (by simp;omega),List.getElem?_drop]
 congr 1
 simp;omega
theorem keepL_len {h h':AHeap} (hl:h.length≤h'.length):(keepL h h').length=h'.length:=by unfold keepL;simp;omega
theorem keepL_stp {w w':World} {h h':AHeap} {β β':List (Nat × Nat)} (s:Stp w h β w' h' β'):keepL h h'=h':=by
 apply List.ext_getElem?
 intro id
 by_cases hid:id<h.length
 ·obtain ⟨o,ho⟩:=at_of_lt (l:=h) (i:=id) hid
  rw [keepL_lt s.len ho]
  split
  ·rfl
  ·rename_i hm;exact (s.lck id o ho hm).1.symm
 ·exact keepL_ge s.len (by omega)
theorem keepL_set {h:AHeap} {id:Nat} {o o':AObj} (ho:h[id]?=some o) (hm:o.mu=.m):keepL h (h.set id o')=h.set id o':=by
 have hl:h.length≤(h.set id o').length:=by simp
 apply List.ext_getElem?
 intro k
 by_cases hk:k<h.length
 ·obtain ⟨a,ha⟩:=at_of_lt (l:=h) (i:=k) hk
  rw [keepL_lt hl ha]
  split
  ·rfl
  ·rename_i hne
   have:id≠k:=by rintro rfl;rw [ho] at ha;obtain rfl:=Option.some.inj ha;exact hne hm
   rw [List.getElem?_set_ne this,ha]
 ·exact keepL_ge hl (by omega)
theorem storeP_inv {P:Program} {h h':AHeap} {t:TypeId} {p v:PV} (e:storeP P h t p v=some h'):∃ id ep i off o o',p=.ptr id ep i off∧h[id]?=some o∧o.mu=.m∧h'=h.set id o'∧∀ h2:AHeap,h2[id]?=some o→storeP P h2 t p v=some (h2.set id o'):=by
 unfold storeP at e
 split at e
 ·rename_i id ep i off sz hs
  split at e
  ·rename_i o ho
   split at e
   ·rename_i el hel
    split at e
    ·rename_i hc
     obtain rfl:=Option.some.inj e
     obtain ⟨g1,g2,g3⟩:=getM_some ho
     refine ⟨id,ep,i,off,o,_,rfl,g1,hc.1,rfl,fun h2 h3=>?_⟩
     have hg:getM h2 id ep=some o:=getM_mk h3 g2 g3
     unfold storeP
     rw [hs]
     simp only [hg,hel]
     rw [if_pos hc]
    ·cases e
   ·cases e
  ·cases e
 ·cases e
theorem bs_ext {C:Cfg} {run:Run} {op:Op} {ρ:Nat→PV} {h h':AHeap} {r:PV} (hb:isBs op=true) (e:opVal C run 2 op ρ h=some (r,h')):Ext h h':=by
 cases op <;> simp [isBs] at hb
 simp only [opVal,stepOp,buildSliceP] at e
 repeat' split at e
 all_goals first
  | (cases e;done)
  | (obtain ⟨rfl,rfl⟩:=Prod.mk.inj (Option.some.inj e);first | exact Ext.refl _ | exact ⟨_,rfl⟩)
structure LexK (C:Cfg) (run:Run) (ops:Array Oper) (h0:AHeap) (tr:Nat→St):Prop where
 ok:drawOk ops=true
 st:∀ (i:Nat) (o:Oper),ops[i]?=some o→opStepK C run ops (before ops) h0 i o (tr i)=some (tr (i+1))
 h0:h0=(tr 0).h
 sk:sinkOk ops (before ops) (tr ops.size).ρ=true
def RanK (P:Program) (ops:Array Oper) (tr:Nat→St) (j:Nat):Prop:=∃ o,ops[j]?=some o∧heapy o.op=true∧isRdK o.op=false∧(isBs o.op=true→stepOp P 1 o.op (tr j).ρ (tr j).h=none)∧wantedA ops o (tr j).ρ=some true
variable {C:Cfg} {run:Run} {ops:Array Oper} {h0:AHeap} {tr:Nat→St}
theorem LexK.view (L:LexK C run ops h0 tr) {k:Nat} {o:Oper} (ho:ops[k]?=some o):StepK C run ops h0 k o (tr k) (tr (k+1)):=stepK (L.st k o ho)
theorem LexK.rho (L:LexK C run ops h0 tr) {k:Nat} {o:Oper} (ho:ops[k]?=some o):∃ r,(tr (k+1)).ρ=updO (tr k).ρ o.dst r:=by
 cases L.view ho with
 | off _ hy=>exact ⟨_,by rw [hy]⟩
 | plain r hx _ _ _ hy=>exact ⟨_,by rw [hy]⟩
 | rd r hx _ _ _ _ hy=>exact ⟨_,by rw [hy]⟩
 | made r hx _ _ _ hy=>exact ⟨_,by rw [hy]⟩
 | two r h' _ _ _ _ _ _ _ hy=>exact ⟨_,by rw [hy]⟩
theorem LexK.rho_keep (L:LexK C run ops h0 tr) {t:Nat} {i:Nat}:∀ k,i≤k→k≤ops.size→(∀ j o,i≤j→j<k→ops[j]?=some o→o.dst≠some t)→(tr k).ρ t=(tr i).ρ t:=by
 intro k
 induction k with
 | zero=>intro h1 _ _;obtain rfl:i=0:=(by omega);rfl
 | succ k ih=>
  intro h1 h2 h3
  by_cases hi:i=k+1
  ·subst hi;rfl
  ·obtain ⟨o,ho⟩:=op_at (ops:=ops) (k:=k) (by omega)
   obtain ⟨r,hr⟩:=L.rho ho
   rw [hr,updO_at,if_neg (h3 k o (by omega) (by omega) ho)]
   exact ih (by omega) (by omega) (fun j o' a b c=>h3 j o' a (by omega) c)
theorem LexK.keep (L:LexK C run ops h0 tr) {k:Nat} (hk:k<ops.size) (hn:¬ RanK C.P ops tr k):(tr (k+1)).h=(tr k).h:=by
 obtain ⟨o,ho⟩:=op_at (ops:=ops) hk
 cases L.view ho with
 | off _ hy=>rw [hy]
 | plain r hx _ _ _ hy=>rw [hy]
 | rd r hx _ _ _ _ hy=>rw [hy]
 | made r hx _ _ _ hy=>rw [hy]
 | two r h' hw hh hl hb _ _ _ hy=>exact absurd ⟨o,ho,hh,hl,hb,hw⟩ hn
theorem LexK.wr (L:LexK C run ops h0 tr) {k:Nat} {o:Oper} (ho:ops[k]?=some o) (hr:RanK C.P ops tr k):heapy o.op=true∧isRdK o.op=false∧levelK ops (before ops) k (isBs o.op)=true ∧
  ∃ r h',opVal C run 2 o.op (tr k).ρ (tr k).h=some (r,h')∧(tr k).h.length≤h'.length∧tr (k+1)=⟨updO (tr k).ρ o.dst r,keepL (tr k).h h'⟩:=by
 obtain ⟨o',e,h1,h2,h3,h4⟩:=hr
 rw [ho] at e
 obtain rfl:=Option.some.inj e
 cases L.view ho with
 | off hw' _=>rw [hw'] at h4;cases h4
 | plain r2 hx _ hh' _ _=>rw [hh'] at h1;cases h1
 | rd r2 hx _ hl' _ _ _=>rw [hl'] at h2;cases h2
 | made r2 hx _ hb' hv' _=>rw [h3 hb'] at hv';cases hv'
 | two r h' _ _ _ _ hk hv hle hy=>exact ⟨h1,h2,hk,r,h',hv,hle,hy⟩
theorem LexK.grow (L:LexK C run ops h0 tr) {k:Nat} (hk:k<ops.size):(tr k).h.length≤(tr (k+1)).h.length:=by
 obtain ⟨o,ho⟩:=op_at (ops:=ops) hk
 by_cases hr:RanK C.P ops tr k
 ·obtain ⟨_,_,_,r,h',_,hle,hy⟩:=L.wr ho hr
  rw [hy,keepL_len hle];exact hle
 ·rw [L.keep hk hr];exact Nat.le_refl _
theorem LexK.old (L:LexK C run ops h0 tr) {id:Nat} {o:AObj} (h1:h0[id]?=some o) (h2:o.mu≠.m):∀ k,k≤ops.size→(tr k).h[id]?=some o:=by
 intro k
 induction k with
 | zero=>intro _;rw [← L.h0];exact h1
 | succ k ih=>
  intro hk
  have ih:=ih (by omega)
  obtain ⟨q,hq⟩:=op_at (ops:=ops) (k:=k) (by omega)
  by_cases hr:RanK C.P ops tr k
  ·obtain ⟨_,_,_,r,h',_,hle,hy⟩:=L.wr hq hr
   rw [hy]
   rw [keepL_lt hle ih,if_neg h2]
  ·rw [L.keep (by omega) hr];exact ih
theorem LexK.ord (L:LexK C run ops h0 tr) {i j:Nat} (hi:RanK C.P ops tr i) (hj:RanK C.P ops tr j):(j=i∨Anc ops i j∨Anc ops j i)∨((sinks ops (before ops)).isSome=true∧ops.size≤i+2∧ops.size≤j+2):=by
 obtain ⟨oi,ei,_⟩:=id hi
 obtain ⟨oj,ej,_⟩:=id hj
 obtain ⟨a1,a2,a3,_⟩:=L.wr ei hi
 obtain ⟨b1,b2,b3,_⟩:=L.wr ej hj
 by_cases hb:isBs oj.op=true
 ·rcases levelK_spec b3 ei a1 a2 (.inl hb) with h | h
  ·exact .inl (by rcases h with h | h | h;exact .inl h.symm;exact .inr (.inr h);exact .inr (.inl h))
  ·exact .inr ⟨h.1,h.2.2,h.2.1⟩
 ·exact levelK_spec a3 ej b1 b2 (.inr (by simpa using hb))
structure SD (C:Cfg) (run:Run) (ops:Array Oper) (tr:Nat→St) (q1 q2:Oper) (id1 id2:Nat) (a1 a2 a1' a2':AObj) (x y:Operand):Prop where
 n2:2≤ops.size
 s:sinks ops (before ops)=some (x,y)
 e1:ops[ops.size - 2]?=some q1
 e2:ops[ops.size - 1]?=some q2
 d1:q1.dst=none
 d2:q2.dst=none
 r1:RanK C.P ops tr (ops.size - 2)
 r2:RanK C.P ops tr (ops.size - 1)
 ne:id1≠id2
 g1:(tr (ops.size - 2)).h[id1]?=some a1
 g2:(tr (ops.size - 2)).h[id2]?=some a2
 m2:a2.mu=.m
 x1:∃ ep i off,ev (tr (ops.size - 2)).ρ x=.ptr id1 ep i off
 x2:∃ ep i off,ev (tr (ops.size - 2)).ρ y=.ptr id2 ep i off
 h1:(tr (ops.size - 1)).h=(tr (ops.size - 2)).h.set id1 a1'
 h2:(tr ops.size).h=((tr (ops.size - 2)).h.set id1 a1').set id2 a2'
 p1:(tr (ops.size - 1)).ρ=(tr (ops.size - 2)).ρ
 p2:(tr ops.size).ρ=(tr (ops.size - 2)).ρ
 v1:∀ (ρ:Nat→PV) (h:AHeap),(∀ z∈q1.op.operands.toList,ev ρ z=ev (tr (ops.size - 2)).ρ z)→h[id1]?=some a1→opVal C run 2 q1.op ρ h=some (.undef,h.set id1 a1')
 v2:∀ (ρ:Nat→PV) (h:AHeap),(∀ z∈q2.op.operands.toList,ev ρ z=ev (tr (ops.size - 2)).ρ z)→h[id2]?=some a2→opVal C run 2 q2.op ρ h=some (.undef,h.set id2 a2')
theorem sinkA_inv {o:Oper} {a:Operand} (h:sinkA o=some a):o.dst=none∧o.guard=none∧∃ t v,o.op=.store t a v:=by
 unfold sinkA at h
 split at h
 ·rename_i h1 h2 h3
  obtain rfl:=Option.some.inj h
  exact ⟨h2,h3,_,_,h1⟩
 ·cases h
theorem LexK.sd (L:LexK C run ops h0 tr) {x y:Operand} (hs:sinks ops (before ops)=some (x,y)):∃ q1 q2 id1 id2 a1 a2 a1' a2',SD C run ops tr q1 q2 id1 id2 a1 a2 a1' a2' x y:=by
 have hs0:=hs
 unfold sinks at hs
 split at hs
 ·rename_i hc
  split at hs
  ·rename_i x' y' hx hy
   obtain ⟨rfl,rfl⟩:=Prod.mk.inj (Option.some.inj hs)
   obtain ⟨q1,e1,k1⟩:=Option.bind_eq_some_iff.1 hx
   obtain ⟨q2,e2,k2⟩:=Option.bind_eq_some_iff.1 hy
   rw [Array.getElem?_toList] at e1 e2
   obtain ⟨d1,g1,t1,v1,o1⟩:=sinkA_inv k1
   obtain ⟨d2,g2,t2,v2,o2⟩:=sinkA_inv k2
   have r1:RanK C.P ops tr (ops.size - 2):=⟨q1,e1,by rw [o1];rfl,by rw [o1];rfl,(fun h=>by rw [o1] at h;cases h),by simp [wantedA,g1]⟩
   have r2:RanK C.P ops tr (ops.size - 1):=⟨q2,e2,by rw [o2];rfl,by rw [o2];rfl,(fun h=>by rw [o2] at h;cases h),by simp [wantedA,g2]⟩
   obtain ⟨_,_,_,w1,h1,f1,l1,y1⟩:=L.wr e1 r1
   obtain ⟨_,_,_,w2,h2,f2,l2,y2⟩:=L.wr e2 r2
   have n12:ops.size - 2+1=ops.size - 1:=by omega
   have n2:ops.size - 1+1=ops.size:=by omega
   rw [n12] at y1
   rw [n2] at y2
   rw [o1] at f1
   rw [o2] at f2
   simp only [opVal,stepOp,Nat.le_refl,if_true] at f1 f2
   obtain ⟨s1,f3,f1'⟩:=Option.map_eq_some_iff.1 f1
   obtain ⟨s2,f4,f2'⟩:=Option.map_eq_some_iff.1 f2
   obtain ⟨rfl,rfl⟩:=Prod.mk.inj f1'
   obtain ⟨rfl,rfl⟩:=Prod.mk.inj f2'
   obtain ⟨id1,ep1,i1,off1,a1,a1',p1,b1,m1,c1,z1⟩:=storeP_inv f3
   obtain ⟨id2,ep2,i2,off2,a2,a2',p2,b2,m2,c2,z2⟩:=storeP_inv f4
   have hρ1:(tr (ops.size - 1)).ρ=(tr (ops.size - 2)).ρ:=by rw [y1,d1];rfl
   have hρ2:(tr ops.size).ρ=(tr (ops.size - 2)).ρ:=by rw [y2,d2];exact hρ1
   have hh1:(tr (ops.size - 1)).h=(tr (ops.size - 2)).h.set id1 a1':=by rw [y1,c1];exact keepL_set b1 m1
   have hne:id1≠id2:=by
    have:=L.sk
    unfold sinkOk at this
    rw [hs0] at this
    simp only [hρ2] at this
    rw [hρ1] at p2
    rw [p1,p2] at this
    simpa using this
   have hb2:(tr (ops.size - 2)).h[id2]?=some a2:=by
    rw [hh1,List.getElem?_set_ne hne] at b2;exact b2
   have hh2:(tr ops.size).h=((tr (ops.size - 2)).h.set id1 a1').set id2 a2':=by
    rw [y2,c2]
    simp only
    rw [keepL_set b2 m2,hh1]
   refine ⟨q1,q2,id1,id2,a1,a2,a1',a2',⟨hc.1,hs0,e1,e2,d1,d2,r1,r2,hne,b1,hb2,m2,⟨_,_,_,p1⟩,⟨_,_,_,by rw [← hρ1];exact p2⟩,hh1,hh2,hρ1,hρ2,?_,?_⟩⟩
   ·intro ρ h hz hb
    rw [o1] at hz ⊢
    simp only [Op.operands] at hz
    have za:=hz x' (by simp)
    have zv:=hz v1 (by simp)
    simp only [opVal,stepOp,Nat.le_refl,if_true,za,zv]
    rw [z1 h hb];rfl
   ·intro ρ h hz hb
    rw [o2] at hz ⊢
    simp only [Op.operands] at hz
    have za:=hz y' (by simp)
    have zv:=hz v2 (by simp)
    simp only [opVal,stepOp,Nat.le_refl,if_true,za,zv]
    rw [← hρ1,z2 h hb];rfl
  ·cases hs
 ·cases hs
def RH (ops:Array Oper) (tr:Nat→St) (E:Nat→Bool) (ρ:Nat→PV):Prop:=∀ t k',k'≤ops.size→(∀ j o,ops[j]?=some o→o.dst=some t→(E j=true↔j<k'))→ρ t=(tr k').ρ t
structure DAtK (C:Cfg) (ops:Array Oper) (tr:Nat→St) (N:Nat) (F:Nat→Prop) (w0:World) (h0:AHeap) (β0:List (Nat × Nat)) (E:Nat→Bool) (a:Act) (w:World) (k:Nat) (ρ:Nat→PV) (β:List (Nat × Nat)):Prop where
 kn:k≤ops.size
 lo:∀ j,RanK C.P ops tr j→E j=true→j<k
 hi:∀ j,RanK C.P ops tr j→j<k→E j=true
 hr:HRel w F β (tr k).h
 er:ERel w (Av F (tr k).h β) β (tr k).h a ρ
 rh:RH ops tr E ρ
 sp:Stp w0 h0 β0 w (tr k).h β
 df:a.defers=[]
 sz:N≤a.tmps.size
structure DAtB (C:Cfg) (run:Run) (ops:Array Oper) (tr:Nat→St) (N:Nat) (F:Nat→Prop) (w0:World) (h0:AHeap) (β0:List (Nat × Nat)) (E:Nat→Bool) (a:Act) (w:World) (q1 q2:Oper) (id1 id2:Nat) (a1 a2 a1' a2':AObj) (x y:Operand) (ρ:Nat→PV) (β:List (Nat × Nat)):Prop where
 sd:SD C run ops tr q1 q2 id1 id2 a1 a2 a1' a2' x y
 s1:E (ops.size - 2)=false
 al:∀ j,RanK C.P ops tr j→j≠ops.size - 2→E j=true
 hr:HRel w F β ((tr (ops.size - 2)).h.set id2 a2')
 er:ERel w (Av F ((tr (ops.size - 2)).h.set id2 a2') β) β ((tr (ops.size - 2)).h.set id2 a2') a ρ
 rh:RH ops tr E ρ
 sp:Stp w0 h0 β0 w ((tr (ops.size - 2)).h.set id2 a2') β
 df:a.defers=[]
 sz:N≤a.tmps.size
variable {N:Nat} {F:Nat→Prop} {w0:World} {hh0:AHeap} {β0:List (Nat × Nat)} {E E':Nat→Bool} {a:Act} {w:World}
def DInvK (C:Cfg) (run:Run) (ops:Array Oper) (tr:Nat→St) (N:Nat) (F:Nat→Prop) (w0:World) (h0:AHeap) (β0:List (Nat × Nat)) (E:Nat→Bool) (a:Act) (w:World):Prop:=
 (∃ k ρ β,DAtK C ops tr N F w0 h0 β0 E a w k ρ β)∨(∃ q1 q2 id1 id2 a1 a2 a1' a2' x y ρ β,DAtB C run ops tr N F w0 h0 β0 E a w q1 q2 id1 id2 a1 a2 a1' a2' x y ρ β)
theorem DAtK.adv (L:LexK C run ops h0 tr) {ρ:Nat→PV} {β:List (Nat × Nat)}:∀ (d:Nat) {k:Nat},DAtK C ops tr N F w0 hh0 β0 E a w k ρ β→k+d≤ops.size→(∀ j,k≤j→j<k+d→¬ RanK C.P ops tr j)→DAtK C ops tr N F w0 hh0 β0 E a w (k+d) ρ β
 | 0,k,D,_,_=>D
 | d+1,k,D,h1,h2=>by
  have hk:=L.keep (k:=k) (by omega) (h2 k (Nat.le_refl _) (by omega))
  have D1:DAtK C ops tr N F w0 hh0 β0 E a w (k+1) ρ β:=by
   refine ⟨by omega,fun j g1 g2=>by have:=D.lo j g1 g2;omega,fun j g1 g2=>?_,by rw [hk];exact D.hr,by rw [hk];exact D.er,D.rh,by rw [hk];exact D.sp,D.df,D.sz⟩
   by_cases hj:j=k
   ·subst hj;exact absurd g1 (h2 j (Nat.le_refl _) (by omega))
   ·exact D.hi j g1 (by omega)
  have:=DAtK.adv L d D1 (by omega) (fun j g1 g2=>h2 j (by omega) (by omega))
  rw [show k+(d+1)=k+1+d by omega]
  exact this
theorem RH.look (L:LexK C run ops h0 tr) {ρ:Nat→PV} (D:RH ops tr E ρ) {i:Nat} {o:Oper} (R:Rdy ops E E' i o) {t:Nat} (ht:t∈o.looksAt ops):ρ t=(tr i).ρ t:=by
 have hi:i<ops.size:=(Array.getElem?_eq_some_iff.1 R.at_).1
 refine D t i (by omega) (fun j o' hj hd=>?_)
 rcases Nat.lt_trichotomy j i with h | h | h
 ·exact ⟨fun _=>h,fun _=>R.anc j ((drawOk_spec L.ok).2 i j o o' R.at_ hj h (.inl (hits_dst hd (.inl ht))))⟩
 ·subst h;rw [R.out];simp
 ·have:=R.later ((drawOk_spec L.ok).2 j i o' o hj R.at_ h (.inr (hits_dst hd (.inl ht))))
  rw [this]
  constructor
  ·intro hh;cases hh
  ·intro hh;omega
theorem RH.evs (L:LexK C run ops h0 tr) {ρ:Nat→PV} (D:RH ops tr E ρ) {i:Nat} {o:Oper} (R:Rdy ops E E' i o):∀ x∈o.op.operands.toList,ev ρ x=ev (tr i).ρ x:=by
 intro x hx
 cases x with
 | tmp t=>exact D.look L R (List.mem_append_left _ (List.mem_filterMap.2 ⟨.tmp t,hx,rfl⟩))
 | _=>rfl
theorem RH.wants (L:LexK C run ops h0 tr) {ρ:Nat→PV} (D:RH ops tr E ρ) {i:Nat} {o:Oper} (R:Rdy ops E E' i o):wantedA ops o ρ=wantedA ops o (tr i).ρ:=by
 unfold wantedA
 cases hg:o.guard with
 | none=>rfl
 | some jw=>
  obtain ⟨j,want⟩:=jw
  simp only
  cases hd:(ops.toList[j]?).bind (·.dst) with
  | none=>rfl
  | some d=>
   have hd':(ops[j]?).bind (·.dst)=some d:=by simpa using hd
   have:ρ d=(tr i).ρ d:=D.look L R (List.mem_append_right _ (by simp [hg,hd']))
   simp only [this]
theorem RH.on (L:LexK C run ops h0 tr) {ρ:Nat→PV} (D:RH ops tr E ρ) {i:Nat} {o:Oper} (R:Rdy ops E E' i o) {r:PV} (hr:(tr (i+1)).ρ=updO (tr i).ρ o.dst r):RH ops tr E' (updO ρ o.dst r):=by
 intro t k' hk hw
 rw [updO_at]
 split
 ·rename_i ht
  have hik:i<k':=(hw i o R.at_ ht).1 ((R.upd i).2 (.inr rfl))
  rw [L.rho_keep (t:=t) (i:=i+1) k' hik hk (fun j o' h1 h2 h3 h4=>?_),hr,updO_at,if_pos ht]
  have he:=(hw j o' h3 h4).2 h2
  rcases (R.upd j).1 he with he | he
  ·rw [R.later ((drawOk_spec L.ok).2 j i o' o h3 R.at_ (by omega) (.inl (hits_dst ht (.inr h4))))] at he
   cases he
  ·omega
 ·rename_i ht
  refine D t k' hk (fun j o' h1 h2=>?_)
  have hji:j≠i:=by
   rintro rfl
   rw [R.at_] at h1
   obtain rfl:=Option.some.inj h1
   exact ht h2
  rw [← hw j o' h1 h2,R.upd]
  simp [hji]
theorem LexK.same1 (L:LexK C run ops h0 tr) {m id:Nat} {o:Oper} (ho:ops[m]?=some o) (hr:RanK C.P ops tr m) (hb:isBs o.op=true) (hid:id<(tr m).h.length):(tr (m+1)).h[id]?=(tr m).h[id]?:=by
 obtain ⟨_,_,_,r,h',hv,hle,hy⟩:=L.wr ho hr
 obtain ⟨ext,rfl⟩:=bs_ext hb hv
 rw [hy]
 obtain ⟨ob,hob⟩:=at_of_lt (l:=(tr m).h) (i:=id) hid
 simp only
 rw [keepL_lt hle hob]
 split
 ·rw [List.getElem?_append_left hid]
 ·exact hob.symm
theorem LexK.target (L:LexK C run ops h0 tr) {i id j:Nat} {x:Operand} (ho:offT ops (tr i).ρ x id=true) (hi:i≤ops.size - 2) (hx:∃ ep k off,ev (tr (ops.size - 2)).ρ x=.ptr j ep k off):j≠id:=by
 obtain ⟨ep,k,off,hx⟩:=hx
 unfold offT at ho
 simp only [Bool.and_eq_true] at ho
 have he:ev (tr (ops.size - 2)).ρ x=ev (tr i).ρ x:=by
  cases x with
  | tmp t=>
   refine L.rho_keep (t:=t) (i:=i) _ hi (by omega) (fun m o _ _ hm hd=>?_)
   have h1:=ho.1
   simp only [Bool.not_eq_true',List.any_eq_false] at h1
   exact h1 o (Array.mem_toList_iff.2 (Array.mem_of_getElem? hm)) (by simp [hd])
  | _=>rfl
 rw [← he,hx] at ho
 simpa using ho.2
theorem still_of {h0:AHeap} {id:Nat} (h:stillI h0 id=true):∃ o,h0[id]?=some o∧o.mu≠.m:=by
 unfold stillI at h
 split at h
 ·rename_i o ho;exact ⟨o,ho,by simpa using h⟩
 ·cases h
theorem LexK.off1 (L:LexK C run ops h0 tr) {i m id:Nat} {o:Oper} (R:Rdy ops E E' i o) (hrd:isRdK o.op=true) (hl:levelR ops (before ops) i=true) (hok:rdOk ops (before ops) i (tr i).ρ id=true) (hm:m<ops.size) (hid:id<(tr m).h.length)
  (hE:RanK C.P ops tr m→(m<i∧E m=false)∨(i≤m∧E m=true)):(tr (m+1)).h[id]?=(tr m).h[id]?:=by
 by_cases hr:RanK C.P ops tr m
 ·obtain ⟨om,hom⟩:=op_at (ops:=ops) hm
  by_cases hb:isBs om.op=true
  ·exact L.same1 hom hr hb hid
  ·obtain ⟨w1,w2,_⟩:=L.wr hom hr
   have no:¬ (m=i∨Anc ops i m∨Anc ops m i):=by
    rintro (h | h | h)
    ·subst h
     rw [R.at_] at hom
     obtain rfl:=Option.some.inj hom
     rw [hrd] at w2;cases w2
    ·have h1:=R.anc m h
     have h2:=anc_lt L.ok i m h
     rcases hE hr with ⟨_,h3⟩ | ⟨h3,_⟩
     ·rw [h1] at h3;cases h3
     ·omega
    ·have h1:=R.later h
     have h2:=anc_lt L.ok m i h
     rcases hE hr with ⟨h3,_⟩ | ⟨_,h3⟩
     ·omega
     ·rw [h1] at h3;cases h3
   rcases levelR_spec hl hom w1 w2 (by simpa using hb) with h | ⟨hs,hn⟩
   ·exact absurd h no
   ·obtain ⟨⟨x,y⟩,hs⟩:=Option.isSome_iff_exists.1 hs
    obtain ⟨q1,q2,id1,id2,a1,a2,a1',a2',S⟩:=L.sd hs
    have n2:=S.n2
    unfold rdOk at hok
    rw [hs] at hok
    simp only [Bool.and_eq_true,Bool.or_eq_true] at hok
    have hlt:=(Array.getElem?_eq_some_iff.1 R.at_).1
    have hi2:i≤ops.size - 2:=by
     rcases Nat.lt_or_ge (ops.size - 2) i with h | h
     ·have:i=ops.size - 1:=by omega
      subst this
      have h3:=R.at_
      rw [S.e2] at h3
      obtain rfl:=Option.some.inj h3
      have:=(L.wr S.e2 S.r2).2.1
      rw [hrd] at this;cases this
     ·exact h
    have hm2:m=ops.size - 2∨m=ops.size - 1:=by omega
    rcases hm2 with rfl | rfl
    ·have hoff:=hok.1.resolve_left (fun hc=>no (cmpB_inv hc))
     have hne:=L.target hoff hi2 S.x1
     rw [show ops.size - 2+1=ops.size - 1 by omega,S.h1,List.getElem?_set_ne hne]
    ·have hoff:=hok.2.resolve_left (fun hc=>no (cmpB_inv hc))
     have hne:=L.target hoff hi2 S.x2
     rw [show ops.size - 1+1=ops.size by omega,S.h2,S.h1,List.getElem?_set_ne hne]
 ·rw [L.keep hm hr]
theorem DAtK.agree (L:LexK C run ops h0 tr) {k:Nat} {ρ:Nat→PV} {β:List (Nat × Nat)} (D:DAtK C ops tr N F w0 hh0 β0 E a w k ρ β) {i id:Nat} {o:Oper} (R:Rdy ops E E' i o) (hrd:isRdK o.op=true) (h1:id<(tr k).h.length) (h2:id<(tr i).h.length)
  (hc:stillI h0 id=true∨(levelR ops (before ops) i=true∧rdOk ops (before ops) i (tr i).ρ id=true)):(tr k).h[id]?=(tr i).h[id]?:=by
 have hi:i<ops.size:=(Array.getElem?_eq_some_iff.1 R.at_).1
 have hkn:=D.kn
 rcases hc with hc | ⟨hl,hok⟩
 ·obtain ⟨ob,b1,b2⟩:=still_of hc
  rw [L.old b1 b2 k D.kn,L.old b1 b2 i (by omega)]
 ·rcases Nat.le_total k i with hki | hik
  ·have key:∀ m,k≤m→m≤i→id<(tr m).h.length∧(tr m).h[id]?=(tr k).h[id]?:=by
    intro m
    induction m with
    | zero=>intro a1 _;obtain rfl:k=0:=(by omega);exact ⟨h1,rfl⟩
    | succ m ih=>
     intro a1 a2
     by_cases hk:k=m+1
     ·subst hk;exact ⟨h1,rfl⟩
     ·obtain ⟨i1,i2⟩:=ih (by omega) (by omega)
      refine ⟨Nat.lt_of_lt_of_le i1 (L.grow (by omega)),(L.off1 R hrd hl hok (by omega) i1 (fun hr=>.inl ⟨by omega,?_⟩)).trans i2⟩
      cases he:E m with
      | false=>rfl
      | true=>have:=D.lo m hr he;omega
   exact (key i hki (Nat.le_refl _)).2.symm
  ·have key:∀ m,i≤m→m≤k→id<(tr m).h.length∧(tr m).h[id]?=(tr i).h[id]?:=by
    intro m
    induction m with
    | zero=>intro a1 _;obtain rfl:i=0:=(by omega);exact ⟨h2,rfl⟩
    | succ m ih=>
     intro a1 a2
     by_cases hk:i=m+1
     ·subst hk;exact ⟨h2,rfl⟩
     ·obtain ⟨i1,i2⟩:=ih (by omega) (by omega)
      exact ⟨Nat.lt_of_lt_of_le i1 (L.grow (by omega)),(L.off1 R hrd hl hok (by omega) i1 (fun hr=>.inr ⟨by omega,D.hi m hr (by omega)⟩)).trans i2⟩
   exact (key k hik (Nat.le_refl _)).2
theorem DAtB.agree (L:LexK C run ops h0 tr) {q1 q2:Oper} {id1 id2:Nat} {a1 a2 a1' a2':AObj} {x y:Operand} {ρ:Nat→PV} {β:List (Nat × Nat)} (D:DAtB C run ops tr N F w0 hh0 β0 E a w q1 q2 id1 id2 a1 a2 a1' a2' x y ρ β) {i id:Nat} {o:Oper} (R:Rdy ops E E' i o) (hrd:isRdK o.op=true) (h2:id<(tr i).h.length)
  (hc:stillI h0 id=true∨(levelR ops (before ops) i=true∧rdOk ops (before ops) i (tr i).ρ id=true)):((tr (ops.size - 2)).h.set id2 a2')[id]?=(tr i).h[id]?:=by
 have hi:i<ops.size:=(Array.getElem?_eq_some_iff.1 R.at_).1
 have S:=D.sd
 have n2:=S.n2
 have rdNot:∀ (j:Nat) (q:Oper),ops[j]?=some q→RanK C.P ops tr j→i≠j:=by
  rintro j q hq hr rfl
  have:=(L.wr hq hr).2.1
  rw [R.at_] at hq
  obtain rfl:=Option.some.inj hq
  rw [hrd] at this;cases this
 have g1:=rdNot _ _ S.e1 S.r1
 have g2:=rdNot _ _ S.e2 S.r2
 have hin:i<ops.size - 2:=by omega
 rcases hc with hc | ⟨hl,hok⟩
 ·obtain ⟨ob,b1,b2⟩:=still_of hc
  have e1:=L.old b1 b2 (ops.size - 2) (by omega)
  have hne:id2≠id:=by
   rintro rfl
   rw [S.g2] at e1
   obtain rfl:=Option.some.inj e1
   exact b2 S.m2
  rw [List.getElem?_set_ne hne,e1,L.old b1 b2 i (by omega)]
 ·have key:∀ m,i≤m→m≤ops.size - 2→id<(tr m).h.length∧(tr m).h[id]?=(tr i).h[id]?:=by
   intro m
   induction m with
   | zero=>intro a1 _;obtain rfl:i=0:=(by omega);exact ⟨h2,rfl⟩
   | succ m ih=>
    intro a1 a2
    by_cases hk:i=m+1
    ·subst hk;exact ⟨h2,rfl⟩
    ·obtain ⟨i1,i2⟩:=ih (by omega) (by omega)
     exact ⟨Nat.lt_of_lt_of_le i1 (L.grow (by omega)),(L.off1 R hrd hl hok (by omega) i1 (fun hr=>.inr ⟨by omega,D.al m hr (by omega)⟩)).trans i2⟩
  have hoff:offT ops (tr i).ρ y id=true:=by
   unfold rdOk at hok
   rw [S.s] at hok
   simp only [Bool.and_eq_true,Bool.or_eq_true] at hok
   refine hok.2.resolve_left (fun hcm=>?_)
   have hE2:=D.al _ S.r2 (by omega)
   rcases cmpB_inv hcm with h | h | h
   ·omega
   ·have:=anc_lt L.ok _ _ h;omega
   ·have:=R.later h;rw [hE2] at this;cases this
  have hne:=L.target hoff (by omega) S.x2
  rw [List.getElem?_set_ne hne]
  exact (key (ops.size - 2) (by omega) (Nat.le_refl _)).2
theorem opVal_step1 {C:Cfg} {run:Run} {lv:Nat} {op:Op} {ρ:Nat→PV} {h:AHeap} (hb:isRdK op=true∨isBs op=true):opVal C run lv op ρ h=stepOp C.P lv op ρ h:=by
 cases op <;> first | rfl | (rcases hb with hb | hb <;> simp [isRdK,isBs] at hb)
theorem DInvK.step (K:CfgOk C) (S:RunsOk C run) (L:LexK C run ops h0 tr) (D:DInvK C run ops tr N F w0 hh0 β0 E a w) {i:Nat} {o:Oper} (R:Rdy ops E E' i o) (hd:dstOk N o=true)
  {Q:Exit→Act→World→Prop} {next:Act→World→Prop} (hK:∀ a' w',DInvK C run ops tr N F w0 hh0 β0 E' a' w'→next a' w'):wpOp C.P ops Q i next a w:=by
 have hi:i<ops.size:=(Array.getElem?_eq_some_iff.1 R.at_).1
 unfold wpOp
 rw [R.at_]
 simp only
 have noRan:(heapy o.op=true→isRdK o.op=false→(isBs o.op=true→stepOp C.P 1 o.op (tr i).ρ (tr i).h=none)→wantedA ops o (tr i).ρ=some true→False)→¬ RanK C.P ops tr i:=by
  rintro hh ⟨o',h1,h2,h3,h4,h5⟩
  rw [R.at_] at h1
  obtain rfl:=Option.some.inj h1
  exact hh h2 h3 h4 h5
 have eq':∀ j,j≠i→E' j=E j:=fun j hj=>by
  have:=R.upd j
  simp only [hj,or_false] at this
  cases h1:E j <;> cases h2:E' j <;> simp_all
 rcases D with ⟨k,ρ,β,D⟩ | ⟨q1,q2,id1,id2,a1,a2,a1',a2',x,y,ρ,β,D⟩
 ·have hwant:=D.rh.wants L R
  have hevs:=D.rh.evs L R
  have hval:∀ lv h,opVal C run lv o.op ρ h=opVal C run lv o.op (tr i).ρ h:=fun lv h=>opVal_congr hevs
  have stay:∀ {r:PV} {v:Value} {w':World} {β':List (Nat × Nat)},¬ RanK C.P ops tr i→(tr (i+1)).ρ=updO (tr i).ρ o.dst r→VRel w' (Av F (tr k).h β') β' (tr k).h v r→HRel w' F β' (tr k).h→Stp w (tr k).h β w' (tr k).h β'→next (a.put o.dst v) w':=by
   intro r v w' β' hn hr q1 q2 q3
   refine hK _ _ (.inl ⟨k,updO ρ o.dst r,β',D.kn,?_,?_,q2,(D.er.mono q3).put (dstOk_lt hd D.sz) q1,D.rh.on L R hr,D.sp.trans q3,by rw [put_defers'];exact D.df,by rw [put_size];exact D.sz⟩)
   ·intro j h1 h2
    rcases (R.upd j).1 h2 with h2 | rfl
    ·exact D.lo j h1 h2
    ·exact absurd h1 hn
   ·intro j h1 h2
    exact (R.upd j).2 (.inl (D.hi j h1 h2))
  have quiet:∀ {r:PV},wantedA ops o (tr i).ρ=some true→¬ RanK C.P ops tr i→(tr (i+1)).ρ=updO (tr i).ρ o.dst r→opVal C run 1 o.op ρ (tr k).h=some (r,(tr k).h)→o.wp C.P a w next Q:=by
   intro r hw hn hr e
   exact opVal_wp K S D.hr D.er e (fun v w' β' q1 q2 q3 q4=>stay hn hr q1 q2 q3)
  cases L.view R.at_ with
  | off hw hy=>
   rw [wanted_sim D.er (by rw [hwant];exact hw),if_neg (by simp)]
   exact stay (noRan fun _ _ _ h3=>by rw [hw] at h3;cases h3) (by rw [hy]) .undef D.hr (Stp.refl _ _ _)
  | plain r hx hw hh hv hy=>
   rw [wanted_sim D.er (by rw [hwant];exact hw),if_pos rfl]
   exact .inl (quiet hw (noRan fun h2 _ _ _=>by rw [hh] at h2;cases h2) (by rw [hy]) (by rw [hval];exact opVal_plain hh hv))
  | rd r hx hw hl hc hv hy=>
   rw [wanted_sim D.er (by rw [hwant];exact hw),if_pos rfl]
   refine .inl (quiet hw (noRan fun _ h2 _ _=>by rw [hl] at h2;cases h2) (by rw [hy]) ?_)
   rw [hval,opVal_step1 (.inl hl)]
   refine (rd_same hl hv (fun id hid=>?_)).1
   have h2:=(rd_same hl hv (fun _ _=>rfl)).2 id hid
   have h1:id<(tr k).h.length:=by
    cases hop:o.op with
    | load t z=>
     rw [hop] at hid hevs
     simp only [rdId] at hid
     have hz:=hevs z (by simp [Op.operands])
     have hr:=D.er.ev z
     rw [hz] at hr
     cases hq:ev (tr i).ρ z with
     | ptr j ep k2 off=>rw [hq] at hid hr;obtain rfl:=Option.some.inj hid;exact hr.ptr_inv.1
     | _=>rw [hq] at hid;cases hid
    | indexAddr t z u=>
     rw [hop] at hid hevs
     simp only [rdId] at hid
     have hz:=hevs z (by simp [Op.operands])
     have hr:=D.er.ev z
     rw [hz] at hr
     cases hq:ev (tr i).ρ z with
     | mref j ep off len=>rw [hq] at hid hr;obtain rfl:=Option.some.inj hid;exact hr.mref_inv.1
     | _=>rw [hq] at hid;cases hid
    | _=>rw [hop] at hl;cases hl
   exact D.agree L R hl h1 h2 (hc id hid)
  | made r hx hw hb hv hy=>
   rw [wanted_sim D.er (by rw [hwant];exact hw),if_pos rfl]
   refine .inl (quiet hw (noRan fun _ _ h3 _=>by rw [h3 hb] at hv;cases hv) (by rw [hy]) ?_)
   rw [opVal_step1 (.inr hb)]
   exact step_made hb (fun h=>by rw [← opVal_step1 (C:=C) (run:=run) (.inr hb),← opVal_step1 (C:=C) (run:=run) (.inr hb)];exact hval 1 h) hv
  | two r h' hw hh hnl hnb hl hv hle hy=>
   rw [wanted_sim D.er (by rw [hwant];exact hw),if_pos rfl]
   refine .inl ?_
   have hran:RanK C.P ops tr i:=⟨o,R.at_,hh,hnl,hnb,hw⟩
   have hki:k≤i:=by
    rcases Nat.lt_or_ge i k with h | h
    ·have:=D.hi i hran h;rw [R.out] at this;cases this
    ·exact h
   have main:(∀ j,RanK C.P ops tr j→j<i→E j=true)→o.wp C.P a w next Q:=by
    intro anc_of
    have D1:=D.adv L (i - k) (by omega) (fun j h1 h2 h3=>by
     have:=D.lo j h3 (anc_of j h3 (by omega));omega)
    rw [show k+(i - k)=i by omega] at D1
    refine opVal_wp K S D1.hr D1.er (by rw [hval];exact hv) (fun v w' β' q1 q2 q3 q4=>hK _ _ (.inl ?_))
    have hK':(tr (i+1)).h=h':=by rw [hy];exact keepL_stp q3
    refine ⟨i+1,updO ρ o.dst r,β',by omega,?_,?_,by rw [hK'];exact q2,by rw [hK'];exact (D1.er.mono q3).put (dstOk_lt hd D.sz) q1,D.rh.on L R (by rw [hy]),by rw [hK'];exact D1.sp.trans q3,by rw [put_defers'];exact D.df,by rw [put_size];exact D.sz⟩
    ·intro j h1 h2
     rcases (R.upd j).1 h2 with h2 | rfl
     ·have:=D1.lo j h1 h2;omega
     ·omega
    ·intro j h1 h3
     by_cases hj:j=i
     ·exact (R.upd j).2 (.inr hj)
     ·exact (R.upd j).2 (.inl (anc_of j h1 (by omega)))
   have ordE:∀ j,RanK C.P ops tr j→j<i→¬ ((sinks ops (before ops)).isSome=true∧ops.size≤i+2∧ops.size≤j+2)→E j=true:=by
    intro j hj hlt hns
    rcases (L.ord hran hj).resolve_right hns with h | h | h
    ·omega
    ·exact R.anc j h
    ·have:=anc_lt L.ok j i h;omega
   by_cases hb:(sinks ops (before ops)).isSome=true∧i=ops.size - 1∧E (ops.size - 2)=false
   ·obtain ⟨hs,hin,hE1⟩:=hb
    obtain ⟨⟨x,y⟩,hs⟩:=Option.isSome_iff_exists.1 hs
    obtain ⟨q1,q2,id1,id2,a1,a2,a1',a2',SS⟩:=L.sd hs
    have n2:=SS.n2
    have before2:∀ j,RanK C.P ops tr j→j<ops.size - 2→E j=true:=fun j hj hlt=>ordE j hj (by omega) (fun hh=>by omega)
    have hk2:k≤ops.size - 2:=by
     rcases Nat.lt_or_ge (ops.size - 2) k with h | h
     ·have:=D.hi _ SS.r1 h;rw [hE1] at this;cases this
     ·exact h
    have D1:=D.adv L (ops.size - 2 - k) (by omega) (fun j h1 h2 h3=>by
     have:=D.lo j h3 (before2 j h3 (by omega));omega)
    rw [show k+(ops.size - 2 - k)=ops.size - 2 by omega] at D1
    have hoq:o=q2:=by
     have h3:=R.at_
     rw [hin,SS.e2] at h3
     exact (Option.some.inj h3).symm
    subst hoq
    have hop:∀ z∈o.op.operands.toList,ev ρ z=ev (tr (ops.size - 2)).ρ z:=fun z hz=>by
     rw [hevs z hz,hin]
     cases z with
     | tmp t=>exact congrFun SS.p1 t
     | _=>rfl
    refine opVal_wp K S D1.hr D1.er (SS.v2 ρ _ hop SS.g2) (fun v w' β' r1 r2 r3 r4=>hK _ _ (.inr ?_))
    refine ⟨q1,o,id1,id2,a1,a2,a1',a2',x,y,updO ρ o.dst .undef,β',SS,?_,?_,r2,(D1.er.mono r3).put (dstOk_lt hd D.sz) r1,D.rh.on L R (by rw [SS.d2,hin,show ops.size - 1+1=ops.size by omega,SS.p2,SS.p1];rfl),D1.sp.trans r3,by rw [put_defers'];exact D.df,by rw [put_size];exact D.sz⟩
    ·rw [eq' _ (by omega)];exact hE1
    ·intro j hj hne
     by_cases hji:j=i
     ·exact (R.upd j).2 (.inr hji)
     ·obtain ⟨oj,ej,_⟩:=id hj
      have:=(Array.getElem?_eq_some_iff.1 ej).1
      exact (R.upd j).2 (.inl (before2 j hj (by omega)))
   ·refine main (fun j hj hlt=>?_)
    by_cases hns:(sinks ops (before ops)).isSome=true∧ops.size≤i+2∧ops.size≤j+2
    ·have hin:i=ops.size - 1:=by omega
     have hjn:j=ops.size - 2:=by omega
     cases he:E j with
     | true=>rfl
     | false=>exact absurd ⟨hns.1,hin,by rw [← hjn];exact he⟩ hb
    ·exact ordE j hj hlt hns
 ·have hwant:=D.rh.wants L R
  have hevs:=D.rh.evs L R
  have hval:∀ lv h,opVal C run lv o.op ρ h=opVal C run lv o.op (tr i).ρ h:=fun lv h=>opVal_congr hevs
  have SS:=D.sd
  have n2:=SS.n2
  have stay:∀ {r:PV} {v:Value} {w':World} {β':List (Nat × Nat)},¬ RanK C.P ops tr i→(tr (i+1)).ρ=updO (tr i).ρ o.dst r→VRel w' (Av F ((tr (ops.size - 2)).h.set id2 a2') β') β' ((tr (ops.size - 2)).h.set id2 a2') v r→HRel w' F β' ((tr (ops.size - 2)).h.set id2 a2')→Stp w ((tr (ops.size - 2)).h.set id2 a2') β w' ((tr (ops.size - 2)).h.set id2 a2') β'→next (a.put o.dst v) w':=by
   intro r v w' β' hn hr r1 r2 r3
   refine hK _ _ (.inr ⟨q1,q2,id1,id2,a1,a2,a1',a2',x,y,updO ρ o.dst r,β',SS,?_,?_,r2,(D.er.mono r3).put (dstOk_lt hd D.sz) r1,D.rh.on L R hr,D.sp.trans r3,by rw [put_defers'];exact D.df,by rw [put_size];exact D.sz⟩)
   ·rw [eq' _ (by rintro h;rw [← h] at hn;exact hn SS.r1)];exact D.s1
   ·intro j hj hne
    exact (R.upd j).2 (.inl (D.al j hj hne))
  have quiet:∀ {r:PV},wantedA ops o (tr i).ρ=some true→¬ RanK C.P ops tr i→(tr (i+1)).ρ=updO (tr i).ρ o.dst r→opVal C run 1 o.op ρ ((tr (ops.size - 2)).h.set id2 a2')=some (r,(tr (ops.size - 2)).h.set id2 a2')→o.wp C.P a w next Q:=by
   intro r hw hn hr e
   exact opVal_wp K S D.hr D.er e (fun v w' β' r1 r2 r3 r4=>stay hn hr r1 r2 r3)
  cases L.view R.at_ with
  | off hw hy=>
   rw [wanted_sim D.er (by rw [hwant];exact hw),if_neg (by simp)]
   exact stay (noRan fun _ _ _ h3=>by rw [hw] at h3;cases h3) (by rw [hy]) .undef D.hr (Stp.refl _ _ _)
  | plain r hx hw hh hv hy=>
   rw [wanted_sim D.er (by rw [hwant];exact hw),if_pos rfl]
   exact .inl (quiet hw (noRan fun h2 _ _ _=>by rw [hh] at h2;cases h2) (by rw [hy]) (by rw [hval];exact opVal_plain hh hv))
  | rd r hx hw hl hc hv hy=>
   rw [wanted_sim D.er (by rw [hwant];exact hw),if_pos rfl]
   refine .inl (quiet hw (noRan fun _ h2 _ _=>by rw [hl] at h2;cases h2) (by rw [hy]) ?_)
   rw [hval,opVal_step1 (.inl hl)]
   refine (rd_same hl hv (fun id hid=>?_)).1
   exact D.agree L R hl ((rd_same hl hv (fun _ _=>rfl)).2 id hid) (hc id hid)
  | made r hx hw hb hv hy=>
   rw [wanted_sim D.er (by rw [hwant];exact hw),if_pos rfl]
   refine .inl (quiet hw (noRan fun _ _ h3 _=>by rw [h3 hb] at hv;cases hv) (by rw [hy]) ?_)
   rw [opVal_step1 (.inr hb)]
   exact step_made hb (fun h=>by rw [← opVal_step1 (C:=C) (run:=run) (.inr hb),← opVal_step1 (C:=C) (run:=run) (.inr hb)];exact hval 1 h) hv
  | two r h' hw hh hnl hnb hl hv hle hy=>
   rw [wanted_sim D.er (by rw [hwant];exact hw),if_pos rfl]
   refine .inl ?_
   have hran:RanK C.P ops tr i:=⟨o,R.at_,hh,hnl,hnb,hw⟩
   have hin:i=ops.size - 2:=Classical.byContradiction fun hne=>by
    have:=D.al i hran hne;rw [R.out] at this;cases this
   have hoq:o=q1:=by
    have h3:=R.at_
    rw [hin,SS.e1] at h3
    exact (Option.some.inj h3).symm
   subst hoq
   have hop:∀ z∈o.op.operands.toList,ev ρ z=ev (tr (ops.size - 2)).ρ z:=fun z hz=>by rw [hevs z hz,hin]
   have hg:((tr (ops.size - 2)).h.set id2 a2')[id1]?=some a1:=by rw [List.getElem?_set_ne (Ne.symm SS.ne)];exact SS.g1
   refine opVal_wp K S D.hr D.er (SS.v1 ρ _ hop hg) (fun v w' β' r1 r2 r3 r4=>hK _ _ (.inl ?_))
   have hh2:(tr ops.size).h=((tr (ops.size - 2)).h.set id2 a2').set id1 a1':=by rw [SS.h2,List.set_comm _ _ SS.ne]
   have E'all:∀ j,RanK C.P ops tr j→E' j=true:=fun j hj=>by
    by_cases hji:j=i
    ·exact (R.upd j).2 (.inr hji)
    ·exact (R.upd j).2 (.inl (D.al j hj (by rw [← hin];exact hji)))
   refine ⟨ops.size,updO ρ o.dst .undef,β',Nat.le_refl _,?_,fun j hj _=>E'all j hj,by rw [hh2];exact r2,by rw [hh2];exact (D.er.mono r3).put (dstOk_lt hd D.sz) r1,D.rh.on L R (by rw [SS.d1,hin,show ops.size - 2+1=ops.size - 1 by omega,SS.p1];rfl),by rw [hh2];exact D.sp.trans r3,by rw [put_defers'];exact D.df,by rw [put_size];exact D.sz⟩
   intro j hj _
   obtain ⟨oj,ej,_⟩:=hj
   exact (Array.getElem?_eq_some_iff.1 ej).1
theorem DInvK.done (L:LexK C run ops h0 tr) (D:DInvK C run ops tr N F w0 hh0 β0 E a w) (hE:∀ j,j<ops.size→E j=true):∃ β,SR N w F β (tr ops.size) a∧Stp w0 hh0 β0 w (tr ops.size).h β:=by
 rcases D with ⟨k,ρ,β,D⟩ | ⟨q1,q2,id1,id2,a1,a2,a1',a2',x,y,ρ,β,D⟩
 ·have D1:=D.adv L (ops.size - k) (by have:=D.kn;omega) (fun j h1 h2 h3=>by
   have:=D.lo j h3 (hE j (by have:=D.kn;omega));omega)
  rw [show k+(ops.size - k)=ops.size by have:=D.kn;omega] at D1
  have hρ:ρ=(tr ops.size).ρ:=by
   funext t
   refine D1.rh t ops.size (Nat.le_refl _) (fun j o hj _=>?_)
   have:j<ops.size:=(Array.getElem?_eq_some_iff.1 hj).1
   simp [hE j this,this]
  have h2:=D1.er
  rw [hρ] at h2
  exact ⟨β,⟨D1.hr,h2,D1.df,D1.sz⟩,D1.sp⟩
 ·have:=D.s1
  rw [hE _ (by have:=D.sd.n2;omega)] at this;cases this
def FL (ids:List Nat) (F:Nat→Prop) (h:AHeap) (β:List (Nat × Nat)) (b:Nat):Prop:=F b∨∃ id o bc,ids.contains id=true∧h[id]?=some o∧β[id]?=some bc∧o.mu=.m∧bc.1=b
theorem lockL_at (ids:List Nat) (h:AHeap) (id:Nat):(lockL ids h)[id]?=(h[id]?).map fun o=>if ids.contains id then lock1 o else o:=by
 unfold lockL
 rw [List.getElem?_map,List.getElem?_zipIdx,Option.map_map]
 cases h[id]? <;> simp
theorem openL_at (ids:List Nat) (h h':AHeap) (id:Nat):(openL ids h h')[id]?=(h'[id]?).map fun o=>if ids.contains id then (match h[id]? with | some o'=>o' | none=>o) else o:=by
 unfold openL
 rw [List.getElem?_map,List.getElem?_zipIdx,Option.map_map]
 cases h'[id]? with
 | none=>rfl
 | some o=>
  simp only [Option.map_some,Function.comp_apply,Nat.zero_add]
  split <;> rfl
theorem lockL_len (ids:List Nat) (h:AHeap):(lockL ids h).length=h.length:=by unfold lockL;simp
variable {β:List (Nat × Nat)} {h:AHeap}
theorem alike_lockL (ids:List Nat) (h:AHeap):Alike h (lockL ids h):=by
 refine ⟨(lockL_len ids h).symm,fun id o o' e1 e2=>?_⟩
 rw [lockL_at,e1] at e2
 obtain rfl:=Option.some.inj e2
 obtain ⟨p1,p2,p3,p4,_⟩:=lock1_shape o
 split
 ·exact ⟨p1.symm,p2.symm,p3.symm,p4.symm⟩
 ·exact ⟨rfl,rfl,rfl,Iff.rfl⟩
theorem lockL_Mb {ids:List Nat} {b:Nat} (hb:Mb (lockL ids h) β b):∃ id o bc,ids.contains id=false∧h[id]?=some o∧β[id]?=some bc∧o.mu=.m∧bc.1=b:=by
 obtain ⟨id,o,bc,e1,e2,e3,e4⟩:=hb
 rw [lockL_at] at e1
 cases ho:h[id]? with
 | none=>rw [ho] at e1;cases e1
 | some o2=>
  rw [ho] at e1
  simp only [Option.map_some,Option.some.injEq] at e1
  split at e1
  ·subst e1;exact absurd e3 (lock1_shape o2).2.2.2.2.1
  ·rename_i hc;subst e1;exact ⟨id,o2,bc,by simpa using hc,ho,e2,e3,e4⟩
theorem lockL_Av {ids:List Nat} {b:Nat} (hb:Av (FL ids F h β) (lockL ids h) β b):Av F h β b:=by
 rcases hb with (hb | ⟨id,o,bc,_,e1,e2,e3,e4⟩) | hb
 ·exact .inl hb
 ·exact .inr ⟨id,o,bc,e1,e2,e3,e4⟩
 ·obtain ⟨id,o,bc,_,e1,e2,e3,e4⟩:=lockL_Mb hb
  exact .inr ⟨id,o,bc,e1,e2,e3,e4⟩
theorem HRel.lockL (H:HRel w F β h) (ids:List Nat):HRel w (FL ids F h β) β (Pm.lockL ids h):=by
 have at_:∀ (id:Nat) (o:AObj),(Pm.lockL ids h)[id]?=some o→∃ o2,h[id]?=some o2∧((ids.contains id=true∧o=lock1 o2)∨(ids.contains id=false∧o=o2)):=by
  intro id o e
  rw [lockL_at] at e
  cases ho:h[id]? with
  | none=>rw [ho] at e;cases e
  | some o2=>
   rw [ho] at e
   simp only [Option.map_some,Option.some.injEq] at e
   split at e
   ·rename_i hc;exact ⟨o2,rfl,.inl ⟨hc,e.symm⟩⟩
   ·rename_i hc;exact ⟨o2,rfl,.inr ⟨by simpa using hc,e.symm⟩⟩
 refine ⟨by rw [lockL_len];exact H.len,fun b hb=>?_,?_,?_,?_⟩
 ·rcases hb with hb | ⟨id,o,bc,_,e1,e2,e3,e4⟩
  ·exact H.fin b hb
  ·exact Av.lt H (.inr ⟨id,o,bc,e1,e2,e3,e4⟩)
 ·intro id o bc e1 e2 e3
  obtain ⟨o2,f1,f2⟩:=at_ id o e1
  obtain ⟨p1,p2,p3,p4,_⟩:=lock1_shape o2
  rcases f2 with ⟨_,rfl⟩ | ⟨_,rfl⟩
  ·exact (H.obj id o2 bc f1 e2 (fun hh=>e3 (p4.2 hh))).alike (alike_lockL ids h) (fun b=>lockL_Av) p2.symm p3.symm
  ·exact (H.obj id o bc f1 e2 e3).alike (alike_lockL ids h) (fun b=>lockL_Av) rfl rfl
 ·intro id id' o o' bc bc' hne e1 e2 e3 e4 m1 m2
  obtain ⟨o2,f1,f2⟩:=at_ id o e1
  obtain ⟨o2',g1,g2⟩:=at_ id' o' e2
  rcases f2 with ⟨_,rfl⟩ | ⟨_,rfl⟩
  ·exact absurd m1 (lock1_shape o2).2.2.2.2.1
  ·rcases g2 with ⟨_,rfl⟩ | ⟨_,rfl⟩
   ·exact H.dist id id' o o2' bc bc' hne f1 g1 e3 e4 m1 (fun hh=>m2 ((lock1_shape o2').2.2.2.1.2 hh))
   ·exact H.dist id id' o o' bc bc' hne f1 g1 e3 e4 m1 m2
 ·intro id o bc e1 e2 e3 hf
  obtain ⟨o2,f1,f2⟩:=at_ id o e1
  obtain ⟨p1,p2,p3,p4,p5,p6⟩:=lock1_shape o2
  have hmf:(ids.contains id=false∧o2.mu=.m)∨o2.mu=.f:=by
   rcases f2 with ⟨_,rfl⟩ | ⟨hc,rfl⟩
   ·rcases e3 with e3 | e3
    ·exact absurd e3 p5
    ·exact .inr (p6.1 e3)
   ·exact e3.imp (fun h=>⟨hc,h⟩) (fun h=>h)
  rcases hf with hf | ⟨id',o',bc',k1,k2,k3,k4,k5⟩
  ·exact H.out id o2 bc f1 e2 (hmf.imp (fun h=>h.2) (fun h=>h)) hf
  ·have hne:id'≠id:=by
    rintro rfl
    rw [f1] at k2
    obtain rfl:=Option.some.inj k2
    rcases hmf with h | h
    ·rw [k1] at h;cases h.1
    ·rw [k4] at h;cases h
   exact H.dist id' id o' o2 bc' bc hne k2 f1 k3 e2 k4 (by rcases hmf with h | h;rw [h.2];simp;rw [h];simp) k5
theorem HRel.openL (H:HRel w F β h) {ids:List Nat} {w':World} {h1:AHeap} {β1:List (Nat × Nat)} (q2:HRel w' (FL ids F h β) β1 h1) (q3:Stp w (Pm.lockL ids h) β w' h1 β1) (hnl:noLock ids h h1=true) :
  (∀ (v:Value) (p:PV),VRel w' (Av (FL ids F h β) h1 β1) β1 h1 v p→VRel w' (Av F (Pm.openL ids h h1) β1) β1 (Pm.openL ids h h1) v p)∧HRel w' F β1 (Pm.openL ids h h1)∧Stp w h β w' (Pm.openL ids h h1) β1:=by
 have hn:h.length≤h1.length:=by have:=q3.len;rwa [lockL_len] at this
 have hln:(Pm.openL ids h h1).length=h1.length:=by unfold Pm.openL;simp
 have lk:∀ (id:Nat) (o:AObj),h[id]?=some o→ids.contains id=true→h1[id]?=some (lock1 o)∧β1[id]?=β[id]?∧(Pm.openL ids h h1)[id]?=some o:=fun id o ho hc=>by
  have e1:(Pm.lockL ids h)[id]?=some (lock1 o):=by rw [lockL_at,ho];simp only [Option.map_some,hc,if_true]
  obtain ⟨g1,g2⟩:=q3.lck id (lock1 o) e1 (lock1_shape o).2.2.2.2.1
  exact ⟨g1,g2,by rw [openL_at,g1];simp only [Option.map_some,hc,if_true,ho]⟩
 have ul:∀ (id:Nat),(ids.contains id=false∨h.length≤id)→(Pm.openL ids h h1)[id]?=h1[id]?:=fun id hc=>by
  rw [openL_at]
  cases h1[id]? with
  | none=>rfl
  | some o=>
   rcases hc with hc | hc
   ·simp only [Option.map_some,hc,Bool.false_eq_true,if_false]
   ·simp only [Option.map_some,List.getElem?_eq_none hc];split <;> rfl
 have cs:∀ (id:Nat) (o:AObj),(Pm.openL ids h h1)[id]?=some o→(ids.contains id=true∧h[id]?=some o∧h1[id]?=some (lock1 o)∧β1[id]?=β[id]?)∨((ids.contains id=false∨h.length≤id)∧h1[id]?=some o):=fun id o e=>by
  by_cases hc:ids.contains id=true∧id<h.length
  ·obtain ⟨o2,ho⟩:=at_of_lt (l:=h) (i:=id) hc.2
   obtain ⟨g1,g2,g3⟩:=lk id o2 ho hc.1
   rw [g3] at e
   obtain rfl:=Option.some.inj e
   exact .inl ⟨hc.1,ho,g1,g2⟩
  ·have hc':ids.contains id=false∨h.length≤id:=by
    by_cases h1:ids.contains id=true
    ·exact .inr (Nat.le_of_not_lt fun h2=>hc ⟨h1,h2⟩)
    ·exact .inl (by simpa using h1)
   exact .inr ⟨hc',by rw [← ul id hc'];exact e⟩
 have al:Alike h1 (Pm.openL ids h h1):=by
  refine ⟨hln.symm,fun id o o' e1 e2=>?_⟩
  rcases cs id o' e2 with ⟨_,_,g1,_⟩ | ⟨_,g1⟩
  ·rw [g1] at e1
   obtain rfl:=Option.some.inj e1
   obtain ⟨p1,p2,p3,p4,_⟩:=lock1_shape o'
   exact ⟨p1,p2,p3,p4⟩
  ·rw [g1] at e1
   obtain rfl:=Option.some.inj e1
   exact ⟨rfl,rfl,rfl,Iff.rfl⟩
 have hA1:∀ b,Av F (Pm.openL ids h h1) β1 b→Av (FL ids F h β) h1 β1 b:=by
  rintro b (hb | ⟨id,o,bc,e1,e2,e3,e4⟩)
  ·exact .inl (.inl hb)
  ·rcases cs id o e1 with ⟨hc,g0,g1,g2⟩ | ⟨_,g1⟩
   ·rw [g2] at e2;exact .inl (.inr ⟨id,o,bc,hc,g0,e2,e3,e4⟩)
   ·exact .inr ⟨id,o,bc,g1,e2,e3,e4⟩
 have lmu:∀ (id:Nat) (o:AObj),(ids.contains id=false∨h.length≤id)→h1[id]?=some o→o.mu=.l→∃ o',h[id]?=some o'∧o'.mu=.l:=fun id o hc e hm=>by
  have:=List.all_eq_true.1 hnl (o,id) (by rw [List.mem_iff_getElem?];exact ⟨id,by simp [e]⟩)
  simp only [hm,ne_eq,not_true_eq_false,decide_false,Bool.false_or,Bool.or_eq_true,Bool.and_eq_true,decide_eq_true_eq] at this
  rcases this with h2 | h2
  ·rcases hc with hc | hc
   ·rw [hc] at h2;cases h2.1
   ·omega
  ·split at h2
   ·rename_i o' ho';exact ⟨o',ho',by simpa using h2⟩
   ·cases h2
 have hMb:∀ b,b<w.heap.size→Mb (Pm.openL ids h h1) β1 b→Mb h β b:=by
  rintro b hb ⟨id,o,bc,e1,e2,e3,e4⟩
  rcases cs id o e1 with ⟨hc,g0,g1,g2⟩ | ⟨_,g1⟩
  ·rw [g2] at e2;exact ⟨id,o,bc,g0,e2,e3,e4⟩
  ·obtain ⟨id',o',bc',_,f1,f2,f3,f4⟩:=lockL_Mb (q3.shr b hb ⟨id,o,bc,g1,e2,e3,e4⟩)
   exact ⟨id',o',bc',f1,f2,f3,f4⟩
 refine ⟨fun v p q1=>q1.alike al hA1,⟨by rw [hln];exact q2.len,fun b hb=>Nat.lt_of_lt_of_le (H.fin b hb) q3.size,?_,?_,?_⟩,⟨q3.size,by rw [hln];exact hn,fun b hb hm=>q3.keep b hb (fun hm2=>hm ?_),hMb,?_,?_,q3.os,q3.tape,q3.output,q3.drawn⟩⟩
 ·intro id o bc e1 e2 e3
  rcases cs id o e1 with ⟨hc,g0,g1,g2⟩ | ⟨_,g1⟩
  ·obtain ⟨p1,p2,p3,p4,_⟩:=lock1_shape o
   exact (q2.obj id (lock1 o) bc g1 e2 (fun hh=>e3 (p4.1 hh))).alike al hA1 p2 p3
  ·exact (q2.obj id o bc g1 e2 e3).alike al hA1 rfl rfl
 ·intro id id' o o' bc bc' hne e1 e2 e3 e4 m1 m2
  rcases cs id o e1 with ⟨hc,g0,g1,g2⟩ | ⟨hc,g1⟩
  ·rcases cs id' o' e2 with ⟨hc',g0',g1',g2'⟩ | ⟨hc',g1'⟩
   ·rw [g2] at e3;rw [g2'] at e4
    exact H.dist id id' o o' bc bc' hne g0 g0' e3 e4 m1 m2
   ·rw [g2] at e3
    have inF:FL ids F h β bc.1:=.inr ⟨id,o,bc,hc,g0,e3,m1,rfl⟩
    cases hm:o'.mu with
    | m=>exact fun heq=>q2.out id' o' bc' g1' e4 (.inl hm) (heq ▸ inF)
    | f=>exact fun heq=>q2.out id' o' bc' g1' e4 (.inr hm) (heq ▸ inF)
    | l=>
     obtain ⟨o2,k1,k2⟩:=lmu id' o' hc' g1' hm
     have hcf:ids.contains id'=false:=hc'.resolve_right (fun hh=>by rw [List.getElem?_eq_none hh] at k1;cases k1)
     have e5:(Pm.lockL ids h)[id']?=some o2:=by rw [lockL_at,k1];simp only [Option.map_some,hcf,Bool.false_eq_true,if_false]
     obtain ⟨_,k4⟩:=q3.lck id' o2 e5 (by rw [k2];simp)
     rw [k4] at e4
     exact H.dist id id' o o2 bc bc' hne g0 k1 e3 e4 m1 (by rw [k2];simp)
    | x=>exact absurd hm m2
  ·rcases cs id' o' e2 with ⟨hc',g0',g1',g2'⟩ | ⟨hc',g1'⟩
   ·exact q2.dist id id' o (lock1 o') bc bc' hne g1 g1' e3 e4 m1 (fun hh=>m2 ((lock1_shape o').2.2.2.1.1 hh))
   ·exact q2.dist id id' o o' bc bc' hne g1 g1' e3 e4 m1 m2
 ·intro id o bc e1 e2 e3
  rcases cs id o e1 with ⟨hc,g0,g1,g2⟩ | ⟨hc,g1⟩
  ·rw [g2] at e2;exact H.out id o bc g0 e2 e3
  ·exact fun hf=>q2.out id o bc g1 e2 e3 (.inl hf)
 ·obtain ⟨id',o',bc',_,f1,f2,f3,f4⟩:=lockL_Mb hm2
  exact ⟨id',o',bc',f1,f2,f3,f4⟩
 ·intro id o bc e1 e2 e3
  by_cases hc:ids.contains id=true
  ·obtain ⟨g1,g2,g3⟩:=lk id o e1 hc
   exact ⟨o,bc,g3,by rw [g2];exact e2,e3,⟨Nat.le_refl _,fun h=>h⟩,fun _=>⟨rfl,fun _=>rfl,rfl⟩⟩
  ·have hcf:ids.contains id=false:=by simpa using hc
   have e5:(Pm.lockL ids h)[id]?=some o:=by rw [lockL_at,e1];simp only [Option.map_some,hcf,Bool.false_eq_true,if_false]
   obtain ⟨o',bc',f1,f2,f3,f4,f5⟩:=q3.refs id o bc e5 e2 e3
   exact ⟨o',bc',by rw [ul id (.inl hcf)];exact f1,f2,f3,f4,f5⟩
 ·intro id o e1 e2
  by_cases hc:ids.contains id=true
  ·obtain ⟨g1,g2,g3⟩:=lk id o e1 hc
   exact ⟨g3,g2⟩
  ·have hcf:ids.contains id=false:=by simpa using hc
   have e5:(Pm.lockL ids h)[id]?=some o:=by rw [lockL_at,e1];simp only [Option.map_some,hcf,Bool.false_eq_true,if_false]
   obtain ⟨f1,f2⟩:=q3.lck id o e5 e2
   exact ⟨by rw [ul id (.inl hcf)];exact f1,f2⟩
theorem calm_wp (K:CfgOk C) (S:RunsOk C run) (hm:C.P.follows .mixedOrders=true) {id:Nat} {Q:Exit→Act→World→Prop} (hd:ops.toList.all (dstOk N)=true) (hk:drawOk ops=true) {β:List (Nat × Nat)} {s s':St} (R:SR N w F β s a)
  (e:calmD C run ops s=some s') (hQ:∀ a' w' β',SR N w' F β' s' a'→Stp w s.h β w' s'.h β'→Q .normal a' w'):(Code.region id ops true).wp C.P Q a w:=by
 unfold calmD at e
 generalize hids:lockIds ops (before ops) s.ρ=ids at e
 split at e
 ·rename_i y he
  split at e
  ·rename_i hnl
   obtain rfl:=Option.some.inj e
   obtain ⟨tr,t1,t2,t3⟩:=evalOpsK_trace ops.toList 0 _ _ he
   have t3':tr ops.size=y:=by simpa using t3
   have L:LexK C run ops (lockL ids s.h) tr:=⟨hk,fun i o ho=>by simpa using t2 i o (by simpa using ho),by rw [t1],by rw [t3'];exact hnl.2⟩
   refine wp_region_any hm (wpAny_gen (C:=C) hk (fun E a' w'=>DInvK C run ops tr N (FL ids F s.h β) w (lockL ids s.h) β E a' w')
    (fun E E' a' w' i o D R' next hK=>DInvK.step K S L D R' (List.all_eq_true.1 hd o (Array.mem_toList_iff.2 (Array.mem_of_getElem? R'.at_))) hK)
    (fun E a' w' D hall=>?_) ops.size _ a _ (by simp) (fun i o ho hl=>by rw [getD_none] at hl;cases hl) ?_ ?_)
   ·obtain ⟨β1,h1,h2⟩:=D.done L hall
    rw [t3'] at h1 h2
    obtain ⟨u1,u2,u3⟩:=R.hr.openL h1.hr h2 hnl.1
    exact hQ a' w' β1 ⟨u2,fun t=>u1 _ _ (h1.er t),h1.df,h1.sz⟩ u3
   ·refine Nat.le_trans (List.countP_le_length) (by simp)
   ·have hE:∀ j,(Array.replicate ops.size false).getD j false=false:=fun j=>getD_none _ j
    have G:Grew w {w with drawn:=w.drawn+1 }:=Grew.drew w
    have HL:=R.hr.lockL ids
    have ER:ERel w (Av (FL ids F s.h β) (lockL ids s.h) β) β (lockL ids s.h) a s.ρ:=fun t=>(R.er t).alike (alike_lockL ids s.h) (fun b=>lockL_Av)
    refine .inl ⟨0,s.ρ,β,⟨Nat.zero_le _,fun j _ h=>(by rw [hE] at h;cases h),fun j _ h=>by omega,by rw [t1];exact HL.grew G,by rw [t1];exact ER.mono (G.stp _ β),?_,by rw [t1];exact G.stp _ β,R.df,R.sz⟩⟩
    intro t k' hk' hw
    rw [L.rho_keep (t:=t) (i:=0) k' (Nat.zero_le _) hk' (fun j o h1 h2 h3 h4=>by
     have h5:(Array.replicate ops.size false).getD j false=true:=(hw j o h3 h4).2 h2
     rw [hE] at h5;cases h5),t1]
  ·cases e
 ·cases e
end Go.Pm
end
section
namespace Go.Pm
def codeOk (N:Nat):Code→Bool
 | .region _ ops draw=>ops.toList.all (dstOk N) && (!draw || drawOk ops)
 | .seq a b=>codeOk N a && codeOk N b
 | .cond _ a b=>codeOk N a && codeOk N b
 | .block _ c=>codeOk N c
 | .loop c=>codeOk N c
 | .scope c=>codeOk N c
 | _=>true
def exOf:Ex→Exit
 | .normal=>.normal
 | .exit id=>.exit id
 | .ret=>.ret
theorem evalC_wp {C:Cfg} (K:CfgOk C) (hm:C.P.follows .mixedOrders=true) {run:Run} (S:RunsOk C run) {N:Nat} {F:Nat→Prop} {n:Nat}:∀ (c:Code) {s s':St} {ex:Ex} {a:Act} {w:World} {β:List (Nat × Nat)} {Q:Exit→Act→World→Prop},
  codeOk N c=true→evalC C run n c s=some (ex,s')→SR N w F β s a→(∀ a' w' β',SR N w' F β' s' a'→Stp w s.h β w' s'.h β'→Q (exOf ex) a' w')→c.wp C.P Q a w:=by
 intro c
 induction c with
 | skip=>
  intro s s' ex a w β Q hc e R hQ
  simp only [evalC,Option.some.injEq,Prod.mk.injEq] at e
  obtain ⟨rfl,rfl⟩:=e
  exact wp_skip (hQ a w β R (Stp.refl _ _ _))
 | label l=>
  intro s s' ex a w β Q hc e R hQ
  simp only [evalC,Option.some.injEq,Prod.mk.injEq] at e
  obtain ⟨rfl,rfl⟩:=e
  exact wp_label (hQ a w β R (Stp.refl _ _ _))
 | exit id=>
  intro s s' ex a w β Q hc e R hQ
  simp only [evalC,Option.some.injEq,Prod.mk.injEq] at e
  obtain ⟨rfl,rfl⟩:=e
  exact wp_exit (hQ a w β R (Stp.refl _ _ _))
 | ret=>
  intro s s' ex a w β Q hc e R hQ
  simp only [evalC,Option.some.injEq,Prod.mk.injEq] at e
  obtain ⟨rfl,rfl⟩:=e
  exact wp_ret (hQ a w β R (Stp.refl _ _ _))
 | region id ops draw=>
  intro s s' ex a w β Q hc e R hQ
  simp only [codeOk,Bool.and_eq_true,Bool.or_eq_true,Bool.not_eq_true'] at hc
  simp only [evalC] at e
  cases draw with
  | false=>
   simp only [Bool.false_eq_true,if_false] at e
   split at e
   ·rename_i s1 he
    obtain ⟨rfl,rfl⟩:=Prod.mk.inj (Option.some.inj e)
    exact region_wp K S hc.1 R he hQ
   ·cases e
  | true=>
   simp only [if_true] at e
   by_cases hk:calmS ops=true
   ·simp only [hk,if_true] at e
    cases he:calmD C run ops s with
    | none=>rw [he] at e;simp at e
    | some y=>
     rw [he] at e
     obtain ⟨rfl,rfl⟩:=Prod.mk.inj (Option.some.inj e)
     exact calm_wp K S hm hc.1 (by simpa using hc.2) R he hQ
   ·simp only [hk,if_false] at e
    cases he:evalOpsD C run ops (before ops) 0 ops.toList ⟨s,s.h.length,[]⟩ with
    | none=>rw [he] at e;simp at e
    | some y=>
     rw [he] at e
     simp only [Option.map_some] at e
     obtain ⟨rfl,rfl⟩:=Prod.mk.inj (Option.some.inj e)
     exact regionD_wp K S hm hc.1 (by simpa using hc.2) R he hQ
 | seq x y ihx ihy=>
  intro s s' ex a w β Q hc e R hQ
  simp only [codeOk,Bool.and_eq_true] at hc
  simp only [evalC] at e
  refine wp_seq ?_
  cases hx:evalC C run n x s with
  | none=>rw [hx] at e;cases e
  | some r=>
   obtain ⟨ex1,s1⟩:=r
   rw [hx] at e
   refine ihx hc.1 hx R (fun a1 w1 β1 R1 S1=>?_)
   cases ex1 with
   | normal=>exact ihy hc.2 e R1 (fun a2 w2 β2 R2 S2=>hQ a2 w2 β2 R2 (S1.trans S2))
   | exit id=>
    obtain ⟨rfl,rfl⟩:=Prod.mk.inj (Option.some.inj e)
    exact hQ a1 w1 β1 R1 S1
   | ret=>
    obtain ⟨rfl,rfl⟩:=Prod.mk.inj (Option.some.inj e)
    exact hQ a1 w1 β1 R1 S1
 | cond c x y ihx ihy=>
  intro s s' ex a w β Q hc e R hQ
  simp only [codeOk,Bool.and_eq_true] at hc
  simp only [evalC] at e
  split at e
  ·rename_i hb
   have:=R.er.ev c
   rw [hb] at this
   exact wp_cond_true this.bool_inv (ihx hc.1 e R hQ)
  ·rename_i hb
   have:=R.er.ev c
   rw [hb] at this
   exact wp_cond_false this.bool_inv (ihy hc.2 e R hQ)
  ·cases e
 | block id c ih=>
  intro s s' ex a w β Q hc e R hQ
  simp only [codeOk] at hc
  simp only [evalC] at e
  refine wp_block ?_
  cases hx:evalC C run n c s with
  | none=>rw [hx] at e;cases e
  | some r=>
   obtain ⟨ex1,s1⟩:=r
   rw [hx] at e
   refine ih hc hx R (fun a1 w1 β1 R1 S1=>?_)
   cases ex1 with
   | normal=>
    obtain ⟨rfl,rfl⟩:=Prod.mk.inj (Option.some.inj e)
    exact hQ a1 w1 β1 R1 S1
   | exit id'=>
    simp only at e
    simp only [exOf,Exit.inBlock]
    split at e
    ·rename_i hid
     obtain ⟨rfl,rfl⟩:=Prod.mk.inj (Option.some.inj e)
     rw [if_pos hid]
     exact hQ a1 w1 β1 R1 S1
    ·rename_i hid
     obtain ⟨rfl,rfl⟩:=Prod.mk.inj (Option.some.inj e)
     rw [if_neg hid]
     exact hQ a1 w1 β1 R1 S1
   | ret=>
    obtain ⟨rfl,rfl⟩:=Prod.mk.inj (Option.some.inj e)
    exact hQ a1 w1 β1 R1 S1
 | loop c ih=>
  intro s s' ex a w β Q hc e R hQ
  simp only [codeOk] at hc
  simp only [evalC] at e
  have key:∀ (m:Nat) {s:St} {a:Act} {w:World} {β:List (Nat × Nat)},iter (evalC C run n c) m s=some (ex,s')→SR N w F β s a→(∀ a' w' β',SR N w' F β' s' a'→Stp w s.h β w' s'.h β'→Q (exOf ex) a' w')→Code.rounds C.P c Q m a w:=by
   intro m
   induction m with
   | zero=>intro s a w β e;simp [iter] at e
   | succ m ihm=>
    intro s a w β e R hQ
    simp only [iter] at e
    rw [rounds_succ]
    cases hx:evalC C run n c s with
    | none=>rw [hx] at e;cases e
    | some r=>
     obtain ⟨ex1,s1⟩:=r
     rw [hx] at e
     refine ih hc hx R (fun a1 w1 β1 R1 S1=>?_)
     cases ex1 with
     | normal=>exact ihm e R1 (fun a2 w2 β2 R2 S2=>hQ a2 w2 β2 R2 (S1.trans S2))
     | exit id=>
      obtain ⟨rfl,rfl⟩:=Prod.mk.inj (Option.some.inj e)
      exact hQ a1 w1 β1 R1 S1
     | ret=>
      obtain ⟨rfl,rfl⟩:=Prod.mk.inj (Option.some.inj e)
      exact hQ a1 w1 β1 R1 S1
  exact wp_loop_rounds n (key n e R hQ)
 | scope c ih=>
  intro s s' ex a w β Q hc e R hQ
  simp only [codeOk] at hc
  simp only [evalC] at e
  refine wp_scope_straight (ih hc e R (fun a1 w1 β1 R1 S1=>?_))
  cases ex <;> exact hQ a1 w1 β1 R1 S1
 | _=>
  intro s s' ex a w β Q hc e R hQ
  simp [evalC] at e
def resOne (r:ResultVar) (tmps:Array Value):Sem Value:=
 match r with
 | .tmp t=>pure (tmps.getD t undef)
 | .cell a t=>do loadVar t (← asAddr (tmps.getD a undef))
theorem resultOf_run {P:Program} {w:World} {F:Nat→Prop} {β:List (Nat × Nat)} {h:AHeap} {a:Act} {ρ:Nat→PV} (H:HRel w F β h) (R:ERel w (Av F h β) β h a ρ):∀ (l:List ResultVar) (vs:List PV),resultOf P h ρ l=some vs →
  ∃ us:List Value,(l.mapM (fun r=>resOne r a.tmps)).run P w=.ok us w∧L2 (VRel w (Av F h β) β h) us vs
 | [],vs,e=>by
  simp [resultOf] at e;subst e
  exact ⟨[],by simp,rfl,fun j hj=>by simp at hj⟩
 | r::l,vs,e=>by
  simp only [resultOf] at e
  split at e
  ·rename_i v vs' h1 h2
   obtain rfl:=Option.some.inj e
   obtain ⟨us,u1,u2,u3⟩:=resultOf_run H R l vs' h2
   have one:∃ u,(resOne r a.tmps).run P w=.ok u w∧VRel w (Av F h β) β h u v:=by
    cases r with
    | tmp t=>
     obtain rfl:=Option.some.inj h1
     exact ⟨_,rfl,R t⟩
    | cell x t=>
     obtain ⟨u,k1,k2⟩:=load_run (P:=P) H (R x) h1
     refine ⟨u,?_,k2⟩
     rw [← k1]
     unfold resOne Instr.loadAt
     simp only [Sem.run_bind]
     unfold Instr.loadAt at k1
     simp only [Sem.run_bind] at k1
     generalize a.tmps.getD x undef=y at k1 ⊢
     cases y with
     | pointer p=>
      cases p with
      | some ad=>simp [Instr.sureAddr,asAddr]
      | none=>simp [Instr.sureAddr] at k1
     | _=>simp [Instr.sureAddr] at k1
   obtain ⟨u,o1,o2⟩:=one
   refine ⟨u::us,?_,by simp [u2],fun j hj=>?_⟩
   ·simp only [List.mapM_cons,Sem.run_bind,o1,u1,Result.andThen_ok,Sem.run_pure]
   ·cases j with
    | zero=>simpa using o2
    | succ j=>simpa using u3 j (by simpa using hj)
  ·cases e
theorem results_run {P:Program} {w:World} {F:Nat→Prop} {β:List (Nat × Nat)} {h:AHeap} {a:Act} {ρ:Nat→PV} (H:HRel w F β h) (R:ERel w (Av F h β) β h a ρ) (fn:Func) {vs:List PV} (e:resultOf P h ρ fn.results.toList=some vs) :
  ∃ u,(results fn a.tmps).run P w=.ok u w∧VRel w (Av F h β) β h u (tupOf vs):=by
 obtain ⟨us,u1,u2,u3⟩:=resultOf_run (P:=P) H R _ _ e
 have hrun:(fn.results.mapM (fun r=>resOne r a.tmps)).run P w=.ok us.toArray w:=by
  rw [← Array.toArray_toList (xs:=fn.results),List.mapM_toArray]
  simp only [Sem.run_map,u1,Result.andThen_ok]
 refine ⟨if h:us.toArray.size=1 then us.toArray[0] else .tuple us.toArray,?_,?_⟩
 ·have:results fn a.tmps=(do let vs ← fn.results.mapM (fun r=>resOne r a.tmps);pure (if h:vs.size=1 then vs[0] else .tuple vs)):=by
   unfold results resOne
   rfl
  rw [this]
  simp only [Sem.run_bind,hrun,Result.andThen_ok,Sem.run_pure]
 ·match us,vs,u2 with
  | [],[],_=>exact .tup [] [] rfl (fun j hj=>by simp at hj)
  | [u],[v],_=>simpa [tupOf] using u3 0 (by simp)
  | u1::u2::us,v1::v2::vs,hl=>
   have:¬ ((u1::u2::us).toArray.size=1):=by simp
   rw [dif_neg this]
   exact .tup _ _ hl u3
structure CodesOk (C:Cfg):Prop where
 codes:∀ (f:FuncId) (fn:Func) (c:Code),(C.mode f=.pure∨C.mode f=.opened)→C.P.funcs[f]?=some fn→fn.body=some c→codeOk fn.ntmps c=true
 mixed:C.P.follows .mixedOrders=true
theorem bodyF_sim {C:Cfg} (K:CfgOk C) (KC:CodesOk C) {run:Run} (S:RunsOk C run) {n:Nat} {f:FuncId} (hf:C.mode f=.pure∨C.mode f=.opened):SimRun C.P f (bodyF C run n f):=by
 intro args h r h' e w F β vs H ha
 unfold bodyF at e
 split at e
 ·rename_i fn hfn
  split at e
  ·rename_i c hc
   have main:∀ (ex:Ex) (s:St),evalC C run n c ⟨envOf args,h⟩=some (ex,s)→(ex=.normal∨ex=.ret)→(∃ vs,resultOf C.P s.h s.ρ fn.results.toList=some vs∧r=tupOf vs∧h'=s.h)→CSim C.P 2 w F β h f vs r h':=by
    rintro ex s hev hex ⟨rs,hrs,rfl,rfl⟩
    refine calls_of_wp hfn hc ?_
    have hlen:=ha.1
    have R:SR fn.ntmps w F β ⟨envOf args,h⟩ { tmps:=vs.toArray++Array.replicate (fn.ntmps - vs.toArray.size) undef,defers:=[] }:=by
     refine ⟨H,fun t=>?_,rfl,by simp;omega⟩
     show VRel w (Av F h β) β h ((vs.toArray++Array.replicate (fn.ntmps - vs.toArray.size) undef).getD t Go.undef) (args.getD t .undef)
     by_cases ht:t<args.length
     ·have e1:(vs.toArray++Array.replicate (fn.ntmps - vs.toArray.size) undef).getD t Go.undef=vs.getD t Go.undef:=by
       rw [Array.getD_eq_getD_getElem?,Array.getElem?_append,if_pos (by simp;omega)]
       simp [List.getD]
      have e2:args.getD t .undef=args.getD t .any:=by simp [List.getD,ht]
      rw [e1,e2]
      exact ha.2 t ht
     ·have e1:(vs.toArray++Array.replicate (fn.ntmps - vs.toArray.size) undef).getD t Go.undef=Go.undef:=by
       rw [Array.getD_eq_getD_getElem?,Array.getElem?_append]
       rw [if_neg (by simp;omega)]
       rw [Array.getElem?_replicate]
       split <;> rfl
      have e2:args.getD t .undef=.undef:=by simp [List.getD,List.getElem?_eq_none (show args.length≤t by omega)]
      rw [e1,e2]
      exact .undef
    refine evalC_wp K KC.mixed S c (KC.codes f fn c hf hfn hc) hev R (fun a' w' β' R' S'=>?_)
    obtain ⟨u,r1,r2⟩:=results_run (P:=C.P) R'.hr R'.er fn hrs
    rcases hex with rfl | rfl
    ·exact ⟨R'.df,u,r1,u,β',rfl,r2,R'.hr,S',fun hh=>by omega⟩
    ·exact ⟨R'.df,u,r1,u,β',rfl,r2,R'.hr,S',fun hh=>by omega⟩
   cases hev:evalC C run n c ⟨envOf args,h⟩ with
   | none=>rw [hev] at e;cases e
   | some x=>
    obtain ⟨ex,s⟩:=x
    rw [hev] at e
    have fin:(match resultOf C.P s.h s.ρ fn.results.toList with | some vs=>some (tupOf vs,s.h) | none=>none)=some (r,h')→∃ vs,resultOf C.P s.h s.ρ fn.results.toList=some vs∧r=tupOf vs∧h'=s.h:=by
     intro e
     split at e
     ·rename_i rs hrs
      obtain ⟨rfl,rfl⟩:=Prod.mk.inj (Option.some.inj e)
      exact ⟨rs,hrs,rfl,rfl⟩
     ·cases e
    cases ex with
    | normal=>exact main .normal s hev (.inl rfl) (fin e)
    | ret=>exact main .ret s hev (.inr rfl) (fin e)
    | exit id=>cases e
  ·cases e
 ·cases e
theorem runF_sim {C:Cfg} (K:CfgOk C) (KC:CodesOk C):∀ n,RunsOk C (runF C n)
 | 0=>fun f _ args h r h' e=>by cases e
 | n+1=>fun f hf=>bodyF_sim K KC (runF_sim K KC n) hf
theorem pureF_sim {C:Cfg} (K:CfgOk C) (KC:CodesOk C) {n:Nat} {f:FuncId} (hf:C.mode f=.pure∨C.mode f=.opened) {args:List PV} {r:PV} (e:pureF C n f args=some r)
  {w:World} {A:Nat→Prop} (hA:∀ b,A b→b<w.heap.size) {vs:List Value} (ha:L2 (SRel w A) vs args) :
  Calls C.P f vs.toArray w fun en w'=>∃ v,en=.returned v∧SRel w' A v r∧Grew w w':=by
 unfold pureF at e
 split at e
 ·rename_i r0 hc h1
  cases h2:rbX hc r0 with
  | none=>rw [h2] at e;cases e
  | some r1=>
   rw [h2] at e
   obtain rfl:=Option.some.inj e
   have hAv:∀ b,Av A [] [] b↔A b:=fun b=>⟨fun h=>h.elim id (fun h=>absurd h (Mb_empty b)),.inl⟩
   have hin:L2 (VRel w (Av A [] []) [] []) vs args:=⟨ha.1,fun j hj=>.val ((ha.2 j hj).weak (fun b hb=>(hAv b).1 hb))⟩
   refine (runF_sim K KC n f hf args [] r0 hc h1 w A [] vs (HRel.empty w A hA) hin).mono ?_
   rintro en w' ⟨v,β',rfl,q1,q2,q3,_⟩
   refine ⟨v,rfl,?_,grew_of_stp q3⟩
   refine (rbX_sim q2 (fun b _ hb ha=>hb (.inl ha)) q1 h2 (fun id o bc m1 m2 m3=>?_)).nrm
   rcases m3 with m3 | m3
   ·exact q2.out id o bc m1 m2 (.inl m3)
   ·exact q2.out id o bc m1 m2 (.inr m3)
 ·cases e
end Go.Pm
end
section
namespace Go.Pm
variable {w:World} {F:Nat→Prop} {β:List (Nat × Nat)} {h:AHeap}
theorem evalOps_wp2 {C:Cfg} (K:CfgOk C) {run:Run} (S:RunsOk C run) {N:Nat} {ops:Array Oper} {Q:Exit→Act→World→Prop} (hd:ops.toList.all (dstOk N)=true) (rest:List Nat) (l2:List Oper) :
  ∀ (l:List Oper) (k:Nat) {w:World} {β:List (Nat × Nat)} {s s':St} {a:Act},ops.toList.drop k=l++l2→SR N w F β s a→evalOps C run ops l s=some s' →
   (∀ a' w' β',SR N w' F β' s' a'→Stp w s.h β w' s'.h β'→wpOps C.P ops Q rest a' w')→wpOps C.P ops Q (List.map (· + k) (List.range l.length)++rest) a w:=by
 intro l
 induction l with
 | nil=>
  intro k w β s s' a hl R e hQ
  simp [evalOps] at e
  subst e
  simpa using hQ a w β R (Stp.refl w s.h β)
 | cons o r ih=>
  intro k w β s s' a hl R e hQ
  simp only [evalOps] at e
  have hk:ops[k]?=some o:=by
   rw [← Array.getElem?_toList]
   have:(ops.toList.drop k)[0]?=some o:=by rw [hl];rfl
   rwa [List.getElem?_drop] at this
  have hr:ops.toList.drop (k+1)=r++l2:=by
   have:=congrArg (List.drop 1) hl
   rw [List.drop_drop] at this
   simpa using this
  have hrange:List.map (· + k) (List.range (o::r).length)++rest=k::(List.map (· + (k+1)) (List.range r.length)++rest):=by
   rw [List.length_cons,List.range_succ_eq_map]
   simp only [List.map_cons,Nat.zero_add,List.map_map,List.cons_append]
   congr 2
   apply List.map_congr_left
   intro x _
   simp;omega
  rw [hrange]
  simp only [wpOps,hk]
  split at e
  ·rename_i s1 he
   have hdo:dstOk N o=true:=List.all_eq_true.1 hd o (by
    have:o∈ops.toList.drop k:=by rw [hl];simp
    exact List.mem_of_mem_drop this)
   have:=opStep_wp K S R hdo he (Q:=Q) (next:=wpOps C.P ops Q (List.map (· + (k+1)) (List.range r.length)++rest)) (fun a' w' β' R' S'=>ih (k+1) hr R' e (fun a2 w2 β2 R2 S2=>hQ a2 w2 β2 R2 (S'.trans S2)))
   split
   ·rename_i hw;rw [if_pos hw] at this;exact .inl this
   ·rename_i hw;rw [if_neg hw] at this;exact this
  ·cases e
theorem special_step {P:Program} {N:Nat} {ops:Array Oper} {Q:Exit→Act→World→Prop} {rest:List Nat} {k:Nat} {o:Oper} {s:St} {a:Act} {p:PV} {h':AHeap} (hk:ops[k]?=some o) (hg:o.guard=none) (hd:dstOk N o=true) (R:SR N w F β s a)
  (S:OSim P 2 w F β s.h (execOp a.eval o) p h') (hK:∀ a' w' β',SR N w' F β' ⟨updO s.ρ o.dst p,h'⟩ a'→Stp w s.h β w' h' β'→wpOps P ops Q rest a' w'):wpOps P ops Q (k::rest) a w:=by
 simp only [wpOps,hk]
 have hw:Region.wanted o (yielded ops a.tmps)=true:=by simp [Region.wanted,hg]
 rw [if_pos hw]
 left
 have hdl:=dstOk_lt hd R.sz
 obtain ⟨v,w',β',h1,h2,h3,h4,_⟩:=S
 have fin:∀ u,u=v→wpOps P ops Q rest (a.put o.dst u) w':=by
  rintro u rfl
  exact hK _ w' β' ⟨h3,(R.er.mono h4).put hdl h2,by rw [put_defers'];exact R.df,by rw [put_size];exact R.sz⟩ h4
 unfold Oper.wp
 rcases h1 with h1 | ⟨h1,rfl⟩
 ·rw [h1];exact fin _ rfl
 ·rw [h1];exact fin _ rfl
theorem region_special {C:Cfg} (K:CfgOk C) (hrun:∀ n,RunsOk C (runF C n)) {N:Nat} {ops:Array Oper} {id:Nat} {Q:Exit→Act→World→Prop} (hd:ops.toList.all (dstOk N)=true) {pre post:List Oper} {o:Oper} (ho:ops.toList=pre++o::post) (hg:o.guard=none)
  {s:St} {a:Act} (R:SR N w F β s a) {M M2:St→Prop} (e1:EvOps C ops pre s M)
  (hs:∀ s1 a1 w1 β1,M s1→SR N w1 F β1 s1 a1→Stp w s.h β w1 s1.h β1→∃ p h',OSim C.P 2 w1 F β1 s1.h (execOp a1.eval o) p h'∧EvOps C ops post ⟨updO s1.ρ o.dst p,h'⟩ M2)
  (hQ:∀ s3 a3 w3 β3,M2 s3→SR N w3 F β3 s3 a3→Stp w s.h β w3 s3.h β3→Q .normal a3 w3):(Code.region id ops false).wp C.P Q a w:=by
 refine wp_region ?_
 obtain ⟨s1,m1,n0,hn0⟩:=e1
 have hsize:ops.size=pre.length+(post.length+1):=by
  have:=congrArg List.length ho
  simpa using this
 have hrange:List.range ops.size=List.map (· + 0) (List.range pre.length)++(pre.length::(List.map (· + (pre.length+1)) (List.range post.length)++[])):=by
  rw [hsize,List.range_add]
  simp only [Nat.add_zero,List.map_id',List.append_nil]
  congr 1
  rw [List.range_succ_eq_map]
  simp only [List.map_cons,Nat.add_zero,List.map_map]
  congr 1
  apply List.map_congr_left
  intro x _
  simp;omega
 rw [hrange]
 have hdo:dstOk N o=true:=List.all_eq_true.1 hd o (by rw [ho];simp)
 have hk:ops[pre.length]?=some o:=by
  rw [← Array.getElem?_toList,ho,List.getElem?_append_right (Nat.le_refl _)]
  simp
 refine evalOps_wp2 K (hrun n0) hd _ (o::post) pre 0 (by simpa using ho) R (hn0 n0 (Nat.le_refl _)) (fun a1 w1 β1 R1 S1=>?_)
 obtain ⟨p,h',os,e2⟩:=hs s1 a1 w1 β1 m1 R1 S1
 obtain ⟨s3,m3,n1,hn1⟩:=e2
 refine special_step hk hg hdo R1 os (fun a2 w2 β2 R2 S2=>?_)
 refine evalOps_wp2 K (hrun n1) hd [] [] post (pre.length+1) ?_ R2 (hn1 n1 (Nat.le_refl _)) (fun a3 w3 β3 R3 S3=>?_)
 ·have:ops.toList.drop (pre.length+1)=post:=by
   rw [ho,List.drop_append]
   simp
  simpa using this
 ·simp only [wpOps]
  exact hQ s3 a3 w3 β3 m3 R3 (S1.trans (S2.trans S3))
theorem ev_wp {C:Cfg} (K:CfgOk C) (hm:C.P.follows .mixedOrders=true) (hrun:∀ n,RunsOk C (runF C n)) {N:Nat} {c:Code} {s:St} {a:Act} {M:Ex→St→Prop} {Q:Exit→Act→World→Prop} (hc:codeOk N c=true) (e:Ev C c s M) (R:SR N w F β s a)
  (hQ:∀ ex s' a' w' β',M ex s'→SR N w' F β' s' a'→Stp w s.h β w' s'.h β'→Q (exOf ex) a' w'):c.wp C.P Q a w:=by
 obtain ⟨ex,s',m,n0,hn⟩:=e
 exact evalC_wp K hm (hrun n0) c hc (hn n0 n0 (Nat.le_refl _) (Nat.le_refl _)) R (fun a' w' β' R' S'=>hQ ex s' a' w' β' m R' S')
theorem csim_wp {P:Program} {f:FuncId} {fn:Func} {c:Code} {args:List PV} {vs:List Value} {r:PV} {h':AHeap} (hfn:P.funcs[f]?=some fn) (hc:fn.body=some c) (H:HRel w F β h) (ha:L2 (VRel w (Av F h β) β h) vs args)
  (hw:∀ a,SR fn.ntmps w F β ⟨envOf args,h⟩ a→c.wp P (fun ex a' w'=>(ex=.normal∨ex=.ret)∧∃ s' β',SR fn.ntmps w' F β' s' a'∧Stp w h β w' s'.h β'∧∃ rs,resultOf P s'.h s'.ρ fn.results.toList=some rs ∧
    ∀ u,VRel w' (Av F s'.h β') β' s'.h u (tupOf rs)→∃ β2,VRel w' (Av F h' β2) β2 h' u r∧HRel w' F β2 h'∧Stp w h β w' h' β2) a w):CSim P 2 w F β h f vs r h':=by
 refine calls_of_wp hfn hc ?_
 have hlen:=ha.1
 have R:SR fn.ntmps w F β ⟨envOf args,h⟩ { tmps:=vs.toArray++Array.replicate (fn.ntmps - vs.toArray.size) undef,defers:=[] }:=by
  refine ⟨H,fun t=>?_,rfl,by simp;omega⟩
  show VRel w (Av F h β) β h ((vs.toArray++Array.replicate (fn.ntmps - vs.toArray.size) undef).getD t Go.undef) (args.getD t .undef)
  by_cases ht:t<args.length
  ·have e1:(vs.toArray++Array.replicate (fn.ntmps - vs.toArray.size) undef).getD t Go.undef=vs.getD t Go.undef:=by
    rw [Array.getD_eq_getD_getElem?,Array.getElem?_append,if_pos (by simp;omega)]
    simp [List.getD]
   have e2:args.getD t .undef=args.getD t .any:=by simp [List.getD,ht]
   rw [e1,e2]
   exact ha.2 t ht
  ·have e1:(vs.toArray++Array.replicate (fn.ntmps - vs.toArray.size) undef).getD t Go.undef=Go.undef:=by
    rw [Array.getD_eq_getD_getElem?,Array.getElem?_append]
    rw [if_neg (by simp;omega)]
    rw [Array.getElem?_replicate]
    split <;> rfl
   have e2:args.getD t .undef=.undef:=by simp [List.getD,List.getElem?_eq_none (show args.length≤t by omega)]
   rw [e1,e2]
   exact .undef
 refine Code.wp_mono ?_ (hw _ R)
 rintro ex a' w' ⟨hex,s',β',R',S',rs,hrs,hfin⟩
 obtain ⟨u,r1,r2⟩:=results_run (P:=P) R'.hr R'.er fn hrs
 obtain ⟨β2,f1,f2,f3⟩:=hfin u r2
 rcases hex with rfl | rfl
 ·exact ⟨R'.df,u,r1,u,β2,rfl,f1,f2,f3,fun hh=>by omega⟩
 ·exact ⟨R'.df,u,r1,u,β2,rfl,f1,f2,f3,fun hh=>by omega⟩
theorem HRel.reshape (H:HRel w F β h) {id:Nat} {o:AObj} {bc:Nat × Nat} (eo:h[id]?=some o) (eb:β[id]?=some bc) (em:o.mu=.m) (es':List PV) (ep':Nat) (hep:o.ep<ep') (h1:es'.length≤bc.2)
  (h4:∀ (i:Nat) (e:PV),es'[i]?=some e→o.es[i]?=some e∨((cells e).length=o.esz∧∀ p∈cells e,p=.any)) (hz:0<o.esz:=by first | assumption | omega) :
  HRel w F β (h.set id {o with es:=es',ep:=ep' })∧Stp w h β w (h.set id {o with es:=es',ep:=ep' }) β:=by
 obtain ⟨T,cs,k1,k2,k3,k4,k5⟩:=(H.obj id o bc eo eb (by rw [em];simp)).c hz
 have hfit:∀ i:Nat,i<es'.length→i * o.esz+o.esz≤cs.size:=fun i hi=>by
  have:(i+1) * o.esz≤bc.2 * o.esz:=Nat.mul_le_mul_right _ (by omega)
  rw [Nat.add_mul,Nat.one_mul] at this
  omega
 have:=H.set eo eb em (w':=w) T cs es' ep' bc (Nat.le_refl _) k1 (fun _ _ _=>rfl) (.inl ⟨rfl,fun hh=>by omega⟩) (Nat.le_of_lt hep) rfl rfl rfl h1 k3 (fun i e he=>by
  rcases h4 i e he with hh | ⟨h5,h6⟩
  ·exact k5 i e hh
  ·refine ⟨h5,fun j p hp=>?_⟩
   have hj:j<o.esz:=by have:=lt_of_some hp;omega
   have hi:=lt_of_some he
   have:=hfit i hi
   refine ⟨cs[i * o.esz+j],Array.getElem?_eq_getElem (by omega),?_⟩
   rw [h6 p (List.mem_of_getElem? hp)]
   exact .any _)
 rw [beta_set eb] at this
 exact this
theorem VRel.reshape {v:Value} {id ep n:Nat} {o:AObj} {bc:Nat × Nat} (eo:h[id]?=some o) (eb:β[id]?=some bc) (em:o.mu=.m) (hv:VRel w (Av F h β) β h v (.mref id ep 0 n)) (he:o.ep=ep) (hn:n≤o.es.length) (es':List PV) (ep':Nat) {A:Nat→Prop} :
  VRel w A β (h.set id {o with es:=es',ep:=ep' }) v (.mref id ep' 0 n):=by
 obtain ⟨_,m2,m3⟩:=hv.mref_inv
 obtain ⟨cap,c1,c2⟩:=m3 o bc eo eb (by rw [em];simp) he (by omega)
 exact .mref v id ep' 0 n {o with es:=es',ep:=ep' } bc ⟨_,_,_,c1⟩ (List.getElem?_set_self (lt_of_some eo)) eb (by show o.mu≠.x;rw [em];simp) ⟨Nat.le_refl _,(m2 o eo).2⟩ (fun _ _=>⟨cap,c1,c2⟩)
end Go.Pm
end
section
set_option maxRecDepth 20000
namespace Go.Pm
open Go.Proofs
def isRun:Mode→Bool
 | .pure=>true
 | .opened=>true
 | _=>false
def isNo:Mode→Bool
 | .no=>true
 | .ext _=>true
 | _=>false
def codeChk (C:Cfg) (f:FuncId):Bool:=!isRun (C.mode f) || match C.P.funcs[f]? with
 | some fn=>match fn.body with
  | some c=>codeOk fn.ntmps c
  | none=>true
 | none=>true
def enterChk (C:Cfg) (f:FuncId):Bool:=isNo (C.mode f) || match C.P.funcs[f]? with
 | some fn => fn.body.isSome && !(fn.name == "runtime.NumGoroutine")
 | none=>false
theorem codes6:((List.range 437).all (codeChk C))=true:=by kernel_rfl
theorem enters6:((List.range 437).all (enterChk C))=true:=by kernel_rfl
theorem all_range {p:Nat→Bool} {n:Nat} (h:(List.range n).all p=true) {f:Nat} (hf:f<n):p f=true:=List.all_eq_true.1 h f (List.mem_range.2 hf)
theorem mode_big {f:Nat} (h:437≤f):C.mode f=.no:=by
 show mode06 f=.no
 unfold mode06
 have hne:∀ k:Nat,k<437→¬ f=k:=fun k hk=>by omega
 have hl:∀ l:List Nat,l.all (fun k=>decide (k<437))=true→l.contains f=false:=by
  intro l hl
  cases hc:l.contains f with
  | false=>rfl
  | true=>
   have:=List.all_eq_true.1 hl f (by simpa using hc)
   have:=of_decide_eq_true this
   omega
 rw [hl _ (by decide),hl _ (by decide)]
 simp only [Bool.false_eq_true,if_false]
 repeat' rw [if_neg (hne _ (by decide))]
 rw [if_neg (by omega:¬ f<410)]
theorem codesOk6:CodesOk C where
 mixed:=by kernel_rfl
 codes f fn c hm hf hb:=by
  have hlt:f<437:=by
   rcases Nat.lt_or_ge f 437 with h | h
   ·exact h
   ·rw [mode_big h] at hm;rcases hm with hm | hm <;> cases hm
  have:=all_range codes6 hlt
  unfold codeChk at this
  rw [hf] at this
  simp only [hb] at this
  have hr:isRun (C.mode f)=true:=by rcases hm with hm | hm <;> rw [hm] <;> rfl
  simpa [hr] using this
theorem entersOk6 : ∀ f, (∀ _h : C.mode f = .no, False) → (∀ g, C.mode f ≠ .ext g) → ∃ fn, C.P.funcs[f]? = some fn ∧ fn.body.isSome = true ∧ (fn.name == "runtime.NumGoroutine") = false := by
 intro f hf hne
 have hlt:f<437:=by
  rcases Nat.lt_or_ge f 437 with h | h
  ·exact h
  ·exact (hf (mode_big h)).elim
 have:=all_range enters6 hlt
 unfold enterChk at this
 have hn:isNo (C.mode f)=false:=by
  cases hm:C.mode f with
  | no=>exact (hf hm).elim
  | ext g=>exact (hne g hm).elim
  | _=>rfl
 rw [hn] at this
 simp only [Bool.false_or] at this
 split at this
 ·rename_i fn hfn
  simp only [Bool.and_eq_true,Bool.not_eq_true'] at this
  exact ⟨fn,hfn,this.1,this.2⟩
 ·cases this
theorem extOk6:∀ f g,C.mode f=.ext g→∀ args r,g args=some r→∀ (w:World) (A:Nat→Prop) (vs:List Value),L2 (SRel w A) vs args→∃ v,(callFunc f vs.toArray).run C.P w=.ok (.value v) w∧SRel w A v r:=by
 intro f g hm args r hr w A vs ha
 have hm':mode06 f=.ext g:=hm
 unfold mode06 at hm'
 split at hm'
 ·cases hm'
 ·split at hm'
  ·rename_i hf
   obtain rfl:=Mode.ext.inj hm'
   simp only at hr
   split at hr
   ·rename_i a b
    obtain rfl:=Option.some.inj hr
    obtain ⟨hl,hh⟩:=ha
    match vs,hl with
    | [x,y],_=>
     have h0:=hh 0 (by simp)
     have h1:=hh 1 (by simp)
     simp only [List.getD_cons_zero,List.getD_cons_succ] at h0 h1
     cases h0
     cases h1
     subst hf
     refine ⟨_,?_,.int _ _⟩
     rw [run_callFunc_extern (P:=C.P) Tryz.func194 (by kernel_rfl) (by kernel_rfl) (by kernel_rfl) (e:=Extern.BytealgCompare.compare) (by kernel_rfl)]
     show ((Extern.BytealgCompare.compare #[.string a,.string b]).run C.P w).andThen _=_
     rw [Lib.run_compareString]
     rfl
   ·cases hr
  ·repeat' split at hm'
   all_goals cases hm'
end Go.Pm
end
section
set_option maxRecDepth 100000
namespace Go.Pm
open Go.Proofs
def L0:List FuncId:=[352,351,215]
noncomputable def C0:Cfg:=⟨C.P,fun f=>if L0.contains f=true then .opened else .no⟩
theorem c0_open {f:FuncId} (h:L0.contains f=true):C0.mode f=.opened:=if_pos h
theorem c0_cases (f:FuncId):C0.mode f=.opened∨C0.mode f=.no:=by
 by_cases hf:L0.contains f=true
 ·exact .inl (if_pos hf)
 ·exact .inr (if_neg hf)
theorem c0_in {f:FuncId} (h:C0.mode f≠.no):f∈L0:=by
 by_cases hf:L0.contains f=true
 ·simpa using hf
 ·exact (h (if_neg hf)).elim
def entChk (P:Program) (f:FuncId):Bool:=match P.funcs[f]? with
 | some fn => fn.body.isSome && !(fn.name == "runtime.NumGoroutine")
 | none=>false
theorem ent0:L0.all (entChk C0.P)=true:=by kernel_rfl
theorem K0:CfgOk C0 where
 enters f hf _:=by
  have h:=List.all_eq_true.1 ent0 f (c0_in (fun h=>hf h))
  unfold entChk at h
  split at h
  ·rename_i fn hfn
   simp only [Bool.and_eq_true,Bool.not_eq_true'] at h
   exact ⟨fn,hfn,h.1,h.2⟩
  ·cases h
 primQ f g hh:=by rcases c0_cases f with h | h <;> rw [h] at hh <;> cases hh
 primL f g hh:=by rcases c0_cases f with h | h <;> rw [h] at hh <;> cases hh
 ext f g hh:=by rcases c0_cases f with h | h <;> rw [h] at hh <;> cases hh
def bodyChk (P:Program) (f:FuncId):Bool:=match P.funcs[f]? with
 | some fn=>match fn.body with
  | some c=>codeOk fn.ntmps c
  | none=>true
 | none=>true
theorem chk0:L0.all (bodyChk C0.P)=true:=by kernel_rfl
theorem KC0:CodesOk C0 where
 mixed:=codesOk6.mixed
 codes f fn c hm hf hb:=by
  have h1:bodyChk C0.P f=true:=List.all_eq_true.1 chk0 f (c0_in (fun h=>by rcases hm with hm | hm <;> rw [hm] at h <;> cases h))
  unfold bodyChk at h1
  rw [hf] at h1
  simp only [hb] at h1
  exact h1
theorem S0:∀ n,RunsOk C0 (runF C0 n):=runF_sim K0 KC0
theorem mixed0:C0.P.follows .mixedOrders=true:=codesOk6.mixed
namespace Zero
noncomputable def T6:Tab C0.P:=Go.Pm.T6
end Zero
end Go.Pm
end
section
set_option maxRecDepth 100000
set_option maxHeartbeats 4000000
namespace Go.Pm
open Go.Proofs
variable {w:World} {F:Nat→Prop} {β:List (Nat × Nat)} {h:AHeap}
attribute [local irreducible] thenQ blockQ loopQ bodyQ Ev EvOps CallEv FnEv EvD
theorem eqnil_osim {a:Act} {ρ:Nat→PV} (H:HRel w F β h) (R:ERel w (Av F h β) β h a ρ) {t yt el:TypeId} {x:Operand} {fl:Bool} {es:List PV} (hu:C0.P.underlying t=some (.slice el)) (hx:ev ρ x=.snap fl es) :
  ∃ bb,(bb=true→es=[])∧∀ o:Oper,o.op=.binOp .eql t x (.const (.slice none 0 0)) yt→OSim C0.P 2 w F β h (execOp a.eval o) (.bool bb) h:=by
 have hv:=R.ev x
 rw [hx] at hv
 obtain ⟨ad,cap,e1,_,_⟩:=hv.snap_inv.snap_len
 refine ⟨ad.isNone,fun hb=>?_,fun o ho=>⟨.bool ad.isNone,w,β,.inl ?_,.val (.bool _),H,Stp.refl w h β,fun _=>Grew.refl w⟩⟩
 ·have hn:ad=none:=by cases ad <;> simp_all
  subst hn
  rcases hv.snap_inv.snap_open with h0 | ⟨b,off,cap',sz',cvs,ev',_⟩
  ·exact h0
  ·rw [e1] at ev';cases ev'
 ·obtain ⟨d,op,ty,pos,af,g⟩:=o
  simp only at ho
  subst ho
  have h2:a.eval (.const (.slice none 0 0))=.slice none 0 0:=rfl
  have g1:(eqGuard .eql t x (.const (.slice none 0 0)) (.slice ad es.length cap) (.slice none 0 0)).run C0.P w=.ok () w:=by simp [eqGuard]
  have g2:(binOp .eql t (.slice ad es.length cap) (.slice none 0 0)).run C0.P w=.ok (.bool ad.isNone) w:=by
   simp only [binOp]
   simp [run_equal_slice_nil w t el ad es.length cap hu]
  simp only [execOp,e1,h2,Sem.run_bind,g1,g2,Result.andThen_ok,Sem.run_pure]
theorem appendP_nil {C:Cfg} (T:Tab C.P) {lv:Nat} {st xt el el':TypeId} {sz by':Nat} {z:PV} {full:Bool} (hk:T.kd st=some (.sl el)) (hk':T.kd xt=some (.sl el')) (hs:T.ts el=some (sz+1)) (hb:T.tb el=some by') (hz:T.tz el=some z)
  (hby:by'≤1000) (hl:(cells z).length=sz+1) (ho:(cells z).all oneC=true):appendP C.P lv h st xt (.snap true []) (.snap full [])=some (.snap true [],h):=by
 unfold appendP
 rw [kd_sl (T.hkd _ _ hk)]
 simp only [T.hts _ _ hs,T.htb _ _ hb,T.htz _ _ hz,appendee,kd_sl (T.hkd _ _ hk'),elems]
 rw [if_pos ⟨by omega,by omega,⟨hl,ho⟩,rfl⟩]
 rfl
section
variable {C:Cfg} (T:Tab C.P)
variable {ops:Array Oper} {d:Nat} {ty:TypeId} {pos:String} {af:Array Edge} {r:List Oper} {ρ:Nat→PV} {L:List (Nat × PV)} {Q:St→Prop}
theorem R.appendS0 {st xt el el':TypeId} {sz by':Nat} {z:PV} {full:Bool} {x y:Operand} (hx:evL L x=some (.snap true [])) (hy:evL L y=some (.snap full [])) (hk:T.kd st=some (.sl el)) (hk':T.kd xt=some (.sl el')) (hs:T.ts el=some (sz+1)) (hb:T.tb el=some by') (hz:T.tz el=some z)
  (hby:by'≤1000) (hl:(cells z).length=sz+1) (ho:(cells z).all oneC=true) (kk:EvOps C ops r ⟨al ((d,.snap true [])::L) ρ,h⟩ Q) :
  EvOps C ops (⟨some d,.call ⟨.builtin .append,#[x,y],#[st,xt]⟩,ty,pos,af,none⟩::r) ⟨al L ρ,h⟩ Q:=by
 refine EvOps.valL (fun run=>?_) kk
 have hap:=appendP_nil T (h:=h) (lv:=2) (full:=full) hk hk' hs hb hz hby hl ho
 simp only [opVal,builtinP,List.map_cons,List.map_nil,evL_ev hx,evL_ev hy,hap]
theorem R.appendS1 {st xt el el':TypeId} {sz by':Nat} {z:PV} {full:Bool} {ys:List PV} {x y:Operand} (hx:evL L x=some (.snap true [])) (hy:evL L y=some (.snap full ys)) (hk:T.kd st=some (.sl el)) (hk':T.kd xt=some (.sl el')) (hs:T.ts el=some (sz+1)) (hb:T.tb el=some by') (hz:T.tz el=some z)
  (hby:by'≤1000) (hl:(cells z).length=sz+1) (ho:(cells z).all oneC=true) (hyo:esOk (sz+1) ys) (hne:ys≠[]) (hn:ys.length<1000000000) (kk:EvOps C ops r ⟨al ((d,.mref h.length 0 0 ys.length)::L) ρ,h++[⟨.m,0,sz+1,ys⟩]⟩ Q) :
  EvOps C ops (⟨some d,.call ⟨.builtin .append,#[x,y],#[st,xt]⟩,ty,pos,af,none⟩::r) ⟨al L ρ,h⟩ Q:=by
 refine EvOps.valL (fun run=>?_) kk
 have hap:=appendP_new T (h:=h) (lv:=2) (full:=full) (by decide) hk hk' hs hb hz hby hl ho hyo (by cases ys with | nil=>exact absurd rfl hne | cons=>rfl) hn
 simp only [opVal,builtinP,List.map_cons,List.map_nil,evL_ev hx,evL_ev hy,hap]
end
namespace Zero
theorem clone59 {fl:Bool} {es:List PV} {vs:List Value} (H:HRel w F β h) (ha:L2 (VRel w (Av F h β) β h) vs [.snap fl es]) (hes:esOk 4 es) (hn:es.length<1000000000) {r:PV} {h':AHeap}
  (hr:(es=[]∧r=.snap true []∧h'=h)∨(es≠[]∧r=.mref h.length 0 0 es.length∧h'=h++[⟨.m,0,4,es⟩])):CSim C0.P 2 w F β h 45 vs r h':=by
 refine csim_wp (P:=C0.P) Tryz.func45 rfl H ha (fun a RR=>?_)
 refine wp_seq ?_
 refine ev_wp K0 mixed0 S0 (M:=fun ex s'=>ex=.normal∧∃ ρ',s'=⟨al [(0,.snap fl es)] ρ',h⟩) rfl ?_ RR ?_
 ·rw [envOf_al]
  (repeat' (first | refine EvOps.nil ?_ | (apply R.assign;exact rfl) | refine Ev.region ?_ | fail))
  exact ⟨rfl,_,St.keep ⟨rfl,trivial⟩⟩
 rintro ex s' a1 w1 β1 ⟨rfl,ρ1,rfl⟩ R1 S1
 refine wp_seq ?_
 refine wp_seq ?_
 apply region_special K0 S0 (pre:=[_]) (post:=[]) (R:=R1) (M:=fun s'=>∃ ρ',s'=⟨al [(0,.snap fl es),(3,.snap fl es)] ρ',h⟩) (M2:=fun s'=>∃ bb ρ',s'=⟨al [(0,.snap fl es),(4,.bool bb)] ρ',h⟩∧(bb=true→es=[]))
 ·rfl
 ·rfl
 ·(repeat' (first | refine EvOps.nil ?_ | (apply R.move;exact rfl) | fail))
  exact ⟨_,St.keep ⟨rfl,rfl,trivial⟩⟩
 ·rintro s1 a2 w2 β2 ⟨ρ2,rfl⟩ R2 S2
  obtain ⟨bb,hb,os⟩:=eqnil_osim (t:=31) (yt:=31) (el:=33) (x:=.tmp 3) (fl:=fl) (es:=es) R2.hr R2.er (kd_sl (T6.hkd 31 _ rfl)) (lk_al (L:=[(0,.snap fl es),(3,.snap fl es)]) (t:=3) rfl ρ2)
  refine ⟨.bool bb,h,os _ rfl,EvOps.nil ⟨bb,al ((4,.bool bb)::[(0,.snap fl es),(3,.snap fl es)]) ρ2,?_,hb⟩⟩
  show (⟨updO (al [(0,.snap fl es),(3,.snap fl es)] ρ2) (some 4) (.bool bb),h⟩:St)=_
  rw [al_cons]
  exact St.keep ⟨rfl,rfl,trivial⟩
 rintro s3 a3 w3 β3 ⟨bb,ρ3,rfl,hb⟩ R3 S3
 cases bb
 ·refine ev_wp K0 mixed0 S0 (M:=fun ex s'=>ex=.normal∧∃ ρ',s'=⟨al [(0,.snap fl es)] ρ',h⟩) rfl ?_ R3 ?_
  ·(repeat' (first | (apply Ev.condB;exact rfl) | refine Ev.skip ?_ | fail))
   exact ⟨rfl,_,St.keep ⟨rfl,trivial⟩⟩
  rintro ex s' a4 w4 β4 ⟨rfl,ρ4,rfl⟩ R4 S4
  refine ev_wp K0 mixed0 S0 (M:=fun ex s'=>ex=.ret∧∃ ρ',s'=⟨al [(2,r)] ρ',h'⟩) rfl ?_ R4 ?_
  ·(repeat' (first | (apply R.move;exact rfl) | (apply R.buildSlice T6;exact rfl;exact rfl;exact rfl;exact rfl;exact (by decide);exact rfl;exact rfl;exact rfl;exact rfl;exact rfl) | refine Ev.seq ?_ | refine Ev.region ?_ | fail))
   rcases hr with ⟨rfl,rfl,rfl⟩ | ⟨hne,rfl,rfl⟩
   ·apply R.appendS0 T6;exact rfl;exact rfl;exact rfl;exact rfl;exact rfl;exact rfl;exact rfl;exact (by decide);exact rfl;exact rfl
    (repeat' (first | refine EvOps.nil ?_ | (apply R.assign;exact rfl) | refine Ev.ret ?_ | refine thenQ.normal ?_ | fail))
    exact ⟨rfl,_,St.keep ⟨rfl,trivial⟩⟩
   ·apply R.appendS1 T6;exact rfl;exact rfl;exact rfl;exact rfl;exact rfl;exact rfl;exact rfl;exact (by decide);exact rfl;exact rfl;exact hes;exact hne;exact hn
    (repeat' (first | refine EvOps.nil ?_ | (apply R.assign;exact rfl) | refine Ev.ret ?_ | refine thenQ.normal ?_ | fail))
    exact ⟨rfl,_,St.keep ⟨rfl,trivial⟩⟩
  rintro ex s5 a5 w5 β5 ⟨rfl,ρ5,rfl⟩ R5 S5
  refine ⟨.inr rfl,_,β5,R5,((S1.trans S3).trans S4).trans S5,[r],?_,fun u hu=>⟨β5,hu,R5.hr,((S1.trans S3).trans S4).trans S5⟩⟩
  exact resT_of (L:=[(2,r)]) rfl
 ·obtain rfl:=hb rfl
  rcases hr with ⟨_,rfl,rfl⟩ | ⟨hne,_⟩
  ·refine ev_wp K0 mixed0 S0 (M:=fun ex s'=>ex=.ret∧∃ ρ',s'=⟨al [(2,.snap true [])] ρ',h'⟩) rfl ?_ R3 ?_
   ·(repeat' (first | refine EvOps.nil ?_ | (apply R.assign;exact rfl) | refine Ev.seq ?_ | refine Ev.region ?_ | (apply Ev.condB;exact rfl) | refine Ev.ret ?_ | refine thenQ.normal ?_ | fail))
    exact ⟨rfl,_,St.keep ⟨rfl,trivial⟩⟩
   rintro ex s5 a5 w5 β5 ⟨rfl,ρ5,rfl⟩ R5 S5
   refine ⟨.inr rfl,_,β5,R5,(S1.trans S3).trans S5,[.snap true []],?_,fun u hu=>⟨β5,hu,R5.hr,(S1.trans S3).trans S5⟩⟩
   exact resT_of (L:=[(2,.snap true [])]) rfl
  ·exact absurd rfl hne
 ·rfl
theorem clone79 {fl:Bool} {es:List PV} {vs:List Value} (H:HRel w F β h) (ha:L2 (VRel w (Av F h β) β h) vs [.snap fl es]) (hes:esOk 1 es) (hn:es.length<1000000000) {r:PV} {h':AHeap}
  (hr:(es=[]∧r=.snap true []∧h'=h)∨(es≠[]∧r=.mref h.length 0 0 es.length∧h'=h++[⟨.m,0,1,es⟩])):CSim C0.P 2 w F β h 397 vs r h':=by
 refine csim_wp (P:=C0.P) Tryz.func397 rfl H ha (fun a RR=>?_)
 refine wp_seq ?_
 refine ev_wp K0 mixed0 S0 (M:=fun ex s'=>ex=.normal∧∃ ρ',s'=⟨al [(0,.snap fl es)] ρ',h⟩) rfl ?_ RR ?_
 ·rw [envOf_al]
  (repeat' (first | refine EvOps.nil ?_ | (apply R.assign;exact rfl) | refine Ev.region ?_ | fail))
  exact ⟨rfl,_,St.keep ⟨rfl,trivial⟩⟩
 rintro ex s' a1 w1 β1 ⟨rfl,ρ1,rfl⟩ R1 S1
 refine wp_seq ?_
 refine wp_seq ?_
 apply region_special K0 S0 (pre:=[_]) (post:=[]) (R:=R1) (M:=fun s'=>∃ ρ',s'=⟨al [(0,.snap fl es),(3,.snap fl es)] ρ',h⟩) (M2:=fun s'=>∃ bb ρ',s'=⟨al [(0,.snap fl es),(4,.bool bb)] ρ',h⟩∧(bb=true→es=[]))
 ·rfl
 ·rfl
 ·(repeat' (first | refine EvOps.nil ?_ | (apply R.move;exact rfl) | fail))
  exact ⟨_,St.keep ⟨rfl,rfl,trivial⟩⟩
 ·rintro s1 a2 w2 β2 ⟨ρ2,rfl⟩ R2 S2
  obtain ⟨bb,hb,os⟩:=eqnil_osim (t:=263) (yt:=263) (el:=175) (x:=.tmp 3) (fl:=fl) (es:=es) R2.hr R2.er (kd_sl (T6.hkd 263 _ rfl)) (lk_al (L:=[(0,.snap fl es),(3,.snap fl es)]) (t:=3) rfl ρ2)
  refine ⟨.bool bb,h,os _ rfl,EvOps.nil ⟨bb,al ((4,.bool bb)::[(0,.snap fl es),(3,.snap fl es)]) ρ2,?_,hb⟩⟩
  show (⟨updO (al [(0,.snap fl es),(3,.snap fl es)] ρ2) (some 4) (.bool bb),h⟩:St)=_
  rw [al_cons]
  exact St.keep ⟨rfl,rfl,trivial⟩
 rintro s3 a3 w3 β3 ⟨bb,ρ3,rfl,hb⟩ R3 S3
 cases bb
 ·refine ev_wp K0 mixed0 S0 (M:=fun ex s'=>ex=.normal∧∃ ρ',s'=⟨al [(0,.snap fl es)] ρ',h⟩) rfl ?_ R3 ?_
  ·(repeat' (first | (apply Ev.condB;exact rfl) | refine Ev.skip ?_ | fail))
   exact ⟨rfl,_,St.keep ⟨rfl,trivial⟩⟩
  rintro ex s' a4 w4 β4 ⟨rfl,ρ4,rfl⟩ R4 S4
  refine ev_wp K0 mixed0 S0 (M:=fun ex s'=>ex=.ret∧∃ ρ',s'=⟨al [(2,r)] ρ',h'⟩) rfl ?_ R4 ?_
  ·(repeat' (first | (apply R.move;exact rfl) | (apply R.buildSlice T6;exact rfl;exact rfl;exact rfl;exact rfl;exact (by decide);exact rfl;exact rfl;exact rfl;exact rfl;exact rfl) | refine Ev.seq ?_ | refine Ev.region ?_ | fail))
   rcases hr with ⟨rfl,rfl,rfl⟩ | ⟨hne,rfl,rfl⟩
   ·apply R.appendS0 T6;exact rfl;exact rfl;exact rfl;exact rfl;exact rfl;exact rfl;exact rfl;exact (by decide);exact rfl;exact rfl
    (repeat' (first | refine EvOps.nil ?_ | (apply R.assign;exact rfl) | refine Ev.ret ?_ | refine thenQ.normal ?_ | fail))
    exact ⟨rfl,_,St.keep ⟨rfl,trivial⟩⟩
   ·apply R.appendS1 T6;exact rfl;exact rfl;exact rfl;exact rfl;exact rfl;exact rfl;exact rfl;exact (by decide);exact rfl;exact rfl;exact hes;exact hne;exact hn
    (repeat' (first | refine EvOps.nil ?_ | (apply R.assign;exact rfl) | refine Ev.ret ?_ | refine thenQ.normal ?_ | fail))
    exact ⟨rfl,_,St.keep ⟨rfl,trivial⟩⟩
  rintro ex s5 a5 w5 β5 ⟨rfl,ρ5,rfl⟩ R5 S5
  refine ⟨.inr rfl,_,β5,R5,((S1.trans S3).trans S4).trans S5,[r],?_,fun u hu=>⟨β5,hu,R5.hr,((S1.trans S3).trans S4).trans S5⟩⟩
  exact resT_of (L:=[(2,r)]) rfl
 ·obtain rfl:=hb rfl
  rcases hr with ⟨_,rfl,rfl⟩ | ⟨hne,_⟩
  ·refine ev_wp K0 mixed0 S0 (M:=fun ex s'=>ex=.ret∧∃ ρ',s'=⟨al [(2,.snap true [])] ρ',h'⟩) rfl ?_ R3 ?_
   ·(repeat' (first | refine EvOps.nil ?_ | (apply R.assign;exact rfl) | refine Ev.seq ?_ | refine Ev.region ?_ | (apply Ev.condB;exact rfl) | refine Ev.ret ?_ | refine thenQ.normal ?_ | fail))
    exact ⟨rfl,_,St.keep ⟨rfl,trivial⟩⟩
   rintro ex s5 a5 w5 β5 ⟨rfl,ρ5,rfl⟩ R5 S5
   refine ⟨.inr rfl,_,β5,R5,(S1.trans S3).trans S5,[.snap true []],?_,fun u hu=>⟨β5,hu,R5.hr,(S1.trans S3).trans S5⟩⟩
   exact resT_of (L:=[(2,.snap true [])]) rfl
  ·exact absurd rfl hne
 ·rfl
end Zero
end Go.Pm
end
section
set_option maxRecDepth 4000
set_option maxHeartbeats 8000000
namespace Go.Pm
open Go.Proofs
attribute [local irreducible] thenQ blockQ loopQ bodyQ Ev EvOps CallEv FnEv EvD
end Go.Pm
end
section
set_option maxRecDepth 4000
set_option maxHeartbeats 8000000
namespace Go.Pm
open Go.Proofs
attribute [local irreducible] thenQ blockQ loopQ bodyQ Ev EvOps CallEv FnEv EvD
end Go.Pm
end
section
set_option maxRecDepth 4000
set_option maxHeartbeats 4000000
namespace Go.Pm
open Go.Proofs
attribute [local irreducible] thenQ blockQ loopQ bodyQ Ev EvOps CallEv FnEv
mutual
def budget:Tm→Int→Int
 | .mk k s o l,m=>if m≤0∨40<(s.size:Int) then -1 else budgets l (m - 1)
def budgets:List Tm→Int→Int
 | [],m=>m
 | t::l,m=>if budget t m<0 then -1 else budgets l (budget t m)
end
mutual
theorem budget_le:∀ t m,budget t m≤m∨budget t m=-1
 | .mk k s o l,m=>by
  simp only [budget]
  split
  ·exact .inr rfl
  ·rcases budgets_le l (m - 1) with h | h
   ·left;omega
   ·exact .inr h
theorem budgets_le:∀ l m,budgets l m≤m∨budgets l m=-1
 | [],m=>.inl (by simp [budgets])
 | t::l,m=>by
  simp only [budgets]
  split
  ·exact .inr rfl
  ·rcases budgets_le l (budget t m) with h | h
   ·rcases budget_le t m with h' | h'
    ·left;omega
    ·omega
   ·exact .inr h
end
theorem budget_ev (k s o l) (hbk:bulks l<1000000000) (ih:∀ t∈l,∀ m:Int,m<1000000000→Fun C 97 [enc t,.int .i64 m] (.int .i64 (budget t m))) (m:Int) (hm:m<1000000000):Fun C 97 [enc (.mk k s o l),.int .i64 m] (.int .i64 (budget (.mk k s o l) m)):=by
 refine Fun.of (FnEv.bodyL Tryz.func97 rfl ?_)
 rw [enc]
 (repeat' (first | refine EvOps.nil ?_ | (apply R.gOn;exact rfl;exact rfl;exact rfl) | (apply R.gOff;exact rfl;exact rfl;exact rfl) | (apply R.move;exact rfl) | (apply R.assign;exact rfl) | (apply R.pickT;exact rfl;exact rfl) | (apply R.pickF;exact rfl;exact rfl) | (apply R.load1 T6;exact rfl;exact rfl;exact rfl;exact rfl) | (apply R.fieldAddr T6;exact rfl;exact rfl;exact rfl;exact rfl) | (apply R.cmp;exact rfl;exact rfl;exact rfl;all_goals intro hc) | (apply R.arith;exact rfl;exact rfl;exact rfl;exact (wrapI (by omega) (by omega))) | (apply R.lenStr T6;exact rfl;exact rfl) | (apply R.box;exact rfl;exact rfl;exact rfl;exact .nil) | refine Ev.seq ?_ | refine Ev.region ?_ | (apply Ev.condB;exact rfl) | refine Ev.ret ?_ | refine Ev.skip ?_ | refine Ev.block ?_ | refine thenQ.normal ?_ | refine thenQ.ret ?_ | (apply bodyQ.ret;exact rfl) | fail))
 ·refine ⟨_,rfl,?_⟩
  simp only [nrm,tupOf,budget,hc,true_or,if_true]
 ·refine ⟨_,rfl,?_⟩
  rename_i h1
  simp only [nrm,tupOf,budget,h1,hc,or_true,if_true]
 ·rename_i h1
  refine Ev.loop (I:=fun k' st=>∃ (i:Nat) (mm:Int) (ρ':Nat→PV),st=⟨al [(2,.ptr 0 0 0 0),(1,.int .i64 mm),(5,.int .i64 i)] ρ',[⟨.m,0,4,[.agg [.int .i64 k,.str s,.int .i64 o,.snap false (encs l)]]⟩]⟩∧k'+i=l.length∧mm<1000000000∧budgets l (m - 1)=budgets (l.drop i) mm) l.length ?_ ?_
  ·exact ⟨0,m - 1,_,St.keep ⟨rfl,rfl,rfl,trivial⟩,rfl,by omega,rfl⟩
  ·rintro k' _ ⟨i,mm,ρ',rfl,hk,hmm,hb⟩
   have hlen:=len_bulks l
   (repeat' (first | refine EvOps.nil ?_ | (apply R.move;exact rfl) | (apply R.assign;exact rfl) | (apply R.load1 T6;exact rfl;exact rfl;exact rfl;exact rfl) | (apply R.fieldAddr T6;exact rfl;exact rfl;exact rfl;exact rfl) | (apply R.cmp;exact rfl;exact rfl;exact rfl;all_goals intro hc) | (apply R.lenS T6;exact rfl;exact rfl) | refine Ev.seq ?_ | refine Ev.region ?_ | (apply Ev.condB;exact rfl) | refine Ev.ret ?_ | refine Ev.skip ?_ | refine Ev.exit ?_ | refine Ev.block ?_ | refine thenQ.normal ?_ | refine thenQ.exit ?_ | refine blockQ.hit ?_ | refine loopQ.exit ?_ | (apply bodyQ.ret;exact rfl) | fail))
   ·have hil:i<l.length:=by have:=encs_len l;omega
    obtain ⟨t,ht⟩:∃ t,l[i]?=some t:=⟨l[i],List.getElem?_eq_getElem hil⟩
    obtain ⟨a1,a2,a3,a4,ha⟩:=enc_agg t
    refine R.indexS T6 rfl rfl rfl rfl (v:=.agg [a1,a2,a3,a4]) (by rw [encs_eq,List.getElem?_map,ht,← ha];rfl) rfl rfl ?_
    (repeat' (first | (apply R.move;exact rfl) | (apply R.loadA T6;exact rfl;exact rfl;exact rfl;exact rfl;exact (by repeat constructor)) | fail))
    refine R.call rfl rfl ?_
    show CallEv C 2 _ [.agg [a1,a2,a3,a4],.int .i64 mm] _ _
    rw [← ha]
    refine CallEv.pure (r:=.int .i64 (budget t mm)) rfl (by simp [isVals,isVal,isVal_enc]) (by simpa [nrms,nrm,nrm_enc] using ih t (List.mem_of_getElem? ht) mm hmm) ?_
    (repeat' (first | refine EvOps.nil ?_ | (apply R.move;exact rfl) | (apply R.assign;exact rfl) | (apply R.cmp;exact rfl;exact rfl;exact rfl;all_goals intro hc) | (apply R.arith;exact rfl;exact rfl;exact rfl;exact (wrapI (by omega) (by omega))) | refine Ev.seq ?_ | refine Ev.region ?_ | (apply Ev.condB;exact rfl) | refine Ev.ret ?_ | refine Ev.skip ?_ | refine thenQ.normal ?_ | refine thenQ.ret ?_ | refine blockQ.normal ?_ | refine blockQ.ret ?_ | refine loopQ.normal ?_ | refine loopQ.ret ?_ | (apply bodyQ.ret;exact rfl) | fail))
    ·rename_i h2
     refine ⟨_,rfl,?_⟩
     have hd:l.drop i=t::l.drop (i+1):=by rw [List.drop_eq_getElem_cons hil];congr 1;rw [List.getElem?_eq_getElem hil] at ht;exact Option.some.inj ht
     simp only [nrm,tupOf,budget,h1,false_or]
     rw [if_neg (by assumption),hb,hd,budgets,if_pos (by assumption)]
    ·have hd:l.drop i=t::l.drop (i+1):=by rw [List.drop_eq_getElem_cons hil];congr 1;rw [List.getElem?_eq_getElem hil] at ht;exact Option.some.inj ht
     refine ⟨k' - 1,by omega,i+1,budget t mm,_,St.keep ⟨rfl,rfl,rfl,trivial⟩,by omega,?_,?_⟩
     ·have:=budget_le t mm;omega
     ·rw [hb,hd,budgets,if_neg (by assumption)]
   ·refine ⟨_,rfl,?_⟩
    have hi:l.drop i=[]:=List.drop_eq_nil_of_le (by have:=encs_len l;omega)
    simp only [nrm,tupOf,budget,h1,false_or]
    rw [if_neg (by assumption),hb,hi,budgets]
theorem budget_fun (t:Tm) (hb:bulk t<1000000000) (m:Int) (hm:m<1000000000):Fun C 97 [enc t,.int .i64 m] (.int .i64 (budget t m)):=by
 induction t using Tm.ind generalizing m with
 | h k s o l ih=>
  simp only [bulk] at hb
  exact budget_ev k s o l (by omega) (fun t ht m hm=>ih t ht (by have:=bulk_mem ht;omega) m hm) m hm
def fewL:List Tm→Int→Bool
 | [],_=>true
 | t::l,m=>if budget t m<0 then false else fewL l (budget t m)
def few (l:List Tm) (n m:Int):Bool:=if n<(l.length:Int) then false else fewL l m
theorem few_fun (l:List Tm) (hb:bulks l<1000000000) (n m:Int) (hm:m<1000000000):Fun C 46 [.snap false (encs l),.int .i64 n,.int .i64 m] (.bool (few l n m)):=by
 refine Fun.of (FnEv.bodyL Tryz.func46 rfl ?_)
 have hlen:=len_bulks l
 have hel:=encs_len l
 (repeat' (first | refine EvOps.nil ?_ | (apply R.move;exact rfl) | (apply R.assign;exact rfl) | (apply R.cmp;exact rfl;exact rfl;exact rfl;all_goals intro hc) | (apply R.lenS T6;exact rfl;exact rfl) | refine Ev.seq ?_ | refine Ev.region ?_ | (apply Ev.condB;exact rfl) | refine Ev.ret ?_ | refine Ev.skip ?_ | refine Ev.block ?_ | refine thenQ.normal ?_ | refine thenQ.ret ?_ | (apply bodyQ.ret;exact rfl) | fail))
 ·refine ⟨_,rfl,?_⟩
  simp only [nrm,tupOf,few]
  rw [if_pos (by omega)]
 ·refine Ev.loop (I:=fun k' st=>∃ (i:Nat) (mm:Int) (ρ':Nat→PV),st=⟨al [(0,.snap false (encs l)),(2,.int .i64 mm),(7,.int .i64 i)] ρ',[]⟩∧k'+i=l.length∧mm<1000000000∧fewL l m=fewL (l.drop i) mm) l.length ?_ ?_
  ·exact ⟨0,m,_,St.keep ⟨rfl,rfl,rfl,trivial⟩,rfl,hm,rfl⟩
  ·rintro k' _ ⟨i,mm,ρ',rfl,hk,hmm,hb'⟩
   (repeat' (first | refine EvOps.nil ?_ | (apply R.move;exact rfl) | (apply R.assign;exact rfl) | (apply R.cmp;exact rfl;exact rfl;exact rfl;all_goals intro hc) | (apply R.lenS T6;exact rfl;exact rfl) | refine Ev.seq ?_ | refine Ev.region ?_ | (apply Ev.condB;exact rfl) | refine Ev.ret ?_ | refine Ev.skip ?_ | refine Ev.exit ?_ | refine Ev.block ?_ | refine thenQ.normal ?_ | refine thenQ.exit ?_ | refine blockQ.hit ?_ | refine loopQ.exit ?_ | (apply bodyQ.ret;exact rfl) | fail))
   ·obtain ⟨t,a1,a2,a3,a4,hmem,ha,hat,hd,hil,_⟩:=encs_at hc
    refine R.indexS T6 rfl rfl rfl rfl (v:=.agg [a1,a2,a3,a4]) hat rfl rfl ?_
    (repeat' (first | (apply R.move;exact rfl) | (apply R.loadA T6;exact rfl;exact rfl;exact rfl;exact rfl;exact (by repeat constructor)) | fail))
    refine R.call rfl rfl ?_
    show CallEv C 2 _ [.agg [a1,a2,a3,a4],.int .i64 mm] _ _
    rw [← ha]
    refine CallEv.pure (r:=.int .i64 (budget t mm)) rfl (by simp [isVals,isVal,isVal_enc]) (by simpa [nrms,nrm,nrm_enc] using budget_fun t (by have:=bulk_mem hmem;omega) mm hmm) ?_
    (repeat' (first | refine EvOps.nil ?_ | (apply R.move;exact rfl) | (apply R.assign;exact rfl) | (apply R.cmp;exact rfl;exact rfl;exact rfl;all_goals intro hc) | (apply R.arith;exact rfl;exact rfl;exact rfl;exact (wrapI (by omega) (by omega))) | refine Ev.seq ?_ | refine Ev.region ?_ | (apply Ev.condB;exact rfl) | refine Ev.ret ?_ | refine Ev.skip ?_ | refine thenQ.normal ?_ | refine thenQ.ret ?_ | refine blockQ.normal ?_ | refine blockQ.ret ?_ | refine loopQ.normal ?_ | refine loopQ.ret ?_ | (apply bodyQ.ret;exact rfl) | fail))
    ·refine ⟨_,rfl,?_⟩
     simp only [nrm,tupOf,few]
     rw [if_neg (by omega),hb',hd,fewL,if_pos (by assumption)]
    ·refine ⟨k' - 1,by omega,i+1,budget t mm,_,St.keep ⟨rfl,rfl,rfl,trivial⟩,by omega,?_,?_⟩
     ·have:=budget_le t mm;omega
     ·rw [hb',hd,fewL,if_neg (by assumption)]
   ·refine ⟨_,rfl,?_⟩
    simp only [nrm,tupOf,few]
    rw [if_neg (by omega),hb',encs_end hc,fewL]
end Go.Pm
end
section
set_option maxRecDepth 4000
set_option maxHeartbeats 8000000
namespace Go.Pm
open Go.Proofs
def encPPs (l:List (List Pw)):List PV:=l.map fun p=>.snap false (encPs p)
attribute [local irreducible] thenQ blockQ loopQ bodyQ Ev EvOps CallEv FnEv EvD
section
variable {C:Cfg} (T:Tab C.P)
variable {ops:Array Oper} {i:Nat} {d L0:Nat} {own:List Nat} {ty:TypeId} {pos:String} {af:Array Edge} {r:List Oper} {ρ:Nat→PV} {L:List (Nat × PV)} {h:AHeap} {Q:St→Prop}
end
end Go.Pm
end
section
set_option maxRecDepth 4000
namespace Go.Pm
open Go.Proofs
def Tm.k:Tm→Int | .mk k _ _ _=>k
def Tm.s:Tm→ByteArray | .mk _ s _ _=>s
def Tm.o:Tm→Int | .mk _ _ o _=>o
def Tm.l:Tm→List Tm | .mk _ _ _ l=>l
theorem enc_x (t:Tm):enc t=.agg [.int .i64 t.k,.str t.s,.int .i64 t.o,.snap false (encs t.l)]:=by cases t;exact enc_mk _ _ _ _
theorem encP_x (t:Tm) (n:Int):encP (t,n)=.agg [.int .i64 t.k,.str t.s,.int .i64 t.o,.snap false (encs t.l),.int .i64 n]:=by cases t;rfl
attribute [simp] isVals isVal nrms nrm isVals_encs nrms_encs isVal_enc nrm_enc nrms_encPs encPs_vals
@[simp] theorem fold_enc (t:Tm):PV.agg [.int .i64 t.k,.str t.s,.int .i64 t.o,.snap false (encs t.l)]=enc t:=(enc_x t).symm
@[simp] theorem fold_encP (t:Tm) (n:Int):PV.agg [.int .i64 t.k,.str t.s,.int .i64 t.o,.snap false (encs t.l),.int .i64 n]=encP (t,n):=(encP_x t n).symm
theorem isVals_app (a b:List PV):isVals (a++b)=(isVals a && isVals b):=by rw [isVals_eq,List.all_append,← isVals_eq,← isVals_eq]
attribute [simp] isVals_app
@[simp] theorem isVal_encP (p:Pw):isVal (encP p)=true:=by obtain ⟨t,n⟩:=p;rw [encP_x];simp
@[simp] theorem nrm_encP (p:Pw):nrm (encP p)=encP p:=by obtain ⟨t,n⟩:=p;rw [encP_x];simp [-fold_encP,-fold_enc]
@[simp] theorem encPs_nil:encPs []=[]:=rfl
@[simp] theorem encs_nil:encs []=[]:=by simp [encs]
@[simp] theorem encs_lenS (l:List Tm):(encs l).length=l.length:=encs_len l
@[simp] theorem encPs_lenS (l:List Pw):(encPs l).length=l.length:=encPs_len l
theorem at_encs {l p q:List Tm} {t:Tm} (e:l=p++t::q):(encs l)[p.length]?=some (.agg [.int .i64 t.k,.str t.s,.int .i64 t.o,.snap false (encs t.l)]):=by rw [encs_eq,e,← enc_x];simp
attribute [local irreducible] thenQ blockQ loopQ bodyQ Ev EvOps CallEv FnEv EvD
end Go.Pm
end
section
set_option maxRecDepth 100000
set_option maxHeartbeats 2000000
namespace Go.Pm
open Go.Proofs
theorem co3:C.P.cellsOf 3=1:=by kernel_rfl
theorem co9:C.P.cellsOf 9=1:=by kernel_rfl
theorem co22:C.P.cellsOf 31=1:=by kernel_rfl
theorem co24:C.P.cellsOf 33=4:=by kernel_rfl
theorem un24f:∃ fs,C.P.underlying 33=some (.struct fs)∧fs.toList.map (fun f=>(f.offset,f.type))=[(0,3),(1,9),(2,3),(3,31)]:=kd_st (T6.hkd 33 _ rfl)
instance:Inhabited Tm:=⟨zeroT⟩
def NoB:Nat→Prop:=fun _=>False
theorem plain_addr {w:World} {a:Addr} {v:Value} (h:w.cell? a=some v):∃ b off,a=⟨b,off,none⟩:=by
 obtain ⟨b,off,sp⟩:=a
 cases sp with
 | none=>exact ⟨b,off,rfl⟩
 | some s=>
  exfalso
  unfold World.cell? at h
  split at h
  ·simp at h
  ·cases h
theorem add0 (a:Addr):a.add 0=a:=by obtain ⟨b,off,sp⟩:=a;simp [Addr.add]
theorem SRel.cells4 {w:World} {A:Nat→Prop} {cs:List Value} {t:Tm} (h:SRel w A (.agg cs.toArray) (enc t)):cs.length=4∧(Pm.cells (enc t)).length=4∧∀ j,j<4→SRel w A (cs.getD j undef) ((Pm.cells (enc t)).getD j .any):=by
 obtain ⟨k,s,o,l⟩:=t
 rw [enc_mk] at h ⊢
 generalize hv:(Value.agg cs.toArray)=v at h
 cases h with
 | agg vs _ hl hh=>
  have:vs=cs:=by simpa using (Value.agg.inj hv).symm
  subst this
  exact ⟨hl,rfl,hh⟩
open Go.Proofs.YtimogkojklpdnaaGreatDoor in
theorem bulks_upto {H:Type}:∀ (l:List Tm) (ds:List (DataW H)),l.length=ds.length→(∀ (i:Nat) (t:Tm) (d:DataW H),l[i]?=some t→ds[i]?=some d→bulk t≤Rows.uptoBulk d)→bulks l≤Rows.uptoBulkAll ds
 | [],_,_,_=>by simp [bulks]
 | t::l,[],h,_=>by simp at h
 | t::l,d::ds,h,hb=>by
  have h1:=hb 0 t d rfl rfl
  have h2:=bulks_upto l ds (by simpa using h) (fun i t' d' e1 e2=>hb (i+1) t' d' (by simpa using e1) (by simpa using e2))
  simp only [bulks,Rows.uptoBulkAll];omega
open Go.Proofs.YtimogkojklpdnaaGreatDoor in
theorem read_tm {H:Type} {ec:TypeId × Value→H} {w:World} {sp:Nat→Bool} {held:Bool}:∀ (n:Nat) (cs:List Value) (x:DataW H × List MemPlace),DataW.trod ec C.P w 0 sp held n 33 cs=some x →
  ∃ t:Tm,SRel w NoB (.agg cs.toArray) (enc t)∧bulk t≤Rows.uptoBulk x.1:=by
 intro n
 induction n using Nat.strongRecOn with
 | ind n ih=>
  intro cs x h
  obtain ⟨fs,hu,hfs⟩:=un24f
  obtain ⟨xs,m,rfl,rfl,hlen,hxl,hf⟩:=DataW.trod_struct hu h
  rw [co24] at hlen
  have hsz:fs.size=4:=by have:=congrArg List.length hfs;simpa using this
  rw [hsz] at hxl
  have fld:∀ i:Nat,∀ a b,[(0,3),(1,9),(2,3),(3,31)][i]?=some (a,b)→∃ f,fs[i]?=some f∧f.offset=a∧f.type=b:=by
   intro i a b hi
   rw [← hfs,List.getElem?_map] at hi
   have:fs[i]?=fs.toList[i]?:=by simp
   rw [this]
   cases hh:fs.toList[i]? with
   | none=>rw [hh] at hi;cases hi
   | some f=>
    rw [hh] at hi
    simp only [Option.map_some,Option.some.injEq,Prod.mk.injEq] at hi
    exact ⟨f,rfl,hi.1,hi.2⟩
  match cs,hlen,xs,hxl with
  | [c0,c1,c2,c3],_,[x0,x1,x2,x3],_=>
   obtain ⟨f0,g0,a0,b0⟩:=fld 0 0 3 rfl
   obtain ⟨f1,g1,a1,b1⟩:=fld 1 1 9 rfl
   obtain ⟨f2,g2,a2,b2⟩:=fld 2 2 3 rfl
   obtain ⟨f3,g3,a3,b3⟩:=fld 3 3 31 rfl
   have h0:=hf 0 f0 g0
   have h1:=hf 1 f1 g1
   have h2:=hf 2 f2 g2
   have h3:=hf 3 f3 g3
   rw [a0,b0,co3] at h0
   rw [a1,b1,co9] at h1
   rw [a2,b2,co3] at h2
   rw [a3,b3,co22] at h3
   simp only [List.drop_zero,List.take_succ_cons,List.take_zero,List.drop_succ_cons,List.getElem?_cons_zero,List.getElem?_cons_succ] at h0 h1 h2 h3
   obtain ⟨k,e0,e0',_⟩:=DataW.trod_int (kd_int (T6.hkd 3 _ rfl)) h0
   obtain ⟨s,e1,e1',_⟩:=DataW.trod_string (kd_str (T6.hkd 9 _ rfl)) h1
   obtain ⟨o,e2,e2',_⟩:=DataW.trod_int (kd_int (T6.hkd 3 _ rfl)) h2
   obtain rfl:c0=.int .i64 k:=by simpa using e0
   obtain rfl:c1=.string s:=by simpa using e1
   obtain rfl:c2=.int .i64 o:=by simpa using e2
   subst e0' e1' e2'
   have fin:∀ (l:List Tm),SRel w NoB c3 (.snap false (encs l))→bulks l+1≤Rows.uptoBulk x3.1→∃ t:Tm,SRel w NoB (.agg [.int .i64 k,.string s,.int .i64 o,c3].toArray) (enc t) ∧
     bulk t≤Rows.uptoBulk (.agg ([((.lit (.int .i64 k),[]):DataW H × List MemPlace),(.lit (.string s.data.toList),[]),(.lit (.int .i64 o),[]),x3].map (·.1))):=by
    intro l hl hb
    refine ⟨.mk k s o l,?_,?_⟩
    ·rw [enc_mk]
     refine .agg _ _ rfl (fun j hj=>?_)
     match j,hj with
     | 0,_=>exact .int _ _
     | 1,_=>exact .str _
     | 2,_=>exact .int _ _
     | 3,_=>exact hl
    ·have hs:s.data.toList.length=s.size:=Array.length_toList
     simp only [List.map_cons,List.map_nil,Rows.uptoBulk,Rows.uptoBulkAll,bulk,hs]
     omega
   rcases DataW.trod_slice (kd_sl (T6.hkd 31 _ rfl)) h3 with ⟨e3,rfl⟩ | ⟨a,len,cap,elems,rest,n2,hn2,e3,rfl,hb,hle,hcap,hlen2,hel,_,_⟩
   ·obtain rfl:c3=.slice none 0 0:=by simpa using e3
    exact fin [] (.snapE none 0 false (fun h=>by cases h)) (by simp [bulks,Rows.uptoBulk])
   ·obtain rfl:c3=.slice (some a) len cap:=by simpa using e3
    rw [co24] at hel
    have each:∀ i,i<len→∃ q:List Value × Tm,w.cells? 0 (a.add (i * 4)) 4=some q.1∧SRel w NoB (.agg q.1.toArray) (enc q.2)∧∀ y,elems[i]?=some y→bulk q.2≤Rows.uptoBulk y.1:=by
     intro i hi
     have h1:=hel i hi
     obtain ⟨y,hy⟩:∃ y,elems[i]?=some y:=⟨elems[i],List.getElem?_eq_getElem (by omega)⟩
     rw [hy] at h1
     cases hc:w.cells? 0 (a.add (i * 4)) 4 with
     | none=>rw [hc] at h1;cases h1
     | some cs'=>
      rw [hc] at h1
      obtain ⟨t,t1,t2⟩:=ih n2 (by omega) cs' y h1
      exact ⟨(cs',t),rfl,t1,fun y' hy'=>by rw [hy] at hy';obtain rfl:=Option.some.inj hy';exact t2⟩
    obtain ⟨q,hq⟩:=Deep.choose_lt each
    have hl1:((List.range len).map fun i=>(q i).2).length=len:=by simp
    have hget:∀ i,i<len→((List.range len).map fun i=>(q i).2)[i]?=some (q i).2:=fun i hi=>by rw [List.getElem?_map,List.getElem?_range hi];rfl
    refine fin ((List.range len).map fun i=>(q i).2) ?_ ?_
    ·by_cases h0:len=0
     ·subst h0
      exact .snapE (some a) cap false (fun h=>by cases h)
     ·have h00:=(hq 0 (by omega)).1
      obtain ⟨_,hcl,hcc⟩:=World.cells?_some h00
      have hc0:=hcc 0 (by omega)
      rw [Nat.zero_mul,add0,add0] at hc0
      obtain ⟨v0,hv0⟩:∃ v,(q 0).1[0]?=some v:=⟨(q 0).1[0],List.getElem?_eq_getElem (by omega)⟩
      rw [hv0] at hc0
      obtain ⟨b,off,rfl⟩:=plain_addr hc0
      have hes:(encs ((List.range len).map fun i=>(q i).2)).length=len:=by rw [encs_len,hl1]
      have hgd:∀ i,i<len→(encs ((List.range len).map fun i=>(q i).2)).getD i .any=enc (q i).2:=fun i hi=>by
       rw [encs_eq,List.getD,List.getElem?_map,hget i hi];rfl
      have key:SRel w NoB (.slice (some ⟨b,off,none⟩) (encs ((List.range len).map fun i=>(q i).2)).length cap) (.snap false (encs ((List.range len).map fun i=>(q i).2))):=by
       refine .snap b off cap 4 false _ (fun i j=>(q i).1.getD j undef) (fun h=>?_) (by omega) (fun h=>by cases h) (fun h=>h) (by omega) (fun i hi=>?_) (fun i j hi hj=>?_) (fun i j hi hj=>?_)
       ·rw [h] at hes;simp at hes;omega
       ·rw [hgd i (by omega)];exact (hq i (by omega)).2.1.cells4.2.1
       ·obtain ⟨_,hcl,hcc⟩:=World.cells?_some (hq i (by omega)).1
        have:=hcc j hj
        rw [addr_add,addr_add] at this
        rw [show off+(i * 4+j)=off+i * 4+j by omega,this,List.getElem?_eq_getElem (by omega)]
        simp [List.getD,List.getElem?_eq_getElem (show j<(q i).1.length by omega)]
       ·rw [hgd i (by omega)];exact (hq i (by omega)).2.1.cells4.2.2 j hj
      rw [hes] at key
      exact key
    ·have:=bulks_upto ((List.range len).map fun i=>(q i).2) (elems.map (·.1)) (by simp [hlen2]) (fun i t d e1 e2=>by
      have hi:i<len:=by have:=lt_of_some e1;rwa [hl1] at this
      rw [hget i hi] at e1
      obtain rfl:=Option.some.inj e1
      rw [List.getElem?_map] at e2
      cases hy:elems[i]? with
      | none=>rw [hy] at e2;cases e2
      | some y=>
       rw [hy] at e2
       obtain rfl:=Option.some.inj e2
       exact (hq i hi).2.2 y hy)
     simp only [Rows.uptoBulk]
     omega
end Go.Pm
end
