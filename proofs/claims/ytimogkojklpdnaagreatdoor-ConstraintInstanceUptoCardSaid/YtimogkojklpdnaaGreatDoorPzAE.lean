/-
  A part of the library Pm and its contracts (joined by program): PmColl PmOf PmPVal PmCat PmTm PmX PmTm2 PmRVal. Conditions: none.
-/
import Derived.Test.YtimogkojklpdnaaGreatDoorPzAD
import Derived.Test.YtimogkojklpdnaaGreatDoorPzAC
set_option linter.unusedVariables false
set_option linter.unusedSimpArgs false
section
set_option maxRecDepth 4000
set_option maxHeartbeats 4000000
namespace Go.Pm
open Go.Proofs
attribute [local irreducible] thenQ blockQ loopQ bodyQ Ev EvOps CallEv FnEv EvD
end Go.Pm
end
section
set_option maxRecDepth 4000
set_option maxHeartbeats 4000000
namespace Go.Pm
open Go.Proofs
attribute [local irreducible] thenQ blockQ loopQ bodyQ Ev EvOps CallEv FnEv EvD
theorem Out.rbA {sz:Nat} {h:AHeap} {v:PV} {es:List PV} (o:Out sz h v es) (hv:isVals es=true):∃ r1,rbA h v=some r1∧nrm r1=.snap false (nrms es):=by
 rcases o with ⟨rfl,rfl⟩ | ⟨id,ep,rfl,e2⟩
 ·exact ⟨_,rfl,rfl⟩
 ·exact ⟨.snap false es,by simp [Pm.rbA,rb1,getM,e2,hv],by simp [nrm]⟩
end Go.Pm
end
section
set_option maxRecDepth 4000
set_option maxHeartbeats 4000000
namespace Go.Pm
open Go.Proofs
attribute [local irreducible] thenQ blockQ loopQ bodyQ Ev EvOps CallEv FnEv EvD
end Go.Pm
end
section
set_option maxRecDepth 4000
set_option maxHeartbeats 4000000
namespace Go.Pm
open Go.Proofs
section
variable {C:Cfg} (T:Tab C.P)
variable {ops:Array Oper} {d:Nat} {ty:TypeId} {pos:String} {af:Array Edge} {r:List Oper} {ρ:Nat→PV} {L:List (Nat × PV)} {h:AHeap} {Q:St→Prop}
theorem Out.elems {sz:Nat} {h:AHeap} {v:PV} {es:List PV} (o:Out sz h v es):elems h v=some es:=by
 rcases o with ⟨rfl,rfl⟩ | ⟨id,ep,rfl,e2⟩
 ·rfl
 ·simp [Pm.elems,getM,e2]
def Ls (sz:Nat) (h:AHeap) (v:PV) (es:List PV):Prop:=Out sz h v es∨∃ f,v=.snap f es
theorem Ls.elems {sz:Nat} {h:AHeap} {v:PV} {es:List PV} (o:Ls sz h v es):elems h v=some es:=by
 rcases o with o | ⟨f,rfl⟩
 ·exact o.elems
 ·rfl
end
section
variable {C:Cfg} (T:Tab C.P)
theorem Out.cells {sz:Nat} {h:AHeap} {v:PV} {es:List PV} (o:Out sz h v es):cells v=[v]:=by
 rcases o with ⟨rfl,rfl⟩ | ⟨id,ep,rfl,e2⟩ <;> rfl
theorem Ls.cells {sz:Nat} {h:AHeap} {v:PV} {es:List PV} (o:Ls sz h v es):Pm.cells v=[v]:=by
 rcases o with o | ⟨f,rfl⟩
 ·exact o.cells
 ·rfl
end
attribute [local irreducible] thenQ blockQ loopQ bodyQ Ev EvOps CallEv FnEv EvD
theorem encs_app (a b:List Tm):encs (a++b)=encs a++encs b:=by rw [encs_eq,encs_eq,encs_eq,List.map_append]
end Go.Pm
end
section
set_option maxRecDepth 4000
set_option maxHeartbeats 4000000
namespace Go.Pm
open Go.Proofs
section
variable {C:Cfg} (T:Tab C.P)
variable {ops:Array Oper} {d:Nat} {ty:TypeId} {pos:String} {af:Array Edge} {r:List Oper} {ρ:Nat→PV} {L:List (Nat × PV)} {h:AHeap} {Q:St→Prop}
end
def zeroT:Tm:=.mk 0 ByteArray.empty 0 []
theorem Out.lt {sz:Nat} {h:AHeap} {v:PV} {es:List PV} (o:Out sz h v es) {j ep n:Nat} (hv:v=.mref j ep 0 n):j<h.length:=by
 rcases o with ⟨rfl,_⟩ | ⟨id,ep',rfl,e2⟩
 ·cases hv
 ·cases hv;exact lt_of_some e2
theorem LP.obj {H:AHeap} {v:PV} {sz:Nat} {es:List PV} {r:PV} {h':AHeap} (a:LP H v sz es r h') {b:Nat} {o:AObj} (e:H[b]?=some o) (hb:∀ ep n,v≠.mref b ep 0 n):h'[b]?=some o∧∀ ep n,r≠.mref b ep 0 n:=by
 refine ⟨by rw [a.fr b (lt_of_some e) hb];exact e,fun ep n hh=>?_⟩
 rcases a.ref b ep n hh with ⟨ep',n',h3⟩ | h3
 ·exact hb ep' n' h3
 ·have:=lt_of_some e;omega
end Go.Pm
end
section
namespace Go.Pm
abbrev Al:=List (Nat × PV)
inductive Rn (p:Prop):Prop
  | go (k:p)
theorem Rn.out {p:Prop} (h:Rn p):p:=h.casesOn id
inductive Fork (p a b:Prop):Prop
  | tt (k:Rn a) (h:p:=by first | assumption | omega | decide)
  | ff (k:Rn b) (h:¬ p:=by first | assumption | omega | decide)
  | mk (t:p→Rn a) (f:¬ p→Rn b)
theorem Fork.out {p a b:Prop} (h:Fork p a b):(p∧a)∨(¬ p∧b):=by
  cases h with
  | tt k h=>exact .inl ⟨h,k.out⟩
  | ff k h=>exact .inr ⟨h,k.out⟩
  | mk t f=>
    by_cases hp:p
    · exact .inl ⟨hp,(t hp).out⟩
    · exact .inr ⟨hp,(f hp).out⟩
inductive Wr (k:IntKind) (c:Int) (K:Int→Prop):Prop
  | mk (kk:Rn (K c)) (h:k.wrap c=c:=by first | exact wrapI (by omega) (by omega) | exact wrapU (by omega) (by omega))
  | raw (c':Int) (h:k.wrap c=c') (kk:Rn (K c'))
theorem Wr.out {k:IntKind} {c:Int} {K:Int→Prop} (h:Wr k c K):K (k.wrap c):=by
  cases h with
  | mk kk h=>rw [h];exact kk.out
  | raw c' h kk=>rw [h];exact kk.out
inductive Sd (p a:Prop):Prop
  | mk (k:Rn a) (h:p:=by first | assumption | omega | decide | rfl | (dsimp only;omega) | (simp;done) | (simp;omega))
theorem Sd.out {p a:Prop} (h:Sd p a):p∧a:=by cases h with | mk k h=>exact ⟨h,k.out⟩
theorem getM_app {h J:AHeap} {id ep:Nat} {o:AObj} (e:getM h id ep=some o):getM (h++J) id ep=some o:=by
  obtain ⟨h1,h2,h3⟩:=getM_some e
  exact getM_at (by rw [List.getElem?_append_left (lt_of_some h1)];exact h1) h2 h3
inductive ObjX (h:AHeap) (id ep:Nat) (K:AObj→Prop):Prop
  | mk {o:AObj} (kk:Rn (K o)) (ho:getM h id ep=some o:=by first | exact getM_at (by assumption) rfl (by first | assumption | simp) | rfl | exact getM_new | exact getM_app (getM_at (by assumption) rfl (by first | assumption | simp)) | exact getM_app getM_new | exact getM_app (getM_app (getM_at (by assumption) rfl (by first | assumption | simp))))
theorem ObjX.out {h:AHeap} {id ep:Nat} {K:AObj→Prop} (x:ObjX h id ep K):∃ o,getM h id ep=some o∧K o:=by cases x with | mk kk ho=>exact ⟨_,ho,kk.out⟩
inductive EltX (es:List PV) (i:Int) (sz:Nat) (K:List PV→Prop):Prop
  | mk {n:Nat} {v:PV} (kk:Rn (K (cells v))) (hi:i=(n:Int):=by first | rfl | exact (Int.natCast_succ _).symm | exact (Int.toNat_of_nonneg (by omega)).symm) (hv:es[n]?=some v:=by first | assumption | rfl) (hl:(cells v).length=sz:=by rfl)
theorem EltX.out {es:List PV} {i:Int} {sz:Nat} {K:List PV→Prop} (x:EltX es i sz K):∃ (n:Nat) (v:PV),i=n∧es[n]?=some v∧(cells v).length=sz∧K (cells v):=by
  cases x with | mk kk h1 h2 h3=>exact ⟨_,_,h1,h2,h3,kk.out⟩
inductive ByX (s:ByteArray) (i:Int) (K:UInt8→Prop):Prop
  | mk {n:Nat} {b:UInt8} (kk:Rn (K b)) (hi:i=(n:Int):=by first | rfl | exact (Int.natCast_succ _).symm | exact (Int.toNat_of_nonneg (by omega)).symm) (hv:s[n]?=some b:=by first | assumption | rfl)
theorem ByX.out {s:ByteArray} {i:Int} {K:UInt8→Prop} (x:ByX s i K):∃ (n:Nat) (b:UInt8),i=n∧s[n]?=some b∧K b:=by cases x with | mk kk h1 h2=>exact ⟨_,_,h1,h2,kk.out⟩
inductive Ap1 (o:AObj):AHeap→AHeap→Nat→Prop
  | nil:Ap1 o [] [o] 0
  | cons {x:AObj} {l l':AHeap} {n:Nat}:Ap1 o l l' n→Ap1 o (x::l) (x::l') (n+1)
  | gen {l:AHeap}:Ap1 o l (l++[o]) l.length
theorem Ap1.eq {o:AObj} {l l':AHeap} {n:Nat} (a:Ap1 o l l' n):l'=l++[o]∧n=l.length:=by
  induction a with
  | nil=>exact ⟨rfl,rfl⟩
  | cons _ ih=>obtain ⟨rfl,rfl⟩:=ih;exact ⟨rfl,rfl⟩
  | gen=>exact ⟨rfl,rfl⟩
inductive NewX (h:AHeap) (o:AObj) (K:Nat→AHeap→Prop):Prop
  | mk {n:Nat} {h':AHeap} (kk:Rn (K n h')) (ha:Ap1 o h h' n:=by repeat (first | exact .nil | apply Ap1.cons | exact .gen))
theorem NewX.out {h:AHeap} {o:AObj} {K:Nat→AHeap→Prop} (x:NewX h o K):K h.length (h++[o]):=by
  cases x with | mk kk ha=>obtain ⟨rfl,rfl⟩:=ha.eq;exact kk.out
def HR (h:AHeap):Prop:=∀ o∈h,o.mu≠.x∧visRs (fun i=>decide (i<h.length)) o.es=true
mutual
theorem visR_imp {f g:Nat→Bool} (hi:∀ i,f i=true→g i=true):∀ p,visR f p=true→visR g p=true
  | .int ..,_ | .bool _,_ | .str _,_ | .nilp,_ | .nilf,_ | .nilm,_ | .snap ..,_ | .sptr _,_ | .undef,_ | .any,_=>rfl
  | .mref ..,h=>by simp only [visR] at h ⊢;exact hi _ h
  | .ptr ..,h=>by simp only [visR] at h ⊢;exact hi _ h
  | .mapr _,h=>by simp only [visR] at h ⊢;exact hi _ h
  | .agg cs,h=>by simp only [visR] at h ⊢;exact visRs_imp hi cs h
  | .tup cs,h=>by simp only [visR] at h ⊢;exact visRs_imp hi cs h
  | .fn _ cs,h=>by simp only [visR] at h ⊢;exact visRs_imp hi cs h
  | .bfn _ _ cs,h=>by simp only [visR] at h ⊢;exact visRs_imp hi cs h
theorem visRs_imp {f g:Nat→Bool} (hi:∀ i,f i=true→g i=true):∀ cs,visRs f cs=true→visRs g cs=true
  | [],_=>rfl
  | c::r,h=>by
    simp only [visRs,Bool.and_eq_true] at h ⊢
    exact ⟨visR_imp hi c h.1,visRs_imp hi r h.2⟩
end
theorem HR.vis {h:AHeap} (H:HR h) {i:Nat} (hi:i<h.length):visible h i=true:=by
  unfold visible
  rw [List.getElem?_eq_getElem hi]
  simpa using (H _ (List.getElem_mem hi)).1
theorem HR.closed {h:AHeap} (H:HR h):closedH h=true:=by
  unfold closedH
  rw [List.all_eq_true]
  intro o ho
  rw [visRs_imp (fun i hi=>H.vis (of_decide_eq_true hi)) _ (H o ho).2]
  simp
theorem HV.hr {h:AHeap} (H:HV h):HR h:=fun o ho=>⟨(H o ho).1,vis_vals _ _ (H o ho).2⟩
theorem HR.app {h J:AHeap} (H:HR h) (hJ:∀ o∈J,o.mu≠.x∧visRs (fun i=>decide (i<h.length+J.length)) o.es=true):HR (h++J):=by
  intro o ho
  rw [List.length_append]
  rcases List.mem_append.1 ho with ho | ho
  · exact ⟨(H o ho).1,visRs_imp (fun i hi=>by have:=of_decide_eq_true hi;exact decide_eq_true (by omega)) _ (H o ho).2⟩
  · exact hJ o ho
theorem HR.appV {h J:AHeap} (H:HR h) (hJ:HV J):HR (h++J):=H.app fun o ho=>⟨(hJ o ho).1,vis_vals _ _ (hJ o ho).2⟩
theorem HR.app1 {h:AHeap} (H:HR h) {o:AObj} (h1:o.mu≠.x:=by simp) (h2:visRs (fun i=>decide (i<h.length+1)) o.es=true:=by simp [visRs,visR];omega):HR (h++[o]):=H.app fun o' ho=>by
  obtain rfl:=List.mem_singleton.1 ho
  exact ⟨h1,h2⟩
theorem HR.set {h:AHeap} (H:HR h) (id:Nat) {o:AObj} (h1:o.mu≠.x:=by simp) (h2:visRs (fun i=>decide (i<h.length)) o.es=true:=by simp [visRs,visR];omega):HR (h.set id o):=by
  intro o' ho
  rw [List.length_set]
  rcases List.mem_or_eq_of_mem_set ho with ho | rfl
  · exact H o' ho
  · exact ⟨h1,h2⟩
structure LR (H:AHeap) (v:PV) (sz:Nat) (es':List PV) (r:PV) (h':AHeap):Prop where
  out:Out sz h' r es'
  hr:HR h'
  len:H.length≤h'.length
  fr:∀ j,j<H.length→(∀ ep n,v≠.mref j ep 0 n)→h'[j]?=H[j]?
  ref:∀ j ep n,r=.mref j ep 0 n→(∃ ep' n',v=.mref j ep' 0 n')∨H.length≤j
inductive ApdX (h:AHeap) (sz:Nat) (v:PV) (ys:List PV) (K:PV→AHeap→Prop):Prop
  | lp {es:List PV} (kk:∀ v' h',LP h v sz (es++ys) v' h'→Rn (K v' h')) (ho:Out sz h v es:=by first | assumption | exact .inl ⟨rfl,rfl⟩) (hyo:esOk sz ys:=by first | rfl | (simp;done)) (hn:es.length+ys.length<1000000000:=by first | omega | (simp only [List.length_cons,List.length_nil];omega))
      (hvs:isVals (es++ys)=true:=by simp) (hH:HV h:=by first | assumption | exact HV.nil)
  | lr {es:List PV} (kk:∀ v' h',LR h v sz (es++ys) v' h'→Rn (K v' h')) (ho:Out sz h v es:=by first | assumption | exact .inl ⟨rfl,rfl⟩) (hyo:esOk sz ys:=by first | rfl | (simp;done)) (hn:es.length+ys.length<1000000000:=by first | omega | (simp only [List.length_cons,List.length_nil];omega))
      (hvs:visRs (fun i=>decide (i<h.length)) (es++ys)=true:=by first | exact vis_vals _ _ (by simp) | (simp [visRs,visR];done)) (hH:HR h:=by assumption)
  | sn {es:List PV} (kk:Rn (K (.mref h.length 0 0 (es.length+ys.length)) (h++[⟨.m,0,sz,es++ys⟩]))) (hne:ys.isEmpty=false) (hn:es.length+ys.length<1000000000) (hv:v=.snap true es:=by rfl) (hyo:esOk sz ys:=by first | rfl | (simp;done)) (heo:esOk sz es:=by first | rfl | (simp;done))
inductive OpqX (C:Cfg) (op:Op) (L:Al) (h:AHeap) (K:PV→AHeap→Prop):Prop
  | mk {v:PV} {h':AHeap} (hc:∀ run ρ,opVal C run 2 op (al L ρ) h=some (v,h')) (kk:Rn (K v h'))
theorem OpqX.out {C:Cfg} {op:Op} {L:Al} {h:AHeap} {K:PV→AHeap→Prop} (x:OpqX C op L h K):∃ v h',(∀ run ρ,opVal C run 2 op (al L ρ) h=some (v,h'))∧K v h':=by cases x with | mk hc kk=>exact ⟨_,_,hc,kk.out⟩
inductive OtherP (C:Cfg) (op:Op) (L:Al) (K:PV→Prop):Prop
  | mk {v:PV} (hc:∀ run lv ρ h,opVal C run lv op (al L ρ) h=some (v,h)) (kk:Rn (K v))
theorem OtherP.out {C:Cfg} {op:Op} {L:Al} {K:PV→Prop} (x:OtherP C op L K):∃ v,(∀ run lv ρ h,opVal C run lv op (al L ρ) h=some (v,h))∧K v:=by cases x with | mk hc kk=>exact ⟨_,hc,kk.out⟩
inductive OtherR (C:Cfg) (op:Op) (L:Al) (h:AHeap) (K:PV→Prop):Prop
  | mk {v:PV} (hc:∀ run lv ρ,opVal C run lv op (al L ρ) h=some (v,h)) (kk:Rn (K v))
theorem OtherR.out {C:Cfg} {op:Op} {L:Al} {h:AHeap} {K:PV→Prop} (x:OtherR C op L h K):∃ v,(∀ run lv ρ,opVal C run lv op (al L ρ) h=some (v,h))∧K v:=by cases x with | mk hc kk=>exact ⟨_,hc,kk.out⟩
def nthX {α:Type}:List α→Nat→Option α
  | [],_=>none
  | a::_,0=>some a
  | _::l,n+1=>nthX l n
theorem nthX_eq {α:Type}:∀ (l:List α) (n:Nat),nthX l n=l[n]?
  | [],n=>by simp [nthX]
  | a::l,0=>by simp [nthX]
  | a::l,n+1=>by simp [nthX,nthX_eq l n]
def dropX:Nat→List PV→(List PV→Prop)→Prop
  | 0,l,k=>k l
  | n+1,_::l,k=>dropX n l k
  | _+1,[],_=>False
theorem dropX_out:∀ {n:Nat} {l:List PV} {k:List PV→Prop},dropX n l k→n≤l.length∧k (l.drop n)
  | 0,l,k,h=>⟨by omega,h⟩
  | n+1,_::l,k,h=>by obtain ⟨h1,h2⟩:=dropX_out (n:=n) h;exact ⟨by simp;omega,h2⟩
  | _+1,[],_,h=>h.elim
def takeX:Nat→List PV→(List PV→Prop)→Prop
  | 0,_,k=>k []
  | n+1,c::l,k=>takeX n l fun r=>k (c::r)
  | _+1,[],_=>False
theorem takeX_out:∀ {n:Nat} {l:List PV} {k:List PV→Prop},takeX n l k→n≤l.length∧k (l.take n)
  | 0,l,k,h=>⟨by omega,h⟩
  | n+1,c::l,k,h=>by obtain ⟨h1,h2⟩:=takeX_out (n:=n) h;exact ⟨by simp;omega,h2⟩
  | _+1,[],_,h=>h.elim
def putX:Nat→List PV→List PV→(List PV→Prop)→Prop
  | 0,cs,[],k=>k cs
  | 0,_::cs,v::vs,k=>putX 0 cs vs fun r=>k (v::r)
  | n+1,c::cs,vs,k=>putX n cs vs fun r=>k (c::r)
  | 0,[],_::_,_=>False
  | _+1,[],_,_=>False
theorem putX_out:∀ {n:Nat} {cs vs:List PV} {k:List PV→Prop},putX n cs vs k→n+vs.length≤cs.length∧k (cs.take n++vs++cs.drop (n+vs.length))
  | 0,cs,[],k,h=>⟨by simp,by simpa [putX] using h⟩
  | 0,_::cs,v::vs,k,h=>by obtain ⟨h1,h2⟩:=putX_out (n:=0) (cs:=cs) h;exact ⟨by simp at h1 ⊢;omega,by simpa using h2⟩
  | n+1,c::cs,vs,k,h=>by
    obtain ⟨h1,h2⟩:=putX_out (n:=n) h
    exact ⟨by simp;omega,by rw [show n+1+vs.length=(n+vs.length)+1 by omega];simpa using h2⟩
  | 0,[],_::_,_,h=>h.elim
  | _+1,[],_,_,h=>h.elim
def argsX (L:Al):List Operand→(List PV→Prop)→Prop
  | [],k=>k []
  | x::xs,k=>match evL L x with
    | some v=>argsX L xs fun r=>k (v::r)
    | none=>False
theorem argsX_out {L:Al}:∀ {xs:List Operand} {k:List PV→Prop},argsX L xs k→∃ vs,evsL L xs=some vs∧k vs
  | [],k,h=>⟨[],rfl,h⟩
  | x::xs,k,h=>by
    unfold argsX at h
    split at h
    · rename_i v hv
      obtain ⟨vs,e,hk⟩:=argsX_out h
      exact ⟨v::vs,by simp [evsL,hv,e],hk⟩
    · exact h.elim
def catX:List PV→List PV→(List PV→Prop)→Prop
  | [],b,k=>k b
  | a::l,b,k=>catX l b fun r=>k (a::r)
theorem catX_out:∀ {a b:List PV} {k:List PV→Prop},catX a b k→k (a++b)
  | [],_,_,h=>h
  | _::l,b,k,h=>catX_out (a:=l) h
variable {C:Cfg} (T:Tab C.P)
section
variable {ρ:Nat→PV} {L:Al} {h:AHeap}
theorem shr_one (a:Int):a.fdiv (2 ^ (min (1:Int).toNat 64))=a / 2:=by
  show a.fdiv 2=a / 2
  rw [Int.fdiv_eq_ediv_of_nonneg _ (by omega)]
inductive ShrX (a b:Int) (bits:Nat) (K:Int→Prop):Prop
  | mk {c:Int} (kk:Rn (K c)) (h:a.fdiv (2 ^ (min b.toNat bits))=c:=by first | exact shr_one _ | rfl) (h0:0≤b:=by omega)
theorem ShrX.out {a b:Int} {bits:Nat} {K:Int→Prop} (x:ShrX a b bits K):0≤b∧K (a.fdiv (2 ^ (min b.toNat bits))):=by
  cases x with | mk kk h h0=>rw [h];exact ⟨h0,kk.out⟩
inductive BtX (k:IntKind) (c:Int) (K:Int→Prop):Prop
  | mk (c':Int) (h:k.wrap c=c') (kk:Rn (K c'))
theorem BtX.out {k:IntKind} {c:Int} {K:Int→Prop} (h:BtX k c K):K (k.wrap c):=by
  cases h with
  | mk c' h kk=>rw [h];exact kk.out
inductive ShlX (k:IntKind) (a b:Int) (K:Int→Prop):Prop
  | mk (c:Int) (h:k.wrap (a * 2 ^ (min b.toNat k.bits))=c) (h0:0≤b) (kk:Rn (K c))
theorem ShlX.out {k:IntKind} {a b:Int} {K:Int→Prop} (x:ShlX k a b K):0≤b∧K (k.wrap (a * 2 ^ (min b.toNat k.bits))):=by
  cases x with | mk c h h0 kk=>rw [h];exact ⟨h0,kk.out⟩
def binX (k:IntKind) (op:BinOp) (a b:Int) (K:PV→Prop):Prop:=
  match op with
  | .eql=>Fork (a=b) (K (.bool true)) (K (.bool false))
  | .neq=>Fork (a=b) (K (.bool false)) (K (.bool true))
  | .lss=>Fork (a<b) (K (.bool true)) (K (.bool false))
  | .leq=>Fork (a≤b) (K (.bool true)) (K (.bool false))
  | .gtr=>Fork (b<a) (K (.bool true)) (K (.bool false))
  | .geq=>Fork (b≤a) (K (.bool true)) (K (.bool false))
  | .add=>Wr k (a+b) fun c=>K (.int k c)
  | .sub=>Wr k (a - b) fun c=>K (.int k c)
  | .mul=>Wr k (a * b) fun c=>K (.int k c)
  | .quo=>Sd (b≠0) (Wr k (a.tdiv b) fun c=>K (.int k c))
  | .rem=>Sd (b≠0) (K (.int k (a.tmod b)))
  | .and=>BtX k (BitVec.ofInt k.bits a &&& BitVec.ofInt k.bits b).toNat fun c=>K (.int k c)
  | .or=>BtX k (BitVec.ofInt k.bits a ||| BitVec.ofInt k.bits b).toNat fun c=>K (.int k c)
  | .xor=>BtX k (BitVec.ofInt k.bits a ^^^ BitVec.ofInt k.bits b).toNat fun c=>K (.int k c)
  | _=>False
theorem fork_b {p:Prop} {x:PV→Prop} {u v c:Bool} (h:Fork p (x (.bool u)) (x (.bool v))) (h1:p→c=u) (h2:¬ p→c=v):x (.bool c):=by
  rcases h.out with ⟨h3,h4⟩ | ⟨h3,h4⟩
  · rw [h1 h3];exact h4
  · rw [h2 h3];exact h4
theorem binX_out {k:IntKind} {op:BinOp} {a b:Int} {K:PV→Prop} (h:binX k op a b K):∃ v,(∀ t,binP C.P op t (.int k a) (.int k b)=some v)∧K v:=by
  cases op with
  | eql=>exact ⟨_,fun t=>by simp only [binP,intOp];rfl,fork_b h (fun h=>by simp [h]) (fun h=>by simp [h])⟩
  | neq=>exact ⟨_,fun t=>by simp only [binP,intOp];rfl,fork_b h (fun h=>by simp [h]) (fun h=>by simp [h])⟩
  | lss=>exact ⟨_,fun t=>by simp only [binP,intOp];rfl,fork_b h (fun h=>by simp [h]) (fun h=>by simp [h])⟩
  | leq=>exact ⟨_,fun t=>by simp only [binP,intOp];rfl,fork_b h (fun h=>by simp [h]) (fun h=>by simp [h])⟩
  | gtr=>exact ⟨_,fun t=>by simp only [binP,intOp];rfl,fork_b h (fun h=>by simp [h]) (fun h=>by simp [h])⟩
  | geq=>exact ⟨_,fun t=>by simp only [binP,intOp];rfl,fork_b h (fun h=>by simp [h]) (fun h=>by simp [h])⟩
  | add=>exact ⟨_,fun t=>by simp only [binP,intOp];rfl,Wr.out h⟩
  | sub=>exact ⟨_,fun t=>by simp only [binP,intOp];rfl,Wr.out h⟩
  | mul=>exact ⟨_,fun t=>by simp only [binP,intOp];rfl,Wr.out h⟩
  | quo=>obtain ⟨h1,h2⟩:=Sd.out h;exact ⟨_,fun t=>by simp only [binP,intOp,if_true,if_neg h1],Wr.out h2⟩
  | rem=>obtain ⟨h1,h2⟩:=Sd.out h;exact ⟨_,fun t=>by simp only [binP,intOp,if_true,if_neg h1],h2⟩
  | and=>exact ⟨_,fun t=>by simp only [binP,intOp];rfl,BtX.out h⟩
  | or=>exact ⟨_,fun t=>by simp only [binP,intOp];rfl,BtX.out h⟩
  | xor=>exact ⟨_,fun t=>by simp only [binP,intOp];rfl,BtX.out h⟩
  | _=>exact False.elim h
def strX (op:BinOp) (a b:ByteArray) (K:PV→Prop):Prop:=
  match op with
  | .eql=>Fork (a.toList=b.toList) (K (.bool true)) (K (.bool false))
  | .neq=>Fork (a.toList=b.toList) (K (.bool false)) (K (.bool true))
  | .lss=>Fork (Op.bytesLess a.toList b.toList=true) (K (.bool true)) (K (.bool false))
  | .gtr=>Fork ((!(Op.bytesLess a.toList b.toList || a.toList == b.toList))=true) (K (.bool true)) (K (.bool false))
  | .leq=>Fork ((Op.bytesLess a.toList b.toList || a.toList == b.toList)=true) (K (.bool true)) (K (.bool false))
  | .geq=>Fork (Op.bytesLess a.toList b.toList=true) (K (.bool false)) (K (.bool true))
  | .add=>Sd (a.size+b.size<1000000000) (K (.str (a++b)))
  | _=>False
theorem strX_out {op:BinOp} {a b:ByteArray} {K:PV→Prop} (h:strX op a b K):∃ v,(∀ t,binP C.P op t (.str a) (.str b)=some v)∧K v:=by
  cases op with
  | eql=>exact ⟨_,fun t=>by simp only [binP,strOp];rfl,fork_b h (fun h=>by simp [h]) (fun h=>by simp [h])⟩
  | neq=>exact ⟨_,fun t=>by simp only [binP,strOp];rfl,fork_b h (fun h=>by simp [h]) (fun h=>by simp [h])⟩
  | lss=>exact ⟨_,fun t=>by simp only [binP,strOp],fork_b h (fun h=>h) (fun h=>by simpa using h)⟩
  | gtr=>exact ⟨_,fun t=>by simp only [binP,strOp],fork_b h (fun h=>h) (fun h=>by simpa using h)⟩
  | leq=>exact ⟨_,fun t=>by simp only [binP,strOp],fork_b h (fun h=>h) (fun h=>by simpa using h)⟩
  | geq=>exact ⟨_,fun t=>by simp only [binP,strOp];rfl,fork_b h (fun h=>by simp [h]) (fun h=>by simpa using h)⟩
  | add=>
    obtain ⟨h1,h2⟩:=Sd.out h
    exact ⟨_,fun t=>by simp only [binP,strOp];rw [if_neg (by show ¬ ((a.size+b.size:Nat):Int) > 9223372036854775807;omega)],h2⟩
  | _=>exact False.elim h
def opX (L:Al) (x:Operand) (K:PV→Prop):Prop:=match evL L x with | some v=>K v | none=>False
theorem opX_out {x:Operand} {K:PV→Prop} (h:opX L x K):∃ v,evL L x=some v∧K v:=by
  unfold opX at h
  split at h
  · exact ⟨_,by assumption,h⟩
  · exact h.elim
def partX (t:TypeId) (cs:List PV) (off:Nat) (K:PV→Prop):Prop:=
  match T.ta t,T.ts t with
  | some false,some _=>dropX off cs fun r=>match r with | c::_=>K c | []=>False
  | some true,some sz=>dropX off cs fun r=>takeX sz r fun l=>K (.agg l)
  | _,_=>False
theorem partX_out {t:TypeId} {cs:List PV} {off:Nat} {K:PV→Prop} (h:partX T t cs off K):∃ v,partP C.P t cs off=some v∧K v:=by
  unfold partX at h
  split at h
  · rename_i h1 h2
    obtain ⟨h3,h4⟩:=dropX_out h
    cases hd:cs.drop off with
    | nil=>rw [hd] at h4;exact h4.elim
    | cons c r=>
      rw [hd] at h4
      refine ⟨c,?_,h4⟩
      have:cs[off]?=some c:=by
        have:=congrArg List.head? hd
        simpa [List.head?_drop] using this
      simp [partP,T.hta _ _ h1,T.hts _ _ h2,this]
  · rename_i sz h1 h2
    obtain ⟨h3,h4⟩:=dropX_out h
    obtain ⟨h5,h6⟩:=takeX_out h4
    refine ⟨_,?_,h6⟩
    simp only [partP,T.hta _ _ h1,T.hts _ _ h2]
    rw [if_pos]
    simp at h5;omega
  · exact h.elim
def fillX (os:List (Nat × TypeId)):List (Nat × Operand)→List PV→Al→(List PV→Prop)→Prop
  | [],cs,_,K=>K cs
  | (i,x)::r,cs,L,K=>opX L x fun v=>match nthX os i with
    | some (off,ty)=>match T.ts ty with
      | some sz=>match Nat.beq (cells v).length sz,(cells v).all oneC with
        | true,true=>putX off cs (cells v) fun cs'=>fillX os r cs' L K
        | _,_=>False
      | none=>False
    | none=>False
theorem fillX_out {os:List (Nat × TypeId)}:∀ {ps:List (Nat × Operand)} {cs:List PV} {K:List PV→Prop},fillX T os ps cs L K→∃ vs cs',partsL L ps=some vs∧fillP (placesT T.ts os) cs vs=some cs'∧K cs'
  | [],cs,K,h=>⟨[],cs,rfl,rfl,h⟩
  | (i,x)::r,cs,K,h=>by
    obtain ⟨v,h1,h2⟩:=opX_out h
    split at h2
    · rename_i off ty h3
      split at h2
      · rename_i sz h4
        split at h2
        · rename_i h5 h6
          obtain ⟨h7,h8⟩:=putX_out h2
          obtain ⟨vs,cs',e1,e2,e3⟩:=fillX_out h8
          have h5:=Nat.eq_of_beq_eq_true h5
          refine ⟨(i,v)::vs,cs',by simp [partsL,h1,e1],?_,e3⟩
          rw [nthX_eq] at h3
          simp only [fillP,placesT,h3,h4,Option.map_some]
          rw [if_pos ⟨h5,h6,by omega⟩]
          exact e2
        · exact h2.elim
      · exact h2.elim
    · exact h2.elim
def allTs (os:List (Nat × TypeId)):Bool:=os.all fun o=>(T.ts o.2).isSome
theorem drop_lt {n:Nat} {cs l:List PV} {c:PV} (h:cs.drop n=c::l):n<cs.length:=by
  rcases Nat.lt_or_ge n cs.length with h1 | h1
  · exact h1
  · rw [List.drop_eq_nil_of_le h1] at h;cases h
theorem fld_of {fs:Array Field} {f off:Nat} {ft:TypeId} (h:(fs.toList.map fun f=>(f.offset,f.type))[f]?=some (off,ft)):∃ fl,fs[f]?=some fl∧fl.offset=off∧fl.type=ft:=by
  rw [List.getElem?_map] at h
  cases hff:fs.toList[f]? with
  | none=>rw [hff] at h;cases h
  | some fl=>
    rw [hff] at h
    simp at h
    exact ⟨fl,by simpa using hff,h.1,h.2⟩
def stepP (op:Op) (L:Al) (K:PV→Prop):Prop:=
  match op with
  | .move x | .assign x=>opX L x K
  | .pick c a b=>opX L c fun v=>match v with
    | .bool true=>opX L a K
    | .bool false=>opX L b K
    | _=>False
  | .binOp op t x y _=>opX L x fun v=>opX L y fun u=>match v,u with
    | .int k a,.int k' b=>match op with
      | .shr=>ShrX a b k.bits fun c=>K (.int k c)
      | .shl=>ShlX k a b fun c=>K (.int k c)
      | op=>match decide (k=k') with
        | true=>binX k op a b K
        | false=>False
    | .str a,.str b=>strX op a b K
    | .bool a,.bool b=>match T.kd t with
      | some .bool=>match op with
        | .eql=>K (.bool (a == b))
        | .neq=>K (.bool !(a == b))
        | _=>False
      | _=>False
    | _,_=>False
  | .unOp .neg _ x=>opX L x fun v=>match v with
    | .int k n=>Wr k (0 - n) fun c=>K (.int k c)
    | _=>False
  | .unOp .not _ x=>opX L x fun v=>match v with
    | .bool true=>K (.bool false)
    | .bool false=>K (.bool true)
    | _=>False
  | .convert s d x=>opX L x fun v=>match v,T.kd s,T.kd d with
    | .int _ n,some _,some (.int k)=>Wr k n fun c=>K (.int k c)
    | .str s,some _,some .str=>K (.str s)
    | .snap _ es,some (.sl e),some .str=>match T.kd e,bytesP es with
      | some (.int .u8),some l=>K (.str (strN l))
      | _,_=>False
    | _,_,_=>False
  | .extract x i=>opX L x fun v=>match v with
    | .tup vs=>match nthX vs i with
      | some u=>K u
      | none=>False
    | _=>False
  | .makeFunc (.func f) first caps=>match first.toList with
    | []=>argsX L caps.toList fun l=>K (.fn f l)
    | x::r=>argsX L (x::r) fun l=>argsX L caps.toList fun l2=>catX l l2 fun l3=>K (.bfn f l.length l3)
  | .nilCheck x=>opX L x fun v=>match v with
    | .ptr id ep i o=>K (.ptr id ep i o)
    | .sptr cs=>K (.sptr cs)
    | .fn f cs=>K (.fn f cs)
    | _=>False
  | .field s x f=>opX L x fun v=>match v,T.kd s with
    | .agg cs,some (.st os)=>match nthX os f with
      | some (off,ft)=>partX T ft cs off K
      | none=>False
    | _,_=>False
  | .fieldAddr s x f=>opX L x fun v=>match T.kd s with
    | some (.st os)=>match nthX os f with
      | some (off,ft)=>match T.ts ft with
        | some (_+1)=>match v with
          | .sptr cs=>dropX off cs fun r=>match r with | c::l=>K (.sptr (c::l)) | []=>False
          | .ptr id ep i o=>K (.ptr id ep i (o+off))
          | _=>False
        | _=>False
      | none=>False
    | _=>False
  | .index t x ix=>opX L x fun v=>opX L ix fun u=>match v,u,T.kd t with
    | .str s,.int _ i,some .str=>ByX s i fun b=>K (.int .u8 b.toNat)
    | _,_,_=>False
  | .build t parts=>match T.tz t,T.kd t with
    | some z,some (.st os)=>match allTs T os,(cells z).all oneC with
      | true,true=>fillX T os parts.toList (cells z) L fun cs=>K (.agg cs)
      | _,_=>False
    | some _,some (.arr _ _)=>OtherP C op L K
    | _,_=>False
  | _=>False
theorem stepP_out {op:Op} {K:PV→Prop} (hs:stepP T op L K):heapy op=false∧∃ v,(∀ run lv ρ h,opVal C run lv op (al L ρ) h=some (v,h))∧K v:=by
  unfold stepP at hs
  split at hs
  · obtain ⟨v,e,k⟩:=opX_out hs
    exact ⟨rfl,v,fun run lv ρ h=>by simp only [opVal,stepOp,evL_ev e],k⟩
  · obtain ⟨v,e,k⟩:=opX_out hs
    exact ⟨rfl,v,fun run lv ρ h=>by simp only [opVal,stepOp,evL_ev e],k⟩
  · obtain ⟨v,e,k⟩:=opX_out hs
    split at k
    · obtain ⟨u,e2,k⟩:=opX_out k
      exact ⟨rfl,u,fun run lv ρ h=>by simp only [opVal,stepOp,evL_ev e,evL_ev e2,if_true],k⟩
    · obtain ⟨u,e2,k⟩:=opX_out k
      exact ⟨rfl,u,fun run lv ρ h=>by simp only [opVal,stepOp,evL_ev e,evL_ev e2,Bool.false_eq_true,if_false],k⟩
    · exact k.elim
  · obtain ⟨v,e,k⟩:=opX_out hs
    obtain ⟨u,e2,k⟩:=opX_out k
    split at k
    · split at k
      · obtain ⟨h0,k⟩:=ShrX.out k
        exact ⟨rfl,_,fun run lv ρ h=>by simp only [opVal,stepOp,evL_ev e,evL_ev e2,binP,shiftOp];rw [if_neg (by omega)];rfl,k⟩
      · obtain ⟨h0,k⟩:=ShlX.out k
        exact ⟨rfl,_,fun run lv ρ h=>by simp only [opVal,stepOp,evL_ev e,evL_ev e2,binP,shiftOp];rw [if_neg (by omega)];rfl,k⟩
      · split at k
        · rename_i hk
          obtain rfl:=of_decide_eq_true hk
          obtain ⟨w,e3,k⟩:=binX_out (C:=C) k
          exact ⟨rfl,w,fun run lv ρ h=>by simp only [opVal,stepOp,evL_ev e,evL_ev e2,e3,Option.map_some],k⟩
        · exact k.elim
    · obtain ⟨w,e3,k⟩:=strX_out (C:=C) k
      exact ⟨rfl,w,fun run lv ρ h=>by simp only [opVal,stepOp,evL_ev e,evL_ev e2,e3,Option.map_some],k⟩
    · split at k
      · rename_i hk
        have hu:=kd_bool (T.hkd _ _ hk)
        split at k
        · exact ⟨rfl,_,fun run lv ρ h=>by simp only [opVal,stepOp,evL_ev e,evL_ev e2,binP,hu,Option.map_some],k⟩
        · exact ⟨rfl,_,fun run lv ρ h=>by simp only [opVal,stepOp,evL_ev e,evL_ev e2,binP,hu,Option.map_some],k⟩
        · exact k.elim
      · exact k.elim
    · exact k.elim
  · obtain ⟨v,e,k⟩:=opX_out hs
    split at k
    · exact ⟨rfl,_,fun run lv ρ h=>by simp only [opVal,stepOp,evL_ev e,unP,Option.map_some],k.out⟩
    · exact k.elim
  · obtain ⟨v,e,k⟩:=opX_out hs
    split at k
    · exact ⟨rfl,_,fun run lv ρ h=>by simp only [opVal,stepOp,evL_ev e,unP,Option.map_some,Bool.not_true],k⟩
    · exact ⟨rfl,_,fun run lv ρ h=>by simp only [opVal,stepOp,evL_ev e,unP,Option.map_some,Bool.not_false],k⟩
    · exact k.elim
  · obtain ⟨v,e,k⟩:=opX_out hs
    split at k
    · rename_i h1 h2
      obtain ⟨u,h3,_⟩:=kd_inv (T.hkd _ _ h1)
      exact ⟨rfl,_,fun run lv ρ h=>by simp only [opVal,stepOp,evL_ev e,convP,h3,kd_int (T.hkd _ _ h2),Option.map_some],k.out⟩
    · rename_i h1 h2
      obtain ⟨u,h3,_⟩:=kd_inv (T.hkd _ _ h1)
      exact ⟨rfl,_,fun run lv ρ h=>by simp only [opVal,stepOp,evL_ev e,convP,h3,kd_str (T.hkd _ _ h2),Option.map_some],k⟩
    · rename_i h1 h2
      split at k
      · rename_i h3 h4
        exact ⟨rfl,_,fun run lv ρ h=>by simp only [opVal,stepOp,evL_ev e,convP,kd_sl (T.hkd _ _ h1),kd_str (T.hkd _ _ h2),kd_int (T.hkd _ _ h3),h4,Option.map_some],k⟩
      · exact k.elim
    · exact k.elim
  · obtain ⟨v,e,k⟩:=opX_out hs
    split at k
    · split at k
      · rename_i h1
        rw [nthX_eq] at h1
        exact ⟨rfl,_,fun run lv ρ h=>by simp only [opVal,stepOp,evL_ev e,h1],k⟩
      · exact k.elim
    · exact k.elim
  · split at hs
    · rename_i hf
      obtain ⟨vs,e,k⟩:=argsX_out hs
      refine ⟨rfl,_,fun run lv ρ h=>?_,k⟩
      have hf:=Array.isEmpty_iff.2 (Array.toList_eq_nil_iff.1 hf)
      simp only [opVal,stepOp,hf,if_true,evsL_ev e]
    · rename_i first _ _ x r hf
      obtain ⟨vs,e,k⟩:=argsX_out hs
      obtain ⟨us,e2,k⟩:=argsX_out k
      have k:=catX_out k
      refine ⟨rfl,_,fun run lv ρ h=>?_,k⟩
      have h1:=evsL_ev (ρ:=ρ) e
      have h2:=evsL_ev (ρ:=ρ) e2
      rw [← hf] at h1
      have hne:¬ first.isEmpty=true:=fun hh=>by
        have:=Array.isEmpty_iff.1 hh
        rw [this] at hf;cases hf
      have hl:first.size=vs.length:=by rw [← h1];simp
      simp only [opVal,stepOp,if_neg hne,List.map_append,h1,h2,hl]
  · obtain ⟨v,e,k⟩:=opX_out hs
    split at k
    · exact ⟨rfl,_,fun run lv ρ h=>by simp only [opVal,stepOp,evL_ev e],k⟩
    · exact ⟨rfl,_,fun run lv ρ h=>by simp only [opVal,stepOp,evL_ev e],k⟩
    · exact ⟨rfl,_,fun run lv ρ h=>by simp only [opVal,stepOp,evL_ev e],k⟩
    · exact k.elim
  · obtain ⟨v,e,k⟩:=opX_out hs
    split at k
    · rename_i cs os h1
      split at k
      · rename_i off ft h2
        obtain ⟨u,e2,k⟩:=partX_out T k
        obtain ⟨fs,h3,h4⟩:=kd_st (T.hkd _ _ h1)
        rw [nthX_eq,← h4] at h2
        refine ⟨rfl,u,fun run lv ρ h=>?_,k⟩
        obtain ⟨fl,h5,rfl,rfl⟩:=fld_of h2
        simp only [opVal,stepOp,evL_ev e,fieldP,h3,h5,e2,Option.map_some]
      · exact k.elim
    · exact k.elim
  · obtain ⟨v,e,k⟩:=opX_out hs
    split at k
    · rename_i os h1
      split at k
      · rename_i off ft h2
        split at k
        · rename_i sz h3
          rw [nthX_eq] at h2
          have hf:=fieldOff_of T h1 h2 h3
          split at k
          · obtain ⟨h4,k2⟩:=dropX_out k
            clear k
            split at k2
            · rename_i h5
              exact ⟨rfl,_,fun run lv ρ h=>by simp only [opVal,stepOp,evL_ev e,fieldAddrP,hf,if_pos (drop_lt h5),h5,Option.map_some],k2⟩
            · exact k2.elim
          · exact ⟨rfl,_,fun run lv ρ h=>by simp only [opVal,stepOp,evL_ev e,fieldAddrP,hf,Option.map_some],k⟩
          · exact k.elim
        · exact k.elim
      · exact k.elim
    · exact k.elim
  · obtain ⟨v,e,k0⟩:=opX_out hs
    obtain ⟨u,e2,k⟩:=opX_out k0
    clear k0
    split at k
    · rename_i h1
      obtain ⟨n,b,rfl,h2,k⟩:=ByX.out k
      exact ⟨rfl,_,fun run lv ρ h=>by simp [opVal,stepOp,evL_ev e,evL_ev e2,indexP,kd_str (T.hkd _ _ h1),h2],k⟩
    · exact k.elim
  · split at hs
    · rename_i h1 h2
      split at hs
      · rename_i h3 h4
        obtain ⟨vs,cs',e1,e2,k⟩:=fillX_out T hs
        refine ⟨rfl,_,fun run lv ρ h=>?_,k⟩
        have:=buildP_of T h1 h2 h3 h4 e2
        have e:=partsL_ev (ρ:=ρ) e1
        simp only [opVal,stepOp,e,this,Option.map_some]
      · exact hs.elim
    · obtain ⟨v,h1,k⟩:=OtherP.out hs
      exact ⟨rfl,v,h1,k⟩
    · exact hs.elim
  · exact hs.elim
def keyX:Option Kd→PV→Bool
  | some (.int k),.int k' _=>decide (k'=k)
  | some .str,.str _ | some .bool,.bool _=>true
  | _,_=>false
theorem keyX_out {t:TypeId} {u:PV} (e:keyX (T.kd t) u=true):keyD C.P t u=true:=by
  unfold keyX at e
  split at e
  · rename_i k k' n hk
    simp only [keyD,kd_int (T.hkd _ _ hk)];exact e
  · rename_i s hk
    simp only [keyD,kd_str (T.hkd _ _ hk)]
  · rename_i s hk
    simp only [keyD,kd_bool (T.hkd _ _ hk)]
  · cases e
theorem mapO_at {h:AHeap} {id:Nat} {mu:Mu} {es:List PV} (e:h[id]?=some ⟨mu,0,0,es⟩) (hm:mu≠.x):mapO h id=some ⟨mu,0,0,es⟩:=by
  simp [mapO,getM,e,hm]
inductive LkX (h:AHeap) (v u:PV) (K:Option PV→Prop):Prop
  | nil (kk:Rn (K none)) (hv:v=.nilm:=by rfl)
  | hit {id i:Nat} {mu:Mu} {es:List PV} {p:PV} (hf:findP u es 0=some (some (i,p))) (kk:Rn (K (some p))) (ho:h[id]?=some ⟨mu,0,0,es⟩:=by first | assumption | rfl) (hm:mu≠.x:=by simp) (hv:v=.mapr id:=by rfl)
  | miss {id:Nat} {mu:Mu} {es:List PV} (hf:findP u es 0=some none) (kk:Rn (K none)) (ho:h[id]?=some ⟨mu,0,0,es⟩:=by first | assumption | rfl) (hm:mu≠.x:=by simp) (hv:v=.mapr id:=by rfl)
theorem LkX.out {v u:PV} {K:Option PV→Prop} (x:LkX h v u K) {t kt et:TypeId} {z:PV} (ht:C.P.underlying t=some (.map kt et)) (hz:tzero C.P et=some z) (hk:keyD C.P kt u=true) (ok:Bool) :
    ∃ r:Option PV,lookupP C.P h t v u ok=some (match r with | some p=>lookupRes ok p true | none=>lookupRes ok z false)∧K r:=by
  cases x with
  | nil kk hv=>subst hv;exact ⟨none,by simp only [lookupP,ht,hz,hk,if_true],kk.out⟩
  | hit hf kk ho hm hv=>subst hv;exact ⟨some _,by simp only [lookupP,ht,hz,hk,if_true,mapO_at ho hm,hf],kk.out⟩
  | miss hf kk ho hm hv=>subst hv;exact ⟨none,by simp only [lookupP,ht,hz,hk,if_true,mapO_at ho hm,hf],kk.out⟩
inductive NmX (i:Int) (K:Nat→Prop):Prop
  | mk {n:Nat} (kk:Rn (K n)) (hi:i=(n:Int):=by first | rfl | exact (Int.natCast_succ _).symm | exact (Int.toNat_of_nonneg (by omega)).symm)
theorem NmX.out {i:Int} {K:Nat→Prop} (x:NmX i K):∃ n:Nat,i=n∧K n:=by cases x with | mk kk h=>exact ⟨_,h,kk.out⟩
inductive ElmX (es:List PV) (i:Nat) (K:PV→Prop):Prop
  | mk {e:PV} (kk:Rn (K e)) (h:es[i]?=some e:=by first | assumption | rfl)
theorem ElmX.out {es:List PV} {i:Nat} {K:PV→Prop} (x:ElmX es i K):∃ e,es[i]?=some e∧K e:=by cases x with | mk kk h=>exact ⟨_,h,kk.out⟩
inductive LenX (h:AHeap) (v:PV) (K:Int→Prop):Prop
  | mk {full:Bool} {es:List PV} (kk:Rn (K (es.length:Int))) (hv:v=.snap full es:=by rfl)
  | m2 {sz:Nat} {es:List PV} (kk:Rn (K (es.length:Int))) (ho:Out sz h v es:=by assumption)
  | m3 {id ep off len:Nat} {o:AObj} (kk:Rn (K (len:Int))) (hv:v=.mref id ep off len:=by rfl) (ho:getM h id ep=some o:=by first | exact getM_at (by assumption) rfl (by first | assumption | simp) | rfl | exact getM_new | exact getM_app (getM_at (by assumption) rfl (by first | assumption | simp))) (hl:off+len≤o.es.length:=by first | omega | (simp;done) | (simp;omega))
theorem LenX.out {v:PV} {K:Int→Prop} {t el:TypeId} (x:LenX h v K) (hk:C.P.underlying t=some (.slice el)):∃ n:Int,lenP C.P h t v=some (.int .i64 n)∧K n:=by
  cases x with
  | mk kk hv=>subst hv;exact ⟨_,by simp only [lenP,hk],kk.out⟩
  | m2 kk ho=>
    rcases ho with ⟨rfl,rfl⟩ | ⟨id,ep,rfl,e2⟩
    · exact ⟨_,by simp only [lenP,hk],kk.out⟩
    · exact ⟨_,by simp only [lenP,hk,getM_at e2 rfl (by simp:Mu.m≠Mu.x)];rw [if_pos (by simp)],kk.out⟩
  | m3 kk hv ho hl=>subst hv;exact ⟨_,by simp only [lenP,hk,ho];rw [if_pos hl],kk.out⟩
def cellsX (t:TypeId) (cs:List PV) (K:PV→Prop):Prop:=
  match T.ta t,T.ts t with
  | some false,some _=>match cs with | c::_=>K c | []=>False
  | some true,some (sz+1)=>takeX (sz+1) cs fun l=>K (.agg l)
  | _,_=>False
theorem cellsX_out {t:TypeId} {p:PV} {cs:List PV} {K:PV→Prop} (hp:pcells h p=some cs) (x:cellsX T t cs K):∃ v,loadP C.P h t p=some v∧K v:=by
  unfold cellsX at x
  split at x
  · rename_i h1 h2
    split at x
    · exact ⟨_,by simp only [loadP,T.hta _ _ h1,T.hts _ _ h2,hp],x⟩
    · exact x.elim
  · rename_i sz h1 h2
    obtain ⟨h5,h6⟩:=takeX_out x
    exact ⟨_,by simp only [loadP,T.hta _ _ h1,T.hts _ _ h2,hp];rw [if_pos ⟨by omega,h5⟩],h6⟩
  · exact x.elim
def bdX (L:Al) (x:Option Operand) (dflt:Nat) (K:Nat→Prop):Prop:=
  match x with
  | none=>K dflt
  | some x=>opX L x fun v=>match v with
    | .int _ i=>NmX i K
    | _=>False
theorem bdX_out {x:Option Operand} {dflt:Nat} {K:Nat→Prop} (hh:bdX L x dflt K):∃ n:Nat,K n∧∀ (ρ:Nat→PV) top,(n≤top→boundP (x.map (ev (al L ρ))) dflt top=some n):=by
  unfold bdX at hh
  split at hh
  · exact ⟨_,hh,fun _ _ _=>rfl⟩
  · obtain ⟨v,e,k⟩:=opX_out hh
    split at k
    · obtain ⟨n,hi,k2⟩:=NmX.out k
      clear k
      subst hi
      refine ⟨n,k2,fun ρ top ht=>?_⟩
      simp only [Option.map_some,evL_ev e,boundP]
      rw [if_pos ⟨by omega,by omega⟩];simp
    · exact k.elim
theorem pc_of {id ep i off:Nat} {o:AObj} {e:PV} (h1:getM h id ep=some o) (h2:o.es[i]?=some e):pcells h (.ptr id ep i off)=some ((cells e).drop off):=by simp only [pcells,h1,h2]
def stepR (op:Op) (L:Al) (h:AHeap) (K:PV→Prop):Prop:=
  match op with
  | .load t x=>opX L x fun p=>match p with
    | .sptr cs=>cellsX T t cs K
    | .ptr id ep i off=>ObjX h id ep fun o=>ElmX o.es i fun e=>dropX off (cells e) fun cs=>cellsX T t cs K
    | _=>False
  | .indexAddr t x ix=>opX L x fun v=>opX L ix fun u=>match T.kd t,v,u with
    | some (.sl el),.snap _ es,.int _ i=>match T.ts el with
      | some (sz+1)=>EltX es i (sz+1) fun cs=>K (.sptr cs)
      | _=>False
    | some (.sl el),.mref id ep off len,.int _ i=>match T.ts el with
      | some sz=>ObjX h id ep fun o=>NmX i fun n=>Sd (n<len∧off+len≤o.es.length∧sz=o.esz) (K (.ptr id ep (off+n) 0))
      | _=>False
    | some (.arr m el),.sptr cs,.int _ i=>match T.ts el with
      | some sz=>NmX i fun n=>Sd (n<m∧n * sz<cs.length) (dropX (n * sz) cs fun r=>K (.sptr r))
      | _=>False
    | some (.arr m el),.ptr id ep j off,.int _ i=>match T.ts el with
      | some sz=>NmX i fun n=>Sd (n<m) (K (.ptr id ep j (off+n * sz)))
      | _=>False
    | _,_,_=>False
  | .call ⟨.builtin b,args,ats⟩=>match b,args.toList,ats.toList with
    | .len,x::_,t::_=>opX L x fun v=>match T.kd t with
      | some .str=>match v with
        | .str s=>K (.int .i64 s.size)
        | _=>False
      | some (.sl _)=>LenX h v fun n=>K (.int .i64 n)
      | _=>False
    | .max,[x,y],_=>opX L x fun v=>opX L y fun u=>match v,u with
      | .int k a,.int _ b=>K (.int k (max a b))
      | _,_=>False
    | .min,[x,y],_=>opX L x fun v=>opX L y fun u=>match v,u with
      | .int k a,.int _ b=>K (.int k (min a b))
      | _,_=>False
    | _,_,_=>False
  | .slice t x lo hi none=>opX L x fun v=>match T.kd t,v with
    | some .str,.str s=>bdX L hi s.size fun b=>bdX L lo 0 fun a=>Sd (a≤b∧b≤s.size) (K (.str (s.extract a b)))
    | some (.sl el),.snap full es=>match T.ts el with
      | some sz=>bdX L hi es.length fun b=>bdX L lo 0 fun a=>Sd ((a≤b∧b≤es.length)∧(es[a]?).all (fun v=>(cells v).length == sz)=true) (K (.snap (full && b == es.length) ((es.drop a).take (b - a))))
      | _=>False
    | some (.sl _),.mref _ _ _ _=>OtherR C op L h K
    | _,_=>False
  | .lookup t m k ok=>opX L m fun v=>opX L k fun u=>match T.kd t with
    | some (.mp kt et)=>match T.tz et,keyX (T.kd kt) u with
      | some z,true=>LkX h v u fun r=>match r with
        | some p=>K (lookupRes ok p true)
        | none=>K (lookupRes ok z false)
      | _,_=>False
    | _=>False
  | _=>False
theorem stepR_out {op:Op} {K:PV→Prop} (hs:stepR T op L h K):heapy op=true∧∃ v,(∀ run lv ρ,opVal C run lv op (al L ρ) h=some (v,h))∧K v:=by
  unfold stepR at hs
  split at hs
  · obtain ⟨p,e,k⟩:=opX_out hs
    split at k
    · obtain ⟨v,e2,k⟩:=cellsX_out T (h:=h) (p:=.sptr _) rfl k
      exact ⟨rfl,v,fun run lv ρ=>by simp only [opVal,stepOp,evL_ev e,e2,Option.map_some],k⟩
    · obtain ⟨o,e3,k⟩:=ObjX.out k
      obtain ⟨el,e4,k⟩:=ElmX.out k
      obtain ⟨_,k⟩:=dropX_out k
      obtain ⟨v,e2,k⟩:=cellsX_out T (h:=h) (pc_of e3 e4) k
      exact ⟨rfl,v,fun run lv ρ=>by simp only [opVal,stepOp,evL_ev e,e2,Option.map_some],k⟩
    · exact k.elim
  · obtain ⟨v,e,k0⟩:=opX_out hs
    obtain ⟨u,e2,k⟩:=opX_out k0
    clear k0
    split at k
    · rename_i hk
      split at k
      · rename_i sz hts
        obtain ⟨n,w,rfl,h2,h3,k⟩:=EltX.out k
        refine ⟨rfl,_,fun run lv ρ=>?_,k⟩
        have hlt:=lt_of_some h2
        simp only [opVal,stepOp,evL_ev e,evL_ev e2,indexAddrP,kd_sl (T.hkd _ _ hk),T.hts _ _ hts]
        rw [if_pos ⟨by omega,by omega⟩]
        simp only [Int.toNat_natCast,h2]
        rw [if_pos ⟨by omega,h3⟩];rfl
      · exact k.elim
    · rename_i hk
      split at k
      · rename_i sz hts
        obtain ⟨o,e3,k⟩:=ObjX.out k
        obtain ⟨n,hi,k2⟩:=NmX.out k
        clear k
        subst hi
        obtain ⟨⟨h1,h2,h3⟩,k⟩:=Sd.out k2
        refine ⟨rfl,_,fun run lv ρ=>?_,k⟩
        simp only [opVal,stepOp,evL_ev e,evL_ev e2,indexAddrP,kd_sl (T.hkd _ _ hk),T.hts _ _ hts,e3]
        rw [if_pos ⟨by omega,by omega,h3,h2⟩];rfl
      · exact k.elim
    · rename_i hk
      split at k
      · rename_i sz hts
        obtain ⟨n,hi,k2⟩:=NmX.out k
        clear k
        subst hi
        obtain ⟨⟨h1,h2⟩,k⟩:=Sd.out k2
        obtain ⟨_,k⟩:=dropX_out k
        refine ⟨rfl,_,fun run lv ρ=>?_,k⟩
        simp only [opVal,stepOp,evL_ev e,evL_ev e2,indexAddrP,kd_arr (T.hkd _ _ hk),T.hts _ _ hts]
        rw [if_pos ⟨by omega,by omega,by simpa using h2⟩];rfl
      · exact k.elim
    · rename_i hk
      split at k
      · rename_i sz hts
        obtain ⟨n,hi,k2⟩:=NmX.out k
        clear k
        subst hi
        obtain ⟨h1,k⟩:=Sd.out k2
        refine ⟨rfl,_,fun run lv ρ=>?_,k⟩
        simp only [opVal,stepOp,evL_ev e,evL_ev e2,indexAddrP,kd_arr (T.hkd _ _ hk),T.hts _ _ hts]
        rw [if_pos ⟨by omega,by omega⟩];rfl
      · exact k.elim
    · exact k.elim
  · split at hs
    · rename_i ha ht
      obtain ⟨v,e,k⟩:=opX_out hs
      split at k
      · rename_i hk
        split at k
        · refine ⟨rfl,_,fun run lv ρ=>?_,k⟩
          simp only [opVal,ha,ht,List.map_cons,evL_ev e,builtinP,lenP,kd_str (T.hkd _ _ hk),Option.map_some]
        · exact k.elim
      · rename_i hk
        obtain ⟨n,h1,k⟩:=LenX.out k (kd_sl (T.hkd _ _ hk))
        refine ⟨rfl,_,fun run lv ρ=>?_,k⟩
        simp only [opVal,ha,ht,List.map_cons,evL_ev e,builtinP,h1,Option.map_some]
      · exact k.elim
    · rename_i ha
      obtain ⟨v,e,k0⟩:=opX_out hs
      obtain ⟨u,e2,k⟩:=opX_out k0
      clear k0
      split at k
      · rename_i a _ b
        refine ⟨rfl,_,fun run lv ρ=>?_,k⟩
        have:(if b > a then b else a)=Max.max a b:=by split <;> omega
        simp only [opVal,ha,List.map_cons,List.map_nil,evL_ev e,evL_ev e2,builtinP,maxP,this,Option.map_some]
      · exact k.elim
    · rename_i ha
      obtain ⟨v,e,k0⟩:=opX_out hs
      obtain ⟨u,e2,k⟩:=opX_out k0
      clear k0
      split at k
      · rename_i a _ b
        refine ⟨rfl,_,fun run lv ρ=>?_,k⟩
        have:(if b<a then b else a)=Min.min a b:=by split <;> omega
        simp only [opVal,ha,List.map_cons,List.map_nil,evL_ev e,evL_ev e2,builtinP,minP,this,Option.map_some]
      · exact k.elim
    · exact hs.elim
  · obtain ⟨v,e,k⟩:=opX_out hs
    split at k
    · rename_i hk
      obtain ⟨b,k,hb⟩:=bdX_out k
      obtain ⟨a,k,ha⟩:=bdX_out k
      obtain ⟨⟨h1,h2⟩,k⟩:=Sd.out k
      refine ⟨rfl,_,fun run lv ρ=>?_,k⟩
      simp only [opVal,stepOp,evL_ev e,sliceP,kd_str (T.hkd _ _ hk),Option.map_none,hb ρ _ h2,ha ρ _ h1]
      rfl
    · rename_i hk
      split at k
      · rename_i sz hts
        obtain ⟨b,k,hb⟩:=bdX_out k
        obtain ⟨a,k,ha⟩:=bdX_out k
        obtain ⟨⟨⟨h1,h2⟩,h3⟩,k⟩:=Sd.out k
        refine ⟨rfl,_,fun run lv ρ=>?_,k⟩
        simp only [opVal,stepOp,evL_ev e,sliceP,kd_sl (T.hkd _ _ hk),T.hts _ _ hts,Option.map_none]
        rw [show ∀ n:Nat,boundP none n n=some n from fun _=>rfl]
        simp only [hb ρ _ h2,ha ρ _ h1]
        rw [if_pos ⟨rfl,h3⟩]
        rfl
      · exact k.elim
    · obtain ⟨w,h1,k⟩:=OtherR.out k
      exact ⟨rfl,w,h1,k⟩
    · exact k.elim
  · rename_i ok
    obtain ⟨v,e,k0⟩:=opX_out hs
    obtain ⟨u,e2,k⟩:=opX_out k0
    clear k0
    split at k
    · rename_i hk
      split at k
      · rename_i hz hkx
        obtain ⟨r,h1,k2⟩:=LkX.out (C:=C) k (kd_mp (T.hkd _ _ hk)) (T.htz _ _ hz) (keyX_out T hkx) ok
        cases r with
        | none=>exact ⟨rfl,_,fun run lv ρ=>by simp only [opVal,stepOp,evL_ev e,evL_ev e2,h1,Option.map_some],k2⟩
        | some p=>exact ⟨rfl,_,fun run lv ρ=>by simp only [opVal,stepOp,evL_ev e,evL_ev e2,h1,Option.map_some],k2⟩
      · exact k.elim
    · exact k.elim
  · exact hs.elim
inductive LSet {α:Type}:List α→Nat→α→List α→Prop
  | zero {x y:α} {l:List α}:LSet (x::l) 0 y (y::l)
  | succ {x y:α} {l l':List α} {n:Nat}:LSet l n y l'→LSet (x::l) (n+1) y (x::l')
  | last {x y:α} {l:List α}:LSet (l++[x]) l.length y (l++[y])
  | gen {l:List α} {n:Nat} {y:α}:LSet l n y (l.set n y)
theorem LSet.eq {α:Type} {l l':List α} {n:Nat} {y:α} (a:LSet l n y l'):l'=l.set n y:=by
  induction a with
  | zero=>rfl
  | succ _ ih=>rw [ih];rfl
  | last=>simp
  | gen=>rfl
inductive SetX (h:AHeap) (id ep esz:Nat) (es:List PV) (i:Nat) (e':PV) (K:AHeap→Prop):Prop
  | mk {es':List PV} {h':AHeap} (kk:Rn (K h')) (h1:LSet es i e' es':=by repeat (first | exact .zero | apply LSet.succ | exact .last | exact .gen)) (h2:LSet h id ⟨.m,ep,esz,es'⟩ h':=by repeat (first | exact .zero | apply LSet.succ | exact .last | exact .gen))
theorem SetX.out {id i ep esz:Nat} {es:List PV} {e':PV} {K:AHeap→Prop} (x:SetX h id ep esz es i e' K):K (h.set id ⟨.m,ep,esz,es.set i e'⟩):=by
  cases x with | mk kk h1 h2=>obtain rfl:=h1.eq;obtain rfl:=h2.eq;exact kk.out
def rcX (off sz:Nat) (e v:PV) (K:PV→Prop):Prop:=
  match off,Nat.beq sz (cells e).length with
  | 0,true=>K v
  | _,_=>putX off (cells e) (cells v) fun cs=>K (.agg cs)
theorem rcX_out {off sz:Nat} {e v:PV} {K:PV→Prop} (hl:(cells v).length=sz) (x:rcX off sz e v K):off+sz≤(cells e).length∧(K (recell off sz e v)∨(∃ cs,K (.agg cs)∧cs=(cells e).take off++cells v++(cells e).drop (off+sz)∧¬ (off=0∧sz=(cells e).length))):=by
  unfold rcX at x
  split at x
  · rename_i h2
    have:=Nat.eq_of_beq_eq_true h2
    refine ⟨by omega,.inl ?_⟩
    rw [recell,if_pos ⟨rfl,this⟩];exact x
  · rename_i hn
    obtain ⟨h1,h2⟩:=putX_out x
    rw [hl] at h1 h2
    refine ⟨h1,.inr ⟨_,h2,rfl,fun hh=>?_⟩⟩
    obtain ⟨rfl,h3⟩:=hh
    exact hn rfl (by rw [← h3];exact Nat.beq_refl _)
theorem rcX_out' {off sz:Nat} {e v:PV} {K:PV→Prop} (hl:(cells v).length=sz) (x:rcX off sz e v K):off+sz≤(cells e).length∧K (recell off sz e v):=by
  obtain ⟨h1,h2 | ⟨cs,h3,rfl,h4⟩⟩:=rcX_out hl x
  · exact ⟨h1,h2⟩
  · exact ⟨h1,by rw [recell,if_neg h4];exact h3⟩
def fillsX (n sz:Nat):List (Nat × Operand)→List PV→Al→(List PV→Prop)→Prop
  | [],es,_,K=>K es
  | (i,x)::r,es,L,K=>opX L x fun v=>match Nat.beq (cells v).length sz,(cells v).all oneC,Nat.ble (i+1) n with
    | true,true,true=>setX' es i v fun es'=>fillsX n sz r es' L K
    | _,_,_=>False
where setX':List PV→Nat→PV→(List PV→Prop)→Prop
  | [],_,_,_=>False
  | _::l,0,v,k=>k (v::l)
  | e::l,i+1,v,k=>setX' l i v fun r=>k (e::r)
theorem setX'_out:∀ {es:List PV} {i:Nat} {v:PV} {k:List PV→Prop},fillsX.setX' es i v k→k (es.set i v)
  | [],_,_,_,h=>h.elim
  | _::l,0,v,k,h=>h
  | e::l,i+1,v,k,h=>setX'_out (es:=l) h
theorem fillsX_out {n sz:Nat}:∀ {ps:List (Nat × Operand)} {es:List PV} {K:List PV→Prop},fillsX n sz ps es L K→∃ vs,partsL L ps=some vs∧vs.all (partOk sz n)=true∧K (vs.foldl (fun es x=>es.set x.1 x.2) es)
  | [],es,K,h=>⟨[],rfl,rfl,h⟩
  | (i,x)::r,es,K,h=>by
    obtain ⟨v,h1,h2⟩:=opX_out h
    split at h2
    · rename_i h3 h4 h5
      obtain ⟨vs,e1,e2,e3⟩:=fillsX_out (setX'_out h2)
      refine ⟨(i,v)::vs,by simp [partsL,h1,e1],?_,e3⟩
      rw [List.all_cons,e2,Bool.and_true]
      simp only [partOk,h4,Bool.and_true,Bool.and_eq_true,decide_eq_true_eq]
      exact ⟨Nat.eq_of_beq_eq_true h3,Nat.le_of_ble_eq_true h5⟩
    · exact h2.elim
def repX:Nat→PV→(List PV→Prop)→Prop
  | 0,_,k=>k []
  | n+1,z,k=>repX n z fun l=>k (z::l)
theorem repX_out:∀ {n:Nat} {z:PV} {k:List PV→Prop},repX n z k→k (List.replicate n z)
  | 0,_,_,h=>h
  | n+1,z,k,h=>repX_out (n:=n) h
inductive BsX (h:AHeap) (sz:Nat) (es:List PV) (K:PV→AHeap→Prop):Prop
  | mk (kk:Rn (K (.snap true es) h)) (hv:isVals es=true:=by first | rfl | (simp <;> fail))
  | m2 {n:Nat} {h':AHeap} (kk:Rn (K (.mref n 0 0 es.length) h')) (hv:isVals es=false:=by first | rfl | (simp <;> fail)) (ha:Ap1 ⟨.m,0,sz,es⟩ h h' n:=by repeat (first | exact .nil | apply Ap1.cons | exact .gen))
def litX (t:TypeId) (n:Nat) (ps:List (Nat × Operand)) (L:Al) (K:Nat→List PV→Prop):Prop:=
  match T.kd t with
  | some (.sl el)=>match T.ts el,T.tz el with
    | some (sz+1),some z=>match Nat.ble (n * (sz+1)) 16777216,Nat.beq (cells z).length (sz+1),(cells z).all oneC with
      | true,true,true=>repX n z fun es=>fillsX n (sz+1) ps es L fun es'=>K (sz+1) es'
      | _,_,_=>False
    | _,_=>False
  | _=>False
theorem litX_out {t:TypeId} {n:Nat} {ps:List (Nat × Operand)} {K:Nat→List PV→Prop} (x:litX T t n ps L K):∃ sz es,K sz es∧∀ (ρ:Nat→PV) (h:AHeap) (lv:Nat),
    buildSliceP C.P lv h t n (ps.map fun (i,x)=>(i,ev (al L ρ) x))=if isVals es=true then some (.snap true es,h) else if 2≤lv then some (.mref h.length 0 0 n,newObj h sz es) else none:=by
  unfold litX at x
  split at x
  · rename_i el hk
    split at x
    · rename_i sz z hts htz
      split at x
      · rename_i h1 h2 h3
        obtain ⟨vs,e1,e2,e3⟩:=fillsX_out (repX_out x)
        refine ⟨_,_,e3,fun ρ h lv=>?_⟩
        rw [partsL_ev e1]
        simp only [buildSliceP,kd_sl (T.hkd _ _ hk),T.hts _ _ hts,T.htz _ _ htz]
        rw [if_pos ⟨by omega,Nat.le_of_ble_eq_true h1,Nat.eq_of_beq_eq_true h2,h3,e2⟩]
        rfl
      · exact x.elim
    · exact x.elim
  · exact x.elim
inductive UpX (h:AHeap) (id:Nat) (u y:PV) (K:AHeap→Prop):Prop
  | mk {es es':List PV} (hp:putP u y es=some es') (kk:Rn (K (h.set id ⟨.m,0,0,es'⟩))) (ho:h[id]?=some ⟨.m,0,0,es⟩:=by first | assumption | rfl)
theorem UpX.out {id:Nat} {u y:PV} {K:AHeap→Prop} (x:UpX h id u y K) {t kt et:TypeId} (ht:C.P.underlying t=some (.map kt et)) (hk:keyD C.P kt u=true):∃ h',updateP C.P h t (.mapr id) u y=some h'∧K h':=by
  cases x with
  | mk hp kk ho=>exact ⟨_,by simp only [updateP,ht,mapO_at ho (by simp:Mu.m≠Mu.x),hk,hp,and_self,if_true],kk.out⟩
def stepW (op:Op) (L:Al) (h:AHeap) (K:PV→AHeap→Prop):Prop:=
  match op with
  | .store t a x=>opX L a fun p=>opX L x fun v=>match p,T.ts t with
    | .ptr id ep i off,some sz=>match Nat.beq (cells v).length sz,(cells v).all oneC with
      | true,true=>ObjX h id ep fun o=>match o with
        | ⟨.m,ep,esz,es⟩=>ElmX es i fun e=>rcX off sz e v fun e'=>SetX h id ep esz es i e' fun h'=>K .undef h'
        | _=>False
      | _,_=>False
    | _,_=>False
  | .alloc t=>match T.tz t,T.ts t with
    | some z,some sz=>match (cells z).all oneC,Nat.beq (cells z).length sz,Nat.ble 1 sz with
      | true,true,true=>NewX h ⟨.m,0,sz,[z]⟩ fun n h'=>K (.ptr n 0 0 0) h'
      | _,_,_=>False
    | _,_=>OpqX C (.alloc t) L h K
  | .box t x=>opX L x fun z=>match T.ts t with
    | some sz=>match (cells z).all oneC,Nat.beq (cells z).length sz,Nat.ble 1 sz with
      | true,true,true=>NewX h ⟨.m,0,sz,[z]⟩ fun n h'=>K (.ptr n 0 0 0) h'
      | _,_,_=>False
    | _=>False
  | .makeSlice t l c=>opX L l fun u=>opX L c fun v=>match T.kd t,u,v with
    | some (.sl el),.int _ a,.int _ b=>match T.ts el,T.tb el,T.tz el with
      | some (sz+1),some by',some z=>match Nat.ble by' 1000,Nat.beq (cells z).length (sz+1),(cells z).all oneC with
        | true,true,true=>NmX a fun n=>Sd (a≤b∧b≤1073741824) (NewX h ⟨.m,0,sz+1,List.replicate n z⟩ fun m h'=>K (.mref m 0 0 n) h')
        | _,_,_=>False
      | _,_,_=>False
    | _,_,_=>False
  | .call ⟨.builtin .append,args,ats⟩=>match args.toList,ats.toList with
    | [x,y],[st,xt]=>opX L y fun u=>match u with
      | .snap full ys=>match T.kd st,T.kd xt with
        | some (.sl el),some (.sl _)=>match T.ts el,T.tb el,T.tz el with
          | some (sz+1),some by',some z=>match Nat.ble by' 1000,Nat.beq (cells z).length (sz+1),(cells z).all oneC with
            | true,true,true=>opX L x fun v=>ApdX h (sz+1) v ys K
            | _,_,_=>False
          | _,_,_=>False
        | _,_=>False
      | _=>OpqX C op L h K
    | _,_=>OpqX C op L h K
  | .buildSlice t n ps=>litX T t n ps.toList L fun sz es=>match Nat.beq es.length n with
    | true=>BsX h sz es K
    | false=>False
  | .makeMap t none=>NewX h ⟨.m,0,0,[]⟩ fun n h'=>K (.mapr n) h'
  | .makeMap t (some x)=>opX L x fun v=>match v,T.kd t with
    | .int _ _,some (.mp _ _)=>NewX h ⟨.m,0,0,[]⟩ fun n h'=>K (.mapr n) h'
    | _,_=>False
  | .mapUpdate t m k x | .insert t m k x=>opX L m fun v=>opX L k fun u=>opX L x fun y=>match v,T.kd t with
    | .mapr id,some (.mp kt _)=>match keyX (T.kd kt) u with
      | true=>UpX h id u y fun h'=>K .undef h'
      | false=>False
    | _,_=>False
  | op=>OpqX C op L h K
theorem ApdX.out {st xt el el':TypeId} {sz by':Nat} {z:PV} {full:Bool} {ys:List PV} {x y:Operand} {v:PV} {K:PV→AHeap→Prop} (a:ApdX h (sz+1) v ys K) (hx:evL L x=some v) (hy:evL L y=some (.snap full ys)) (hk:T.kd st=some (.sl el)) (hk':T.kd xt=some (.sl el')) (hs:T.ts el=some (sz+1)) (hb:T.tb el=some by') (hz:T.tz el=some z)
    (hby:by'≤1000) (hl:(cells z).length=sz+1) (ho:(cells z).all oneC=true) :
    ∃ v' h',(∀ run ρ,opVal C run 2 (.call ⟨.builtin .append,#[x,y],#[st,xt]⟩) (al L ρ) h=some (v',h'))∧K v' h':=by
  cases a with
  | @sn es kk hne hn hv hyo heo=>
    subst hv
    refine ⟨_,_,fun run ρ=>?_,kk.out⟩
    unfold esOk at hyo heo
    simp only [opVal,builtinP,List.map_cons,List.map_nil,evL_ev hx,evL_ev hy,appendP,kd_sl (T.hkd _ _ hk),kd_sl (T.hkd _ _ hk'),T.hts _ _ hs,T.htb _ _ hb,T.htz _ _ hz,appendee,elems]
    rw [if_pos ⟨by omega,by omega,⟨hl,ho⟩,hyo⟩,if_neg (by rw [hne];simp),if_pos ⟨trivial,by omega,roomy_of hn hby,heo⟩]
    rfl
  | @lp es kk o hyo hn hvs hH=>
    by_cases hne:ys.isEmpty=true
    · have hys:ys=[]:=by simpa using hne
      subst hys
      refine ⟨v,h,fun run ρ=>?_,(kk v h ⟨by simpa using o,hH,Nat.le_refl _,fun j _ _=>rfl,fun j ep n hh=>.inl ⟨ep,n,hh⟩⟩).out⟩
      rcases o with ⟨rfl,rfl⟩ | ⟨id,ep,rfl,e2⟩
      · simp only [opVal,builtinP,List.map_cons,List.map_nil,evL_ev hx,evL_ev hy,appendP,kd_sl (T.hkd _ _ hk),kd_sl (T.hkd _ _ hk'),T.hts _ _ hs,T.htb _ _ hb,T.htz _ _ hz,appendee,elems]
        rw [if_pos ⟨by omega,by omega,⟨hl,ho⟩,rfl⟩];rfl
      · simp only [opVal,builtinP,List.map_cons,List.map_nil,evL_ev hx,evL_ev hy,appendP,kd_sl (T.hkd _ _ hk),kd_sl (T.hkd _ _ hk'),T.hts _ _ hs,T.htb _ _ hb,T.htz _ _ hz,appendee,elems,getM_at e2 rfl (by simp:Mu.m≠Mu.x)]
        rw [if_pos ⟨by omega,by omega,⟨hl,ho⟩,rfl⟩,if_pos ⟨by simp,trivial⟩];rfl
    have hne:ys.isEmpty=false:=by simpa using hne
    rcases o with ⟨rfl,rfl⟩ | ⟨id,ep,rfl,e2⟩
    · refine ⟨.mref h.length 0 0 ys.length,h++[⟨.m,0,sz+1,ys⟩],fun run ρ=>?_,(kk (.mref h.length 0 0 ys.length) (h++[⟨.m,0,sz+1,ys⟩]) ⟨.inr ⟨h.length,0,by simp,by simp⟩,hH.app (HV.one (by simpa using hvs)),by simp,fun j hj _=>List.getElem?_append_left hj,fun j ep n hh=>?_⟩).out⟩
      · have:=appendP_new T (h:=h) (lv:=2) (full:=full) (by omega) hk hk' hs hb hz hby hl ho hyo hne (by simpa using hn)
        simp only [opVal,builtinP,List.map_cons,List.map_nil,evL_ev hx,evL_ev hy,this]
      · cases hh;exact .inr (Nat.le_refl _)
    · have hlt:=lt_of_some e2
      refine ⟨.mref id (ep+1) 0 (es.length+ys.length),h.set id ⟨.m,ep+1,sz+1,es++ys⟩,fun run ρ=>?_,(kk (.mref id (ep+1) 0 (es.length+ys.length)) (h.set id ⟨.m,ep+1,sz+1,es++ys⟩) ⟨.inr ⟨id,ep+1,by simp,List.getElem?_set_self hlt⟩,hH.set id (by simp) hvs,by simp,fun j hj hne=>List.getElem?_set_ne (fun hh=>hne ep es.length (by rw [hh])),fun j ep' n hh=>?_⟩).out⟩
      · have:=appendP_m T (h:=h) (full:=full) (len:=es.length) hk hk' hs hb hz hby hl ho hyo hne hn (getM_at e2 rfl (by simp)) rfl rfl (Nat.le_refl _)
        simp only [opVal,builtinP,List.map_cons,List.map_nil,evL_ev hx,evL_ev hy,this,List.take_length]
      · cases hh;exact .inl ⟨ep,es.length,rfl⟩
  | @lr es kk o hyo hn hvs hH=>
    by_cases hne:ys.isEmpty=true
    · have hys:ys=[]:=by simpa using hne
      subst hys
      refine ⟨v,h,fun run ρ=>?_,(kk v h ⟨by simpa using o,hH,Nat.le_refl _,fun j _ _=>rfl,fun j ep n hh=>.inl ⟨ep,n,hh⟩⟩).out⟩
      rcases o with ⟨rfl,rfl⟩ | ⟨id,ep,rfl,e2⟩
      · simp only [opVal,builtinP,List.map_cons,List.map_nil,evL_ev hx,evL_ev hy,appendP,kd_sl (T.hkd _ _ hk),kd_sl (T.hkd _ _ hk'),T.hts _ _ hs,T.htb _ _ hb,T.htz _ _ hz,appendee,elems]
        rw [if_pos ⟨by omega,by omega,⟨hl,ho⟩,rfl⟩];rfl
      · simp only [opVal,builtinP,List.map_cons,List.map_nil,evL_ev hx,evL_ev hy,appendP,kd_sl (T.hkd _ _ hk),kd_sl (T.hkd _ _ hk'),T.hts _ _ hs,T.htb _ _ hb,T.htz _ _ hz,appendee,elems,getM_at e2 rfl (by simp:Mu.m≠Mu.x)]
        rw [if_pos ⟨by omega,by omega,⟨hl,ho⟩,rfl⟩,if_pos ⟨by simp,trivial⟩];rfl
    have hne:ys.isEmpty=false:=by simpa using hne
    rcases o with ⟨rfl,rfl⟩ | ⟨id,ep,rfl,e2⟩
    · refine ⟨.mref h.length 0 0 ys.length,h++[⟨.m,0,sz+1,ys⟩],fun run ρ=>?_,(kk (.mref h.length 0 0 ys.length) (h++[⟨.m,0,sz+1,ys⟩]) ⟨.inr ⟨h.length,0,by simp,by simp⟩,hH.app1 (by simp) (visRs_imp (f:=fun i=>decide (i<h.length)) (fun i hi=>by have:=of_decide_eq_true hi;exact decide_eq_true (by omega)) _ (by simpa using hvs)),by simp,fun j hj _=>List.getElem?_append_left hj,fun j ep n hh=>?_⟩).out⟩
      · have:=appendP_new T (h:=h) (lv:=2) (full:=full) (by omega) hk hk' hs hb hz hby hl ho hyo hne (by simpa using hn)
        simp only [opVal,builtinP,List.map_cons,List.map_nil,evL_ev hx,evL_ev hy,this]
      · cases hh;exact .inr (Nat.le_refl _)
    · have hlt:=lt_of_some e2
      refine ⟨.mref id (ep+1) 0 (es.length+ys.length),h.set id ⟨.m,ep+1,sz+1,es++ys⟩,fun run ρ=>?_,(kk (.mref id (ep+1) 0 (es.length+ys.length)) (h.set id ⟨.m,ep+1,sz+1,es++ys⟩) ⟨.inr ⟨id,ep+1,by simp,List.getElem?_set_self hlt⟩,hH.set id (by simp) hvs,by simp,fun j hj hne=>List.getElem?_set_ne (fun hh=>hne ep es.length (by rw [hh])),fun j ep' n hh=>?_⟩).out⟩
      · have:=appendP_m T (h:=h) (full:=full) (len:=es.length) hk hk' hs hb hz hby hl ho hyo hne hn (getM_at e2 rfl (by simp)) rfl rfl (Nat.le_refl _)
        simp only [opVal,builtinP,List.map_cons,List.map_nil,evL_ev hx,evL_ev hy,this,List.take_length]
      · cases hh;exact .inl ⟨ep,es.length,rfl⟩
theorem stepW_out {op:Op} {K:PV→AHeap→Prop} (hs:stepW T op L h K):∃ v h',(∀ run ρ,opVal C run 2 op (al L ρ) h=some (v,h'))∧K v h':=by
  unfold stepW at hs
  split at hs
  · obtain ⟨p,e,k0⟩:=opX_out hs
    obtain ⟨v,e2,k⟩:=opX_out k0
    clear k0
    split at k
    · rename_i hts
      split at k
      · rename_i hl h1
        obtain ⟨o,e3,k⟩:=ObjX.out k
        split at k
        · obtain ⟨el,e4,k⟩:=ElmX.out k
          have hl:=Nat.eq_of_beq_eq_true hl
          obtain ⟨h5,k⟩:=rcX_out' hl k
          refine ⟨_,_,fun run ρ=>?_,SetX.out k⟩
          simp only [opVal,stepOp,evL_ev e,evL_ev e2,storeP,T.hts _ _ hts,e3,e4,Nat.le_refl,if_true]
          rw [if_pos ⟨trivial,hl,h1,h5⟩];rfl
        · exact k.elim
      · exact k.elim
    · exact k.elim
  · split at hs
    · rename_i hz hts
      split at hs
      · rename_i h1 h2 h3
        have h2:=Nat.eq_of_beq_eq_true h2
        have h3:=Nat.le_of_ble_eq_true h3
        refine ⟨_,_,fun run ρ=>?_,NewX.out hs⟩
        simp only [opVal,stepOp,T.htz _ _ hz]
        rw [if_pos ⟨by omega,h1,by omega⟩,newObj,h2]
      · exact hs.elim
    · exact hs.out
  · obtain ⟨z,e,k⟩:=opX_out hs
    split at k
    · rename_i hts
      split at k
      · rename_i h1 h2 h3
        have h2:=Nat.eq_of_beq_eq_true h2
        have h3:=Nat.le_of_ble_eq_true h3
        refine ⟨_,_,fun run ρ=>?_,NewX.out k⟩
        simp only [opVal,stepOp,evL_ev e]
        rw [if_pos ⟨by omega,h1,by omega⟩,newObj,h2]
      · exact k.elim
    · exact k.elim
  · obtain ⟨u,e,k0⟩:=opX_out hs
    obtain ⟨v,e2,k⟩:=opX_out k0
    clear k0
    split at k
    · rename_i hk
      split at k
      · rename_i hts htb htz
        split at k
        · rename_i h1 h2 h3
          obtain ⟨n,hi,k2⟩:=NmX.out k
          clear k
          subst hi
          obtain ⟨⟨h4,h5⟩,k⟩:=Sd.out k2
          have h1:=Nat.le_of_ble_eq_true h1
          refine ⟨_,_,fun run ρ=>?_,NewX.out k⟩
          simp only [opVal,stepOp,evL_ev e,evL_ev e2,makeSliceP,kd_sl (T.hkd _ _ hk),T.hts _ _ hts,T.htb _ _ htb,T.htz _ _ htz]
          rw [if_pos ⟨by omega,by omega,h4,h5,by omega,by omega,Nat.eq_of_beq_eq_true h2,h3⟩]
          simp [newObj]
        · exact k.elim
      · exact k.elim
    · exact k.elim
  · split at hs
    · rename_i x y st xt ha ht
      obtain ⟨u,e,k⟩:=opX_out hs
      split at k
      · split at k
        · rename_i hk hk'
          split at k
          · rename_i hts htb htz
            split at k
            · rename_i h1 h2 h3
              obtain ⟨v,e2,k⟩:=opX_out k
              obtain ⟨v',h',h5,h6⟩:=ApdX.out T k e2 e hk hk' hts htb htz (Nat.le_of_ble_eq_true h1) (Nat.eq_of_beq_eq_true h2) h3
              refine ⟨v',h',fun run ρ=>?_,h6⟩
              rw [← h5 run ρ]
              simp only [opVal,ha,ht]
            · exact k.elim
          · exact k.elim
        · exact k.elim
      · exact k.out.imp fun v a=>a.imp fun h' b=>b
    · obtain ⟨v,h',b⟩:=hs.out;exact ⟨v,h',b⟩
  · obtain ⟨sz,es,k,hb⟩:=litX_out T hs
    split at k
    · rename_i hn
      have hn:=Nat.eq_of_beq_eq_true hn
      cases k with
      | mk kk hv=>exact ⟨_,_,fun run ρ=>by simp only [opVal,stepOp,hb];rw [if_pos hv],kk.out⟩
      | m2 kk hv ha=>
        obtain ⟨rfl,rfl⟩:=ha.eq
        refine ⟨_,_,fun run ρ=>?_,kk.out⟩
        simp only [opVal,stepOp,hb]
        rw [if_neg (by rw [hv];simp),if_pos (Nat.le_refl 2),newObj,hn]
    · exact k.elim
  · exact ⟨_,_,fun run ρ=>by simp only [opVal,stepOp,makeMapP,Option.map_none];rw [if_pos (by omega)];rfl,NewX.out hs⟩
  · obtain ⟨v,e,k⟩:=opX_out hs
    split at k
    · rename_i hk
      exact ⟨_,_,fun run ρ=>by simp only [opVal,stepOp,makeMapP,Option.map_some,evL_ev e,kd_mp (T.hkd _ _ hk)];rw [if_pos (by omega)];rfl,NewX.out k⟩
    · exact k.elim
  · obtain ⟨v,e,k0⟩:=opX_out hs
    obtain ⟨u,e2,k1⟩:=opX_out k0
    obtain ⟨y,e3,k⟩:=opX_out k1
    clear k0 k1
    split at k
    · rename_i hk
      split at k
      · rename_i hkx
        obtain ⟨h',h1,k2⟩:=UpX.out (C:=C) k (kd_mp (T.hkd _ _ hk)) (keyX_out T hkx)
        exact ⟨_,h',fun run ρ=>by simp only [opVal,stepOp,evL_ev e,evL_ev e2,evL_ev e3,h1,Nat.le_refl,if_true,Option.map_some],k2⟩
      · exact k.elim
    · exact k.elim
  · obtain ⟨v,e,k0⟩:=opX_out hs
    obtain ⟨u,e2,k1⟩:=opX_out k0
    obtain ⟨y,e3,k⟩:=opX_out k1
    clear k0 k1
    split at k
    · rename_i hk
      split at k
      · rename_i hkx
        obtain ⟨h',h1,k2⟩:=UpX.out (C:=C) k (kd_mp (T.hkd _ _ hk)) (keyX_out T hkx)
        exact ⟨_,h',fun run ρ=>by simp only [opVal,stepOp,evL_ev e,evL_ev e2,evL_ev e3,h1,Nat.le_refl,if_true,Option.map_some],k2⟩
      · exact k.elim
    · exact k.elim
  · obtain ⟨v,h',b⟩:=hs.out;exact ⟨v,h',b⟩
def push (d:Option Nat) (v:PV) (L:Al):Al:=match d with | some d=>(d,v)::L | none=>L
def pushX (d:Option Nat) (v:PV) (L:Al) (K:Al→Prop):Prop:=match d with | some d=>K ((d,v)::L) | none=>K L
theorem pushX_out {d:Option Nat} {v:PV} {K:Al→Prop} (h:pushX d v L K):K (push d v L):=by
  unfold pushX at h
  split at h <;> exact h
theorem al_push (d:Option Nat) (v:PV):updO (al L ρ) d v=al (push d v L) ρ:=by
  cases d with
  | none=>rfl
  | some d=>exact al_cons d v L ρ
def gdX (ops:List Oper) (g:Option (Nat × Bool)) (L:Al):Option Bool:=
  match g with
  | none=>some true
  | some (j,want)=>match nthX ops j with
    | some o=>match o.dst with
      | some d=>match lk L d with
        | some (.bool true)=>some want
        | some (.bool false)=>match want with | true=>some false | false=>some true
        | some .undef=>some false
        | _=>none
      | none=>some false
    | none=>some false
theorem gdX_out {ops:Array Oper} {o:Oper} {b:Bool} (hh:gdX ops.toList o.guard L=some b):wantedA ops o (al L ρ)=some b:=by
  unfold gdX at hh
  unfold wantedA
  split at hh
  · rename_i hg;rw [hg];exact hh
  · rename_i j want hg
    rw [hg]
    simp only
    rw [nthX_eq] at hh
    cases ho:ops.toList[j]? with
    | none=>rw [ho] at hh;simpa using hh
    | some o'=>
      rw [ho] at hh
      simp only [Option.bind_some] at hh ⊢
      cases hd:o'.dst with
      | none=>rw [hd] at hh;simpa using hh
      | some d=>
        rw [hd] at hh
        simp only at hh ⊢
        split at hh
        · rename_i hl;rw [lk_al hl ρ];simp at hh;subst hh;cases want <;> rfl
        · rename_i hl;rw [lk_al hl ρ];cases want <;> simp at hh <;> subst hh <;> rfl
        · rename_i hl;rw [lk_al hl ρ];simpa using hh
        · cases hh
def callX (op:Op):Option (Operand × List Operand):=match op with | .call ⟨.value f,args,_⟩=>some (f,args.toList) | _=>none
def isRd (op:Op):Bool:=match op with | .load .. | .indexAddr .. | .slice .. | .lookup ..=>true | .call ⟨.builtin .len,_,_⟩ | .call ⟨.builtin .max,_,_⟩ | .call ⟨.builtin .min,_,_⟩=>true | _=>false
def stepX (op:Op) (L:Al) (h:AHeap) (K:PV→AHeap→Prop):Prop:=
  match callX op with
  | some (f,args)=>opX L f fun v=>match v with
    | .fn f caps=>argsX L args fun us=>catX us caps fun us=>CallEv C 2 f us h fun v h'=>Rn (K v h')
    | .bfn f k cs=>argsX L args fun us=>takeX k cs fun a=>dropX k cs fun b=>catX a us fun us=>catX us b fun us=>CallEv C 2 f us h fun v h'=>Rn (K v h')
    | _=>False
  | none=>match heapy op with
    | false=>stepP T op L fun v=>K v h
    | true=>match isRd op with
      | true=>stepR T op L h fun v=>K v h
      | false=>stepW T op L h K
def opsX (ops:List Oper) (l:List Oper):Al→AHeap→(Al→AHeap→Prop)→Prop:=
  List.rec (motive:=fun _=>Al→AHeap→(Al→AHeap→Prop)→Prop) (fun L h Q=>Q L h)
    (fun o _ ih L h Q=>match gdX ops o.guard L with
      | some true=>stepX T o.op L h fun v h'=>pushX o.dst v L fun L=>ih L h' Q
      | some false=>pushX o.dst .undef L fun L=>ih L h Q
      | none=>False) l
theorem opsX_cons {ops:List Oper} {o:Oper} {r:List Oper} {L:Al} {h:AHeap} {Q:Al→AHeap→Prop}:opsX T ops (o::r) L h Q=match gdX ops o.guard L with
    | some true=>stepX T o.op L h fun v h'=>pushX o.dst v L fun L=>opsX T ops r L h' Q
    | some false=>pushX o.dst .undef L fun L=>opsX T ops r L h Q
    | none=>False:=rfl
theorem CallEv.mono {lv:Nat} {f:FuncId} {args:List PV} {h:AHeap} {Q Q':PV→AHeap→Prop} (a:CallEv C lv f args h Q) (hq:∀ r h,Q r h→Q' r h):CallEv C lv f args h Q':=by
  obtain ⟨r,h',q,e⟩:=a
  exact ⟨r,h',hq _ _ q,e⟩
theorem EvOps.callB {ops:Array Oper} {o:Oper} {r:List Oper} {s:St} {Q:St→Prop} {c:Call} {x:Operand} {f:FuncId} {k:Nat} {cs args:List PV} (hw:wantedA ops o s.ρ=some true) (ho:o.op=.call c) (hx:c.callee=.value x) (hf:ev s.ρ x=.bfn f k cs)
    (ha:cs.take k++c.args.toList.map (ev s.ρ)++cs.drop k=args) (hc:CallEv C 2 f args s.h (fun v h'=>EvOps C ops r ⟨updO s.ρ o.dst v,h'⟩ Q)):EvOps C ops (o::r) s Q:=by
  obtain ⟨v,h',⟨s',q,n1,hn1⟩,n0,hn⟩:=hc
  refine ⟨s',q,max n0 n1,fun n h1=>?_⟩
  have:opVal C (runF C n) 2 o.op s.ρ s.h=some (v,h'):=by
    rw [ho]
    simp only [opVal,hx,calleeP,hf,ha]
    exact hn n (by omega)
  simp only [evalOps,opStep,hw,this,hn1 n (by omega)]
theorem opsX_out {ops:Array Oper} {Q:St→Prop}:∀ {l:List Oper} {L:Al} {h:AHeap} {K:Al→AHeap→Prop},opsX T ops.toList l L h K→(∀ L' h',K L' h'→Q ⟨al L' ρ,h'⟩)→EvOps C ops l ⟨al L ρ,h⟩ Q
  | [],L,h,K,x,hq=>EvOps.nil (hq _ _ x)
  | o::r,L,h,K,x,hq=>by
    rw [opsX_cons] at x
    split at x
    · rename_i hg
      have hw:=gdX_out (ρ:=ρ) hg
      have plain:∀ {v:PV} {h':AHeap},(∀ run ρ,opVal C run 2 o.op (al L ρ) h=some (v,h'))→(pushX o.dst v L fun L=>opsX T ops.toList r L h' K)→EvOps C ops (o::r) ⟨al L ρ,h⟩ Q:=fun {v h'} hv k=>
        EvOps.step (s1:=⟨updO (al L ρ) o.dst v,h'⟩) (fun run=>by simp only [opStep,hw,hv run ρ]) (by rw [al_push];exact opsX_out (pushX_out k) hq)
      unfold stepX at x
      split at x
      · rename_i f args hc
        obtain ⟨v,e,k⟩:=opX_out x
        split at k
        · obtain ⟨us,e2,k⟩:=argsX_out k
          have k:=catX_out k
          have hop:∃ c:Call,o.op=.call c∧c.callee=.value f∧c.args.toList=args:=by
            unfold callX at hc
            split at hc
            · rename_i h1
              obtain ⟨rfl,rfl⟩:=Prod.mk.inj (Option.some.inj hc)
              exact ⟨_,h1,rfl,rfl⟩
            · cases hc
          obtain ⟨c,c1,c2,c3⟩:=hop
          refine EvOps.call hw c1 c2 (evL_ev e ρ) (by rw [c3,evsL_ev e2]) (k.mono fun v h' kk=>?_)
          rw [al_push]
          exact opsX_out (pushX_out kk.out) hq
        · obtain ⟨us,e2,k⟩:=argsX_out k
          obtain ⟨_,k⟩:=takeX_out k
          obtain ⟨_,k⟩:=dropX_out k
          have k:=catX_out (catX_out k)
          have hop:∃ c:Call,o.op=.call c∧c.callee=.value f∧c.args.toList=args:=by
            unfold callX at hc
            split at hc
            · rename_i h1
              obtain ⟨rfl,rfl⟩:=Prod.mk.inj (Option.some.inj hc)
              exact ⟨_,h1,rfl,rfl⟩
            · cases hc
          obtain ⟨c,c1,c2,c3⟩:=hop
          refine EvOps.callB hw c1 c2 (evL_ev e ρ) (by rw [c3,evsL_ev e2]) (k.mono fun v h' kk=>?_)
          rw [al_push]
          exact opsX_out (pushX_out kk.out) hq
        · exact k.elim
      · split at x
        · obtain ⟨_,v,h1,k⟩:=stepP_out T x
          exact plain (fun run ρ=>h1 run 2 ρ h) k
        · split at x
          · obtain ⟨_,v,h1,k⟩:=stepR_out T x
            exact plain (fun run ρ=>h1 run 2 ρ) k
          · obtain ⟨v,h',h1,k⟩:=stepW_out T x
            exact plain h1 k
    · rename_i hg
      have hw:=gdX_out (ρ:=ρ) hg
      exact EvOps.step (s1:=⟨updO (al L ρ) o.dst .undef,h⟩) (fun run=>by simp only [opStep,hw]) (by rw [al_push];exact opsX_out (pushX_out x) hq)
    · exact x.elim
def VisV (h:AHeap) (v:PV):Prop:=match v with
  | .ptr id _ _ _=>visible h id=true
  | .mref id _ _ _=>visible h id=true
  | v=>visR (visible h) v=true
def visX (L:Al) (h:AHeap):List Operand→Prop
  | []=>True
  | y::r=>match evL L y with
    | some v=>VisV h v∧visX L h r
    | none=>False
theorem vis_at {id:Nat} {o:AObj} (e:h[id]?=some o) (h1:o.mu≠.x):visible h id=true:=by simp [visible,e,h1]
theorem vis_new {o:AObj} (h1:o.mu≠.x):visible (h++[o]) h.length=true:=by simp [visible,h1]
theorem vis_app {J:AHeap} {id:Nat} (e:visible h id=true):visible (h++J) id=true:=by
  unfold visible at e ⊢
  split at e
  · rename_i o ho
    rw [List.getElem?_append_left (lt_of_some ho),ho];exact e
  · cases e
theorem visX_of {ρ:Nat→PV}:∀ {l:List Operand},visX L h l→∀ y∈l,visR (visible h) (ev (al L ρ) y)=true
  | [],_,y,hy=>by cases hy
  | x::l,a,y,hy=>by
    unfold visX at a
    split at a
    · rename_i v hv
      rcases List.mem_cons.1 hy with rfl | hy
      · rw [evL_ev hv]
        have a1:=a.1
        unfold VisV at a1
        split at a1
        · simpa only [visR] using a1
        · simpa only [visR] using a1
        · exact a1
      · exact visX_of a.2 y hy
    · exact a.elim
inductive DRd (ops:Array Oper) (i:Nat) (op:Op) (L:Al) (h:AHeap) (a:Prop):Prop
  | mk (k:Rn a) (hc:closedH h=true:=by first | exact HV.closed (by assumption) | exact HR.closed (by assumption) | assumption | rfl | ((refine HV.closed ?_;repeat' (first | assumption | apply HV.app | (refine HV.one ?_;simp <;> fail) | exact HV.nil)) <;> fail))
      (hv:visX L h op.operands.toList:=by (repeat' (first | exact trivial | refine ⟨?_,?_⟩ | rfl | exact vis_at (by assumption) (by first | assumption | simp) | exact vis_new (by simp) | exact vis_app (vis_at (by assumption) (by first | assumption | simp)) | exact vis_app (vis_new (by simp)) | exact vis_app (vis_app (vis_at (by assumption) (by first | assumption | simp))))) <;> fail)
  | m2 (k:Rn a) (hl:level ops (before ops) i=2:=by rfl)
inductive DTw (ops:Array Oper) (i:Nat) (a:Prop):Prop
  | mk (k:Rn a) (hl:level ops (before ops) i=2:=by rfl)
inductive DCa (C:Cfg) (ops:Array Oper) (i:Nat) (L:Al) (f:FuncId) (xs:List Operand) (us:List PV) (h:AHeap) (K:PV→AHeap→Prop):Prop
  | m2 (k:CallEv C 2 f us h fun v h'=>Rn (K v h')) (hl:level ops (before ops) i=2:=by rfl)
  | o1 (r:PV) (a:FnEv C f us (h.map lock1) (fun r' h'=>r'=r∧h'.length=h.length)) (kk:Rn (K r h)) (hv:visRs (visible h) us=true) (hm:C.mode f=.opened:=by rfl) (hl:level ops (before ops) i=1:=by rfl)
      (hc:closedH h=true:=by first | exact HV.closed (by assumption) | exact HR.closed (by assumption) | assumption)
  | mk (r:PV) (a:Fun C f (nrms us) r) (kk:Rn (K r h)) (hm:C.mode f=.pure:=by rfl) (hv:isVals us=true:=by simp) (hc:closedH h=true:=by first | exact HV.closed (by assumption) | exact HR.closed (by assumption) | assumption | rfl | ((refine HV.closed ?_;repeat' (first | assumption | apply HV.app | (refine HV.one ?_;simp <;> fail) | exact HV.nil)) <;> fail))
inductive DBs (ops:Array Oper) (i:Nat) (op:Op) (L:Al) (h:AHeap) (es:List PV) (p q:Prop):Prop
  | mk (k:Rn q) (hv:isVals es=false:=by rfl) (hl:level ops (before ops) i=2:=by rfl)
  | m2 (k:DRd ops i op L h p) (hv:isVals es=true:=by first | rfl | (simp <;> fail))
theorem vis_of {op:Op} (hv:visX L h op.operands.toList):(op.operands.toList.all fun y=>visR (visible h) (ev (al L ρ) y))=true:=by
  rw [List.all_eq_true]
  exact visX_of hv
def dX (ops:Array Oper) (i:Nat) (l:List Oper):Al→AHeap→(Al→AHeap→Prop)→Prop:=
  List.rec (motive:=fun _=>Nat→Al→AHeap→(Al→AHeap→Prop)→Prop) (fun _ L h Q=>Q L h)
    (fun o _ ih i L h Q=>match gdX ops.toList o.guard L with
    | some true=>match callX o.op with
      | some (f,args)=>opX L f fun v=>match v with
        | .fn f caps=>argsX L args fun us=>catX us caps fun us=>DCa C ops i L f args us h fun v h'=>pushX o.dst v L fun L=>ih (i+1) L h' Q
        | .bfn f k cs=>argsX L args fun us=>takeX k cs fun a=>dropX k cs fun b=>catX a us fun us=>catX us b fun us=>DCa C ops i L f args us h fun v h'=>pushX o.dst v L fun L=>ih (i+1) L h' Q
        | _=>False
      | none=>match heapy o.op with
        | false=>stepP T o.op L fun v=>pushX o.dst v L fun L=>ih (i+1) L h Q
        | true=>match isRd o.op with
          | true=>DRd ops i o.op L h (stepR T o.op L h fun v=>pushX o.dst v L fun L=>ih (i+1) L h Q)
          | false=>match o.op with
            | .buildSlice t n ps=>litX T t n ps.toList L fun sz es=>match Nat.beq es.length n with
              | true=>DBs ops i o.op L h es (pushX o.dst (.snap true es) L fun L=>ih (i+1) L h Q) (stepW T o.op L h fun v h'=>pushX o.dst v L fun L=>ih (i+1) L h' Q)
              | false=>False
            | op=>DTw ops i (stepW T op L h fun v h'=>pushX o.dst v L fun L=>ih (i+1) L h' Q)
    | some false=>pushX o.dst .undef L fun L=>ih (i+1) L h Q
    | none=>False) l i
theorem dX_cons {ops:Array Oper} {i:Nat} {o:Oper} {r:List Oper} {L:Al} {h:AHeap} {Q:Al→AHeap→Prop}:dX T ops i (o::r) L h Q=(
   match gdX ops.toList o.guard L with
    | some true=>match callX o.op with
      | some (f,args)=>opX L f fun v=>match v with
        | .fn f caps=>argsX L args fun us=>catX us caps fun us=>DCa C ops i L f args us h fun v h'=>pushX o.dst v L fun L=>dX T ops (i+1) r L h' Q
        | .bfn f k cs=>argsX L args fun us=>takeX k cs fun a=>dropX k cs fun b=>catX a us fun us=>catX us b fun us=>DCa C ops i L f args us h fun v h'=>pushX o.dst v L fun L=>dX T ops (i+1) r L h' Q
        | _=>False
      | none=>match heapy o.op with
        | false=>stepP T o.op L fun v=>pushX o.dst v L fun L=>dX T ops (i+1) r L h Q
        | true=>match isRd o.op with
          | true=>DRd ops i o.op L h (stepR T o.op L h fun v=>pushX o.dst v L fun L=>dX T ops (i+1) r L h Q)
          | false=>match o.op with
            | .buildSlice t n ps=>litX T t n ps.toList L fun sz es=>match Nat.beq es.length n with
              | true=>DBs ops i o.op L h es (pushX o.dst (.snap true es) L fun L=>dX T ops (i+1) r L h Q) (stepW T o.op L h fun v h'=>pushX o.dst v L fun L=>dX T ops (i+1) r L h' Q)
              | false=>False
            | op=>DTw ops i (stepW T op L h fun v h'=>pushX o.dst v L fun L=>dX T ops (i+1) r L h' Q)
    | some false=>pushX o.dst .undef L fun L=>dX T ops (i+1) r L h Q
    | none=>False):=rfl
theorem dX_call {ops:Array Oper} {i:Nat} {o:Oper} {r:List Oper} {c:Call} {f:Operand} {g:FuncId} {us us0 fvs:List PV} {Q:St→Prop} {K:PV→AHeap→Prop} (hw:wantedA ops o (al L ρ)=some true) (c1:o.op=.call c) (c2:c.callee=.value f)
    (hfv:∀ F:Nat→Bool,visR F (ev (al L ρ) f)=visRs F fvs) (e2:evsL L c.args.toList=some us0) (hsub:∀ y,y∈us0∨y∈fvs→y∈us) (hval:∀ run lv,opVal C run lv o.op (al L ρ) h=callF C run lv g us h) {xs:List Operand} (k:DCa C ops i L g xs us h K)
    (hk:∀ v h',K v h'→EvD C ops (i+1) r ⟨⟨updO (al L ρ) o.dst v,h'⟩,h'.length,[]⟩ Q):EvD C ops i (o::r) ⟨⟨al L ρ,h⟩,h.length,[]⟩ Q:=by
  have hh:heapy o.op=true:=by rw [c1];rfl
  have hM:maskE ((before ops).getD i 0).testBit h.length [] h=h:=by simp [maskE]
  have hop:visRs (visible h) us=true→(o.op.operands.toList.all fun y=>visR (visible h) (ev (al L ρ) y))=true:=fun hv=>by
    rw [visRs_all,List.all_eq_true] at hv
    rw [c1,List.all_eq_true]
    intro y hy
    simp [Op.operands,Call.operands,c2] at hy
    rcases hy with rfl | hy
    · rw [hfv,visRs_all,List.all_eq_true]
      exact fun x hx=>hv x (hsub x (.inr hx))
    · refine hv _ (hsub _ (.inl ?_))
      rw [← evsL_ev (ρ:=ρ) e2]
      exact List.mem_map.2 ⟨y,by simpa using hy,rfl⟩
  cases k with
  | m2 k hl=>
    obtain ⟨v,h',kk,n0,hn⟩:=k
    exact EvD.step (x1:=⟨⟨updO (al L ρ) o.dst v,h'⟩,h'.length,[]⟩) ⟨n0,fun n h1=>by simp only [opStepD,hw,hh,Bool.true_eq_false,if_false,hl,if_true,hval,hn n h1]⟩ (hk _ _ kk.out)
  | o1 v a kk hv hm hl hc=>
    obtain ⟨v',h',⟨rfl,hd⟩,n0,hn⟩:=a
    have hd:h'.drop h.length=[]:=List.drop_eq_nil_of_le (by omega)
    refine EvD.step (x1:=⟨⟨updO (al L ρ) o.dst v',h⟩,h.length,[]⟩) ⟨n0,fun n h1=>?_⟩ (hk _ _ kk.out)
    have hcall:callF C (runF C n) 1 g us h=some (v',h):=by
      unfold callF
      simp [hm,callOpen,lockCall,hn n h1,hd]
    simp only [opStepD,hw,hh,Bool.true_eq_false,if_false,hl,hM,hc,hop hv,and_self,if_true,hval,hcall]
    simp
  | mk r' a kk hm hv hc=>
    have hcall:∃ n0,∀ n lv,n0≤n→1≤lv→callF C (runF C n) lv g us h=some (r',h):=by
      obtain ⟨n0,hn⟩:=a
      refine ⟨n0,fun n lv h1 _=>?_⟩
      obtain ⟨r0,hc,r1,e1,e2,e3⟩:=hn n h1
      unfold callF
      rw [hm]
      simp only [callPure,hv,if_true,e1,e2,e3]
    obtain ⟨n0,hn⟩:=hcall
    refine EvD.step (x1:=⟨⟨updO (al L ρ) o.dst r',h⟩,h.length,[]⟩) ⟨n0,fun n h1=>?_⟩ (hk _ _ kk.out)
    by_cases hl:level ops (before ops) i=2
    · simp only [opStepD,hw,hh,Bool.true_eq_false,if_false,hl,if_true,hval,hn n 2 h1 (by omega)]
    · simp only [opStepD,hw,hh,Bool.true_eq_false,if_false,hl,hM,hc,hop (vis_vals _ _ hv),and_self,if_true,hval,hn n 1 h1 (Nat.le_refl _)]
      simp
theorem dX_out {ops:Array Oper} {Q:St→Prop}:∀ {l:List Oper} {i:Nat} {L:Al} {h:AHeap} {K:Al→AHeap→Prop},dX T ops i l L h K→(∀ L' h',K L' h'→Q ⟨al L' ρ,h'⟩)→EvD C ops i l ⟨⟨al L ρ,h⟩,h.length,[]⟩ Q
  | [],i,L,h,K,x,hq=>EvD.nil (hq _ _ x)
  | o::r,i,L,h,K,x,hq=>by
    rw [dX_cons] at x
    split at x
    · rename_i hg
      have hw:=gdX_out (ρ:=ρ) hg
      have plain:∀ {v:PV},heapy o.op=false→(∀ run,opVal C run 1 o.op (al L ρ) h=some (v,h))→(pushX o.dst v L fun L=>dX T ops (i+1) r L h K)→EvD C ops i (o::r) ⟨⟨al L ρ,h⟩,h.length,[]⟩ Q:=fun {v} hh hv k=>
        EvD.step (x1:=⟨⟨updO (al L ρ) o.dst v,h⟩,h.length,[]⟩) ⟨0,fun n _=>by simp only [opStepD,hw,hh,if_true,hv]⟩ (by rw [al_push];exact dX_out (pushX_out k) hq)
      have two:∀ {v:PV} {h':AHeap},heapy o.op=true→level ops (before ops) i=2→(∃ n0,∀ n,n0≤n→opVal C (runF C n) 2 o.op (al L ρ) h=some (v,h'))→(pushX o.dst v L fun L=>dX T ops (i+1) r L h' K)→EvD C ops i (o::r) ⟨⟨al L ρ,h⟩,h.length,[]⟩ Q:=fun {v h'} hh hl hv k=>by
        obtain ⟨n0,hn⟩:=hv
        refine EvD.step (x1:=⟨⟨updO (al L ρ) o.dst v,h'⟩,h'.length,[]⟩) ⟨n0,fun n h1=>?_⟩ (by rw [al_push];exact dX_out (pushX_out k) hq)
        simp only [opStepD,hw,hh,Bool.true_eq_false,if_false,hl,if_true,hn n h1]
      have one:∀ {v:PV},heapy o.op=true→closedH h=true→(o.op.operands.toList.all fun y=>visR (visible h) (ev (al L ρ) y))=true→(∃ n0,∀ n lv,n0≤n→1≤lv→opVal C (runF C n) lv o.op (al L ρ) h=some (v,h))→(pushX o.dst v L fun L=>dX T ops (i+1) r L h K)→EvD C ops i (o::r) ⟨⟨al L ρ,h⟩,h.length,[]⟩ Q:=fun {v} hh hcl hop hv k=>by
        by_cases hl:level ops (before ops) i=2
        · obtain ⟨n0,hn⟩:=hv
          exact two hh hl ⟨n0,fun n h1=>hn n 2 h1 (by omega)⟩ k
        · obtain ⟨n0,hn⟩:=hv
          refine EvD.step (x1:=⟨⟨updO (al L ρ) o.dst v,h⟩,h.length,[]⟩) ⟨n0,fun n h1=>?_⟩ (by rw [al_push];exact dX_out (pushX_out k) hq)
          have hM:maskE ((before ops).getD i 0).testBit h.length [] h=h:=by simp [maskE]
          simp only [opStepD,hw,hh,Bool.true_eq_false,if_false,hl,hM,hcl,hop,and_self,if_true,hn n 1 h1 (Nat.le_refl _)]
          simp
      split at x
      · rename_i f args hc
        obtain ⟨v,e,k⟩:=opX_out x
        split at k
        · rename_i caps
          obtain ⟨us,e2,k⟩:=argsX_out k
          have k:=catX_out k
          have hop:∃ c:Call,o.op=.call c∧c.callee=.value f∧c.args.toList=args:=by
            unfold callX at hc
            split at hc
            · rename_i h1
              obtain ⟨rfl,rfl⟩:=Prod.mk.inj (Option.some.inj hc)
              exact ⟨_,h1,rfl,rfl⟩
            · cases hc
          obtain ⟨c,c1,c2,c3⟩:=hop
          refine dX_call hw c1 c2 (fvs:=caps) (fun F=>by rw [evL_ev e];rfl) (us0:=us) (by rw [c3];exact e2) (fun y hy=>List.mem_append.2 hy) (fun run lv=>by
            rw [c1]
            simp only [opVal,c2,calleeP,evL_ev e,c3,evsL_ev e2]) k (fun v h' kk=>?_)
          rw [al_push]
          exact dX_out (pushX_out kk) hq
        · rename_i kk cs
          obtain ⟨us,e2,k⟩:=argsX_out k
          obtain ⟨_,k⟩:=takeX_out k
          obtain ⟨_,k⟩:=dropX_out k
          have k:=catX_out (catX_out k)
          have hop:∃ c:Call,o.op=.call c∧c.callee=.value f∧c.args.toList=args:=by
            unfold callX at hc
            split at hc
            · rename_i h1
              obtain ⟨rfl,rfl⟩:=Prod.mk.inj (Option.some.inj hc)
              exact ⟨_,h1,rfl,rfl⟩
            · cases hc
          obtain ⟨c,c1,c2,c3⟩:=hop
          refine dX_call hw c1 c2 (fvs:=cs) (fun F=>by rw [evL_ev e];rfl) (us0:=us) (by rw [c3];exact e2) (fun y hy=>by
            rcases hy with hy | hy
            · simp [hy]
            · have:y∈cs.take kk++cs.drop kk:=by rw [List.take_append_drop];exact hy
              rcases List.mem_append.1 this with h | h
              · exact List.mem_append.2 (.inl (List.mem_append.2 (.inl h)))
              · exact List.mem_append.2 (.inr h)) (fun run lv=>by
            rw [c1]
            simp only [opVal,c2,calleeP,evL_ev e,c3,evsL_ev e2]) k (fun v h' kk=>?_)
          rw [al_push]
          exact dX_out (pushX_out kk) hq
        · exact k.elim
      · split at x
        · obtain ⟨hh,v,h1,k⟩:=stepP_out T x
          exact plain hh (fun run=>h1 run 1 ρ h) k
        · split at x
          · rename_i hh _ _
            cases x with
            | mk k hc hv=>
              obtain ⟨_,v,h1,k⟩:=stepR_out T k.out
              exact one hh hc (vis_of hv) ⟨0,fun n lv _ _=>h1 _ lv ρ⟩ k
            | m2 k hl=>
              obtain ⟨_,v,h1,k⟩:=stepR_out T k.out
              exact two hh hl ⟨0,fun n _=>h1 _ 2 ρ⟩ k
          · rename_i hh _ _
            split at x
            · rename_i hop
              obtain ⟨sz,es,k,hb⟩:=litX_out T x
              split at k
              · have hb:∀ run lv,isVals es=true→opVal C run lv o.op (al L ρ) h=some (.snap true es,h):=fun run lv hv=>by
                  rw [hop];simp only [opVal,stepOp,hb];rw [if_pos hv]
                cases k with
                | m2 k hvs=>
                  cases k with
                  | mk k hc hv=>exact one hh hc (vis_of hv) ⟨0,fun n lv _ _=>hb _ lv hvs⟩ k.out
                  | m2 k hl=>exact two hh hl ⟨0,fun n _=>hb _ 2 hvs⟩ k.out
                | mk k _ hl=>
                  obtain ⟨v,h',h1,k⟩:=stepW_out T k.out
                  exact two hh hl ⟨0,fun n _=>h1 _ ρ⟩ k
              · exact k.elim
            · cases x with
              | mk k hl=>
                obtain ⟨v,h',h1,k⟩:=stepW_out T k.out
                exact two hh hl ⟨0,fun n _=>h1 _ ρ⟩ k
    · rename_i hg
      have hw:=gdX_out (ρ:=ρ) hg
      refine EvD.step (x1:=⟨⟨updO (al L ρ) o.dst .undef,h⟩,h.length,[]⟩) ⟨0,fun n _=>by simp only [opStepD,hw]⟩ (by rw [al_push];exact dX_out (pushX_out x) hq)
    · exact x.elim
inductive DrX (ops:Array Oper) (L:Al) (h:AHeap) (Q:Al→AHeap→Prop):Prop
  | mk (k:Rn (dX T ops 0 ops.toList L h Q)) (hk:calmS ops=false:=by rfl)
  | raw (k:∀ ρ,EvD C ops 0 ops.toList ⟨⟨al L ρ,h⟩,h.length,[]⟩ (fun s=>∃ L' h',s=⟨al L' ρ,h'⟩∧Q L' h')) (hk:calmS ops=false:=by rfl)
  | calm (L':Al) (h':AHeap) (e:∀ run ρ,calmD C run ops ⟨al L ρ,h⟩=some ⟨al L' ρ,h'⟩) (kk:Rn (Q L' h')) (hk:calmS ops=true:=by rfl)
inductive Kont (C:Cfg) where
  | top (Q:Ex→St→Prop)
  | fn (f:Func) (Q:PV→AHeap→Prop)
  | seq (b:Code) (k:Kont C)
  | block (id:Nat) (k:Kont C)
  | loop (I:Al→AHeap→Prop) (k:Kont C)
theorem kI {k:IntKind} {a b:Int} (h:a=b):some (PV.int k a)=some (PV.int k b):=by rw [h]
inductive Nx (I:Al→AHeap→Prop) (L:Al) (h:AHeap):Prop
  | nx {L':Al} (a:I L' h) (hk:hasL L L':=by repeat (first | exact trivial | refine ⟨?_,?_⟩ | rfl | exact kI (by first | (simp;done) | (simp;omega) | omega)))
def NxS (I:Al→AHeap→Prop) (s:St):Prop:=∃ L ρ,s.ρ=al L ρ∧I L s.h
theorem Nx.out {I:Al→AHeap→Prop} {L:Al} {h:AHeap} (x:Nx I L h) (ρ:Nat→PV):NxS I ⟨al L ρ,h⟩:=by
  cases x with | nx a hk=>exact ⟨_,al L ρ,congrArg St.ρ (St.keep (h:=h) hk),a⟩
def Kont.den:Kont C→Ex→St→Prop
  | .top Q=>Q
  | .fn f Q=>bodyQ C f Q
  | .seq b k=>thenQ C b k.den
  | .block id k=>blockQ id k.den
  | .loop I k=>loopQ (NxS I) k.den
inductive ResX (L:Al) (h:AHeap) (l:List ResultVar) (Q:PV→AHeap→Prop):Prop
  | mk {vs:List PV} (kk:Rn (Q (tupOf vs) h)) (hr:resC T L h l=some vs:=by rfl)
def resX (L:Al):List ResultVar→(List PV→Prop)→Option Prop
  | [],k=>some (k [])
  | .tmp t::r,k=>match lk L t with
    | some v=>resX L r fun l=>k (v::l)
    | none=>none
  | .cell _ _::_,_=>none
theorem resX_out {L:Al} {ρ:Nat→PV} {h:AHeap}:∀ {l:List ResultVar} {k:List PV→Prop} {p:Prop},resX L l k=some p→p→∃ vs,resultOf C.P h (al L ρ) l=some vs∧k vs
  | [],k,p,e,x=>⟨[],rfl,by rw [← Option.some.inj e] at x;exact x⟩
  | .tmp t::r,k,p,e,x=>by
    simp only [resX] at e
    split at e
    · rename_i v hv
      obtain ⟨vs,h1,h2⟩:=resX_out (ρ:=ρ) (h:=h) e x
      exact ⟨v::vs,by simp [resultOf,lk_al hv,h1],h2⟩
    · cases e
  | .cell _ _::_,k,p,e,x=>by simp [resX] at e
inductive LpX (c:Code) (L:Al) (ρ:Nat→PV) (h:AHeap) (k:Kont C):Prop
  | lpx (e:Ev C (.loop c) ⟨al L ρ,h⟩ k.den)
inductive Tk where
  | c (c:Code)
  | e (e:Ex)
def runX (n:Nat):Tk→Kont C→Al→(Nat→PV)→AHeap→Prop:=
  Nat.rec (motive:=fun _=>Tk→Kont C→Al→(Nat→PV)→AHeap→Prop) (fun _ _ _ _ _=>False)
    (fun n ih tk k L ρ h=>match tk with
      | .c c=>match c with
        | .skip=>ih (.e .normal) k L ρ h
        | .label _=>ih (.e .normal) k L ρ h
        | .region _ ops false=>opsX T ops.toList ops.toList L h fun L' h'=>ih (.e .normal) k L' ρ h'
        | .region _ ops true=>DrX T ops L h fun L' h'=>ih (.e .normal) k L' ρ h'
        | .seq a b=>ih (.c a) (.seq b k) L ρ h
        | .cond c a b=>opX L c fun v=>match v with
          | .bool true=>ih (.c a) k L ρ h
          | .bool false=>ih (.c b) k L ρ h
          | _=>False
        | .block id c=>ih (.c c) (.block id k) L ρ h
        | .loop c=>LpX c L ρ h k
        | .scope c=>ih (.c c) k L ρ h
        | .exit id=>ih (.e (.exit id)) k L ρ h
        | .ret=>ih (.e .ret) k L ρ h
        | _=>False
      | .e ex=>match k with
        | .top Q=>Q ex ⟨al L ρ,h⟩
        | .fn f Q=>match ex with
          | .exit _=>False
          | _=>match resX L f.results.toList fun vs=>Q (tupOf vs) h with
            | some p=>p
            | none=>ResX T L h f.results.toList Q
        | .seq b k=>match ex with
          | .normal=>ih (.c b) k L ρ h
          | ex=>ih (.e ex) k L ρ h
        | .block id k=>match ex with
          | .exit id'=>match Nat.beq id' id with
            | true=>ih (.e .normal) k L ρ h
            | false=>ih (.e (.exit id')) k L ρ h
          | ex=>ih (.e ex) k L ρ h
        | .loop I k=>match ex with
          | .normal=>Nx I L h
          | ex=>ih (.e ex) k L ρ h) n
theorem runX_c {n:Nat} {c:Code} {k:Kont C} {L:Al} {ρ:Nat→PV} {h:AHeap}:runX T (n+1) (.c c) k L ρ h=(match c with
    | .skip=>runX T n (.e .normal) k L ρ h
    | .label _=>runX T n (.e .normal) k L ρ h
    | .region _ ops false=>opsX T ops.toList ops.toList L h fun L' h'=>runX T n (.e .normal) k L' ρ h'
    | .region _ ops true=>DrX T ops L h fun L' h'=>runX T n (.e .normal) k L' ρ h'
    | .seq a b=>runX T n (.c a) (.seq b k) L ρ h
    | .cond c a b=>opX L c fun v=>match v with
      | .bool true=>runX T n (.c a) k L ρ h
      | .bool false=>runX T n (.c b) k L ρ h
      | _=>False
    | .block id c=>runX T n (.c c) (.block id k) L ρ h
    | .loop c=>LpX c L ρ h k
    | .scope c=>runX T n (.c c) k L ρ h
    | .exit id=>runX T n (.e (.exit id)) k L ρ h
    | .ret=>runX T n (.e .ret) k L ρ h
    | _=>False):=rfl
theorem runX_e {n:Nat} {ex:Ex} {k:Kont C} {L:Al} {ρ:Nat→PV} {h:AHeap}:runX T (n+1) (.e ex) k L ρ h=(match k with
    | .top Q=>Q ex ⟨al L ρ,h⟩
    | .fn f Q=>match ex with
      | .exit _=>False
      | _=>match resX L f.results.toList fun vs=>Q (tupOf vs) h with
        | some p=>p
        | none=>ResX T L h f.results.toList Q
    | .seq b k=>match ex with
      | .normal=>runX T n (.c b) k L ρ h
      | ex=>runX T n (.e ex) k L ρ h
    | .block id k=>match ex with
      | .exit id'=>match Nat.beq id' id with
        | true=>runX T n (.e .normal) k L ρ h
        | false=>runX T n (.e (.exit id')) k L ρ h
      | ex=>runX T n (.e ex) k L ρ h
    | .loop I k=>match ex with
      | .normal=>Nx I L h
      | ex=>runX T n (.e ex) k L ρ h):=rfl
theorem runX_out:∀ {n:Nat} {t:Tk} {k:Kont C} {L:Al} {ρ:Nat→PV} {h:AHeap},runX T n t k L ρ h→match t with | .c c=>Ev C c ⟨al L ρ,h⟩ k.den | .e ex=>k.den ex ⟨al L ρ,h⟩
  | 0,_,_,_,_,_,x=>x.elim
  | n+1,.c c,k,L,ρ,h,x=>by
    have nx:∀ {L':Al} {h':AHeap},runX T n (.e .normal) k L' ρ h'→k.den .normal ⟨al L' ρ,h'⟩:=fun y=>runX_out (n:=n) (t:=.e .normal) y
    show Ev C c ⟨al L ρ,h⟩ k.den
    rw [runX_c] at x
    split at x
    · exact Ev.skip (nx x)
    · exact Ev.label (nx x)
    · exact Ev.region (opsX_out T x fun _ _ y=>nx y)
    · cases x with
      | mk x hk=>exact Ev.regionD (dX_out T x.out fun _ _ y=>nx y) hk
      | raw x hk=>
        obtain ⟨y,⟨L',h',e,q⟩,n0,hn⟩:=x ρ
        exact Ev.regionD ⟨y,by rw [e];exact nx q,n0,hn⟩ hk
      | calm L' h' e kk hk=>exact ⟨.normal,⟨al L' ρ,h'⟩,nx kk.out,0,fun n m _ _=>by simp only [evalC,if_true,hk,e]⟩
    · exact Ev.seq (runX_out (n:=n) (t:=.c _) (k:=.seq _ k) x)
    · obtain ⟨v,e,k⟩:=opX_out x
      split at k
      · exact Ev.condT (evL_ev e ρ) (runX_out (n:=n) (t:=.c _) k)
      · exact Ev.condF (evL_ev e ρ) (runX_out (n:=n) (t:=.c _) k)
      · exact k.elim
    · exact Ev.block (runX_out (n:=n) (t:=.c _) (k:=.block _ k) x)
    · cases x with | lpx e=>exact e
    · exact Ev.scope (runX_out (n:=n) (t:=.c _) x)
    · exact Ev.exit (runX_out (n:=n) (t:=.e _) x)
    · exact Ev.ret (runX_out (n:=n) (t:=.e _) x)
    · exact x.elim
  | n+1,.e ex,k,L,ρ,h,x=>by
    show k.den ex ⟨al L ρ,h⟩
    rw [runX_e] at x
    split at x
    · exact x
    · have fin:∀ {ex:Ex} {f:Func} {Q:PV→AHeap→Prop},(ex=.normal∨ex=.ret)→(match resX L f.results.toList fun vs=>Q (tupOf vs) h with | some p=>p | none=>ResX T L h f.results.toList Q)→bodyQ C f Q ex ⟨al L ρ,h⟩:=fun {ex f Q} hex y=>by
        split at y
        · rename_i p hp
          obtain ⟨vs,h1,h2⟩:=resX_out (C:=C) (ρ:=ρ) (h:=h) hp y
          exact ⟨hex,vs,h1,h2⟩
        · cases y with | mk kk hr=>exact ⟨hex,_,resC_of T hr,kk.out⟩
      split at x
      · exact x.elim
      · rename_i hne
        refine fin ?_ x
        cases ex with
        | normal=>exact .inl rfl
        | ret=>exact .inr rfl
        | exit id=>exact absurd rfl (hne id)
    · split at x
      · exact thenQ.normal (runX_out (n:=n) (t:=.c _) x)
      · have:=runX_out (n:=n) (t:=.e _) x
        cases ex with
        | normal=>simp_all
        | ret=>exact thenQ.ret this
        | exit id=>exact thenQ.exit this
    · split at x
      · split at x
        · rename_i hb
          have:=Nat.eq_of_beq_eq_true hb
          subst this
          exact blockQ.hit (runX_out (n:=n) (t:=.e _) x)
        · rename_i hb
          exact blockQ.miss (by rw [beq_eq_false_iff_ne];rintro rfl;rw [Nat.beq_refl] at hb;cases hb) (runX_out (n:=n) (t:=.e _) x)
      · have:=runX_out (n:=n) (t:=.e _) x
        cases ex with
        | normal=>exact blockQ.normal this
        | ret=>exact blockQ.ret this
        | exit id=>simp_all
    · split at x
      · exact x.out ρ
      · have:=runX_out (n:=n) (t:=.e _) x
        cases ex with
        | normal=>simp_all
        | ret=>exact loopQ.ret this
        | exit id=>exact loopQ.exit this
theorem CallEv.p {lv:Nat} {f:FuncId} {args args':List PV} {r:PV} {h:AHeap} {Q:PV→AHeap→Prop} (a:Fun C f args' r) (q:Q r h) (hm:C.mode f=.pure:=by rfl) (hv:isVals args=true:=by simp) (hn:nrms args=args':=by simp):CallEv C lv f args h Q:=
  CallEv.pure hm hv (hn ▸ a) q
theorem DCa.p {ops:Array Oper} {i:Nat} {L:Al} {f:FuncId} {xs:List Operand} {us us':List PV} {h:AHeap} {K:PV→AHeap→Prop} {r:PV} (a:Fun C f us' r) (kk:Rn (K r h)) (hm:C.mode f=.pure:=by rfl) (hv:isVals us=true:=by simp) (hn:nrms us=us':=by simp)
    (hc:closedH h=true:=by first | exact HV.closed (by assumption) | exact HR.closed (by assumption) | assumption | rfl | ((refine HV.closed ?_;repeat' (first | assumption | apply HV.app | (refine HV.one ?_;simp <;> fail) | exact HV.nil)) <;> fail)):DCa C ops i L f xs us h K:=.mk r (hn ▸ a) kk hm hv hc
theorem FnEv.x {f:FuncId} {fn:Func} {c:Code} {args:List PV} {h:AHeap} {Q:PV→AHeap→Prop} (hf:C.P.funcs[f]?=some fn) (hb:fn.body=some c)
    (k:Rn (runX T 10000 (.c c) (.fn fn Q) (argL 0 args) (fun _=>.undef) h)):FnEv C f args h Q:=FnEv.bodyL hf hb (runX_out T k.out)
theorem Fun.x {f:FuncId} {fn:Func} {c:Code} {args:List PV} {r:PV} (hf:C.P.funcs[f]?=some fn) (hb:fn.body=some c)
    (k:Rn (runX T 10000 (.c c) (.fn fn fun r0 hc=>∃ r1,rb hc r0=some r1∧nrm r1=r) (argL 0 args) (fun _=>.undef) [])):Fun C f args r:=Fun.of (FnEv.x T hf hb k)
theorem rbAs_vals {h:AHeap}:∀ {l:List PV},isVals l=true→rbAs h l=some l:=by
  have one:∀ {c:PV},isVal c=true→rb1 h c=some c:=fun {c} hc=>by
    unfold rb1
    split
    · simp [isVal] at hc
    · rw [if_pos hc]
  have key:∀ cs:List PV,isVals cs=true→rb1s h cs=some cs:=by
    intro cs
    induction cs with
    | nil=>intro _;rfl
    | cons c cs ih=>
      intro hh
      simp only [isVals,Bool.and_eq_true] at hh
      simp only [rb1s,one hh.1,ih hh.2]
  intro l
  induction l with
  | nil=>intro _;rfl
  | cons c l ih=>
    intro hl
    simp only [isVals,Bool.and_eq_true] at hl
    have:rbA h c=some c:=by
      unfold rbA
      split
      · rw [key _ (by simpa [isVal] using hl.1)];rfl
      · exact one hl.1
    simp only [rbAs,ih hl.2,this]
theorem CallEv.po {f:FuncId} {sz:Nat} {v:PV} {h:AHeap} {es es' rest rest':List PV} {rv:PV} {Q:PV→AHeap→Prop} (o:Out sz h v es) (a:Fun C f (.snap false es'::rest') rv) (q:∀ h',(h'=h∨∃ id ep,v=.mref id ep 0 es.length∧h'=h.set id ⟨.f,ep,sz,es⟩)→Q rv h')
    (hm:C.mode f=.pure:=by rfl) (hv:isVals es=true:=by simp) (hr:isVals rest=true:=by simp) (hn:nrms es=es':=by simp) (hn':nrms rest=rest':=by simp):CallEv C 2 f (v::rest) h Q:=by
  subst hn hn'
  rcases o with ⟨rfl,rfl⟩ | ⟨id,ep,rfl,e2⟩
  · exact CallEv.pure hm (by simp [isVals,isVal,hr]) (by simpa [nrms,nrm] using a) (q h (.inl rfl))
  · obtain ⟨n0,hn⟩:=a
    by_cases hs:scal rv=true
    · refine ⟨rv,h,q h (.inl rfl),n0,fun n h1=>?_⟩
      obtain ⟨r0,hc,r1,e1,e3,e4⟩:=hn n h1
      have hsc:scal r1=true:=by have:=scal_nrm' r1;rw [e4] at this;rw [← this];exact hs
      have hb:rbAs h (.mref id ep 0 es.length::rest)=some (.snap false es::rest):=by
        simp [rbAs,rbA,rb1,getM,e2,hv,rbAs_vals hr]
      unfold callF
      rw [hm]
      have hvv:isVals (.mref id ep 0 es.length::rest)=false:=rfl
      have hnr:nrms (PV.snap false es::rest)=.snap false (nrms es)::nrms rest:=rfl
      simp only [callPure,hvv,Bool.false_eq_true,if_false,hb,hnr,e1,e3,hsc,Bool.true_or,if_true,e4]
    · have hs:scal rv=false:=by simpa using hs
      refine ⟨rv,h.set id ⟨.f,ep,sz,es⟩,q _ (.inr ⟨id,ep,rfl,rfl⟩),n0,fun n h1=>?_⟩
      obtain ⟨r0,hc,r1,e1,e3,e4⟩:=hn n h1
      have hsc:scal r1=false:=by have:=scal_nrm' r1;rw [e4] at this;rw [← this];exact hs
      have hb:rbAs h (.mref id ep 0 es.length::rest)=some (.snap false es::rest):=by
        simp [rbAs,rbA,rb1,getM,e2,hv,rbAs_vals hr]
      have hnr:nrms (PV.snap false es::rest)=.snap false (nrms es)::nrms rest:=rfl
      have i0:∀ l:List PV,isVals l=true→idsOf l=[]:=by
        have i1:∀ c:PV,isVal c=true→ids1 c=[]:=fun c hc=>by cases c <;> first | rfl | simp [isVal] at hc
        intro l
        induction l with
        | nil=>intro _;rfl
        | cons c l ih=>
          intro hh
          simp only [isVals,Bool.and_eq_true] at hh
          have:(cells c).flatMap ids1=[]:=by
            rw [List.flatMap_eq_nil_iff]
            intro x hx
            cases c with
            | agg cs=>
              refine i1 x ?_
              have h2:isVals cs=true:=by simpa [isVal] using hh.1
              rw [isVals_eq,List.all_eq_true] at h2
              exact h2 x hx
            | _=>simp [cells] at hx;subst hx;exact i1 _ hh.1
          simp only [idsOf,List.flatMap_cons] at ih ⊢
          rw [this,ih hh.2];rfl
      have hids:idsOf (PV.mref id ep 0 es.length::rest)=[id]:=by
        have:=i0 rest hr
        simp only [idsOf,List.flatMap_cons] at this ⊢
        rw [this];rfl
      have hfz:frozenAll h [id]=false:=by simp [frozenAll,e2]
      have hfr:freezes h [id]=some (h.set id ⟨.f,ep,sz,es⟩):=by simp [freezes,freeze1,e2,hv]
      unfold callF
      rw [hm]
      have hvv:isVals (.mref id ep 0 es.length::rest)=false:=rfl
      simp only [callPure,hvv,Bool.false_eq_true,if_false,hb,hnr,e1,e3,hids,hsc,hfz,Bool.or_self,Nat.le_refl,if_true,hfr,Option.map_some,e4]
def Exd (H h':AHeap):Prop:=∃ J,HV J∧h'=H++J
theorem Fun.ex {C:Cfg} {f:FuncId} {args:List PV} {Q:PV→Prop} {F:PV→PV} (a:FnEv C f args [] (fun r0 hc=>∃ x,Q x∧∃ r1,rb hc r0=some r1∧nrm r1=F x)):∃ x,Q x∧Fun C f args (F x):=by
  obtain ⟨r,h,⟨x,q,r1,e1,e2⟩,e⟩:=a
  exact ⟨x,q,Fun.of ⟨r,h,⟨r1,e1,e2⟩,e⟩⟩
theorem Exd.refl (H:AHeap):Exd H H:=⟨[],HV.nil,by simp⟩
theorem Exd.trans {a b c:AHeap} (x:Exd a b) (y:Exd b c):Exd a c:=by
  obtain ⟨J,hJ,rfl⟩:=x
  obtain ⟨K,hK,rfl⟩:=y
  exact ⟨J++K,hJ.app hK,by rw [List.append_assoc]⟩
theorem Exd.app {H h:AHeap} (x:Exd H h) {J:AHeap} (hJ:HV J):Exd H (h++J):=x.trans ⟨J,hJ,rfl⟩
theorem Exd.at {H h:AHeap} (x:Exd H h) {i:Nat} {o:AObj} (e:H[i]?=some o):h[i]?=some o:=by
  obtain ⟨J,_,rfl⟩:=x
  rw [List.getElem?_append_left (lt_of_some e)];exact e
theorem Exd.hv {H h:AHeap} (x:Exd H h) (hH:HV H):HV h:=by
  obtain ⟨J,hJ,rfl⟩:=x
  exact hH.app hJ
theorem CallEv.ex {f:FuncId} {args:List PV} {H:AHeap} {v:PV} {Q:PV→AHeap→Prop} (a:FnEv C f args H (fun r h'=>r=v∧Exd H h')) (q:∀ h',Exd H h'→Q v h') (hm:C.mode f=.opened:=by rfl):CallEv C 2 f args H Q:=by
  refine CallEv.opened hm (a.mono fun r k hr=>?_)
  obtain ⟨rfl,J,hJ,rfl⟩:=hr
  split
  · rw [List.take_left]
    exact q _ (Exd.refl _)
  · exact q _ ⟨J,hJ,rfl⟩
def Fz (sz:Nat) (h:AHeap) (v:PV) (es:List PV) (h':AHeap):Prop:=h'=h∨∃ id ep,v=.mref id ep 0 es.length∧h'=h.set id ⟨.f,ep,sz,es⟩
theorem Fz.hv {sz:Nat} {h h':AHeap} {v:PV} {es:List PV} (z:Fz sz h v es h') (H:HV h) (hv:isVals es=true):HV h':=by
  rcases z with rfl | ⟨id,ep,_,rfl⟩
  · exact H
  · exact H.set id (by simp) hv
theorem CallEv.pl {f:FuncId} {sz:Nat} {v:PV} {h:AHeap} {es es' rest rest':List PV} {rv:PV} {Q:PV→AHeap→Prop} (o:Ls sz h v es) (a:Fun C f (.snap false es'::rest') rv) (q:∀ h',Fz sz h v es h'→Q rv h')
    (hm:C.mode f=.pure:=by rfl) (hv:isVals es=true:=by simp) (hr:isVals rest=true:=by simp) (hn:nrms es=es':=by simp) (hn':nrms rest=rest':=by simp):CallEv C 2 f (v::rest) h Q:=by
  rcases o with o | ⟨fl,rfl⟩
  · exact CallEv.po o a q hm hv hr hn hn'
  · subst hn hn'
    exact CallEv.pure hm (by simp [isVals,isVal,hv,hr]) (by simpa [nrms,nrm] using a) (q h (.inl rfl))
theorem CallEv.plS {f:FuncId} {sz:Nat} {v:PV} {h:AHeap} {es es' rest rest':List PV} {rv:PV} {Q:PV→AHeap→Prop} (o:Ls sz h v es) (a:Fun C f (.snap false es'::rest') rv) (q:Q rv h) (hs:scal rv=true:=by rfl)
    (hm:C.mode f=.pure:=by rfl) (hv:isVals es=true:=by simp) (hr:isVals rest=true:=by simp) (hn:nrms es=es':=by simp) (hn':nrms rest=rest':=by simp):CallEv C 2 f (v::rest) h Q:=by
  subst hn hn'
  rcases o with o | ⟨fl,rfl⟩
  · exact CallEv.out hm o hv hr a hs q
  · exact CallEv.pure hm (by simp [isVals,isVal,hv,hr]) (by simpa [nrms,nrm] using a) q
theorem Ls.rbA {sz:Nat} {h:AHeap} {v:PV} {es:List PV} (o:Ls sz h v es) (hv:isVals es=true):∃ r1,Pm.rbA h v=some r1∧nrm r1=.snap false (nrms es):=by
  rcases o with o | ⟨f,rfl⟩
  · exact o.rbA hv
  · exact ⟨.snap f es,by simp [Pm.rbA,rb1,isVal,hv],rfl⟩
theorem Ls.ret2 {sz:Nat} {h:AHeap} {v:PV} {es es':List PV} {k:IntKind} {n:Int} (o:Ls sz h v es) (hv:isVals es=true:=by simp) (hn:nrms es=es':=by simp):∃ r1,rb h (tupOf [v,.int k n])=some r1∧nrm r1=.tup [.snap false es',.int k n]:=by
  obtain ⟨r1,h1,h2⟩:=o.rbA hv
  refine ⟨.tup [r1,.int k n],by simp only [tupOf,rb,rbAs,h1];rfl,?_⟩
  simp only [nrm,nrms,h2,hn]
theorem Ls.ret1 {sz:Nat} {h:AHeap} {v:PV} {es es':List PV} (o:Ls sz h v es) (hv:isVals es=true:=by simp) (hn:nrms es=es':=by simp):∃ r1,rb h (tupOf [v])=some r1∧nrm r1=.snap false es':=by
  obtain ⟨r1,h1,h2⟩:=o.rbA hv
  rw [hn] at h2
  rcases o with (⟨rfl,rfl⟩ | ⟨id,ep,rfl,e⟩) | ⟨f,rfl⟩ <;> exact ⟨r1,h1,h2⟩
theorem LpX.nat {c:Code} {L:Al} {ρ:Nat→PV} {h:AHeap} {k:Kont C} (I:Nat→Al→AHeap→Prop) (n:Nat) (h0:Nx (I n) L h)
    (step:∀ n L h ρ,I n L h→Rn (runX T 10000 (.c c) (.loop (fun L h=>∃ j,j<n∧I j L h) k) L ρ h)):LpX c L ρ h k:=by
  refine ⟨Ev.loop (fun n=>NxS (I n)) n (h0.out ρ) ?_⟩
  rintro n ⟨ρs,hs⟩ ⟨L,ρ,e,hI⟩
  have e:ρs=al L ρ:=e
  subst e
  obtain ⟨ex,s',q,hn⟩:=runX_out T (step n L hs ρ hI).out
  refine ⟨ex,s',?_,hn⟩
  cases ex with
  | normal=>
    obtain ⟨L',ρ',h1,j,h2,h3⟩:=q
    exact ⟨j,h2,L',ρ',h1,h3⟩
  | ret=>exact q
  | exit id=>exact q
theorem LpX.zip {α:Type} {c:Code} {L:Al} {ρ:Nat→PV} {h:AHeap} {k:Kont C} (l:List α) (I:List α→List α→Al→AHeap→Prop) (h0:Nx (I [] l) L h)
    (step:∀ p a q L h ρ,l=p++a::q→I p (a::q) L h→Rn (runX T 10000 (.c c) (.loop (I (p++[a]) q) k) L ρ h))
    (last:∀ L h ρ,I l [] L h→Rn (runX T 10000 (.c c) (.loop (fun _ _=>False) k) L ρ h)):LpX c L ρ h k:=by
  refine ⟨Ev.loop (fun n s=>∃ p q,l=p++q∧q.length=n∧NxS (I p q) s) l.length ⟨[],l,rfl,rfl,h0.out ρ⟩ ?_⟩
  rintro n ⟨ρs,hs⟩ ⟨p,q,e,hn,L,ρ,e2,hI⟩
  have e2:ρs=al L ρ:=e2
  subst e2
  cases q with
  | nil=>
    rw [List.append_nil] at e
    subst e
    obtain ⟨ex,s',q,hn⟩:=runX_out T (last L hs ρ hI).out
    refine ⟨ex,s',?_,hn⟩
    cases ex with
    | normal=>obtain ⟨_,_,_,hf⟩:=q;exact hf.elim
    | ret=>exact q
    | exit id=>exact q
  | cons a q=>
    obtain ⟨ex,s',qq,hn'⟩:=runX_out T (step p a q L hs ρ e hI).out
    refine ⟨ex,s',?_,hn'⟩
    cases ex with
    | normal=>exact ⟨q.length,by simp at hn;omega,p++[a],q,by simp [e],rfl,qq⟩
    | ret=>exact qq
    | exit id=>exact qq
end
end Go.Pm
end
section
set_option maxRecDepth 4000
set_option maxHeartbeats 4000000
namespace Go.Pm
open Go.Proofs
attribute [local irreducible] thenQ blockQ loopQ bodyQ Ev EvOps CallEv FnEv EvD
theorem encs_snoc (l:List Tm) (t:Tm):encs l++[enc t]=encs (l++[t]):=by rw [encs_eq,encs_eq];simp
end Go.Pm
end
section
set_option maxRecDepth 4000
set_option maxHeartbeats 8000000
namespace Go.Pm
open Go.Proofs
attribute [local irreducible] thenQ blockQ loopQ bodyQ Ev EvOps CallEv FnEv EvD
end Go.Pm
end
