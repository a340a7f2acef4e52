/-
  A part of the library Pm and its contracts (joined by program): PmRead2 PmLink0 PmInv PmMulM PmMulW PmRMul PmChrR PmChrR2 PmChrP PmChrQ PmCk0 PmCk1 PmCk2 PmCk3 PmCk4 PmTh PmDm PmReadD PmLinkD0 PmGrow PmDel PmInsP PmIO PmIX PmIS PmIG PmIZ. Conditions: none.
-/
import Derived.Test.YtimogkojklpdnaaGreatDoorPzAG
import Derived.WalkKit
import Derived.ProofKit
import Derived.OpenShut
import Derived.JoinedCond
import Derived.WideKeyArgs
import Derived.Test.YtimogkojklpdnaaGreatDoorPzAE
import Derived.Test.YtimogkojklpdnaaGreatDoorPzAB
import Derived.Shelf.SlSortCmp.WholeK
import Derived.Lib.Overlaps
set_option linter.unusedVariables false
set_option linter.unusedSimpArgs false
section
set_option maxRecDepth 100000
set_option maxHeartbeats 2000000
namespace Go.Pm
open Go.Proofs
open Go.Proofs.YtimogkojklpdnaaGreatDoor in
theorem sum_upto {H E:Type} (B:E→Nat):∀ (l:List E) (ds:List (DataW H)),l.length=ds.length→(∀ (i:Nat) (t:E) (d:DataW H),l[i]?=some t→ds[i]?=some d→B t≤Rows.uptoBulk d)→(l.map B).sum≤Rows.uptoBulkAll ds
 | [],_,_,_=>by simp
 | t::l,[],h,_=>by simp at h
 | t::l,d::ds,h,hb=>by
  have h1:=hb 0 t d rfl rfl
  have h2:=sum_upto B l ds (by simpa using h) (fun i t' d' e1 e2=>hb (i+1) t' d' (by simpa using e1) (by simpa using e2))
  simp only [List.map_cons,List.sum_cons,Rows.uptoBulkAll];omega
open Go.Proofs.YtimogkojklpdnaaGreatDoor in
theorem read_slice {H:Type} {ec:TypeId × Value→H} {w:World} {sp:Nat→Bool} {held:Bool} {ty el:TypeId} {sz:Nat} {E:Type} [Inhabited E] (encE:E→PV) (B:E→Nat) (hk:C.P.underlying ty=some (.slice el)) (hc:C.P.cellsOf el=sz) (hpos:0<sz) (hl:∀ e,(Pm.cells (encE e)).length=sz)
  (elem:∀ (n:Nat) (cs:List Value) (x:DataW H × List MemPlace),DataW.trod ec C.P w 0 sp held n el cs=some x→∃ e:E,cs.length=sz∧(∀ j,j<sz→SRel w NoB (cs.getD j undef) ((Pm.cells (encE e)).getD j .any))∧B e≤Rows.uptoBulk x.1)
  {n:Nat} {cs:List Value} {x:DataW H × List MemPlace} (h:DataW.trod ec C.P w 0 sp held n ty cs=some x):∃ (c:Value) (l:List E),cs=[c]∧SRel w NoB c (.snap false (l.map encE))∧(l.map B).sum+1≤Rows.uptoBulk x.1:=by
 rcases DataW.trod_slice hk h with ⟨e3,rfl⟩ | ⟨a,len,cap,elems,rest,n2,hn2,e3,rfl,hb,hle,hcap,hlen2,hel,_,_⟩
 ·exact ⟨_,[],e3,.snapE none 0 false (fun h=>by cases h),by simp [Rows.uptoBulk]⟩
 ·subst hc
  have each:∀ i,i<len→∃ q:List Value × E,w.cells? 0 (a.add (i * C.P.cellsOf el)) (C.P.cellsOf el)=some q.1∧(q.1.length=C.P.cellsOf el∧∀ j,j<C.P.cellsOf el→SRel w NoB (q.1.getD j undef) ((Pm.cells (encE q.2)).getD j .any))∧∀ y,elems[i]?=some y→B q.2≤Rows.uptoBulk y.1:=by
   intro i hi
   have h1:=hel i hi
   obtain ⟨y,hy⟩:∃ y,elems[i]?=some y:=⟨elems[i],List.getElem?_eq_getElem (by omega)⟩
   rw [hy] at h1
   cases hc:w.cells? 0 (a.add (i * C.P.cellsOf el)) (C.P.cellsOf el) with
   | none=>rw [hc] at h1;cases h1
   | some cs'=>
    rw [hc] at h1
    obtain ⟨t,t1,t2,t3⟩:=elem n2 cs' y h1
    exact ⟨(cs',t),rfl,⟨t1,t2⟩,fun y' hy'=>by rw [hy] at hy';obtain rfl:=Option.some.inj hy';exact t3⟩
  obtain ⟨q,hq⟩:=Deep.choose_lt each
  have hl1:((List.range len).map fun i=>(q i).2).length=len:=by simp
  have hget:∀ i,i<len→((List.range len).map fun i=>(q i).2)[i]?=some (q i).2:=fun i hi=>by rw [List.getElem?_map,List.getElem?_range hi];rfl
  refine ⟨_,(List.range len).map fun i=>(q i).2,e3,?_,?_⟩
  ·by_cases h0:len=0
   ·subst h0
    exact .snapE (some a) cap false (fun h=>by cases h)
   ·have h00:=(hq 0 (by omega)).1
    obtain ⟨_,hcl,hcc⟩:=World.cells?_some h00
    have hc0:=hcc 0 hpos
    rw [Nat.zero_mul,add0,add0] at hc0
    obtain ⟨v0,hv0⟩:∃ v,(q 0).1[0]?=some v:=⟨(q 0).1[0],List.getElem?_eq_getElem (by omega)⟩
    rw [hv0] at hc0
    obtain ⟨b,off,rfl⟩:=plain_addr hc0
    have hes:(((List.range len).map fun i=>(q i).2).map encE).length=len:=by simp
    have hgd:∀ i,i<len→(((List.range len).map fun i=>(q i).2).map encE).getD i .any=encE (q i).2:=fun i hi=>by
     rw [List.getD,List.getElem?_map,hget i hi];rfl
    have key:SRel w NoB (.slice (some ⟨b,off,none⟩) (((List.range len).map fun i=>(q i).2).map encE).length cap) (.snap false (((List.range len).map fun i=>(q i).2).map encE)):=by
     refine .snap b off cap (C.P.cellsOf el) false _ (fun i j=>(q i).1.getD j undef) (fun h=>?_) (by omega) (fun h=>by cases h) (fun h=>h) hpos (fun i hi=>?_) (fun i j hi hj=>?_) (fun i j hi hj=>?_)
     ·rw [h] at hes;simp at hes;omega
     ·rw [hgd i (by omega)];exact hl _
     ·obtain ⟨_,hcl,hcc⟩:=World.cells?_some (hq i (by omega)).1
      have:=hcc j hj
      rw [addr_add,addr_add] at this
      rw [show off+(i * C.P.cellsOf el+j)=off+i * C.P.cellsOf el+j by omega,this,List.getElem?_eq_getElem (by omega)]
      simp [List.getD,List.getElem?_eq_getElem (show j<(q i).1.length by omega)]
     ·rw [hgd i (by omega)];exact (hq i (by omega)).2.1.2 j hj
    rw [hes] at key
    exact key
  ·have:=sum_upto B ((List.range len).map fun i=>(q i).2) (elems.map (·.1)) (by simp [hlen2]) (fun i t d e1 e2=>by
    have hi:i<len:=by have:=lt_of_some e1;rwa [hl1] at this
    rw [hget i hi] at e1
    obtain rfl:=Option.some.inj e1
    rw [List.getElem?_map] at e2
    cases hy:elems[i]? with
    | none=>rw [hy] at e2;cases e2
    | some y=>
     rw [hy] at e2
     obtain rfl:=Option.some.inj e2
     exact (hq i hi).2.2 y hy)
   simp only [Rows.uptoBulk]
   omega
instance:Inhabited Pw:=⟨(zeroT,0)⟩
end Go.Pm
end
section
set_option maxRecDepth 100000
set_option maxHeartbeats 2000000
namespace Go.Pm
open Go.Proofs
theorem Grew.kept {W W':World} (g:Grew W W') (may:MemPlace→Prop):W.keptBut W' may:=by
 refine ⟨g.os,g.output,fun i hi=>?_⟩
 rw [g.keep i hi]
 cases W.heap[i]? with
 | none=>rfl
 | some o=>cases o <;> simp
open Go.ChangeShapes Go.WideShapes
end Go.Pm
end
section
set_option maxRecDepth 4000
set_option maxHeartbeats 8000000
namespace Go.Pm
open Go.Proofs
attribute [local irreducible] thenQ blockQ loopQ bodyQ Ev EvOps CallEv FnEv EvD
end Go.Pm
end
section
namespace Go.Pm
end Go.Pm
end
section
set_option maxRecDepth 4000
namespace Go.Pm
open Go.Proofs
def idxI {α:Type} (p:α→Bool) (l:List α):Int:=match l.findIdx? p with | some i=>i | none=>-1
theorem idxI_at {α:Type} {p:α→Bool} {a q:List α} {x:α} (h:∀ y∈a,p y=false) (hx:p x=true):idxI p (a++x::q)=a.length:=by
 unfold idxI
 rw [List.findIdx?_append,List.findIdx?_eq_none_iff.2 h]
 simp [List.findIdx?_cons,hx]
theorem idxI_none {α:Type} {p:α→Bool} {a:List α} (h:∀ y∈a,p y=false):idxI p a=-1:=by
 unfold idxI
 rw [List.findIdx?_eq_none_iff.2 h]
theorem idxI_any {α:Type} (p:α→Bool) (l:List α):decide (0≤idxI p l)=l.any p:=by
 unfold idxI
 cases h:l.findIdx? p with
 | none=>
  rw [List.findIdx?_eq_none_iff] at h
  have:l.any p=false:=by rw [List.any_eq_false];intro x hx;simp [h x hx]
  rw [this];rfl
 | some i=>
  obtain ⟨h1,h2,_⟩:=List.findIdx?_eq_some_iff_getElem.1 h
  have:l.any p=true:=List.any_eq_true.2 ⟨_,List.getElem_mem h1,h2⟩
  rw [this];simp
attribute [local irreducible] thenQ blockQ loopQ bodyQ Ev EvOps CallEv FnEv EvD
end Go.Pm
end
section
set_option maxRecDepth 4000
namespace Go.Pm
open Go.Proofs
@[simp] theorem esOk_encPs (l:List Pw):esOk (4+1) (encPs l):=by
 unfold esOk encPs
 rw [List.all_map,List.all_eq_true]
 rintro ⟨t,n⟩ _
 simp only [Function.comp,encP_x]
 rfl
attribute [local irreducible] thenQ blockQ loopQ bodyQ Ev EvOps CallEv FnEv EvD
end Go.Pm
end
section
set_option maxRecDepth 4000
namespace Go.Pm
open Go.Proofs
attribute [local irreducible] thenQ blockQ loopQ bodyQ Ev EvOps CallEv FnEv EvD
end Go.Pm
end
section
set_option maxRecDepth 4000
namespace Go.Pm
open Go.Proofs
@[simp] theorem encPPs_lenS (l:List (List Pw)):(encPPs l).length=l.length:=by simp [encPPs]
@[simp] theorem encPPs_vals (l:List (List Pw)):isVals (encPPs l)=true:=by induction l with | nil=>rfl | cons x l ih=>simpa [encPPs] using ih
@[simp] theorem encPPs_nrms (l:List (List Pw)):nrms (encPPs l)=encPPs l:=by induction l with | nil=>rfl | cons x l ih=>simpa [encPPs] using ih
attribute [local irreducible] thenQ blockQ loopQ bodyQ Ev EvOps CallEv FnEv EvD
end Go.Pm
end
section
set_option maxRecDepth 4000
namespace Go.Pm
open Go.Proofs
attribute [local irreducible] thenQ blockQ loopQ bodyQ Ev EvOps CallEv FnEv EvD
end Go.Pm
end
section
set_option maxRecDepth 4000
namespace Go.Pm
open Go.Proofs
attribute [local irreducible] thenQ blockQ loopQ bodyQ Ev EvOps CallEv FnEv EvD
end Go.Pm
end
section
set_option maxRecDepth 4000
namespace Go.Pm
open Go.Proofs
def encIs (l:List Int):List PV:=l.map fun x=>.int .i64 x
@[simp] theorem encIs_len (l:List Int):(encIs l).length=l.length:=by simp [encIs]
@[simp] theorem encIs_vals (l:List Int):isVals (encIs l)=true:=by induction l with | nil=>rfl | cons x l ih=>simpa [encIs] using ih
@[simp] theorem encIs_nrms (l:List Int):nrms (encIs l)=encIs l:=by induction l with | nil=>rfl | cons x l ih=>simpa [encIs] using ih
attribute [local irreducible] thenQ blockQ loopQ bodyQ Ev EvOps CallEv FnEv EvD
end Go.Pm
end
section
set_option maxRecDepth 4000
namespace Go.Pm
open Go.Proofs
def addT (t:Tm):List Tm→List Tm
 | []=>[t]
 | x::r=>if cmpT t x≤0 then (if cmpT t x<0 then t::x::r else x::r) else x::addT t r
attribute [local irreducible] thenQ blockQ loopQ bodyQ Ev EvOps CallEv FnEv EvD
theorem addT_fun (t:Tm) (l:List Tm) (ht:bulk t<1000000000) (hb:∀ x∈l,bulk x<1000000000) (hl:l.length<1000000):Fun C 127 [.snap false (encs l),enc t] (.snap false (encs (addT t l))):=by
 have hel:(encs l).length=l.length:=by simp
 rw [enc_x]
 refine Fun.x T6 Tryz.func127 rfl ?_
 (repeat' (first | (refine Rn.go ?_;conv=>whnf) | refine .mk ?_ | refine .tt ?_ | refine .ff ?_ | refine .m2 ?_ | refine .m3 ?_ | refine .mk (fun hc=>?_) fun hc=>?_ | refine .lp fun v H lp=>?_ | fail))
 refine LpX.zip T6 l (fun p q L H=>∃ v acc d,L=[(0,.snap false (encs l)),(3,.ptr 0 0 0 0),(5,v),(6,.bool d),(7,.int .i64 p.length)]∧HV H∧H[0]?=some ⟨.m,0,4,[.agg [.int .i64 t.k,.str t.s,.int .i64 t.o,.snap false (encs t.l)]]⟩∧Out 4 H v (encs acc)∧(∀ ep n,v≠.mref 0 ep 0 n)∧(acc.length≤p.length+if d then 1 else 0)∧acc++(if d then q else addT t q)=addT t l) (.nx ⟨_,[],false,rfl,HV.one rfl,rfl,.inl ⟨rfl,rfl⟩,(fun _ _ h=>by cases h),by simp,by simp⟩) ?_ ?_
 ·rintro p x q _ h ρ e ⟨v,acc,d,rfl,hH,h0,ho,hv0,hal,hg⟩
  have hat:=at_encs e
  have hl2:=congrArg List.length e
  simp only [List.length_append,List.length_cons] at hl2
  have hcm:=rcmp_fun t x ht (hb x (by rw [e];simp))
  rw [enc_x,enc_x] at hcm
  have hla:(encs acc).length=acc.length:=by simp
  have hal2:acc.length≤p.length+1:=by cases d <;> simp at hal <;> omega
  (repeat' (first | (refine Rn.go ?_;conv=>whnf) | refine .mk ?_ | refine .tt ?_ | refine .ff ?_ | refine .m2 ?_ | refine .m3 ?_ | refine .mk (fun hc=>?_) fun hc=>?_ | refine .lp fun v H lp=>?_ | fail))
  refine .p hcm ?_
  have sn:∀ (a:List Tm) (y:Tm),encs a++[.agg [.int .i64 y.k,.str y.s,.int .i64 y.o,.snap false (encs y.l)]]=encs (a++[y]):=fun a y=>by rw [← encs_snoc,enc_x]
  cases d
  ·rw [if_neg (by decide)] at hg
   (repeat' (first | (refine Rn.go ?_;conv=>whnf) | refine .mk ?_ | refine .tt ?_ | refine .ff ?_ | refine .m2 ?_ | refine .m3 ?_ | refine .mk (fun hc=>?_) fun hc=>?_ | refine .lp fun v H lp=>?_ | fail))
   ·obtain ⟨h0',hv0'⟩:=lp.obj h0 hv0
    have hH':=lp.hv
    have lo:=lp.out
    rw [sn] at lo
    have hla2:(encs (acc++[t])).length=acc.length+1:=by simp
    clear lp
    (repeat' (first | (refine Rn.go ?_;conv=>whnf) | refine .mk ?_ | refine .tt ?_ | refine .ff ?_ | refine .m2 ?_ | refine .m3 ?_ | refine .mk (fun hc=>?_) fun hc=>?_ | refine .lp fun v H lp=>?_ | fail))
    have lo2:=lp.out
    rw [sn] at lo2
    exact .nx ⟨_,acc++[t]++[x],true,rfl,lp.hv,(lp.obj h0' hv0').1,lo2,(lp.obj h0' hv0').2,by simp at hal ⊢;omega,by rw [← hg,show addT t (x::q)=t::x::q by rw [addT,if_pos (by assumption),if_pos hc]];simp⟩
   ·have lo2:=lp.out
    rw [sn] at lo2
    exact .nx ⟨_,acc++[x],true,rfl,lp.hv,(lp.obj h0 hv0).1,lo2,(lp.obj h0 hv0).2,by simp at hal ⊢;omega,by rw [← hg,show addT t (x::q)=x::q by rw [addT,if_pos (by assumption),if_neg hc]];simp⟩
   ·have lo2:=lp.out
    rw [sn] at lo2
    exact .nx ⟨_,acc++[x],false,rfl,lp.hv,(lp.obj h0 hv0).1,lo2,(lp.obj h0 hv0).2,by simp at hal ⊢;omega,by rw [← hg,show addT t (x::q)=x::addT t q by rw [addT,if_neg hc]];simp⟩
  ·(repeat' (first | (refine Rn.go ?_;conv=>whnf) | refine .mk ?_ | refine .tt ?_ | refine .ff ?_ | refine .m2 ?_ | refine .m3 ?_ | refine .mk (fun hc=>?_) fun hc=>?_ | refine .lp fun v H lp=>?_ | fail))
   have lo2:=lp.out
   rw [sn] at lo2
   exact .nx ⟨_,acc++[x],true,rfl,lp.hv,(lp.obj h0 hv0).1,lo2,(lp.obj h0 hv0).2,by simp at hal ⊢;omega,by rw [← hg];simp⟩
 ·rintro _ h ρ ⟨v,acc,d,rfl,hH,h0,ho,hv0,hal,hg⟩
  have hla:(encs acc).length=acc.length:=by simp
  have hal2:acc.length≤l.length+1:=by cases d <;> simp at hal <;> omega
  have sn:∀ (a:List Tm) (y:Tm),encs a++[.agg [.int .i64 y.k,.str y.s,.int .i64 y.o,.snap false (encs y.l)]]=encs (a++[y]):=fun a y=>by rw [← encs_snoc,enc_x]
  have fin:∀ {h:AHeap} {v:PV} {a:List Tm},Out 4 h v (encs a)→a=addT t l→∃ r1,rb h (tupOf [v])=some r1∧nrm r1=.snap false (encs (addT t l)):=fun {h v a} ho ha=>by
   obtain ⟨r1,e1,e2⟩:=ho.rbA (isVals_encs _)
   exact ⟨r1,by rcases ho with ⟨rfl,_⟩ | ⟨id,ep,rfl,_⟩ <;> exact e1,by rw [e2,nrms_encs,ha]⟩
  cases d
  ·(repeat' (first | (refine Rn.go ?_;conv=>whnf) | refine .mk ?_ | refine .tt ?_ | refine .ff ?_ | refine .m2 ?_ | refine .m3 ?_ | refine .mk (fun hc=>?_) fun hc=>?_ | refine .lp fun v H lp=>?_ | fail))
   have lo2:=lp.out
   rw [sn] at lo2
   exact fin lo2 (by rw [← hg];simp [addT])
  ·(repeat' (first | (refine Rn.go ?_;conv=>whnf) | refine .mk ?_ | refine .tt ?_ | refine .ff ?_ | refine .m2 ?_ | refine .m3 ?_ | refine .mk (fun hc=>?_) fun hc=>?_ | refine .lp fun v H lp=>?_ | fail))
   exact fin ho (by rw [← hg];simp)
end Go.Pm
end
section
set_option maxRecDepth 4000
namespace Go.Pm
open Go.Proofs
theorem addT_len (t:Tm):∀ l:List Tm,(addT t l).length≤l.length+1
 | []=>by simp [addT]
 | x::r=>by
  have:=addT_len t r
  unfold addT
  split
  ·split <;> simp
  ·simp only [List.length_cons];omega
theorem addT_mem {t:Tm} {y:Tm}:∀ {l:List Tm},y∈addT t l→y=t∨y∈l
 | [],h=>by simp [addT] at h;exact .inl h
 | x::r,h=>by
  unfold addT at h
  split at h
  ·split at h
   ·rcases List.mem_cons.1 h with h | h
    ·exact .inl h
    ·exact .inr h
   ·exact .inr h
  ·rcases List.mem_cons.1 h with h | h
   ·exact .inr (by simp [h])
   ·rcases addT_mem h with h | h
    ·exact .inl h
    ·exact .inr (by simp [h])
def accs (ts:List Tm) (a:List Tm):List Tm:=ts.foldl (fun a t=>addT t a) a
theorem accs_len:∀ (ts a:List Tm),(accs ts a).length≤a.length+ts.length
 | [],a=>by simp [accs]
 | t::ts,a=>by
  have:=accs_len ts (addT t a)
  have:=addT_len t a
  simp only [accs,List.foldl_cons,List.length_cons] at *
  omega
theorem accs_mem {y:Tm}:∀ {ts a:List Tm},y∈accs ts a→y∈ts∨y∈a
 | [],a,h=>.inr h
 | t::ts,a,h=>by
  rcases accs_mem (ts:=ts) (a:=addT t a) h with h | h
  ·exact .inl (by simp [h])
  ·rcases addT_mem h with h | h
   ·exact .inl (by simp [h])
   ·exact .inr h
attribute [local irreducible] thenQ blockQ loopQ bodyQ Ev EvOps CallEv FnEv EvD
end Go.Pm
end
section
set_option maxRecDepth 4000
namespace Go.Pm
open Go.Proofs
def inr (n:Int):Bool:=decide (-35184372088832≤n∧n≤35184372088832)
@[simp] theorem esOk_encPPs (l:List (List Pw)):esOk (0+1) (encPPs l):=by
 unfold esOk
 rw [List.all_eq_true]
 intro v hv
 obtain ⟨x,_,rfl⟩:=List.mem_map.1 hv
 rfl
attribute [local irreducible] thenQ blockQ loopQ bodyQ Ev EvOps CallEv FnEv EvD
end Go.Pm
end
section
set_option maxRecDepth 4000
namespace Go.Pm
open Go.Proofs
def SrtT (l:List Tm):Prop:=l.Pairwise fun p q=>cmpT p q<0
theorem addT_in (t:Tm):∀ (l:List Tm) (y:Tm),y∈addT t l↔y=t∨y∈l
 | [],y=>by simp [addT]
 | x::r,y=>by
  unfold addT
  by_cases h1:cmpT t x≤0
  ·rw [if_pos h1]
   by_cases h2:cmpT t x<0
   ·rw [if_pos h2];simp
   ·rw [if_neg h2]
    obtain rfl:=cmpT_zero (t:=t) (t':=x) (by omega)
    simp
  ·rw [if_neg h1,List.mem_cons,addT_in t r y,List.mem_cons]
   constructor
   ·rintro (h | h | h)
    ·exact .inr (.inl h)
    ·exact .inl h
    ·exact .inr (.inr h)
   ·rintro (h | h | h)
    ·exact .inr (.inl h)
    ·exact .inl h
    ·exact .inr (.inr h)
theorem addT_srt {t:Tm}:∀ {l:List Tm},SrtT l→SrtT (addT t l)
 | [],_=>by simp [addT,SrtT]
 | x::r,h=>by
  have hp:=List.pairwise_cons.1 h
  unfold addT
  by_cases h1:cmpT t x≤0
  ·rw [if_pos h1]
   by_cases h2:cmpT t x<0
   ·rw [if_pos h2]
    refine List.pairwise_cons.2 ⟨fun y hy=>?_,h⟩
    rcases List.mem_cons.1 hy with rfl | hy
    ·exact h2
    ·exact cmpT_trans h2 (hp.1 y hy)
   ·rw [if_neg h2];exact h
  ·rw [if_neg h1]
   refine List.pairwise_cons.2 ⟨fun y hy=>?_,addT_srt hp.2⟩
   rcases (addT_in t r y).1 hy with rfl | hy
   ·have:=cmpT_neg y x;omega
   ·exact hp.1 y hy
theorem accs_srt:∀ {ts a:List Tm},SrtT a→SrtT (accs ts a)
 | [],a,h=>h
 | t::ts,a,h=>accs_srt (ts:=ts) (addT_srt (t:=t) h)
theorem accs_in:∀ (ts a:List Tm) (y:Tm),y∈accs ts a↔y∈ts∨y∈a
 | [],a,y=>by simp [accs]
 | t::ts,a,y=>by
  have:=accs_in ts (addT t a) y
  rw [show accs (t::ts) a=accs ts (addT t a) from rfl,this,addT_in,List.mem_cons]
  constructor
  ·rintro (h | h | h)
   ·exact .inl (.inr h)
   ·exact .inl (.inl h)
   ·exact .inr h
  ·rintro ((h | h) | h)
   ·exact .inr (.inl h)
   ·exact .inl h
   ·exact .inr (.inr h)
theorem srt_ext:∀ {a b:List Tm},SrtT a→SrtT b→(∀ y,y∈a↔y∈b)→a=b
 | [],[],_,_,_=>rfl
 | [],y::b,_,_,h=>by have:=(h y).2 (by simp);cases this
 | x::a,[],_,_,h=>by have:=(h x).1 (by simp);cases this
 | x::a,y::b,ha,hb,h=>by
  have pa:=List.pairwise_cons.1 ha
  have pb:=List.pairwise_cons.1 hb
  have irr:∀ {u:Tm},¬ cmpT u u<0:=fun {u} hh=>by rw [cmpT_self] at hh;omega
  have hxy:x=y:=by
   rcases List.mem_cons.1 ((h x).1 (by simp)) with e | hx
   ·exact e
   ·rcases List.mem_cons.1 ((h y).2 (by simp)) with e | hy
    ·exact e.symm
    ·exact (irr (cmpT_trans (pb.1 x hx) (pa.1 y hy))).elim
  subst hxy
  have:a=b:=srt_ext pa.2 pb.2 fun z=>by
   constructor
   ·intro hz
    rcases List.mem_cons.1 ((h z).1 (by simp [hz])) with rfl | h1
    ·exact (irr (pa.1 z hz)).elim
    ·exact h1
   ·intro hz
    rcases List.mem_cons.1 ((h z).2 (by simp [hz])) with rfl | h1
    ·exact (irr (pb.1 z hz)).elim
    ·exact h1
  rw [this]
end Go.Pm
end
section
namespace Go.Pm
structure Sy where
 n:ByteArray
 a:Int
 b:Int
 k:Int
def nXor:ByteArray:=⟨#[120,111,114]⟩
def nZero:ByteArray:=⟨#[122,101,114,111]⟩
def nExp:ByteArray:=⟨#[101,120,112]⟩
def nMul:ByteArray:=⟨#[109,117,108]⟩
def nInv:ByteArray:=⟨#[105,110,118]⟩
def nOne:ByteArray:=⟨#[111,110,101]⟩
def nSk:ByteArray:=⟨#[115,107]⟩
def nShk:ByteArray:=⟨#[115,104,107]⟩
def nNew:ByteArray:=⟨#[110,101,119]⟩
def syL:List Sy:=[⟨⟨#[112,97,105,114]⟩,2,2,1⟩,⟨⟨#[101,110,99]⟩,2,2,1⟩,⟨⟨#[97,101,110,99]⟩,2,2,1⟩,⟨⟨#[112,107]⟩,1,1,1⟩,⟨⟨#[115,105,103,110]⟩,2,2,1⟩,⟨⟨#[104,97,115,104]⟩,1,1,1⟩,⟨⟨#[120,111,114]⟩,2,8,1⟩,⟨⟨#[122,101,114,111]⟩,0,0,1⟩,⟨⟨#[101,120,112]⟩,2,2,1⟩,⟨⟨#[109,117,108]⟩,2,8,1⟩,⟨⟨#[105,110,118]⟩,1,1,1⟩,⟨⟨#[111,110,101]⟩,0,0,1⟩,⟨⟨#[115,107]⟩,1,1,2⟩,⟨⟨#[115,104,107]⟩,2,2,2⟩,⟨⟨#[110,101,119]⟩,1,8,2⟩,⟨⟨#[102,115,116]⟩,1,1,3⟩,⟨⟨#[115,110,100]⟩,1,1,3⟩,⟨⟨#[100,101,99]⟩,2,2,3⟩,⟨⟨#[97,100,101,99]⟩,2,2,3⟩,⟨⟨#[111,112,101,110]⟩,2,2,3⟩,⟨⟨#[114,101,97,100]⟩,1,1,3⟩]
def sy0:Sy:=⟨ByteArray.empty,0,0,0⟩
def symOf (s:ByteArray):Sy:=(syL.find? fun y=>y.n.toList == s.toList).getD sy0
def encSy (y:Sy):PV:=.agg [.str y.n,.int .i64 y.a,.int .i64 y.b,.int .i64 y.k]
def isN (s n:ByteArray):Bool:=s.toList == n.toList
def agentT (u:Tm):Bool:=decide (u.k≠3∧u.o=1)
def privOk (s:ByteArray) (l:List Tm):Bool:=
 if isN s nSk || isN s nShk then l.all agentT
 else if isN s nNew then (match l with | u::_=>decide (u.k=2) | []=>true)
 else true
mutual
def chk:Tm→Int
 | .mk k s o l=>if k≠3 then 0 else if (symOf s).k=0 then 10 else if (l.length:Int)<(symOf s).a∨(symOf s).b<l.length then 6 else if privOk s l=false then 10 else chks l
def chks:List Tm→Int
 | []=>0
 | t::l=>if chk t≠0 then chk t else chks l
end
def thv (t:Tm):Int:=if valid t≠0 then valid t else chk t
mutual
def pre:Tm→List Tm
 | .mk k s o l=>.mk k s o l::pres l
def pres:List Tm→List Tm
 | []=>[]
 | t::l=>pre t++pres l
end
mutual
def every (p:ByteArray→Bool):Tm→Bool
 | .mk k s o l=>(decide (k≠3) || p s) && everys p l
def everys (p:ByteArray→Bool):List Tm→Bool
 | []=>true
 | t::l=>every p t && everys p l
end
def algN (s:ByteArray):Bool:=isN s nXor || isN s nZero || isN s nExp || isN s nMul || isN s nInv || isN s nOne
def frN (s:ByteArray):Bool:=!algN s && decide ((symOf s).k≠3)
def freeT (t:Tm):Bool:=decide (thv t=0) && every frN t
def setT (l:List Tm):List Tm:=accs l []
def kindT (n:Int) (t:Tm):List Tm:=setT ((pre t).filter fun u=>decide (u.k=n))
def varsT (t:Tm):List Tm:=kindT 1 t
end Go.Pm
end
section
namespace Go.Pm
structure Dem where
 kn:List Tm
 tm:Tm
structure Bdg where
 v:Tm
 t:Tm
def encD (d:Dem):PV:=.agg [.snap false (encs d.kn),.int .i64 d.tm.k,.str d.tm.s,.int .i64 d.tm.o,.snap false (encs d.tm.l)]
def encB (b:Bdg):PV:=.agg [.int .i64 b.v.k,.str b.v.s,.int .i64 b.v.o,.snap false (encs b.v.l),.int .i64 b.t.k,.str b.t.s,.int .i64 b.t.o,.snap false (encs b.t.l)]
def encDs (l:List Dem):List PV:=l.map encD
def encBs (l:List Bdg):List PV:=l.map encB
@[simp] theorem isVal_encD (d:Dem):isVal (encD d)=true:=by simp [encD]
@[simp] theorem isVal_encB (b:Bdg):isVal (encB b)=true:=by simp [encB]
@[simp] theorem nrm_encD (d:Dem):nrm (encD d)=encD d:=by simp [encD,nrm,nrms,nrms_encs]
@[simp] theorem nrm_encB (b:Bdg):nrm (encB b)=encB b:=by simp [encB,nrm,nrms,nrms_encs]
@[simp] theorem isVals_encDs (l:List Dem):isVals (encDs l)=true:=by rw [isVals_eq];simp [encDs]
@[simp] theorem isVals_encBs (l:List Bdg):isVals (encBs l)=true:=by rw [isVals_eq];simp [encBs]
@[simp] theorem nrms_encDs (l:List Dem):nrms (encDs l)=encDs l:=by rw [nrms_eq];simp [encDs]
@[simp] theorem nrms_encBs (l:List Bdg):nrms (encBs l)=encBs l:=by rw [nrms_eq];simp [encBs]
@[simp] theorem encDs_len (l:List Dem):(encDs l).length=l.length:=by simp [encDs]
@[simp] theorem encBs_len (l:List Bdg):(encBs l).length=l.length:=by simp [encBs]
@[simp] theorem encDs_nil:encDs []=[]:=rfl
@[simp] theorem encBs_nil:encBs []=[]:=rfl
theorem encD_x (d:Dem):encD d=.agg [.snap false (encs d.kn),.int .i64 d.tm.k,.str d.tm.s,.int .i64 d.tm.o,.snap false (encs d.tm.l)]:=rfl
theorem encB_x (b:Bdg):encB b=.agg [.int .i64 b.v.k,.str b.v.s,.int .i64 b.v.o,.snap false (encs b.v.l),.int .i64 b.t.k,.str b.t.s,.int .i64 b.t.o,.snap false (encs b.t.l)]:=rfl
theorem at_encDs {l p q:List Dem} {d:Dem} (e:l=p++d::q):(encDs l)[p.length]?=some (.agg [.snap false (encs d.kn),.int .i64 d.tm.k,.str d.tm.s,.int .i64 d.tm.o,.snap false (encs d.tm.l)]):=by rw [encDs,e,← encD_x];simp
theorem at_encBs {l p q:List Bdg} {b:Bdg} (e:l=p++b::q):(encBs l)[p.length]?=some (.agg [.int .i64 b.v.k,.str b.v.s,.int .i64 b.v.o,.snap false (encs b.v.l),.int .i64 b.t.k,.str b.t.s,.int .i64 b.t.o,.snap false (encs b.t.l)]):=by rw [encBs,e,← encB_x];simp
theorem nth_encBs {l:List Bdg} {i:Nat} {b:Bdg} (e:l[i]?=some b):(encBs l)[i]?=some (.agg [.int .i64 b.v.k,.str b.v.s,.int .i64 b.v.o,.snap false (encs b.v.l),.int .i64 b.t.k,.str b.t.s,.int .i64 b.t.o,.snap false (encs b.t.l)]):=by rw [encBs,List.getElem?_map,e,← encB_x];rfl
def hasT (l:List Tm) (t:Tm):Bool:=l.any fun u=>decide (cmpT t u=0)
theorem hasT_iff {l:List Tm} {t:Tm}:hasT l t=true↔t∈l:=by
 simp only [hasT,List.any_eq_true,decide_eq_true_eq]
 constructor
 ·rintro ⟨u,hu,h⟩;rw [cmpT_zero h];exact hu
 ·exact fun h=>⟨t,h,cmpT_self t⟩
def agT (t:Tm):Bool:=decide (t.o=1∨t.o=5)
def rightC (t:Tm):Int:=if thv t≠0 then thv t else if freeT t=false∨(varsT t).any agT=true then 10 else if 60<size t then 3 else 0
def rightCs:List Tm→Int
 | []=>0
 | t::l=>if rightC t≠0 then rightC t else rightCs l
def kept (prev:Option (List Tm)) (k:List Tm):Bool:=match prev with | none=>true | some p=>p.all fun t=>hasT k t
def bnd (bound k:List Tm):Bool:=k.all fun t=>(varsT t).all fun x=>hasT bound x
def sysGo:Option (List Tm)→List Tm→List Dem→Int
 | _,_,[]=>0
 | prev,bound,d::l=>
  if 40<d.kn.length then 3
  else if rightCs (d.kn++[d.tm])≠0 then rightCs (d.kn++[d.tm])
  else if kept prev d.kn=false then 9
  else if bnd bound d.kn=false then 13
  else sysGo (some d.kn) (bound++varsT d.tm) l
def sysV (l:List Dem):Int:=if 40<l.length then 3 else sysGo none [] l
def fitsT (x t:Tm):Bool:=decide (valid x=0∧valid t=0∧x.k=1∧(x.o=0∨(t.k≠3∧t.o=x.o)))
def bdE (b:Bdg):Int:=if valid b.v≠0 then valid b.v else if b.v.k≠1∨cmpT b.v b.t=0 then 1 else if valid b.t≠0 then valid b.t else if fitsT b.v b.t=false then 10 else 0
def behind (prev:Option Tm) (x:Tm):Bool:=match prev with | none=>true | some p=>decide (cmpT p x<0)
def subGo:Option Tm→List Bdg→Int
 | _,[]=>0
 | prev,b::l=>if bdE b≠0 then bdE b else if behind prev b.v=false then 5 else subGo (some b.v) l
def subV (s:List Bdg):Int:=if 200<s.length then 3 else subGo none s
def getB:List Bdg→Tm→Tm
 | [],x=>x
 | b::s,x=>if cmpT b.v x=0 then b.t else getB s x
mutual
def putT (s:List Bdg):Tm→Tm
 | .mk k n o l=>if k=1 then getB s (.mk k n o l) else .mk k n o (putTs s l)
def putTs (s:List Bdg):List Tm→List Tm
 | []=>[]
 | t::l=>putT s t::putTs s l
end
def applyT (s:List Bdg) (t:Tm):Tm × Int:=if valid t≠0 then (zeroT,valid t) else if valid (putT s t)≠0 then (zeroT,valid (putT s t)) else (putT s t,0)
def allE (s:List Bdg):List Tm→Int
 | []=>0
 | t::l=>if (applyT s t).2≠0 then (applyT s t).2 else allE s l
def demE (s:List Bdg) (d:Dem):Int:=if allE s d.kn≠0 then allE s d.kn else (applyT s d.tm).2
def demP (s:List Bdg) (d:Dem):Dem:=⟨putTs s d.kn,putT s d.tm⟩
def demsE (s:List Bdg):List Dem→Int
 | []=>0
 | d::l=>if demE s d≠0 then demE s d else demsE s l
def instE (l:List Dem) (s:List Bdg):Int:=if sysV l≠0 then sysV l else if subV s≠0 then subV s else if demsE s l≠0 then demsE s l else sysV (l.map (demP s))
def instL (l:List Dem) (s:List Bdg):List Dem:=if instE l s≠0 then [] else l.map (demP s)
theorem putTs_map (s:List Bdg) (l:List Tm):putTs s l=l.map (putT s):=by
 induction l with
 | nil=>rfl
 | cons t l ih=>simp [putTs,ih]
theorem putTs_len (s:List Bdg) (l:List Tm):(putTs s l).length=l.length:=by rw [putTs_map];simp
end Go.Pm
end
section
set_option maxRecDepth 100000
set_option maxHeartbeats 2000000
namespace Go.Pm
open Go.Proofs
instance:Inhabited Dem:=⟨⟨[],zeroT⟩⟩
instance:Inhabited Bdg:=⟨⟨zeroT,zeroT⟩⟩
theorem coDem:C.P.cellsOf 35=5:=by kernel_rfl
theorem coBdg:C.P.cellsOf 38=8:=by kernel_rfl
theorem unDem:∃ fs,C.P.underlying 35=some (.struct fs)∧fs.toList.map (fun f=>(f.offset,f.type))=[(0,31),(1,33)]:=kd_st (T6.hkd 35 _ rfl)
theorem unBdg:∃ fs,C.P.underlying 38=some (.struct fs)∧fs.toList.map (fun f=>(f.offset,f.type))=[(0,33),(4,33)]:=kd_st (T6.hkd 38 _ rfl)
theorem fldOf' {fs:Array Field} {os:List (Nat × TypeId)} (hfs:fs.toList.map (fun f=>(f.offset,f.type))=os) {i a b:Nat} (hi:os[i]?=some (a,b)):∃ f,fs[i]?=some f∧f.offset=a∧f.type=b:=by
 rw [← hfs,List.getElem?_map] at hi
 have:fs[i]?=fs.toList[i]?:=by simp
 rw [this]
 cases hh:fs.toList[i]? with
 | none=>rw [hh] at hi;cases hi
 | some f=>
  rw [hh] at hi
  simp only [Option.map_some,Option.some.injEq,Prod.mk.injEq] at hi
  exact ⟨f,rfl,hi.1,hi.2⟩
theorem sum_bulks:∀ l:List Tm,(l.map bulk).sum=bulks l
 | []=>rfl
 | t::l=>by rw [List.map_cons,List.sum_cons,sum_bulks l];rfl
open Go.Proofs.YtimogkojklpdnaaGreatDoor in
theorem read_ts {H:Type} {ec:TypeId × Value→H} {w:World} {sp:Nat→Bool} {held:Bool} {n:Nat} {cs:List Value} {x:DataW H × List MemPlace} (h:DataW.trod ec C.P w 0 sp held n 31 cs=some x) :
  ∃ (c:Value) (l:List Tm),cs=[c]∧SRel w NoB c (.snap false (encs l))∧bulks l+1≤Rows.uptoBulk x.1:=by
 obtain ⟨c,l,h1,h2,h3⟩:=read_slice enc bulk (kd_sl (T6.hkd 31 _ rfl)) co24 (by decide) (fun e=>by rw [enc_x];rfl) (fun n cs x hx=>by
  obtain ⟨t,ht,hb⟩:=read_tm n _ _ hx
  obtain ⟨q1,q2,q3⟩:=SRel.cells4 ht
  exact ⟨t,q1,q3,hb⟩) h
 exact ⟨c,l,h1,by rw [encs_eq];exact h2,by rw [sum_bulks] at h3;exact h3⟩
open Go.Proofs.YtimogkojklpdnaaGreatDoor in
theorem read_dem {H:Type} {ec:TypeId × Value→H} {w:World} {sp:Nat→Bool} {held:Bool} (n:Nat) (cs:List Value) (x:DataW H × List MemPlace) (h:DataW.trod ec C.P w 0 sp held n 35 cs=some x) :
  ∃ d:Dem,cs.length=5∧(∀ j,j<5→SRel w NoB (cs.getD j undef) ((Pm.cells (encD d)).getD j .any))∧bulks d.kn+bulk d.tm+2≤Rows.uptoBulk x.1:=by
 obtain ⟨fs,hu,hfs⟩:=unDem
 obtain ⟨xs,m,rfl,rfl,hlen,hxl,hf⟩:=DataW.trod_struct hu h
 rw [coDem] at hlen
 have hsz:fs.size=2:=by have:=congrArg List.length hfs;simpa using this
 rw [hsz] at hxl
 match cs,hlen,xs,hxl with
 | [c0,c1,c2,c3,c4],_,[x0,x1],_=>
  obtain ⟨f0,g0,a0,b0⟩:=fldOf' hfs (i:=0) rfl
  obtain ⟨f1,g1,a1,b1⟩:=fldOf' hfs (i:=1) rfl
  have h0:=hf 0 f0 g0
  have h1:=hf 1 f1 g1
  rw [a0,b0,co22] at h0
  rw [a1,b1,co24] at h1
  simp only [List.drop_zero,List.take_succ_cons,List.take_zero,List.drop_succ_cons,List.getElem?_cons_zero,List.getElem?_cons_succ] at h0 h1
  obtain ⟨d0,l,e0,s0,r0⟩:=read_ts h0
  obtain rfl:c0=d0:=by simpa using e0
  obtain ⟨t,ht,hb⟩:=read_tm m _ _ h1
  obtain ⟨q1,q2,q3⟩:=SRel.cells4 ht
  refine ⟨⟨l,t⟩,rfl,?_,?_⟩
  ·rw [enc_x] at q3
   intro j hj
   match j,hj with
   | 0,_=>exact s0
   | 1,_=>exact q3 0 (by omega)
   | 2,_=>exact q3 1 (by omega)
   | 3,_=>exact q3 2 (by omega)
   | 4,_=>exact q3 3 (by omega)
  ·simp only [List.map_cons,List.map_nil,Rows.uptoBulk,Rows.uptoBulkAll]
   omega
open Go.Proofs.YtimogkojklpdnaaGreatDoor in
theorem read_bdg {H:Type} {ec:TypeId × Value→H} {w:World} {sp:Nat→Bool} {held:Bool} (n:Nat) (cs:List Value) (x:DataW H × List MemPlace) (h:DataW.trod ec C.P w 0 sp held n 38 cs=some x) :
  ∃ d:Bdg,cs.length=8∧(∀ j,j<8→SRel w NoB (cs.getD j undef) ((Pm.cells (encB d)).getD j .any))∧bulk d.v+bulk d.t+1≤Rows.uptoBulk x.1:=by
 obtain ⟨fs,hu,hfs⟩:=unBdg
 obtain ⟨xs,m,rfl,rfl,hlen,hxl,hf⟩:=DataW.trod_struct hu h
 rw [coBdg] at hlen
 have hsz:fs.size=2:=by have:=congrArg List.length hfs;simpa using this
 rw [hsz] at hxl
 match cs,hlen,xs,hxl with
 | [c0,c1,c2,c3,c4,c5,c6,c7],_,[x0,x1],_=>
  obtain ⟨f0,g0,a0,b0⟩:=fldOf' hfs (i:=0) rfl
  obtain ⟨f1,g1,a1,b1⟩:=fldOf' hfs (i:=1) rfl
  have h0:=hf 0 f0 g0
  have h1:=hf 1 f1 g1
  rw [a0,b0,co24] at h0
  rw [a1,b1,co24] at h1
  simp only [List.drop_zero,List.take_succ_cons,List.take_zero,List.drop_succ_cons,List.getElem?_cons_zero,List.getElem?_cons_succ] at h0 h1
  obtain ⟨u,hu2,hb2⟩:=read_tm m _ _ h0
  obtain ⟨p1,p2,p3⟩:=SRel.cells4 hu2
  obtain ⟨t,ht,hb⟩:=read_tm m _ _ h1
  obtain ⟨q1,q2,q3⟩:=SRel.cells4 ht
  refine ⟨⟨u,t⟩,rfl,?_,?_⟩
  ·rw [enc_x] at p3 q3
   intro j hj
   match j,hj with
   | 0,_=>exact p3 0 (by omega)
   | 1,_=>exact p3 1 (by omega)
   | 2,_=>exact p3 2 (by omega)
   | 3,_=>exact p3 3 (by omega)
   | 4,_=>exact q3 0 (by omega)
   | 5,_=>exact q3 1 (by omega)
   | 6,_=>exact q3 2 (by omega)
   | 7,_=>exact q3 3 (by omega)
  ·simp only [List.map_cons,List.map_nil,Rows.uptoBulk,Rows.uptoBulkAll]
   omega
open Go.Proofs.YtimogkojklpdnaaGreatDoor in
theorem read_dems {H:Type} {ec:TypeId × Value→H} {w:World} {sp:Nat→Bool} {held:Bool} {n:Nat} {cs:List Value} {x:DataW H × List MemPlace} (h:DataW.trod ec C.P w 0 sp held n 22 cs=some x) :
  ∃ (c:Value) (l:List Dem),cs=[c]∧SRel w NoB c (.snap false (encDs l))∧(l.map fun d=>bulks d.kn+bulk d.tm+2).sum+1≤Rows.uptoBulk x.1:=
 read_slice encD (fun d=>bulks d.kn+bulk d.tm+2) (kd_sl (T6.hkd 22 _ rfl)) coDem (by decide) (fun _=>rfl) read_dem h
open Go.Proofs.YtimogkojklpdnaaGreatDoor in
theorem read_bdgs {H:Type} {ec:TypeId × Value→H} {w:World} {sp:Nat→Bool} {held:Bool} {n:Nat} {cs:List Value} {x:DataW H × List MemPlace} (h:DataW.trod ec C.P w 0 sp held n 23 cs=some x) :
  ∃ (c:Value) (l:List Bdg),cs=[c]∧SRel w NoB c (.snap false (encBs l))∧(l.map fun b=>bulk b.v+bulk b.t+1).sum+1≤Rows.uptoBulk x.1:=
 read_slice encB (fun b=>bulk b.v+bulk b.t+1) (kd_sl (T6.hkd 23 _ rfl)) coBdg (by decide) (fun _=>rfl) read_bdg h
end Go.Pm
end
section
set_option maxRecDepth 100000
set_option maxHeartbeats 2000000
namespace Go.Pm
open Go.Proofs Go.ChangeShapes Go.WideShapes
open Go.Proofs.YtimogkojklpdnaaGreatDoor in
theorem read_demsv {H:Type} {ec:TypeId × Value→H} {w:World} {base:Nat} {sp:Nat→Bool} {v:Value} {d:DataW H} {p:List MemPlace} (hok:Value.okWide C.P w .any base 22 v) (h:DataW.Trod ec C.P w 0 sp true 22 v d p) :
  ∃ l:List Dem,SRel w NoB v (.snap false (encDs l))∧(l.map fun d=>bulks d.kn+bulk d.tm+2).sum+1≤Rows.uptoBulk d:=by
 obtain ⟨n,hn⟩:=h
 obtain ⟨a,len,cap,rfl⟩:=okWide_slice (kd_sl (T6.hkd 22 _ rfl)) hok
 obtain ⟨c,l,hc,h1,h2⟩:=read_dems hn
 obtain rfl:Value.slice a len cap=c:=by simpa [Value.cells] using hc
 exact ⟨l,h1,h2⟩
open Go.Proofs.YtimogkojklpdnaaGreatDoor in
theorem read_bdgsv {H:Type} {ec:TypeId × Value→H} {w:World} {base:Nat} {sp:Nat→Bool} {v:Value} {d:DataW H} {p:List MemPlace} (hok:Value.okWide C.P w .any base 23 v) (h:DataW.Trod ec C.P w 0 sp true 23 v d p) :
  ∃ l:List Bdg,SRel w NoB v (.snap false (encBs l))∧(l.map fun b=>bulk b.v+bulk b.t+1).sum+1≤Rows.uptoBulk d:=by
 obtain ⟨n,hn⟩:=h
 obtain ⟨a,len,cap,rfl⟩:=okWide_slice (kd_sl (T6.hkd 23 _ rfl)) hok
 obtain ⟨c,l,hc,h1,h2⟩:=read_bdgs hn
 obtain rfl:Value.slice a len cap=c:=by simpa [Value.cells] using hc
 exact ⟨l,h1,h2⟩
end Go.Pm
end
section
namespace Go.Pm
open Go.Proofs
theorem Grew.grow {w w':World} (g:Grew w w'):∃ q os',w'=Go.Sort.grow (w.drewN q) os':=by
 refine ⟨w'.drawn - w.drawn,w'.heap.extract w.heap.size w'.heap.size,?_⟩
 have hh:w'.heap=w.heap++w'.heap.extract w.heap.size w'.heap.size:=by
  apply Array.ext_getElem?
  intro i
  have hs:=g.size
  by_cases hi:i<w.heap.size
  ·rw [g.keep i hi,Array.getElem?_append_left hi]
  ·rw [Array.getElem?_append_right (by omega),Array.getElem?_extract]
   by_cases h2:i<w'.heap.size
   ·rw [if_pos (by omega)];congr 1;omega
   ·rw [if_neg (by omega),Array.getElem?_eq_none (by omega)]
 obtain ⟨hp,tp,dr,os,out⟩:=w'
 have h1:=g.os;have h2:=g.tape;have h3:=g.output;have h4:=g.drawn
 simp only at h1 h2 h3 h4 hh
 subst h1 h2 h3
 simp only [Go.Sort.grow,World.drewN]
 rw [← hh]
 congr 1
 omega
end Go.Pm
end
section
set_option maxRecDepth 100000
set_option maxHeartbeats 4000000
namespace Go.Pm
open Go.Proofs
section
variable {C:Cfg} (T:Tab C.P)
variable {ops:Array Oper} {i:Nat} {d:Nat} {ty:TypeId} {pos:String} {af:Array Edge} {r:List Oper} {ρ:Nat→PV} {L:List (Nat × PV)} {h:AHeap} {Q:St→Prop}
theorem sliceHi_m {P:Program} {t el:TypeId} {id ep len b:Nat} {o:AObj} {k:IntKind} (hu:P.underlying t=some (.slice el)) (hs:tsize P el=some o.esz) (hg:getM h id ep=some o) (hb:b≤len) (hle:len≤o.es.length) :
  sliceP P h t (.mref id ep 0 len) none (some (.int k (b:Int))) none=some (.mref id ep 0 b):=by
 have h1:¬ ((len:Int)<(b:Int)):=by omega
 simp [sliceP,hu,hs,hg,hle,beyond,h1,boundP,hb]
theorem sliceLo_m {P:Program} {t el:TypeId} {id ep len a:Nat} {o:AObj} {k:IntKind} (hu:P.underlying t=some (.slice el)) (hs:tsize P el=some o.esz) (hg:getM h id ep=some o) (ha:a≤len) (hle:len≤o.es.length) :
  sliceP P h t (.mref id ep 0 len) (some (.int k (a:Int))) none none=some (if a=0 then .mref id ep 0 len else if len - a=0 then .snap false [] else .mref id ep a (len - a)):=by
 simp [sliceP,hu,hs,hg,hle,beyond,boundP,ha]
 by_cases h0:a=0
 ·simp [h0]
 ·by_cases h1:len - a=0 <;> simp [h0,h1]
theorem slice3_m {P:Program} {t el:TypeId} {id ep len a b:Nat} {o:AObj} {k k' k2:IntKind} (hu:P.underlying t=some (.slice el)) (hs:tsize P el=some o.esz) (hg:getM h id ep=some o) (ha:a≤b) (hb:b≤len) (hne:a<len) (hle:len≤o.es.length) :
  sliceP P h t (.mref id ep 0 len) (some (.int k (a:Int))) (some (.int k' (b:Int))) (some (.int k2 (len:Int)))=some .any:=by
 have h1:¬ len=a:=by omega
 simp [sliceP,hu,hs,hg,hle,beyond,boundP,ha,hb,h1]
theorem sliceBeyond_m {P:Program} {t el:TypeId} {id ep len a b:Nat} {o:AObj} {k k':IntKind} (hu:P.underlying t=some (.slice el)) (hs:tsize P el=some o.esz) (hg:getM h id ep=some o) (ha:a≤len) (hb:len<b) (hle:b≤o.es.length) :
  sliceP P h t (.mref id ep 0 len) (some (.int k (a:Int))) (some (.int k' (b:Int))) none=some (if a=0 then .mref id ep 0 b else .mref id ep a (b - a)):=by
 have h1:(len:Int)<(b:Int):=by omega
 have h2:¬ (b - a=0):=by omega
 have h3:len≤o.es.length:=by omega
 have h4:a≤b:=by omega
 simp [sliceP,hu,hs,hg,h3,beyond,h1,boundP,hle,h4,h2]
 by_cases h0:a=0 <;> simp [h0]
theorem sliceBeyond0_m {P:Program} {t el:TypeId} {id ep len b:Nat} {o:AObj} {k':IntKind} (hu:P.underlying t=some (.slice el)) (hs:tsize P el=some o.esz) (hg:getM h id ep=some o) (hb:len<b) (hle:b≤o.es.length) :
  sliceP P h t (.mref id ep 0 len) none (some (.int k' (b:Int))) none=some (.mref id ep 0 b):=by
 have h1:(len:Int)<(b:Int):=by omega
 have h3:len≤o.es.length:=by omega
 simp [sliceP,hu,hs,hg,h3,beyond,h1,boundP,hle]
theorem R.slice {t:TypeId} {x:Operand} {lo hi mx:Option Operand} {p q:PV} {plo phi pmx:Option PV} (hx:evL L x=some p) (h1:lo.map (ev (al L ρ))=plo) (h2:hi.map (ev (al L ρ))=phi) (h3:mx.map (ev (al L ρ))=pmx) (hs:sliceP C.P h t p plo phi pmx=some q)
  (kk:EvOps C ops r ⟨al ((d,q)::L) ρ,h⟩ Q):EvOps C ops (⟨some d,.slice t x lo hi mx,ty,pos,af,none⟩::r) ⟨al L ρ,h⟩ Q:=
 EvOps.valL (fun run=>by simp only [opVal,stepOp,evL_ev hx,h1,h2,h3,hs,Option.map_some]) kk
theorem D.slice {t:TypeId} {x:Operand} {lo hi mx:Option Operand} {p q:PV} {plo phi pmx:Option PV} (hcl:closedH h=true) (hx:evL L x=some p) (hv:visR (visible h) p=true) (h1:lo.map (ev (al L ρ))=plo) (h2:hi.map (ev (al L ρ))=phi) (h3:mx.map (ev (al L ρ))=pmx)
  (v1:plo.all (visR (visible h))=true) (v2:phi.all (visR (visible h))=true) (v3:pmx.all (visR (visible h))=true) (hs:sliceP C.P h t p plo phi pmx=some q)
  (kk:EvD C ops (i+1) r ⟨⟨al ((d,q)::L) ρ,h⟩,h.length,[]⟩ Q):EvD C ops i (⟨some d,.slice t x lo hi mx,ty,pos,af,none⟩::r) ⟨⟨al L ρ,h⟩,h.length,[]⟩ Q:=by
 refine EvD.read rfl hcl ?_ ⟨0,fun n lv _ _=>by simp only [opVal,stepOp,evL_ev hx,h1,h2,h3,hs,Option.map_some]⟩ kk
 rw [← h1] at v1;rw [← h2] at v2;rw [← h3] at v3
 rw [List.all_eq_true]
 intro y hy
 simp only [Op.operands] at hy
 cases lo <;> cases hi <;> cases mx <;> simp at hy v1 v2 v3 <;> rcases hy with rfl | hy <;> first
  | (rw [evL_ev hx];exact hv)
  | (simp_all;done)
  | (rcases hy with rfl | hy <;> first | assumption | (rcases hy with rfl | rfl <;> assumption) | (subst hy;assumption))
theorem appendE2 {st xt el el':TypeId} {sz by' id ep k:Nat} {z u:PV} {ys:List PV} {o:AObj} (hk:T.kd st=some (.sl el)) (hk':T.kd xt=some (.sl el')) (hs:T.ts el=some (sz+1)) (hb:T.tb el=some by') (hz:T.tz el=some z) (hby:by'≤1000) (hl:(cells z).length=sz+1) (ho:(cells z).all oneC=true)
  (hu:elems h u=some ys) (hy:esOk (sz+1) ys) (hso:ys≠[]→sameObj id u=true) (hg:getM h id ep=some o) (hm:o.mu=.m) (hz':o.esz=sz+1) (hle:k+ys.length≤o.es.length) :
  appendP C.P 2 h st xt (.mref id ep 0 k) u=some (.mref id ep 0 (k+ys.length),h.set id {o with es:=o.es.take k++ys++o.es.drop (k+ys.length) }):=by
 unfold appendP
 rw [kd_sl (T.hkd _ _ hk)]
 simp only [T.hts _ _ hs,T.htb _ _ hb,T.htz _ _ hz,appendee,kd_sl (T.hkd _ _ hk'),hu]
 unfold esOk at hy
 rw [if_pos ⟨by omega,by omega,⟨hl,ho⟩,hy⟩]
 simp only [hg]
 rw [if_pos ⟨by omega,hz'.symm⟩]
 cases ys with
 | nil=>
  have e1:o.es.take k++[]++o.es.drop (k+0)=o.es:=by simp
  have e2:h.set id {o with es:=o.es.take k++[]++o.es.drop (k+0) }=h:=by
   rw [e1]
   have h1:=(getM_some hg).1
   have hlt:=lt_of_some h1
   rw [List.getElem?_eq_getElem hlt] at h1
   have:(h[id]:AObj)={o with es:=o.es }:=Option.some.inj h1
   rw [← this]
   exact List.set_getElem_self hlt
  simp only [List.isEmpty_nil,if_true,List.length_nil,Nat.add_zero] at e2 ⊢
  rw [e2]
 | cons y ys=>
  have hne:(y::ys).isEmpty=false:=rfl
  simp only [hne,Bool.false_eq_true,if_false]
  rw [if_pos ⟨trivial,Nat.le_refl _,hm,hso (by simp),hle⟩]
theorem D.appendE2 {st xt el el':TypeId} {sz by' id ep k L0:Nat} {own:List Nat} {z u:PV} {ys:List PV} {o:AObj} {x y:Operand} (hl2:level ops (before ops) i=2) (hx:evL L x=some (.mref id ep 0 k)) (hyy:evL L y=some u) (hk:T.kd st=some (.sl el)) (hk':T.kd xt=some (.sl el')) (hs:T.ts el=some (sz+1)) (hb:T.tb el=some by') (hz:T.tz el=some z) (hby:by'≤1000) (hl:(cells z).length=sz+1) (ho:(cells z).all oneC=true)
  (hu:elems h u=some ys) (hy:esOk (sz+1) ys) (hso:ys≠[]→sameObj id u=true) (hg:getM h id ep=some o) (hm:o.mu=.m) (hz':o.esz=sz+1) (hle:k+ys.length≤o.es.length)
  (kk:EvD C ops (i+1) r ⟨⟨al ((d,.mref id ep 0 (k+ys.length))::L) ρ,h.set id {o with es:=o.es.take k++ys++o.es.drop (k+ys.length) }⟩,(h.set id {o with es:=o.es.take k++ys++o.es.drop (k+ys.length) }).length,[]⟩ Q) :
  EvD C ops i (⟨some d,.call ⟨.builtin .append,#[x,y],#[st,xt]⟩,ty,pos,af,none⟩::r) ⟨⟨al L ρ,h⟩,L0,own⟩ Q:=by
 refine EvD.two rfl hl2 ⟨0,fun n _=>?_⟩ kk
 have hap:=Pm.appendE2 T hk hk' hs hb hz hby hl ho hu hy hso hg hm hz' hle
 simp only [opVal,builtinP,List.map_cons,List.map_nil,evL_ev hx,evL_ev hyy,hap]
theorem R.clearM {t el:TypeId} {id ep off len:Nat} {z:PV} {o:AObj} {x:Operand} (hx:evL L x=some (.mref id ep off len)) (hk:T.kd t=some (.sl el)) (hs:T.ts el=some o.esz) (hz:T.tz el=some z) (hl:(cells z).length=o.esz) (ho:(cells z).all oneC=true) (hg:getM h id ep=some o) (hm:o.mu=.m) (hle:off+len≤o.es.length)
  (kk:EvOps C ops r ⟨al L ρ,h.set id {o with es:=o.es.take off++List.replicate len z++o.es.drop (off+len) }⟩ Q):EvOps C ops (⟨none,.call ⟨.builtin .clear,#[x],#[t]⟩,ty,pos,af,none⟩::r) ⟨al L ρ,h⟩ Q:=by
 refine EvOps.val (v:=.tup []) (h':=h.set id {o with es:=o.es.take off++List.replicate len z++o.es.drop (off+len) }) rfl (fun run=>?_) kk
 simp only [opVal,builtinP,List.map_cons,List.map_nil,evL_ev hx,clearP,kd_sl (T.hkd _ _ hk),T.hts _ _ hs,T.htz _ _ hz,hg]
 rw [if_pos ⟨Nat.le_refl _,hm,trivial,hle,hl,ho⟩]
end
attribute [local irreducible] thenQ blockQ loopQ bodyQ Ev EvOps CallEv FnEv EvD
namespace Zero
theorem del_ev (N:Nat) {h:AHeap} {id ep len k:Nat} {o:AObj} (hg:getM h id ep=some o) (hm:o.mu=.m) (hz:o.esz=5) (hle:len≤o.es.length) (hk:k<len) (hn:len<100000000) (hok:(o.es.take len).all (okV 5)=true) (hcl:closedH h=true) :
  ∃ es3:List PV,es3.length=o.es.length∧es3.take (len - 1)=(o.es.take len).take k++(o.es.take len).drop (k+1) ∧
   FnEv C0 352 [.mref id ep 0 len,.int .i64 (k:Int),.int .i64 ((k:Int)+1)] h (fun r h'=>r=.mref id ep 0 (len - 1)∧h'=h.set id {o with es:=es3 }):=by
 have hgs:=(getM_some hg).1
 have hlt:=lt_of_some hgs
 have hvis:visible h id=true:=by
  unfold visible;rw [hgs];simp [hm]
 obtain ⟨ys,hys⟩:∃ ys,ys=(o.es.drop (k+1)).take (len - (k+1)):=⟨_,rfl⟩
 have hyl:ys.length=len - (k+1):=by rw [hys];simp;omega
 have hyok:esOk 5 ys:=by
  unfold esOk
  rw [List.all_eq_true] at hok ⊢
  intro v hv
  rw [hys] at hv
  have hmem:v∈o.es.take len:=by
   have:(o.es.drop (k+1)).take (len - (k+1))=(o.es.take len).drop (k+1):=by rw [List.drop_take]
   rw [this] at hv
   exact List.mem_of_mem_drop hv
  have:=hok v hmem
  unfold okV at this
  simp only [Bool.and_eq_true] at this ⊢
  exact ⟨this.1.2,this.2⟩
 obtain ⟨es2,hes2⟩:∃ es2,es2=o.es.take k++ys++o.es.drop (k+ys.length):=⟨_,rfl⟩
 have hl2:es2.length=o.es.length:=by rw [hes2];simp;omega
 refine ⟨es2.take (len - 1)++List.replicate 1 (.agg [.int .i64 0,.str ByteArray.empty,.int .i64 0,.snap true [],.int .i64 0])++es2.drop (len - 1+1),by simp;omega,?_,?_⟩
 ·have e1:(es2.take (len - 1)++List.replicate 1 (.agg [.int .i64 0,.str ByteArray.empty,.int .i64 0,.snap true [],.int .i64 0]:PV)++es2.drop (len - 1+1)).take (len - 1)=es2.take (len - 1):=by
   rw [List.append_assoc,List.take_append_of_le_length (by simp;omega),List.take_take];congr 1;omega
  rw [e1,hes2]
  have e2:(o.es.take k++ys).length=len - 1:=by simp;omega
  rw [List.take_append_of_le_length (by omega),List.take_of_length_le (by omega),List.take_take,hys]
  congr 1
  ·congr 1;omega
  ·rw [List.drop_take]
 ·refine FnEv.bodyL Tryz.func352 rfl ?_
  have hu:C0.P.underlying 175=some (.slice 187):=kd_sl (T6.hkd 175 _ rfl)
  have hsz:tsize C0.P 187=some o.esz:=by rw [hz];exact T6.hts 187 5 rfl
  have hsT:T6.ts 187=some o.esz:=by rw [hz];rfl
  have hj:((k:Int)+1)=((k+1:Nat):Int):=by omega
  (repeat' (first | refine EvOps.nil ?_ | (apply R.move;exact rfl) | (apply R.assign;exact rfl) | refine Ev.seq ?_ | refine Ev.region ?_ | refine thenQ.normal ?_ | fail))
  apply R.lenM T6 (o:=o);exact rfl;exact rfl;exact hg;exact (by omega)
  skip
  apply R.slice
  ·exact rfl
  ·exact rfl
  ·exact rfl
  ·exact rfl
  ·show sliceP C0.P h 175 (.mref id ep 0 len) (some (.int .i64 (k:Int))) (some (.int .i64 ((k:Int)+1))) (some (.int .i64 (len:Int)))=some .any
   rw [hj]
   exact slice3_m hu hsz hg (by omega) (by omega) (by omega) hle
  (repeat' (first | refine EvOps.nil ?_ | (apply R.move;exact rfl) | (apply R.cmp;exact rfl;exact rfl;exact rfl;all_goals intro hc;all_goals (try (exfalso;omega))) | refine Ev.seq ?_ | refine Ev.region ?_ | (apply Ev.condB;exact rfl) | refine Ev.skip ?_ | refine thenQ.normal ?_ | fail))
  apply R.lenM T6 (o:=o);exact rfl;exact rfl;exact hg;exact (by omega)
  (repeat' (first | refine EvOps.nil ?_ | (apply R.assign;exact rfl) | refine Ev.seq ?_ | refine Ev.regionD ?_ | (apply D.move;exact rfl) | refine thenQ.normal ?_ | fail))
  apply D.slice
  ·exact hcl
  ·exact rfl
  ·exact hvis
  ·exact rfl
  ·exact rfl
  ·exact rfl
  ·exact rfl
  ·exact rfl
  ·exact rfl
  ·exact sliceHi_m (b:=k) (k:=.i64) hu hsz hg (by omega) hle
  (repeat' (first | (apply D.move;exact rfl) | fail))
  apply D.slice
  ·exact hcl
  ·exact rfl
  ·exact hvis
  ·exact rfl
  ·exact rfl
  ·exact rfl
  ·exact rfl
  ·exact rfl
  ·exact rfl
  ·show sliceP C0.P h 175 (.mref id ep 0 len) (some (.int .i64 ((k:Int)+1))) none none=_
   rw [hj]
   exact sliceLo_m hu hsz hg (by omega) hle
  rw [if_neg (by omega)]
  apply D.appendE2 T6 (ys:=ys) (o:=o) (sz:=4)
  ·exact rfl
  ·exact rfl
  ·exact rfl
  ·exact rfl
  ·exact rfl
  ·exact rfl
  ·exact rfl
  ·exact rfl
  ·exact (by decide)
  ·exact rfl
  ·exact rfl
  ·split
   ·have:ys=[]:=List.eq_nil_of_length_eq_zero (by omega)
    rw [this];rfl
   ·simp only [elems,hg]
    rw [if_pos (by omega),hys]
  ·exact hyok
  ·intro hne
   rw [if_neg (fun hh=>hne (List.eq_nil_of_length_eq_zero (by omega)))]
   simp [sameObj]
  ·exact hg
  ·exact hm
  ·exact hz
  ·omega
  have hkl:k+ys.length=len - 1:=by omega
  have hh2:h.set id {o with es:=o.es.take k++ys++o.es.drop (k+ys.length) }=h.set id {o with es:=es2 }:=by rw [hes2]
  have hep:=(getM_some hg).2.1
  have hg2:getM (h.set id {o with es:=es2 }) id ep=some {o with es:=es2 }:=getM_at (List.getElem?_set_self hlt) hep (by show o.mu≠.x;rw [hm];simp)
  refine EvD.heap hh2 ?_
  rw [hkl]
  clear hh2
  (repeat' (first | (apply R.move;exact rfl) | refine Ev.seq ?_ | refine Ev.region ?_ | refine EvD.nil ?_ | (apply D.assign;exact rfl) | refine thenQ.normal ?_ | fail))
  apply R.lenM T6 (o:={o with es:=es2 });exact rfl;exact rfl;exact hg2;exact (by show 0+(len - 1)≤es2.length;omega)
  (repeat' (first | (apply R.move;exact rfl) | fail))
  apply R.slice
  ·exact rfl
  ·exact rfl
  ·exact rfl
  ·exact rfl
  ·exact sliceBeyond_m (o:={o with es:=es2 }) (len:=len - 1) (a:=len - 1) (b:=len) (k:=.i64) (k':=.i64) hu hsz hg2 (Nat.le_refl _) (by omega) (by show len≤es2.length;omega)
  by_cases h1:len - 1=0
  ·rw [if_pos h1]
   have hlen1:len=1:=by omega
   subst hlen1
   apply R.clearM T6 (o:={o with es:=es2 }) (z:=.agg [.int .i64 0,.str ByteArray.empty,.int .i64 0,.snap true [],.int .i64 0])
   ·exact rfl
   ·exact rfl
   ·exact hsT
   ·exact rfl
   ·show 5=o.esz;omega
   ·rfl
   ·exact hg2
   ·exact hm
   ·show 0+1≤es2.length;omega
   (repeat' (first | refine EvOps.nil ?_ | (apply R.move;exact rfl) | (apply R.assign;exact rfl) | refine Ev.seq ?_ | refine Ev.region ?_ | refine Ev.ret ?_ | refine thenQ.normal ?_ | (apply bodyQ.ret;exact rfl) | fail))
   exact ⟨rfl,by rw [List.set_set]⟩
  ·rw [if_neg h1]
   have h2:len - (len - 1)=1:=by omega
   rw [h2]
   apply R.clearM T6 (o:={o with es:=es2 }) (z:=.agg [.int .i64 0,.str ByteArray.empty,.int .i64 0,.snap true [],.int .i64 0])
   ·exact rfl
   ·exact rfl
   ·exact hsT
   ·exact rfl
   ·show 5=o.esz;omega
   ·rfl
   ·exact hg2
   ·exact hm
   ·show len - 1+1≤es2.length;omega
   (repeat' (first | refine EvOps.nil ?_ | (apply R.move;exact rfl) | (apply R.assign;exact rfl) | refine Ev.seq ?_ | refine Ev.region ?_ | refine Ev.ret ?_ | refine thenQ.normal ?_ | (apply bodyQ.ret;exact rfl) | fail))
   exact ⟨rfl,by rw [List.set_set]⟩
theorem delete_sim:SimRun C0.P 352 deletePrim:=by
 intro args h r h' e w F β vs H ha
 unfold deletePrim at e
 split at e
 ·rename_i id ep len i j
  split at e
  ·rename_i o hg
   split at e
   ·rename_i hc
    obtain ⟨hm,hz,hle,hi0,rfl,hi,hn,hok,hcl⟩:=hc
    obtain ⟨rfl,rfl⟩:=Prod.mk.inj (Option.some.inj e)
    obtain ⟨k,rfl⟩:=Int.eq_ofNat_of_zero_le hi0
    have hk:k<len:=by omega
    obtain ⟨es3,l3,t3,f3⟩:=del_ev 0 hg hm hz hle hk hn hok hcl
    unfold FnEv at f3
    obtain ⟨r3,h3,⟨rfl,rfl⟩,n0,hn0⟩:=f3
    obtain ⟨g1,g2,g3⟩:=getM_some hg
    have hlt:=lt_of_some g1
    refine (S0 n0 _ (.inr (c0_open rfl)) _ h _ _ (hn0 n0 (Nat.le_refl _)) w F β vs H ha).mono ?_
    rintro en w' ⟨v,β1,rfl,q1,q2,q3,_⟩
    have eo:(h.set id {o with es:=es3 })[id]?=some {o with es:=es3 }:=List.getElem?_set_self hlt
    obtain ⟨bc,hb⟩:=beta_at q2.len eo
    have hz':0<({o with es:=es3 }:AObj).esz:=by show 0<o.esz;omega
    obtain ⟨_,_,_,k2,_⟩:=(q2.obj id _ bc eo hb (by show o.mu≠.x;rw [hm];simp)).c hz'
    have hes':((o.es.take len).take k++(o.es.take len).drop (k+1)).length=len - 1:=by simp;omega
    have rs:=q2.reshape eo hb hm ((o.es.take len).take k++(o.es.take len).drop (k+1)) (ep+1) (by show o.ep<ep+1;omega) (by rw [hes'];simp only at k2;omega) (fun i e he=>by
     left
     show es3[i]?=some e
     rw [← t3] at he
     rw [List.getElem?_take] at he
     split at he
     ·exact he
     ·cases he)
    have hset:(h.set id {o with es:=es3 }).set id { ({o with es:=es3 }:AObj) with es:=(o.es.take len).take k++(o.es.take len).drop (k+1),ep:=ep+1 }=h.set id {o with ep:=ep+1,es:=(o.es.take len).take (Int.toNat (k:Int))++(o.es.take len).drop (Int.toNat (k:Int)+1) }:=by
     rw [List.set_set];rfl
    have vr:=VRel.reshape (A:=Av F (h.set id {o with ep:=ep+1,es:=(o.es.take len).take (Int.toNat (k:Int))++(o.es.take len).drop (Int.toNat (k:Int)+1) }) β1) eo hb hm q1 g2 (by show len - 1≤es3.length;omega) ((o.es.take len).take k++(o.es.take len).drop (k+1)) (ep+1)
    rw [hset] at rs vr
    exact ⟨v,β1,rfl,vr,rs.1,q3.trans rs.2,fun hh=>by omega⟩
   ·cases e
  ·cases e
 ·cases e
end Zero
end Go.Pm
end
section
set_option maxRecDepth 100000
set_option maxHeartbeats 4000000
namespace Go.Pm
open Go.Proofs
variable {w:World} {F:Nat→Prop} {β:List (Nat × Nat)} {h:AHeap}
theorem R.appendMm {C:Cfg} (T:Tab C.P) {ops:Array Oper} {d:Nat} {ty:TypeId} {pos:String} {af:Array Edge} {r:List Oper} {ρ:Nat→PV} {L:List (Nat × PV)} {Q:St→Prop} {st xt el el':TypeId} {sz by' id ep len:Nat} {z:PV} {full:Bool} {ys:List PV} {o:AObj} {x y:Operand} (hx:evL L x=some (.mref id ep 0 len)) (hyy:evL L y=some (.snap full ys)) (hk:T.kd st=some (.sl el)) (hk':T.kd xt=some (.sl el')) (hs:T.ts el=some (sz+1)) (hb:T.tb el=some by') (hz:T.tz el=some z) (hby:by'≤1000) (hl:(cells z).length=sz+1) (ho:(cells z).all oneC=true)
  (hy:esOk (sz+1) ys) (hne:ys.isEmpty=false) (hn:len+ys.length<1000000000) (hg:getM h id ep=some o) (hm:o.mu=.m) (hz':o.esz=sz+1) (hle:len≤o.es.length)
  (kk:EvOps C ops r ⟨al ((d,.mref id (ep+1) 0 (len+ys.length))::L) ρ,h.set id {o with ep:=ep+1,es:=o.es.take len++ys }⟩ Q) :
  EvOps C ops (⟨some d,.call ⟨.builtin .append,#[x,y],#[st,xt]⟩,ty,pos,af,none⟩::r) ⟨al L ρ,h⟩ Q:=by
 refine EvOps.valL (fun run=>?_) kk
 have hap:=appendP_m T (full:=full) hk hk' hs hb hz hby hl ho hy hne hn hg hm hz' hle
 simp only [opVal,builtinP,List.map_cons,List.map_nil,evL_ev hx,evL_ev hyy,hap]
theorem sliceLo_s {P:Program} {t el:TypeId} {fl:Bool} {sz:Nat} {k:IntKind} (hu:P.underlying t=some (.slice el)) (hs:tsize P el=some sz):sliceP P h t (.snap fl []) (some (.int k 0)) none none=some (.snap fl []):=by
 simp [sliceP,hu,hs,boundP]
attribute [local irreducible] thenQ blockQ loopQ bodyQ Ev EvOps CallEv FnEv EvD
theorem okV_esOk {sz:Nat} {e:PV} (h:okV sz e=true):esOk sz [e]:=by
 unfold okV at h
 simp only [Bool.and_eq_true] at h
 unfold esOk
 simp only [List.all_cons,List.all_nil,Bool.and_true,Bool.and_eq_true]
 exact ⟨h.1.2,h.2⟩
namespace Zero
theorem insNil_ev {h:AHeap} {fl:Bool} {e:PV} (he:okV 5 e=true):FnEv C0 351 [.snap true [],.int .i64 0,.snap fl [e]] h (fun r h'=>r=.mref h.length 0 0 1∧h'=h++[⟨.m,0,5,[e]⟩]):=by
 refine FnEv.bodyL Tryz.func351 rfl ?_
 have hu:C0.P.underlying 175=some (.slice 187):=kd_sl (T6.hkd 175 _ rfl)
 have hl1:([e]:List PV).length=1:=rfl
 (repeat' (first | refine EvOps.nil ?_ | (apply R.move;exact rfl) | (apply R.assign;exact rfl) | refine Ev.seq ?_ | refine Ev.region ?_ | refine thenQ.normal ?_ | fail))
 apply R.slice
 ·exact rfl
 ·exact rfl
 ·exact rfl
 ·exact rfl
 ·exact sliceLo_s hu (T6.hts 187 5 rfl)
 (repeat' (first | refine EvOps.nil ?_ | (apply R.move;exact rfl) | (apply R.assign;exact rfl) | (apply R.cmp;exact rfl;exact rfl;exact rfl;all_goals intro hc;all_goals (try (exfalso;omega))) | (apply R.lenS T6;exact rfl;exact rfl) | refine Ev.seq ?_ | refine Ev.region ?_ | (apply Ev.condB;exact rfl) | refine Ev.skip ?_ | refine thenQ.normal ?_ | fail))
 all_goals try (exfalso;revert hc;decide)
 all_goals (
  apply R.appendS1 T6;exact rfl;exact rfl;exact rfl;exact rfl;exact rfl;exact rfl;exact rfl;exact (by decide);exact rfl;exact rfl;exact okV_esOk he;exact (by simp);exact (by show 1<_;decide)
  (repeat' (first | refine EvOps.nil ?_ | (apply R.assign;exact rfl) | refine Ev.ret ?_ | refine thenQ.normal ?_ | refine thenQ.ret ?_ | (apply bodyQ.ret;exact rfl) | fail))
  exact ⟨rfl,rfl⟩)
theorem insEnd_ev {h:AHeap} {fl:Bool} {e:PV} {id ep len:Nat} {o:AObj} (he:okV 5 e=true) (hg:getM h id ep=some o) (hm:o.mu=.m) (hz:o.esz=5) (hle:len≤o.es.length) (hn:len<100000000) :
  FnEv C0 351 [.mref id ep 0 len,.int .i64 (len:Int),.snap fl [e]] h (fun r h'=>r=.mref id (ep+1) 0 (len+1)∧h'=h.set id {o with ep:=ep+1,es:=o.es.take len++[e] }):=by
 refine FnEv.bodyL Tryz.func351 rfl ?_
 have hu:C0.P.underlying 175=some (.slice 187):=kd_sl (T6.hkd 175 _ rfl)
 have hl1:([e]:List PV).length=1:=rfl
 have hsz:tsize C0.P 187=some o.esz:=by rw [hz];exact T6.hts 187 5 rfl
 (repeat' (first | refine EvOps.nil ?_ | (apply R.move;exact rfl) | (apply R.assign;exact rfl) | refine Ev.seq ?_ | refine Ev.region ?_ | refine thenQ.normal ?_ | fail))
 apply R.slice
 ·exact rfl
 ·exact rfl
 ·exact rfl
 ·exact rfl
 ·exact sliceLo_m hu hsz hg (Nat.le_refl _) hle
 (repeat' (first | refine EvOps.nil ?_ | (apply R.move;exact rfl) | (apply R.assign;exact rfl) | (apply R.cmp;exact rfl;exact rfl;exact rfl;all_goals intro hc;all_goals (try (exfalso;omega))) | (apply R.lenS T6;exact rfl;exact rfl) | refine Ev.seq ?_ | refine Ev.region ?_ | (apply Ev.condB;exact rfl) | refine Ev.skip ?_ | refine thenQ.normal ?_ | fail))
 all_goals try (exfalso;revert hc;decide)
 all_goals (
  apply R.lenM T6 (o:=o);exact rfl;exact rfl;exact hg;exact (by omega)
  (repeat' (first | refine EvOps.nil ?_ | (apply R.move;exact rfl) | (apply R.assign;exact rfl) | (apply R.cmp;exact rfl;exact rfl;exact rfl;all_goals intro hc;all_goals (try (exfalso;omega))) | refine Ev.seq ?_ | refine Ev.region ?_ | (apply Ev.condB;exact rfl) | refine thenQ.normal ?_ | fail))
  apply R.appendMm T6 (o:=o);exact rfl;exact rfl;exact rfl;exact rfl;exact rfl;exact rfl;exact rfl;exact (by decide);exact rfl;exact rfl;exact okV_esOk he;exact rfl;exact (by show len+1<_;omega);exact hg;exact hm;exact hz;exact hle
  (repeat' (first | refine EvOps.nil ?_ | (apply R.assign;exact rfl) | refine Ev.ret ?_ | refine thenQ.normal ?_ | refine thenQ.ret ?_ | (apply bodyQ.ret;exact rfl) | fail))
  exact ⟨rfl,rfl⟩)
end Zero
end Go.Pm
end
section
set_option maxRecDepth 100000
set_option maxHeartbeats 4000000
namespace Go.Pm
open Go.Proofs
variable {w:World} {F:Nat→Prop} {β:List (Nat × Nat)} {h:AHeap}
theorem mref_at (H:HRel w F β h) {v:Value} {id ep off len:Nat} {o:AObj} (hv:VRel w (Av F h β) β h v (.mref id ep off len)) (hg:getM h id ep=some o) (hle:off+len≤o.es.length) :
  ∃ bc:Nat × Nat,β[id]?=some bc∧∃ cap,v=.slice (some ⟨bc.1,off * o.esz,none⟩) len cap∧off+cap=bc.2:=by
 obtain ⟨e1,e2,e3⟩:=getM_some hg
 obtain ⟨bc,hb⟩:=beta_at H.len e1
 obtain ⟨_,_,m3⟩:=hv.mref_inv
 exact ⟨bc,hb,m3 o bc e1 hb e3 e2 hle⟩
theorem cap_osim {P:Program} {a:Act} {ρ:Nat→PV} (H:HRel w F β h) (R:ERel w (Av F h β) β h a ρ) {t el:TypeId} {x:Operand} {id ep len:Nat} {o:AObj} {bc:Nat × Nat} (hu:P.underlying t=some (.slice el)) (hx:ev ρ x=.mref id ep 0 len) (hg:getM h id ep=some o) (hb:β[id]?=some bc) (hle:len≤o.es.length) :
  ∀ oo:Oper,oo.op=.call ⟨.builtin .cap,#[x],#[t]⟩→OSim P 2 w F β h (execOp a.eval oo) (.int .i64 (bc.2:Int)) h:=by
 intro oo ho
 have hv:=R.ev x
 rw [hx] at hv
 obtain ⟨bc',hb',cap,e1,e2⟩:=mref_at H hv hg (by omega)
 obtain rfl:=Option.some.inj (hb.symm.trans hb')
 have hc:cap=bc.2:=by omega
 subst hc
 obtain ⟨d,op,ty,pos,af,g⟩:=oo
 simp only at ho
 subst ho
 refine ⟨.int .i64 (bc.2:Int),w,β,.inl ?_,.val (.int _ _),H,Stp.refl w h β,fun _=>Grew.refl w⟩
 have h1:(Builtin.cap_ #[t] ty #[a.eval x]).run P w=.ok (.int .i64 (bc.2:Int)) w:=by
  simp [Builtin.cap_,e1,und_run hu,goInt]
 simp only [execOp,resolve,Sem.run_bind,Sem.run_pure,Result.andThen_ok,invoke,builtin]
 simp [h1]
theorem run_overlaps_apart2 {P:Program} (w:World) (tS tR e:TypeId) (ht:P.underlying tS=some (.slice e)) (size:Nat) (hz:∀ w,(Go.sizeOf e).run P w=.ok size w)
  (a b:Addr) (la ca lb cb:Nat) (hne:a.block≠b.block) (tA tB:TypeId) (kA kB:Nat)
  (hsa:w.shape? a.block=some (tA,kA)) (hsb:w.shape? b.block=some (tB,kB)) (hkA:kA≠0)
  (hfa:w.frozen? b=false) (hfe:w.frozen? { block:=b.block,off:=kB }=false) :
  (Extern.SlicesOverlaps.overlaps #[tS,tS] #[tR] #[.slice (some a) la ca,.slice (some b) lb cb]).run P w=.ok (.bool false) w:=by
 have hnb:(a.block != b.block)=true:=by simpa using hne
 have hnb':(a.block == b.block)=false:=by simpa using hne
 conv=>lhs;arg 2;whnf
 have he:(#[tS,tS]:Array TypeId)[0]=tS:=rfl
 have hbp:∀ {α β:Type} (x:α) (f:α→Sem β),(pure x:Sem α).bind f=f x:=fun _ _=>rfl
 by_cases h0:la=0∨lb=0∨size=0
 ·simp [Sem.run,Sem.bind,hbp,he,ht,hz,h0]
 ·cases kA with
  | zero=>exact absurd rfl hkA
  | succ kA=>
   cases h3:w.frozen? a <;> cases h4:w.frozen? { block:=a.block,off:=kA+1 } <;>
    simp [Sem.run,Sem.bind,hbp,he,ht,hz,h0,hnb,hnb',frozen,noView,viewAt,mayBeOne,stringish,shape,hsa,hsb,hfa,hfe,h3,h4]
theorem overlaps_osim {P:Program} {a:Act} {ρ:Nat→PV} (H:HRel w F β h) (R:ERel w (Av F h β) β h a ρ) {t el tR:TypeId} {sz:Nat} {x y:Operand} {f:FuncId} {fn:Func} {fl:Bool} {e1:PV} {id ep off n:Nat} {o:AObj}
  (hu:P.underlying t=some (.slice el)) (hs:tsize P el=some sz) (hx:ev ρ x=.snap fl [e1]) (hy:ev ρ y=.mref id ep off n) (hg:getM h id ep=some o) (hm:o.mu=.m) (hle:off+n≤o.es.length)
  (hf : P.funcs[f]? = some fn) (hname : (fn.name == "runtime.NumGoroutine") = false) (hbd : fn.body.isNone = true) (hn : Extern.findNext fn = none) (he : Extern.find fn = some (Extern.SlicesOverlaps.overlaps #[t, t] #[tR])) {ats : Array TypeId} :
  ∀ oo:Oper,oo.op=.call ⟨.value (.func f),#[x,y],ats⟩→OSim P 2 w F β h (execOp a.eval oo) (.bool false) h:=by
 intro oo ho
 have hvx:=R.ev x
 rw [hx] at hvx
 have hvy:=R.ev y
 rw [hy] at hvy
 obtain ⟨bc,hb,cap,ey,e2⟩:=mref_at H hvy hg hle
 obtain ⟨g1,g2,g3⟩:=getM_some hg
 obtain ⟨T,cs,k1,k2,k3,k4,k5⟩:=(H.obj id o bc g1 hb g3).c (hvy.mref_inv.2.1 o g1).2
 rcases hvx.snap_inv.snap_open with h0 | ⟨b,off',cap',sz',cvs,ex,hnA,hsz,hl1,hc1,hc2⟩
 ·cases h0
 have hbb:b≠bc.1:=fun hh=>hnA (.inr ⟨id,o,bc,g1,hb,hm,hh.symm⟩)
 have hcell:=hc1 0 0 (by simp) hsz
 obtain ⟨tA,kA,hsa,hkA⟩:∃ tA kA,w.shape? b=some (tA,kA)∧kA≠0:=by
  simp only [World.cell?] at hcell
  split at hcell
  ·rename_i c el0 fr hh
   split at hcell
   ·cases hcell
   ·refine ⟨el0,c.size,by simp [World.shape?,hh],?_⟩
    intro h0
    have:=(Array.getElem?_eq_some_iff.1 hcell).1
    omega
  ·cases hcell
 have hsb:w.shape? bc.1=some (T,cs.size):=by simp [World.shape?,k1]
 have hfb:∀ of,w.frozen? ⟨bc.1,of,none⟩=false:=fun of=>by simp [World.frozen?,k1]
 have hov:=run_overlaps_apart2 (P:=P) w t tR el hu sz (fun w=>tsize_run hs w) ⟨b,off',none⟩ ⟨bc.1,off * o.esz,none⟩ 1 cap' n cap hbb tA T kA cs.size hsa hsb hkA (hfb _) (hfb _)
 obtain ⟨d,op,ty,pos,af,g⟩:=oo
 simp only at ho
 subst ho
 refine ⟨.bool false,w,β,.inl ?_,.val (.bool _),H,Stp.refl w h β,fun _=>Grew.refl w⟩
 have hc:=run_callFunc_extern hf hname hbd hn he #[a.eval x,a.eval y] w
 rw [ex,ey] at hc
 rw [show ([e1]:List PV).length=1 from rfl] at hc
 rw [hov] at hc
 have hfv:a.eval (.func f)=.func (.func f) #[] #[]:=rfl
 simp only [execOp,resolve,hfv,Deferred.ofValue,Sem.run_bind,Sem.run_pure,Result.andThen_ok,invoke]
 simp only [Array.append_empty,List.map_toArray,List.map_cons,List.map_nil,ex,ey]
 exact hc
theorem append_osim {P:Program} {a:Act} {ρ:Nat→PV} (H:HRel w F β h) (R:ERel w (Av F h β) β h a ρ) {st xt el:TypeId} {k:IntKind} {sz by' n:Nat} {z:PV} {x y:Operand} {id ep len:Nat} {o:AObj} {bc:Nat × Nat}
  (hu:P.underlying st=some (.slice el)) (hu2:P.underlying xt=some (.int k)) (hs:tsize P el=some sz) (hpos:0<sz) (hb:tbytes P el=some by') (hby:by'≤1000) (hz:tzero P el=some z) (hl:(cells z).length=sz) (hone:(cells z).all oneC=true)
  (hx:ev ρ x=.mref id ep 0 len) (hy:ev ρ y=.int k (n:Int)) (hg:getM h id ep=some o) (hbc:β[id]?=some bc) (hle:len≤o.es.length) (hsz:o.esz=sz) (hroom:bc.2<len+n) (hn:len+n<1000000000) :
  ∀ oo:Oper,oo.op=.call ⟨.builtin .append,#[x,y],#[st,xt]⟩→OSim P 2 w F β h (execOp a.eval oo) (.mref h.length 0 0 (len+n)) (h++[⟨.m,0,sz,o.es.take len++List.replicate n z⟩]):=by
 intro oo ho
 obtain ⟨d,op,ty,pos,af,g⟩:=oo
 simp only at ho
 subst ho
 have hvx:=R.ev x
 rw [hx] at hvx
 have hvy:=R.ev y
 rw [hy] at hvy
 obtain ⟨bc',hb',cap,ex,e2⟩:=mref_at H hvx hg (by omega)
 obtain rfl:=Option.some.inj (hbc.symm.trans hb')
 have hcap:cap=bc.2:=by omega
 subst hcap
 obtain ⟨g1,g2,g3⟩:=getM_some hg
 obtain ⟨T,cs0,k1,k2,k3,k4,k5⟩:=(H.obj id o bc g1 hbc g3).c (hvx.mref_inv.2.1 o g1).2
 have main:Sim P 2 w F β h (Builtin.append_ #[st,xt] ty #[a.eval x,a.eval y]) (.mref h.length 0 0 (len+n)) (h++[⟨.m,0,sz,o.es.take len++List.replicate n z⟩]):=by
  have hyl:(List.replicate n z).length=n:=List.length_replicate
  have hall:(List.replicate n z).all (fun v=>decide ((Pm.cells v).length=sz) && (Pm.cells v).all oneC)=true:=by
   rw [List.all_eq_true]
   intro v hv
   obtain rfl:=List.eq_of_mem_replicate hv
   rw [hl,hone];simp
  have happ:appendee P h z xt (.int k (n:Int))=some (List.replicate n z):=by
   simp only [appendee,hu2]
   rw [if_pos (by omega)]
   simp
  obtain ⟨vz,z1,z2⟩:=tzero_run2 (P:=P) hz
  obtain ⟨zb,d',a1,a2,news,a3,a4,a5,a6⟩:=appendee_run (st:=st) (vz:=vz) H hs hb hz hpos (by omega) hvy happ hall
  rw [hyl] at a5 a6
  have zsz:vz.cells.size=sz:=by rw [((z2 w (Av F h β) β h).cells hone).1];exact hl
  have hes:elems h (.mref id ep 0 len)=some ((o.es.drop 0).take len):=by simp only [elems,hg];rw [if_pos (by omega)]
  have htl:((o.es.drop 0).take len).length=len:=by simp;omega
  obtain ⟨a',cap',ev',_,cs,f1,f2⟩:=elems_flat (P:=P) (sz:=sz) H hvx hes (fun y hy=>by
   obtain ⟨k,hk⟩:=List.getElem?_of_mem hy
   rw [List.getElem?_take] at hk
   split at hk
   ·simp at hk;rw [← hsz];exact (k5 k y hk).1
   ·cases hk)
  simp only [List.drop_zero] at f1 htl f2
  have hbig2:len+n≤17592186044416:=by omega
  have hbig:(len+n) * by'≤17592186044416:=by
   have:(len+n) * by'≤1000000000 * 1000:=Nat.mul_le_mul (by omega) hby
   omega
  obtain ⟨c,c1,hrun⟩:=append_grow (P:=P) (w:=w) (ty:=ty) (ts:=#[st,xt]) (args:=#[a.eval x,a.eval y]) (olds:=cs) (sLen:=len) (sCap:=bc.2) (base:=some ⟨bc.1,0 * o.esz,none⟩) rfl rfl (by rw [ex];rfl) rfl hu hs a1 a2 hb (by omega) z1 a5 a6 (fun w' hw'=>by
   have:=f2 w' hw' len (by omega)
   rw [List.take_of_length_le (by rw [f1.1,htl];exact Nat.le_refl _)] at this
   rw [← ex]
   exact this) (by omega) hbig hbig2
  have hfl:=f1.append a3
  have arr:cs.toArray++news.toArray++Builtin.zeroCells vz.cells (c - (len+n))=(cs++news++(Builtin.zeroCells vz.cells (c - (len+n))).toList).toArray:=by apply Array.ext';simp
  have arrsz:c * sz≤(cs.toArray++news.toArray++Builtin.zeroCells vz.cells (c - (len+n))).size:=by
   simp only [Array.size_append,List.size_toArray,size_zeroCells,zsz,f1.1,a3.1,htl,hyl,← Nat.add_mul]
   rw [show len+n+(c - (len+n))=c by omega]
   exact Nat.le_refl _
  obtain ⟨HH,S⟩:=HRel.new H (w':=w.drew.alloc (.cells (cs.toArray++news.toArray++Builtin.zeroCells vz.cells (c - (len+n))) el)) el
   (cs.toArray++news.toArray++Builtin.zeroCells vz.cells (c - (len+n))) { mu:=.m,ep:=0,esz:=sz,es:=o.es.take len++List.replicate n z } c rfl rfl rfl rfl rfl (by simp;omega)
   arrsz hpos (fun i e he=>by
    rw [arr]
    exact hfl.obj (rest:=(Builtin.zeroCells vz.cells (c - (len+n))).toList) i e he)
  exact ⟨_,_,_,hrun,H.mrefNew,HH,S,fun hh=>by omega⟩
 obtain ⟨v,w',β',r1,r2,r3,r4,r5⟩:=main
 refine ⟨v,w',β',.inl ?_,r2,r3,r4,r5⟩
 simp only [execOp,resolve,Sem.run_bind,Sem.run_pure,Result.andThen_ok,invoke,builtin]
 simp only [List.map_toArray,List.map_cons,List.map_nil,r1,Result.andThen_ok]
theorem HRel.setNew {w w':World} {F:Nat→Prop} {β:List (Nat × Nat)} {h:AHeap} (H:HRel w F β h) {id:Nat} {o:AObj} {bc:Nat × Nat} (eo:h[id]?=some o) (eb:β[id]?=some bc) (em:o.mu=.m)
  (T:TypeId) (cs:Array Value) (es':List PV) (ep':Nat) (bc':Nat × Nat)
  (hsz:w.heap.size≤w'.heap.size) (hat:w'.heap[bc'.1]?=some (.cells cs T (0,0))) (hother:∀ b,b<w.heap.size→w'.heap[b]?=w.heap[b]?)
  (hge:w.heap.size≤bc'.1) (hlt:o.ep<ep') (ho:w'.os=w.os) (ht:w'.tape=w.tape) (hu:w'.output=w.output)
  (h1:es'.length≤bc'.2) (h2:bc'.2 * o.esz≤cs.size)
  (h4:∀ (i:Nat) (e:PV),es'[i]?=some e→(cells e).length=o.esz∧∀ (j:Nat) (p:PV),(cells e)[j]?=some p→∃ v:Value,cs[i * o.esz+j]?=some v∧VRel w' (Av F (h.set id {o with es:=es',ep:=ep' }) (β.set id bc')) (β.set id bc') (h.set id {o with es:=es',ep:=ep' }) v p)
  (hd:w.drawn≤w'.drawn:=by first | exact Nat.le_refl _ | exact Nat.le_succ _) (hz0:0<o.esz:=by first | assumption | omega) :
  HRel w' F (β.set id bc') (h.set id {o with es:=es',ep:=ep' })∧Stp w h β w' (h.set id {o with es:=es',ep:=ep' }) (β.set id bc'):=by
 have hlen:=H.len
 have hid:=lt_of_some eo
 have hesz:0<o.esz:=hz0
 have hself:(h.set id {o with es:=es',ep:=ep' })[id]?=some {o with es:=es',ep:=ep' }:=by simp [hid]
 have bself:(β.set id bc')[id]?=some bc':=by simp [hlen,hid]
 have hoth:∀ k,k≠id→(h.set id {o with es:=es',ep:=ep' })[k]?=h[k]?:=fun k hk=>List.getElem?_set_ne (Ne.symm hk)
 have both:∀ k,k≠id→(β.set id bc')[k]?=β[k]?:=fun k hk=>List.getElem?_set_ne (Ne.symm hk)
 have hs:Stp w h β w' (h.set id {o with es:=es',ep:=ep' }) (β.set id bc'):=by
  refine ⟨hsz,by simp,fun b hb hm=>hother b hb,?_,?_,?_,ho,ht,hu,hd⟩
  ·rintro b hb ⟨k,o',c',e1,e2,e3,rfl⟩
   by_cases hk:k=id
   ·subst hk
    rw [bself] at e2
    obtain rfl:=Option.some.inj e2
    omega
   ·rw [hoth k hk] at e1;rw [both k hk] at e2
    exact ⟨k,o',c',e1,e2,e3,rfl⟩
  ·intro k o' c' e1 e2 e3
   by_cases hk:k=id
   ·subst hk
    rw [eo] at e1;rw [eb] at e2
    obtain rfl:=Option.some.inj e1
    obtain rfl:=Option.some.inj e2
    exact ⟨_,bc',hself,bself,by rw [em];simp,⟨Nat.le_of_lt hlt,fun h=>h⟩,fun e=>by simp at e;omega⟩
   ·exact ⟨o',c',by rw [hoth k hk];exact e1,by rw [both k hk];exact e2,e3,⟨Nat.le_refl _,fun h=>h⟩,fun _=>⟨rfl,fun _=>rfl,rfl⟩⟩
  ·intro k o' e1 e2
   have hk:k≠id:=by
    rintro rfl
    rw [eo] at e1
    obtain rfl:=Option.some.inj e1
    exact e2 em
   exact ⟨by rw [hoth k hk];exact e1,both k hk⟩
 refine ⟨⟨by simp [hlen],fun b hb=>Nat.lt_of_lt_of_le (H.fin b hb) hsz,?_,?_,?_⟩,hs⟩
 ·intro k o' c' e1 e2 e3
  by_cases hk:k=id
  ·subst hk
   rw [hself] at e1;rw [bself] at e2
   obtain rfl:=Option.some.inj e1
   obtain rfl:=Option.some.inj e2
   exact .inl ⟨T,cs,hat,h1,h2,hesz,h4⟩
  ·rw [hoth k hk] at e1;rw [both k hk] at e2
   have r:=H.obj k o' c' e1 e2 e3
   exact ORel.mono hs (hother _ r.lt) r
 ·intro k k' o1 o2 bc1 bc2 hne e1 e2 e3 e4 m1 m2
  by_cases hk:k=id
  ·subst hk
   have hk':k'≠k:=Ne.symm hne
   rw [hoth k' hk'] at e2;rw [both k' hk'] at e4;rw [bself] at e3
   obtain rfl:=Option.some.inj e3
   have:=(H.obj k' o2 bc2 e2 e4 m2).lt
   omega
  ·rw [hoth k hk] at e1;rw [both k hk] at e3
   by_cases hk':k'=id
   ·subst hk'
    rw [bself] at e4
    obtain rfl:=Option.some.inj e4
    have:=Mb.lt H ⟨k,o1,bc1,e1,e3,m1,rfl⟩
    omega
   ·rw [hoth k' hk'] at e2;rw [both k' hk'] at e4
    exact H.dist k k' o1 o2 bc1 bc2 hne e1 e2 e3 e4 m1 m2
 ·intro k o' c' e1 e2 e3
  by_cases hk:k=id
  ·subst hk
   rw [bself] at e2
   obtain rfl:=Option.some.inj e2
   intro hf;have:=H.fin _ hf;omega
  ·rw [hoth k hk] at e1;rw [both k hk] at e2
   exact H.out k o' c' e1 e2 e3
end Go.Pm
end
section
set_option maxRecDepth 100000
set_option maxHeartbeats 4000000
namespace Go.Pm
open Go.Proofs
section
variable {w:World} {F:Nat→Prop} {β:List (Nat × Nat)}
variable {C:Cfg} (T:Tab C.P)
variable {ops:Array Oper} {i:Nat} {d:Nat} {ty:TypeId} {pos:String} {af:Array Edge} {r:List Oper} {ρ:Nat→PV} {L:List (Nat × PV)} {h:AHeap} {Q:St→Prop}
theorem sliceLo_m1 {P:Program} {t el:TypeId} {id ep len a:Nat} {o:AObj} {k:IntKind} (hu:P.underlying t=some (.slice el)) (hs:tsize P el=some o.esz) (hg:getM h id ep=some o) (ha:a<len) (hle:len≤o.es.length) :
  sliceP P h t (.mref id ep 0 len) (some (.int k (a:Int))) none none=some (.mref id ep a (len - a)):=by
 rw [sliceLo_m hu hs hg (by omega) hle]
 by_cases h0:a=0
 ·subst h0;simp
 ·rw [if_neg h0,if_neg (by omega)]
theorem copyE2 {dt el:TypeId} {sz id ep off len:Nat} {u:PV} {ys:List PV} {o:AObj} (hk:T.kd dt=some (.sl el)) (hs:T.ts el=some sz) (hu:elems h u=some ys) (hg:getM h id ep=some o) (hm:o.mu=.m) (hz:o.esz=sz) (hle:off+len≤o.es.length)
  (hy:ys.all (fun v=>decide ((cells v).length=sz))=true) (hy1:(ys.take (min ys.length len)).all (fun v=>decide ((cells v).length=sz) && (cells v).all oneC)=true) :
  copyP C.P 2 h dt (.mref id ep off len) u=some (.int .i64 (min ys.length len:Nat),h.set id {o with es:=o.es.take off++ys.take (min ys.length len)++o.es.drop (off+min ys.length len) }):=by
 unfold copyP
 rw [kd_sl (T.hkd _ _ hk),hu]
 simp only [T.hts _ _ hs,hg]
 rw [if_pos ⟨Nat.le_refl _,hm,hz.symm,hle,hy,hy1⟩]
theorem R.copy {dt xt el:TypeId} {sz id ep off len:Nat} {u:PV} {ys:List PV} {o:AObj} {x y:Operand} (hx:evL L x=some (.mref id ep off len)) (hyy:evL L y=some u) (hk:T.kd dt=some (.sl el)) (hs:T.ts el=some sz) (hu:elems h u=some ys) (hg:getM h id ep=some o) (hm:o.mu=.m) (hz:o.esz=sz) (hle:off+len≤o.es.length)
  (hy:ys.all (fun v=>decide ((cells v).length=sz))=true) (hy1:(ys.take (min ys.length len)).all (fun v=>decide ((cells v).length=sz) && (cells v).all oneC)=true)
  (kk:EvOps C ops r ⟨al ((d,.int .i64 (min ys.length len:Nat))::L) ρ,h.set id {o with es:=o.es.take off++ys.take (min ys.length len)++o.es.drop (off+min ys.length len) }⟩ Q) :
  EvOps C ops (⟨some d,.call ⟨.builtin .copy,#[x,y],#[dt,xt]⟩,ty,pos,af,none⟩::r) ⟨al L ρ,h⟩ Q:=by
 refine EvOps.valL (fun run=>?_) kk
 have hap:=copyE2 T hk hs hu hg hm hz hle hy hy1
 simp only [opVal,builtinP,List.map_cons,List.map_nil,evL_ev hx,evL_ev hyy,hap]
theorem D.copy {dt xt el:TypeId} {sz id ep off len L0:Nat} {own:List Nat} {u:PV} {ys:List PV} {o:AObj} {x y:Operand} (hl2:level ops (before ops) i=2) (hx:evL L x=some (.mref id ep off len)) (hyy:evL L y=some u) (hk:T.kd dt=some (.sl el)) (hs:T.ts el=some sz) (hu:elems h u=some ys) (hg:getM h id ep=some o) (hm:o.mu=.m) (hz:o.esz=sz) (hle:off+len≤o.es.length)
  (hy:ys.all (fun v=>decide ((cells v).length=sz))=true) (hy1:(ys.take (min ys.length len)).all (fun v=>decide ((cells v).length=sz) && (cells v).all oneC)=true)
  (kk:EvD C ops (i+1) r ⟨⟨al ((d,.int .i64 (min ys.length len:Nat))::L) ρ,h.set id {o with es:=o.es.take off++ys.take (min ys.length len)++o.es.drop (off+min ys.length len) }⟩,(h.set id {o with es:=o.es.take off++ys.take (min ys.length len)++o.es.drop (off+min ys.length len) }).length,[]⟩ Q) :
  EvD C ops i (⟨some d,.call ⟨.builtin .copy,#[x,y],#[dt,xt]⟩,ty,pos,af,none⟩::r) ⟨⟨al L ρ,h⟩,L0,own⟩ Q:=by
 refine EvD.two rfl hl2 ⟨0,fun n _=>?_⟩ kk
 have hap:=copyE2 T hk hs hu hg hm hz hle hy hy1
 simp only [opVal,builtinP,List.map_cons,List.map_nil,evL_ev hx,evL_ev hyy,hap]
end
def tlC:Nat→Code→Code
 | 0,c=>c
 | n+1,.seq _ b=>tlC n b
 | _,c=>c
attribute [local irreducible] thenQ blockQ loopQ bodyQ Ev EvOps CallEv FnEv EvD
namespace Zero
noncomputable def c63:Code:=match Tryz.f351.body with | some c=>c | none=>.skip
theorem body63:Tryz.f351.body=some c63:=rfl
variable {w:World} {F:Nat→Prop} {β:List (Nat × Nat)}
theorem ins_pre {h:AHeap} {id ep len i N:Nat} {o:AObj} {fl:Bool} {e:PV} {a:Act} {Q:Exit→Act→World→Prop} (hg:getM h id ep=some o) (hz:o.esz=5) (hle:len≤o.es.length) (hi:i<len) (hn:len<100000000) (hN:N=Tryz.f351.ntmps)
  (RR:SR N w F β ⟨envOf [.mref id ep 0 len,.int .i64 (i:Int),.snap fl [e]],h⟩ a)
  (k:∀ a' w' β' ρ',SR N w' F β' ⟨al [(0,.mref id ep 0 len),(1,.int .i64 (i:Int)),(2,.snap fl [e]),(7,.int .i64 1),(8,.int .i64 (len:Int))] ρ',h⟩ a'→Stp w h β w' h β'→(tlC 6 c63).wp C0.P Q a' w'):c63.wp C0.P Q a w:=by
 subst hN
 have hu:C0.P.underlying 175=some (.slice 187):=kd_sl (T6.hkd 175 _ rfl)
 have hsz:tsize C0.P 187=some o.esz:=by rw [hz];exact T6.hts 187 5 rfl
 have hl1:([e]:List PV).length=1:=rfl
 refine wp_seq ?_
 refine ev_wp K0 mixed0 S0 (M:=fun ex s'=>ex=.normal∧∃ ρ',s'=⟨al [(0,.mref id ep 0 len),(1,.int .i64 (i:Int)),(2,.snap fl [e])] ρ',h⟩) rfl ?_ RR ?_
 ·rw [envOf_al]
  (repeat' (first | refine EvOps.nil ?_ | (apply R.assign;exact rfl) | refine Ev.region ?_ | fail))
  exact ⟨rfl,_,St.keep ⟨rfl,rfl,rfl,trivial⟩⟩
 rintro ex s' a1 w1 β1 ⟨rfl,ρ1,rfl⟩ R1 S1
 refine wp_seq ?_
 refine ev_wp K0 mixed0 S0 (M:=fun ex s'=>ex=.normal∧∃ ρ',s'=⟨al [(0,.mref id ep 0 len),(1,.int .i64 (i:Int)),(2,.snap fl [e])] ρ',h⟩) rfl ?_ R1 ?_
 ·(repeat' (first | (apply R.move;exact rfl) | refine Ev.region ?_ | fail))
  apply R.slice
  ·exact rfl
  ·exact rfl
  ·exact rfl
  ·exact rfl
  ·exact sliceLo_m1 hu hsz hg hi hle
  (repeat' (first | refine EvOps.nil ?_ | fail))
  exact ⟨rfl,_,St.keep ⟨rfl,rfl,rfl,trivial⟩⟩
 rintro ex s' a2 w2 β2 ⟨rfl,ρ2,rfl⟩ R2 S2
 refine wp_seq ?_
 refine ev_wp K0 mixed0 S0 (M:=fun ex s'=>ex=.normal∧∃ ρ',s'=⟨al [(0,.mref id ep 0 len),(1,.int .i64 (i:Int)),(2,.snap fl [e]),(7,.int .i64 1)] ρ',h⟩) rfl ?_ R2 ?_
 ·(repeat' (first | refine EvOps.nil ?_ | (apply R.move;exact rfl) | (apply R.assign;exact rfl) | (apply R.lenS T6;exact rfl;exact rfl) | refine Ev.region ?_ | fail))
  exact ⟨rfl,_,St.keep ⟨rfl,rfl,rfl,rfl,trivial⟩⟩
 rintro ex s' a3 w3 β3 ⟨rfl,ρ3,rfl⟩ R3 S3
 refine wp_seq ?_
 refine ev_wp K0 mixed0 S0 (M:=fun ex s'=>ex=.normal∧∃ ρ',s'=⟨al [(0,.mref id ep 0 len),(1,.int .i64 (i:Int)),(2,.snap fl [e]),(7,.int .i64 1)] ρ',h⟩) rfl ?_ R3 ?_
 ·(repeat' (first | refine EvOps.nil ?_ | (apply R.move;exact rfl) | (apply R.cmp;exact rfl;exact rfl;exact rfl;all_goals intro hc;all_goals (try (exfalso;omega))) | refine Ev.seq ?_ | refine Ev.region ?_ | (apply Ev.condB;exact rfl) | refine Ev.skip ?_ | refine thenQ.normal ?_ | fail))
  exact ⟨rfl,_,St.keep ⟨rfl,rfl,rfl,rfl,trivial⟩⟩
 rintro ex s' a4 w4 β4 ⟨rfl,ρ4,rfl⟩ R4 S4
 refine wp_seq ?_
 refine ev_wp K0 mixed0 S0 (M:=fun ex s'=>ex=.normal∧∃ ρ',s'=⟨al [(0,.mref id ep 0 len),(1,.int .i64 (i:Int)),(2,.snap fl [e]),(7,.int .i64 1),(8,.int .i64 (len:Int))] ρ',h⟩) rfl ?_ R4 ?_
 ·(repeat' (first | (apply R.move;exact rfl) | refine Ev.region ?_ | fail))
  apply R.lenM T6 (o:=o);exact rfl;exact rfl;exact hg;exact (by omega)
  (repeat' (first | refine EvOps.nil ?_ | (apply R.assign;exact rfl) | fail))
  exact ⟨rfl,_,St.keep ⟨rfl,rfl,rfl,rfl,rfl,trivial⟩⟩
 rintro ex s' a5 w5 β5 ⟨rfl,ρ5,rfl⟩ R5 S5
 refine wp_seq ?_
 refine ev_wp K0 mixed0 S0 (M:=fun ex s'=>ex=.normal∧∃ ρ',s'=⟨al [(0,.mref id ep 0 len),(1,.int .i64 (i:Int)),(2,.snap fl [e]),(7,.int .i64 1),(8,.int .i64 (len:Int))] ρ',h⟩) rfl ?_ R5 ?_
 ·(repeat' (first | refine EvOps.nil ?_ | (apply R.move;exact rfl) | (apply R.cmp;exact rfl;exact rfl;exact rfl;all_goals intro hc;all_goals (try (exfalso;omega))) | refine Ev.seq ?_ | refine Ev.region ?_ | (apply Ev.condB;exact rfl) | refine Ev.skip ?_ | refine thenQ.normal ?_ | fail))
  exact ⟨rfl,_,St.keep ⟨rfl,rfl,rfl,rfl,rfl,trivial⟩⟩
 rintro ex s' a6 w6 β6 ⟨rfl,ρ6,rfl⟩ R6 S6
 exact k _ _ _ _ R6 (((((S1.trans S2).trans S3).trans S4).trans S5).trans S6)
end Zero
end Go.Pm
end
section
set_option maxRecDepth 100000
set_option maxHeartbeats 4000000
namespace Go.Pm
open Go.Proofs
theorem shift_list {pre:List PV} {X e:PV} {i:Nat} (hi:i<pre.length) {ys es2:List PV} (hys:ys=((pre++[X]).drop i).take (pre.length+1 - i)) (hes2:es2=(pre++[X]).take (i+1)++ys.take (pre.length - i)++(pre++[X]).drop (i+1+(pre.length - i))) :
  ys.take (pre.length - i)=pre.drop i∧es2.length=pre.length+1∧es2.take i++[e]++es2.drop (i+1)=pre.take i++[e]++pre.drop i:=by
 have h1:ys.take (pre.length - i)=pre.drop i:=by
  rw [hys,List.take_take,List.drop_append_of_le_length (by omega)]
  rw [List.take_append_of_le_length (by simp;omega)]
  rw [List.take_of_length_le (by simp;omega)]
 have h2:(pre++[X]).drop (i+1+(pre.length - i))=[]:=List.drop_eq_nil_of_le (by simp;omega)
 have h3:es2=(pre++[X]).take (i+1)++pre.drop i:=by rw [hes2,h1,h2];simp
 have h4:((pre++[X]).take (i+1)).length=i+1:=by simp;omega
 refine ⟨h1,by rw [h3];simp;omega,?_⟩
 congr 1
 ·congr 1
  rw [h3,List.take_append_of_le_length (by omega),List.take_take,List.take_append_of_le_length (by omega)]
  congr 1;omega
 ·rw [h3,List.drop_append_of_le_length (by omega),List.drop_eq_nil_of_le (by omega),List.nil_append]
attribute [local irreducible] thenQ blockQ loopQ bodyQ Ev EvOps CallEv FnEv EvD
namespace Zero
variable {w:World} {F:Nat→Prop} {β:List (Nat × Nat)}
theorem ins_shift {h:AHeap} {id ep len i:Nat} {o:AObj} {fl:Bool} {e X:PV} {pre:List PV} {vs:List Value} (H:HRel w F β h) (ha:L2 (VRel w (Av F h β) β h) vs [.mref id ep 0 len,.int .i64 (i:Int),.snap fl [e]])
  (hg:getM h id ep=some o) (hm:o.mu=.m) (hz:o.esz=5) (hes:o.es=pre++[X]) (hpl:pre.length=len) (hi:i<len) (hn:len<100000000) (hok:pre.all (okV 5)=true) (hX:(cells X).length=5) (he:okV 5 e=true) (hcl:closedH h=true) :
  CSim C0.P 2 w F β h 351 vs (.mref id ep 0 (len+1)) (h.set id {o with es:=pre.take i++[e]++pre.drop i }):=by
 have hel:o.es.length=len+1:=by rw [hes];simp [hpl]
 have hu:C0.P.underlying 175=some (.slice 187):=kd_sl (T6.hkd 175 _ rfl)
 have hs63:tsize C0.P 187=some 5:=T6.hts 187 5 rfl
 have hsz:tsize C0.P 187=some o.esz:=by rw [hz];exact hs63
 obtain ⟨g1,g2,g3⟩:=getM_some hg
 have hlt:=lt_of_some g1
 obtain ⟨bc,hbc⟩:=beta_at H.len g1
 obtain ⟨T,cs,k1,k2,k3,k4,k5⟩:=(H.obj id o bc g1 hbc g3).c (by omega)
 have hcap:len+1≤bc.2:=by omega
 have hvis:visible h id=true:=by unfold visible;rw [g1];simp [hm]
 have hj:((len:Int)+1)=((len+1:Nat):Int):=by omega
 have hj2:((i:Int)+1)=((i+1:Nat):Int):=by omega
 have hb':∀ {w':World} {β':List (Nat × Nat)},Stp w h β w' h β'→β'[id]?=some bc:=by
  intro w' β' S
  obtain ⟨o',bc',f1,f2,f3,f4,f5⟩:=S.refs id o bc g1 hbc g3
  obtain rfl:=Option.some.inj (g1.symm.trans f1)
  rw [f2,(f5 rfl).2.2]
 refine csim_wp (P:=C0.P) (c:=c63) Tryz.func351 body63 H ha (fun a RR=>ins_pre hg hz (by omega) hi hn rfl RR (fun a1 w1 β1 ρ1 R1 S1=>?_))
 refine wp_seq ?_
 refine wp_seq ?_
 apply region_special K0 S0 (pre:=[_,_,_,_]) (post:=[_]) (R:=R1) (M:=fun s'=>∃ ρ',s'=⟨al ((28,.int .i64 ((len:Int)+1))::(29,.mref id ep 0 len)::[(0,.mref id ep 0 len),(1,.int .i64 (i:Int)),(2,.snap fl [e]),(7,.int .i64 1),(8,.int .i64 (len:Int))]) ρ',h⟩) (M2:=fun s'=>∃ ρ',s'=⟨al ((31,.bool false)::[(0,.mref id ep 0 len),(1,.int .i64 (i:Int)),(2,.snap fl [e]),(7,.int .i64 1),(8,.int .i64 (len:Int))]) ρ',h⟩)
 ·rfl
 ·rfl
 ·(repeat' (first | refine EvOps.nil ?_ | (apply R.move;exact rfl) | (apply R.arith;exact rfl;exact rfl;exact rfl;exact (wrapI (by omega) (by omega))) | fail))
  exact ⟨_,St.keep ⟨rfl,rfl,rfl,rfl,rfl,rfl,rfl,trivial⟩⟩
 ·rintro s1 a2 w2 β2 ⟨ρ2,rfl⟩ R2 S2
  refine ⟨.int .i64 (bc.2:Int),h,cap_osim (t:=175) (x:=.tmp 29) R2.hr R2.er hu (lk_al (t:=29) rfl ρ2) hg (hb' (S1.trans S2)) (by omega) _ rfl,?_⟩
  show EvOps C0 _ _ ⟨updO (al _ ρ2) (some 30) (.int .i64 (bc.2:Int)),h⟩ _
  rw [al_cons]
  (repeat' (first | refine EvOps.nil ?_ | (apply R.cmp;exact rfl;exact rfl;exact rfl;all_goals intro hc;all_goals (try (exfalso;omega))) | fail))
  exact ⟨_,St.keep ⟨rfl,rfl,rfl,rfl,rfl,rfl,trivial⟩⟩
 rintro s3 a3 w3 β3 ⟨ρ3,rfl⟩ R3 S3
 refine ev_wp K0 mixed0 S0 (M:=fun ex s'=>ex=.normal∧∃ ρ',s'=⟨al [(0,.mref id ep 0 len),(1,.int .i64 (i:Int)),(2,.snap fl [e]),(7,.int .i64 1),(8,.int .i64 (len:Int))] ρ',h⟩) rfl ?_ R3 ?_
 ·(repeat' (first | (apply Ev.condB;exact rfl) | refine Ev.skip ?_ | fail))
  exact ⟨rfl,_,St.keep ⟨rfl,rfl,rfl,rfl,rfl,trivial⟩⟩
 rintro ex s' a4 w4 β4 ⟨rfl,ρ4,rfl⟩ R4 S4
 refine wp_seq ?_
 refine ev_wp K0 mixed0 S0 (M:=fun ex s'=>ex=.normal∧∃ ρ',s'=⟨al [(0,.mref id ep 0 (len+1)),(1,.int .i64 (i:Int)),(2,.snap fl [e]),(7,.int .i64 1)] ρ',h⟩) rfl ?_ R4 ?_
 ·(repeat' (first | (apply R.move;exact rfl) | (apply R.arith;exact rfl;exact rfl;exact rfl;exact (wrapI (by omega) (by omega))) | refine Ev.region ?_ | fail))
  apply R.slice
  ·exact rfl
  ·exact rfl
  ·exact rfl
  ·exact rfl
  ·show sliceP C0.P h 175 (.mref id ep 0 len) none (some (.int .i64 ((len:Int)+1))) none=_
   rw [hj]
   exact sliceBeyond0_m hu hsz hg (by omega) (by omega)
  (repeat' (first | refine EvOps.nil ?_ | (apply R.assign;exact rfl) | fail))
  exact ⟨rfl,_,St.keep ⟨rfl,rfl,rfl,rfl,trivial⟩⟩
 rintro ex s' a5 w5 β5 ⟨rfl,ρ5,rfl⟩ R5 S5
 refine wp_seq ?_
 refine wp_seq ?_
 apply region_special K0 S0 (pre:=[_,_,_,_,_,_]) (post:=[_]) (R:=R5) (M:=fun s'=>∃ ρ',s'=⟨al ((61,.snap fl [e])::(66,.mref id ep (i+1) (len+1 - (i+1)))::[(0,.mref id ep 0 (len+1)),(1,.int .i64 (i:Int)),(2,.snap fl [e]),(7,.int .i64 1)]) ρ',h⟩) (M2:=fun s'=>∃ ρ',s'=⟨al ((68,.bool true)::[(0,.mref id ep 0 (len+1)),(1,.int .i64 (i:Int)),(2,.snap fl [e]),(7,.int .i64 1)]) ρ',h⟩)
 ·rfl
 ·rfl
 ·(repeat' (first | (apply R.move;exact rfl) | (apply R.arith;exact rfl;exact rfl;exact rfl;exact (wrapI (by omega) (by omega))) | fail))
  apply R.slice
  ·exact rfl
  ·exact rfl
  ·exact rfl
  ·exact rfl
  ·show sliceP C0.P h 175 (.mref id ep 0 (len+1)) (some (.int .i64 ((i:Int)+1))) none none=_
   rw [hj2]
   exact sliceLo_m1 hu hsz hg (by omega) (by omega)
  (repeat' (first | refine EvOps.nil ?_ | fail))
  exact ⟨_,St.keep ⟨rfl,rfl,rfl,rfl,rfl,rfl,trivial⟩⟩
 ·rintro s1 a6 w6 β6 ⟨ρ6,rfl⟩ R6 S6
  refine ⟨.bool false,h,overlaps_osim (t:=175) (tR:=4) (x:=.tmp 61) (y:=.tmp 66) (f:=379) R6.hr R6.er hu hs63 (lk_al (t:=61) rfl ρ6) (lk_al (t:=66) rfl ρ6) hg hm (by omega) Tryz.func379 (by kernel_rfl) (by kernel_rfl) (by kernel_rfl) (by kernel_rfl) _ rfl,?_⟩
  show EvOps C0 _ _ ⟨updO (al _ ρ6) (some 67) (.bool false),h⟩ _
  rw [al_cons]
  (repeat' (first | refine EvOps.nil ?_ | (apply R.not;exact rfl;exact rfl) | fail))
  exact ⟨_,St.keep ⟨rfl,rfl,rfl,rfl,rfl,trivial⟩⟩
 rintro s7 a7 w7 β7 ⟨ρ7,rfl⟩ R7 S7
 obtain ⟨ys,hys⟩:∃ ys,ys=((pre++[X]).drop i).take (pre.length+1 - i):=⟨_,rfl⟩
 obtain ⟨es2,hes2⟩:∃ es2,es2=(pre++[X]).take (i+1)++ys.take (pre.length - i)++(pre++[X]).drop (i+1+(pre.length - i)):=⟨_,rfl⟩
 obtain ⟨l1,l2,l3⟩:=shift_list (e:=e) (by omega) hys hes2
 rw [hpl] at l1 l2
 have hyl:ys.length=len+1 - i:=by rw [hys];simp;omega
 have hymem:∀ v∈ys,(cells v).length=5:=by
  intro v hv
  rw [hys] at hv
  have:=List.mem_of_mem_drop (List.mem_of_mem_take hv)
  rcases List.mem_append.1 this with hv | hv
  ·have:=List.all_eq_true.1 hok v hv
   unfold okV at this
   simp only [Bool.and_eq_true,decide_eq_true_eq] at this
   exact this.1.2
  ·obtain rfl:=List.mem_singleton.1 hv
   exact hX
 have he2:(cells e).length=5∧(cells e).all oneC=true:=by
  unfold okV at he
  simp only [Bool.and_eq_true,decide_eq_true_eq] at he
  exact ⟨he.1.2,he.2⟩
 have hmn:min ys.length (len+1 - (i+1))=len - i:=by omega
 have hh2:h.set id {o with es:=o.es.take (i+1)++ys.take (min ys.length (len+1 - (i+1)))++o.es.drop (i+1+min ys.length (len+1 - (i+1))) }=h.set id {o with es:=es2 }:=by
  rw [hmn,hes,hes2,hpl]
 have hg2:getM (h.set id {o with es:=es2 }) id ep=some {o with es:=es2 }:=getM_at (List.getElem?_set_self hlt) g2 (by show o.mu≠.x;rw [hm];simp)
 have hmn2:min ([e]:List PV).length (len+1 - i)=1:=by show min 1 _=1;omega
 have hfin:(h.set id {o with es:=es2 }).set id { ({o with es:=es2 }:AObj) with es:=es2.take i++[e].take (min ([e]:List PV).length (len+1 - i))++es2.drop (i+min ([e]:List PV).length (len+1 - i)) }=h.set id {o with es:=pre.take i++[e]++pre.drop i }:=by
  rw [List.set_set,hmn2,← l3];rfl
 refine ev_wp K0 mixed0 S0 (M:=fun ex s'=>ex=.ret∧∃ ρ',s'=⟨al [(6,.mref id ep 0 (len+1))] ρ',h.set id {o with es:=pre.take i++[e]++pre.drop i }⟩) rfl ?_ R7 ?_
 ·(repeat' (first | refine Ev.seq ?_ | refine Ev.regionD ?_ | (apply D.move;exact rfl) | (apply D.arith;exact rfl;exact rfl;exact rfl;exact (wrapI (by omega) (by omega))) | (apply Ev.condB;exact rfl) | fail))
  apply D.slice
  ·exact hcl
  ·exact rfl
  ·exact hvis
  ·exact rfl
  ·exact rfl
  ·exact rfl
  ·exact rfl
  ·exact rfl
  ·exact rfl
  ·show sliceP C0.P h 175 (.mref id ep 0 (len+1)) (some (.int .i64 ((i:Int)+1))) none none=_
   rw [hj2]
   exact sliceLo_m1 hu hsz hg (by omega) (by omega)
  (repeat' (first | (apply D.move;exact rfl) | fail))
  apply D.slice
  ·exact hcl
  ·exact rfl
  ·exact hvis
  ·exact rfl
  ·exact rfl
  ·exact rfl
  ·exact rfl
  ·exact rfl
  ·exact rfl
  ·exact sliceLo_m1 hu hsz hg (by omega) (by omega)
  apply D.copy T6 (ys:=ys) (o:=o) (sz:=5)
  ·exact rfl
  ·exact rfl
  ·exact rfl
  ·exact rfl
  ·exact rfl
  ·simp only [elems,hg]
   rw [if_pos (by omega),hes,hys,hpl]
  ·exact hg
  ·exact hm
  ·exact hz
  ·omega
  ·rw [List.all_eq_true]
   intro v hv
   simp [hymem v hv]
  ·rw [hmn,l1,List.all_eq_true]
   intro v hv
   have:=List.all_eq_true.1 hok v (List.mem_of_mem_drop hv)
   unfold okV at this
   simp only [Bool.and_eq_true] at this ⊢
   exact ⟨this.1.2,this.2⟩
  refine EvD.heap hh2 ?_
  (repeat' (first | (apply R.move;exact rfl) | refine Ev.seq ?_ | refine Ev.region ?_ | refine EvD.nil ?_ | refine thenQ.normal ?_ | fail))
  apply R.slice
  ·exact rfl
  ·exact rfl
  ·exact rfl
  ·exact rfl
  ·exact sliceLo_m1 (o:={o with es:=es2 }) hu hsz hg2 (by omega) (by show len+1≤es2.length;omega)
  (repeat' (first | (apply R.move;exact rfl) | fail))
  apply R.copy T6 (ys:=[e]) (o:={o with es:=es2 }) (sz:=5)
  ·exact rfl
  ·exact rfl
  ·exact rfl
  ·exact rfl
  ·exact rfl
  ·exact hg2
  ·exact hm
  ·exact hz
  ·show i+(len+1 - i)≤es2.length;omega
  ·simp [he2.1]
  ·simp only [hmn2,List.take_succ_cons,List.take_zero,List.all_cons,List.all_nil,he2.1,he2.2];rfl
  (repeat' (first | refine EvOps.nil ?_ | (apply R.move;exact rfl) | (apply R.assign;exact rfl) | refine Ev.seq ?_ | refine Ev.region ?_ | refine Ev.ret ?_ | refine thenQ.normal ?_ | fail))
  exact ⟨rfl,_,(congrArg (fun hh=>(⟨_,hh⟩:St)) hfin).trans (St.keep ⟨rfl,trivial⟩)⟩
 rintro ex s8 a8 w8 β8 ⟨rfl,ρ8,rfl⟩ R8 S8
 refine ⟨.inr rfl,_,β8,R8,(((((S1.trans S3).trans S4).trans S5).trans S7).trans S8),[.mref id ep 0 (len+1)],?_,fun u hu'=>⟨β8,hu',R8.hr,(((((S1.trans S3).trans S4).trans S5).trans S7).trans S8)⟩⟩
 ·exact resT_of (L:=[(6,.mref id ep 0 (len+1))]) rfl
 all_goals rfl
end Zero
end Go.Pm
end
section
set_option maxRecDepth 100000
set_option maxHeartbeats 4000000
namespace Go.Pm
open Go.Proofs
mutual
theorem visR_mono {f g:Nat→Bool} (hfg:∀ i,f i=true→g i=true):∀ p,visR f p=true→visR g p=true
 | .int ..,_ | .bool _,_ | .str _,_ | .nilp,_ | .nilf,_ | .nilm,_ | .snap ..,_ | .sptr _,_ | .undef,_ | .any,_=>rfl
 | .agg cs,h=>by simp only [visR] at h ⊢;exact visRs_mono hfg cs h
 | .tup cs,h=>by simp only [visR] at h ⊢;exact visRs_mono hfg cs h
 | .fn _ cs,h=>by simp only [visR] at h ⊢;exact visRs_mono hfg cs h
 | .bfn _ _ cs,h=>by simp only [visR] at h ⊢;exact visRs_mono hfg cs h
 | .mref ..,h=>by simp only [visR] at h ⊢;exact hfg _ h
 | .ptr ..,h=>by simp only [visR] at h ⊢;exact hfg _ h
 | .mapr _,h=>by simp only [visR] at h ⊢;exact hfg _ h
theorem visRs_mono {f g:Nat→Bool} (hfg:∀ i,f i=true→g i=true):∀ cs,visRs f cs=true→visRs g cs=true
 | [],_=>rfl
 | c::r,h=>by
  simp only [visRs,Bool.and_eq_true] at h ⊢
  exact ⟨visR_mono hfg c h.1,visRs_mono hfg r h.2⟩
end
theorem closed_mono {h h':AHeap} (hv:∀ i,visible h i=true→visible h' i=true) (ho:∀ o'∈h',o'.mu=.x∨visRs (visible h') o'.es=true∨∃ o∈h,o.es=o'.es∧(o.mu=.x→o'.mu=.x)) (hcl:closedH h=true):closedH h'=true:=by
 unfold closedH at hcl ⊢
 rw [List.all_eq_true] at hcl ⊢
 intro o' h1
 rcases ho o' h1 with h2 | h2 | ⟨o,h2,h3,h4⟩
 ·simp [h2]
 ·rw [h2];simp
 ·have:=hcl o h2
  simp only [Bool.or_eq_true,decide_eq_true_eq] at this ⊢
  rcases this with hh | hh
  ·exact .inl (h4 hh)
  ·exact .inr (by rw [← h3];exact visRs_mono hv _ hh)
theorem closed_lock {h:AHeap} (hcl:closedH h=true):closedH (h.map lock1)=true:=by
 refine closed_mono (h:=h) (fun i hi=>?_) (fun o' h1=>?_) hcl
 ·unfold visible at hi ⊢
  rw [List.getElem?_map]
  split at hi
  ·rename_i o ho
   rw [ho]
   simp only [Option.map_some,decide_eq_true_eq] at hi ⊢
   exact fun hh=>hi ((lock1_shape o).2.2.2.1.1 hh)
  ·cases hi
 ·obtain ⟨o,h2,rfl⟩:=List.mem_map.1 h1
  exact .inr (.inr ⟨o,h2,(lock1_shape o).2.2.1.symm,fun hh=>(lock1_shape o).2.2.2.1.2 hh⟩)
theorem closed_push {h:AHeap} {n sz:Nat} {es:List PV} (hv:isVals es=true) (hcl:closedH h=true):closedH (h++[⟨.m,n,sz,es⟩])=true:=by
 refine closed_mono (h:=h) (fun i hi=>?_) (fun o' h1=>?_) hcl
 ·unfold visible at hi ⊢
  split at hi
  ·rename_i o ho
   rw [List.getElem?_append_left (lt_of_some ho),ho]
   exact hi
  ·cases hi
 ·rcases List.mem_append.1 h1 with h1 | h1
  ·exact .inr (.inr ⟨o',h1,rfl,fun hh=>hh⟩)
  ·obtain rfl:=List.mem_singleton.1 h1
   exact .inr (.inl (vis_vals _ _ hv))
theorem grow_list {es:List PV} {Z e:PV} {i len:Nat} (hi:i<len) (hl:len≤es.length) {es1 es2 ys:List PV} (h1:es1=es.take i++List.replicate (len+1 - i) Z) (h2:es2=es1.take i++[e]++es1.drop (i+1)) (h3:ys=(es.drop i).take (len - i)) :
  es1.length=len+1∧es2.length=len+1∧ys.length=len - i∧ys=(es.take len).drop i∧es2.take (i+1)++ys++es2.drop (i+1+(len - i))=(es.take len).take i++[e]++(es.take len).drop i:=by
 have a1:es1.length=len+1:=by rw [h1];simp;omega
 have a2:es2.length=len+1:=by rw [h2];simp;omega
 have a3:ys.length=len - i:=by rw [h3];simp;omega
 have a4:ys=(es.take len).drop i:=by rw [h3,List.drop_take]
 refine ⟨a1,a2,a3,a4,?_⟩
 rw [List.drop_eq_nil_of_le (by omega),List.append_nil,a4]
 congr 1
 rw [h2,List.take_append_of_le_length (by simp;omega),List.take_of_length_le (by simp;exact Nat.min_le_left _ _)]
 congr 1
 rw [h1,List.take_append_of_le_length (by simp;omega),List.take_take,List.take_take]
 congr 1;omega
theorem at_push {h:AHeap} {o:AObj} (hm:o.mu≠.x):getM (h++[o]) h.length o.ep=some o:=getM_at (by simp) rfl hm
theorem at_old {h k:AHeap} {id ep:Nat} {o:AObj} (hg:getM h id ep=some o):getM (h++k) id ep=some o:=by
 obtain ⟨g1,g2,g3⟩:=getM_some hg
 exact getM_at (by rw [List.getElem?_append_left (lt_of_some g1)];exact g1) g2 g3
theorem set_push {h:AHeap} {o o':AObj}:(h++[o]).set h.length o'=h++[o']:=by
 rw [List.set_append_right _ _ (Nat.le_refl _)];simp
attribute [local irreducible] thenQ blockQ loopQ bodyQ Ev EvOps CallEv FnEv EvD
namespace Zero
variable {w:World} {F:Nat→Prop} {β:List (Nat × Nat)}
theorem ins_grow {h:AHeap} {id ep len i:Nat} {o:AObj} {bc:Nat × Nat} {fl:Bool} {e:PV} {vs:List Value} (H:HRel w F β h) (ha:L2 (VRel w (Av F h β) β h) vs [.mref id ep 0 len,.int .i64 (i:Int),.snap fl [e]])
  (hg:getM h id ep=some o) (hz:o.esz=5) (hle:len≤o.es.length) (hbc:β[id]?=some bc) (hcap:bc.2<len+1) (hi:i<len) (hn:len<100000000) (hok:(o.es.take len).all (okV 5)=true) (he:okV 5 e=true) (hcl:closedH h=true) :
  CSim C0.P 2 w F β h 351 vs (.mref h.length 0 0 (len+1)) (h++[⟨.m,0,5,(o.es.take len).take i++[e]++(o.es.take len).drop i⟩]):=by
 have hu:C0.P.underlying 175=some (.slice 187):=kd_sl (T6.hkd 175 _ rfl)
 have hs63:tsize C0.P 187=some 5:=T6.hts 187 5 rfl
 have hsz:tsize C0.P 187=some o.esz:=by rw [hz];exact hs63
 obtain ⟨g1,g2,g3⟩:=getM_some hg
 have hlt:=lt_of_some g1
 have hj:((i:Int)+1)=((i+1:Nat):Int):=by omega
 have hj3:((len:Int)+1 - (i:Int))=((len+1 - i:Nat):Int):=by omega
 have hin:i+(len+1 - i)=len+1:=by omega
 have hb':∀ {w':World} {β':List (Nat × Nat)},Stp w h β w' h β'→β'[id]?=some bc:=by
  intro w' β' S
  obtain ⟨o',bc',f1,f2,f3,f4,f5⟩:=S.refs id o bc g1 hbc g3
  obtain rfl:=Option.some.inj (g1.symm.trans f1)
  rw [f2,(f5 rfl).2.2]
 obtain ⟨es1,hes1⟩:∃ es1,es1=o.es.take i++List.replicate (len+1 - i) (.agg [.int .i64 0,.str ByteArray.empty,.int .i64 0,.snap true [],.int .i64 0]:PV):=⟨_,rfl⟩
 obtain ⟨es2,hes2⟩:∃ es2,es2=es1.take i++[e]++es1.drop (i+1):=⟨_,rfl⟩
 obtain ⟨ys,hys⟩:∃ ys,ys=(o.es.drop i).take (len - i):=⟨_,rfl⟩
 obtain ⟨l1,l2,l3,l4,l5⟩:=grow_list hi hle hes1 hes2 hys
 have he2:(cells e).length=5∧(cells e).all oneC=true∧isVal e=true:=by
  unfold okV at he
  simp only [Bool.and_eq_true,decide_eq_true_eq] at he
  exact ⟨he.1.2,he.2,he.1.1⟩
 have hyok:ys.all (okV 5)=true:=by
  rw [l4,List.all_eq_true]
  intro v hv
  exact List.all_eq_true.1 hok v (List.mem_of_mem_drop hv)
 have hv1:isVals es1=true:=by
  rw [hes1,isVals_eq,List.all_append,← isVals_eq]
  have:isVals (o.es.take i)=true:=by
   refine okV_vals (sz:=5) ?_
   rw [List.all_eq_true]
   intro v hv
   refine List.all_eq_true.1 hok v ?_
   have:o.es.take i=(o.es.take len).take i:=by rw [List.take_take];congr 1;omega
   rw [this] at hv
   exact List.mem_of_mem_take hv
  rw [this,Bool.true_and,List.all_eq_true]
  intro v hv
  obtain rfl:=List.eq_of_mem_replicate hv
  rfl
 have hv2:isVals es2=true:=by
  rw [isVals_eq,List.all_eq_true] at hv1 ⊢
  intro v hv
  rw [hes2] at hv
  rcases List.mem_append.1 hv with hv | hv
  ·rcases List.mem_append.1 hv with hv | hv
   ·exact hv1 v (List.mem_of_mem_take hv)
   ·obtain rfl:=List.mem_singleton.1 hv
    exact he2.2.2
  ·exact hv1 v (List.mem_of_mem_drop hv)
 have hcl2:closedH (h++[⟨.m,0,5,es2⟩])=true:=closed_push hv2 hcl
 have hgn:∀ es,getM (h++[⟨.m,0,5,es⟩]) h.length 0=some ⟨.m,0,5,es⟩:=fun es=>at_push (o:=⟨.m,0,5,es⟩) (by simp)
 have hgo:∀ es,getM (h++[⟨.m,0,5,es⟩]) id ep=some o:=fun es=>at_old hg
 have hvis:∀ es,visible (h++[⟨.m,0,5,es⟩]) id=true:=fun es=>by unfold visible;rw [List.getElem?_append_left hlt,g1];simpa using g3
 have hvisn:∀ es,visible (h++[⟨.m,0,5,es⟩]) h.length=true:=fun es=>by unfold visible;simp
 refine csim_wp (P:=C0.P) (c:=c63) Tryz.func351 body63 H ha (fun a RR=>ins_pre hg hz (by omega) hi hn rfl RR (fun a1 w1 β1 ρ1 R1 S1=>?_))
 refine wp_seq ?_
 refine wp_seq ?_
 apply region_special K0 S0 (pre:=[_,_,_,_]) (post:=[_]) (R:=R1) (M:=fun s'=>∃ ρ',s'=⟨al ((28,.int .i64 ((len:Int)+1))::(29,.mref id ep 0 len)::[(0,.mref id ep 0 len),(1,.int .i64 (i:Int)),(2,.snap fl [e]),(7,.int .i64 1),(8,.int .i64 (len:Int))]) ρ',h⟩) (M2:=fun s'=>∃ ρ',s'=⟨al ((31,.bool true)::[(0,.mref id ep 0 len),(1,.int .i64 (i:Int)),(2,.snap fl [e]),(7,.int .i64 1),(8,.int .i64 (len:Int))]) ρ',h⟩)
 ·rfl
 ·rfl
 ·(repeat' (first | refine EvOps.nil ?_ | (apply R.move;exact rfl) | (apply R.arith;exact rfl;exact rfl;exact rfl;exact (wrapI (by omega) (by omega))) | fail))
  exact ⟨_,St.keep ⟨rfl,rfl,rfl,rfl,rfl,rfl,rfl,trivial⟩⟩
 ·rintro s1 a2 w2 β2 ⟨ρ2,rfl⟩ R2 S2
  refine ⟨.int .i64 (bc.2:Int),h,cap_osim (t:=175) (x:=.tmp 29) R2.hr R2.er hu (lk_al (t:=29) rfl ρ2) hg (hb' (S1.trans S2)) (by omega) _ rfl,?_⟩
  show EvOps C0 _ _ ⟨updO (al _ ρ2) (some 30) (.int .i64 (bc.2:Int)),h⟩ _
  rw [al_cons]
  (repeat' (first | refine EvOps.nil ?_ | (apply R.cmp;exact rfl;exact rfl;exact rfl;all_goals intro hc;all_goals (try (exfalso;omega))) | fail))
  exact ⟨_,St.keep ⟨rfl,rfl,rfl,rfl,rfl,rfl,trivial⟩⟩
 rintro s3 a3 w3 β3 ⟨ρ3,rfl⟩ R3 S3
 have ht31:a3.eval (.tmp 31)=.bool true:=by
  have:=R3.er.ev (.tmp 31)
  rw [show ev (al ((31,PV.bool true)::[(0,.mref id ep 0 len),(1,.int .i64 (i:Int)),(2,.snap fl [e]),(7,.int .i64 1),(8,.int .i64 (len:Int))]) ρ3) (.tmp 31)=.bool true from lk_al (t:=31) rfl ρ3] at this
  exact this.bool_inv
 refine wp_cond_true ht31 ?_
 refine wp_seq ?_
 apply region_special K0 S0 (pre:=[_,_,_,_,_,_,_,_]) (post:=[_]) (R:=R3) (M:=fun s'=>∃ ρ',s'=⟨al ((34,.mref id ep 0 i)::(39,.int .i64 ((len:Int)+1 - (i:Int)))::[(0,.mref id ep 0 len),(1,.int .i64 (i:Int)),(2,.snap fl [e]),(7,.int .i64 1),(8,.int .i64 (len:Int))]) ρ',h⟩) (M2:=fun s'=>∃ ρ',s'=⟨al ((9,.mref h.length 0 0 (len+1))::[(0,.mref id ep 0 len),(1,.int .i64 (i:Int)),(2,.snap fl [e]),(7,.int .i64 1),(8,.int .i64 (len:Int))]) ρ',h++[⟨.m,0,5,es1⟩]⟩)
 case ho=>rfl
 case hg=>rfl
 ·(repeat' (first | (apply R.move;exact rfl) | fail))
  apply R.slice
  ·exact rfl
  ·exact rfl
  ·exact rfl
  ·exact rfl
  ·exact sliceHi_m hu hsz hg (by omega) hle
  (repeat' (first | refine EvOps.nil ?_ | (apply R.move;exact rfl) | (apply R.arith;exact rfl;exact rfl;exact rfl;exact (wrapI (by omega) (by omega))) | fail))
  exact ⟨_,St.keep ⟨rfl,rfl,rfl,rfl,rfl,rfl,rfl,trivial⟩⟩
 ·rintro s1 a4 w4 β4 ⟨ρ4,rfl⟩ R4 S4
  have os:=append_osim (P:=C0.P) (st:=175) (xt:=3) (el:=187) (x:=.tmp 34) (y:=.tmp 39) (k:=.i64) (n:=len+1 - i) (len:=i) R4.hr R4.er hu (kd_int (T6.hkd 3 _ rfl)) hs63 (by decide) (T6.htb 187 _ rfl) (by decide) (T6.htz 187 (.agg [.int .i64 0,.str ByteArray.empty,.int .i64 0,.snap true [],.int .i64 0]) rfl) rfl rfl (lk_al (t:=34) rfl ρ4) (by rw [← hj3];exact lk_al (t:=39) rfl ρ4) hg (hb' ((S1.trans S3).trans S4)) (by omega) hz (by omega) (by omega)
  rw [hin,← hes1] at os
  refine ⟨.mref h.length 0 0 (len+1),h++[⟨.m,0,5,es1⟩],os _ rfl,?_⟩
  show EvOps C0 _ _ ⟨updO (al _ ρ4) (some 40) (.mref h.length 0 0 (len+1)),_⟩ _
  rw [al_cons]
  (repeat' (first | refine EvOps.nil ?_ | (apply R.assign;exact rfl) | fail))
  exact ⟨_,St.keep ⟨rfl,rfl,rfl,rfl,rfl,rfl,trivial⟩⟩
 rintro s5 a5 w5 β5 ⟨ρ5,rfl⟩ R5 S5
 have hmn:min ([e]:List PV).length (len+1 - i)=1:=by show min 1 _=1;omega
 have hmn2:min ys.length (len+1 - (i+1))=len - i:=by omega
 have hyt:ys.take (len - i)=ys:=List.take_of_length_le (by omega)
 have hh2:(h++[⟨.m,0,5,es1⟩]:AHeap).set h.length { (⟨.m,0,5,es1⟩:AObj) with es:=es1.take i++[e].take (min ([e]:List PV).length (len+1 - i))++es1.drop (i+min ([e]:List PV).length (len+1 - i)) }=h++[⟨.m,0,5,es2⟩]:=by
  rw [hmn,set_push,hes2];rfl
 have hh3:(h++[⟨.m,0,5,es2⟩]:AHeap).set h.length { (⟨.m,0,5,es2⟩:AObj) with es:=es2.take (i+1)++ys.take (min ys.length (len+1 - (i+1)))++es2.drop (i+1+min ys.length (len+1 - (i+1))) }=h++[⟨.m,0,5,(o.es.take len).take i++[e]++(o.es.take len).drop i⟩]:=by
  rw [hmn2,set_push,hyt,l5]
 refine ev_wp K0 mixed0 S0 (M:=fun ex s'=>ex=.ret∧∃ ρ',s'=⟨al [(6,.mref h.length 0 0 (len+1))] ρ',h++[⟨.m,0,5,(o.es.take len).take i++[e]++(o.es.take len).drop i⟩]⟩) rfl ?_ R5 ?_
 ·(repeat' (first | (apply R.move;exact rfl) | refine Ev.seq ?_ | refine Ev.region ?_ | fail))
  apply R.slice
  ·exact rfl
  ·exact rfl
  ·exact rfl
  ·exact rfl
  ·exact sliceLo_m1 hu hs63 (hgn es1) (by omega) (by show len+1≤es1.length;omega)
  (repeat' (first | (apply R.move;exact rfl) | fail))
  apply R.copy T6 (ys:=[e]) (o:=⟨.m,0,5,es1⟩) (sz:=5)
  ·exact rfl
  ·exact rfl
  ·exact rfl
  ·exact rfl
  ·exact rfl
  ·exact hgn es1
  ·exact rfl
  ·exact rfl
  ·show i+(len+1 - i)≤es1.length;omega
  ·simp [he2.1]
  ·simp only [hmn,List.take_succ_cons,List.take_zero,List.all_cons,List.all_nil,he2.1,he2.2.1];rfl
  rw [hh2]
  (repeat' (first | refine EvOps.nil ?_ | refine Ev.seq ?_ | refine Ev.regionD ?_ | (apply D.move;exact rfl) | (apply D.arith;exact rfl;exact rfl;exact rfl;exact (wrapI (by omega) (by omega))) | refine thenQ.normal ?_ | fail))
  apply D.slice
  ·exact hcl2
  ·exact rfl
  ·exact hvisn es2
  ·exact rfl
  ·exact rfl
  ·exact rfl
  ·exact rfl
  ·exact rfl
  ·exact rfl
  ·show sliceP C0.P _ 175 (.mref h.length 0 0 (len+1)) (some (.int .i64 ((i:Int)+1))) none none=_
   rw [hj]
   exact sliceLo_m1 hu hs63 (hgn es2) (by omega) (by show len+1≤es2.length;omega)
  (repeat' (first | (apply D.move;exact rfl) | fail))
  apply D.slice
  ·exact hcl2
  ·exact rfl
  ·exact hvis es2
  ·exact rfl
  ·exact rfl
  ·exact rfl
  ·exact rfl
  ·exact rfl
  ·exact rfl
  ·exact sliceLo_m1 hu hsz (hgo es2) hi hle
  apply D.copy T6 (ys:=ys) (o:=⟨.m,0,5,es2⟩) (sz:=5)
  ·exact rfl
  ·exact rfl
  ·exact rfl
  ·exact rfl
  ·exact rfl
  ·simp only [elems,hgo]
   rw [if_pos (by omega),hys]
  ·exact hgn es2
  ·exact rfl
  ·exact rfl
  ·show i+1+(len+1 - (i+1))≤es2.length;omega
  ·rw [List.all_eq_true]
   intro v hv
   have:=List.all_eq_true.1 hyok v hv
   unfold okV at this
   simp only [Bool.and_eq_true] at this
   exact this.1.2
  ·rw [hmn2,hyt,List.all_eq_true]
   intro v hv
   have:=List.all_eq_true.1 hyok v hv
   unfold okV at this
   simp only [Bool.and_eq_true] at this ⊢
   exact ⟨this.1.2,this.2⟩
  refine EvD.heap hh3 ?_
  (repeat' (first | refine EvOps.nil ?_ | (apply R.move;exact rfl) | (apply R.assign;exact rfl) | refine Ev.seq ?_ | refine Ev.region ?_ | refine EvD.nil ?_ | refine Ev.ret ?_ | refine thenQ.normal ?_ | fail))
  exact ⟨rfl,_,St.keep ⟨rfl,trivial⟩⟩
 rintro ex s8 a8 w8 β8 ⟨rfl,ρ8,rfl⟩ R8 S8
 have SS:=(((S1.trans S3).trans S5).trans S8)
 refine ⟨.inr rfl,_,β8,R8,SS,[.mref h.length 0 0 (len+1)],?_,fun u hu'=>⟨β8,hu',R8.hr,SS⟩⟩
 ·exact resT_of (L:=[(6,.mref h.length 0 0 (len+1))]) rfl
 all_goals rfl
end Zero
end Go.Pm
end
section
set_option maxRecDepth 100000
set_option maxHeartbeats 4000000
namespace Go.Pm
open Go.Proofs
theorem visRs_app {f:Nat→Bool}:∀ {a b:List PV},visRs f a=true→visRs f b=true→visRs f (a++b)=true
 | [],_,_,hb=>hb
 | x::a,b,ha,hb=>by
  simp only [visRs,Bool.and_eq_true,List.cons_append] at ha ⊢
  exact ⟨ha.1,visRs_app ha.2 hb⟩
theorem celv {e:PV} (h:isVal e=true):∀ q∈cells e,isVal q=true:=by
 intro q hq
 cases e with
 | agg cs=>
  simp only [isVal] at h
  rw [isVals_eq] at h
  exact List.all_eq_true.1 h q hq
 | _=>simp only [cells,List.mem_singleton] at hq;subst hq;exact h
theorem VRel.valWeak {w:World} {A A':Nat→Prop} {β β':List (Nat × Nat)} {h h':AHeap} {v:Value} {p:PV} (hv:VRel w A β h v p) (hp:isVal p=true) (hA:∀ b,A' b→A b):VRel w A' β' h' v p:=
 .val ((hv.toS hp).weak hA)
attribute [local irreducible] thenQ blockQ loopQ bodyQ Ev EvOps CallEv FnEv EvD
namespace Zero
variable {w:World} {F:Nat→Prop} {β:List (Nat × Nat)}
theorem of_fnEv {h:AHeap} {f:FuncId} {args:List PV} {r:PV} {h':AHeap} (hm:C0.mode f=.opened) (e:FnEv C0 f args h (fun r' h2=>r'=r∧h2=h')) {vs:List Value} (H:HRel w F β h) (ha:L2 (VRel w (Av F h β) β h) vs args):CSim C0.P 2 w F β h f vs r h':=by
 unfold FnEv at e
 obtain ⟨r3,h3,⟨rfl,rfl⟩,n0,hn0⟩:=e
 exact S0 n0 _ (.inr hm) _ h _ _ (hn0 n0 (Nat.le_refl _)) w F β vs H ha
theorem l2_three {R R':Value→PV→Prop} {vs:List Value} {a b c a' b' c':PV} (h:L2 R vs [a,b,c]) (ha:∀ v,R v a→R' v a') (hb:∀ v,R v b→R' v b') (hc:∀ v,R v c→R' v c'):L2 R' vs [a',b',c']:=by
 refine ⟨h.1,fun j hj=>?_⟩
 have h0:=h.2 0 (by simp)
 have h1:=h.2 1 (by simp)
 have h2:=h.2 2 (by simp)
 match j,hj with
 | 0,_=>exact ha _ h0
 | 1,_=>exact hb _ h1
 | 2,_=>exact hc _ h2
 | j+3,hj=>simp at hj;omega
theorem insert_sim:SimRun C0.P 351 insertPrim:=by
 intro args h r h' e w F β vs H ha
 unfold insertPrim at e
 split at e
 ·rename_i i fl e1
  split at e
  ·rename_i hc
   obtain ⟨rfl,he⟩:=hc
   obtain ⟨rfl,rfl⟩:=Prod.mk.inj (Option.some.inj e)
   exact of_fnEv (c0_open rfl) (insNil_ev he) H ha
  ·cases e
 ·rename_i id ep len i fl e1
  split at e
  ·rename_i o hg
   split at e
   ·rename_i hc
    obtain ⟨hm,hz,hle,hi0,hi,hn,he,hok,hcl⟩:=hc
    obtain ⟨rfl,rfl⟩:=Prod.mk.inj (Option.some.inj e)
    obtain ⟨k,rfl⟩:=Int.eq_ofNat_of_zero_le hi0
    have hk:k≤len:=by omega
    rw [show Int.toNat (k:Int)=k from rfl]
    obtain ⟨g1,g2,g3⟩:=getM_some hg
    have hlt:=lt_of_some g1
    obtain ⟨bc,hbc⟩:=beta_at H.len g1
    have hpl:(o.es.take len).length=len:=by simp;omega
    by_cases hkl:k=len
    ·subst hkl
     have hfin:(o.es.take k).take k++[e1]++(o.es.take k).drop k=o.es.take k++[e1]:=by
      rw [List.take_take,Nat.min_self,List.drop_eq_nil_of_le (by omega),List.append_nil]
     rw [hfin]
     exact of_fnEv (c0_open rfl) (insEnd_ev he hg hm hz hle hn) H ha
    ·have hk':k<len:=by omega
     by_cases hroom:len+1≤bc.2
     ·-- there is room
      have hXc:(cells (PV.agg [.any,.any,.any,.any,.any])).length=5:=rfl
      obtain ⟨Hp,Sp⟩:=H.reshape g1 hbc hm (o.es.take len++[.agg [.any,.any,.any,.any,.any]]) (ep+1) (by omega) (by simp;omega) (fun i e he=>by
       rcases Nat.lt_or_ge i len with hil | hil
       ·left
        rw [List.getElem?_append_left (by omega),List.getElem?_take,if_pos hil] at he
        exact he
       ·right
        rw [List.getElem?_append_right (by omega)] at he
        obtain rfl:=List.mem_singleton.1 (List.mem_of_getElem? he)
        refine ⟨by rw [hXc,hz],fun p hp=>?_⟩
        simp only [cells] at hp
        simpa using hp)
      have hselfp:(h.set id {o with es:=o.es.take len++[.agg [.any,.any,.any,.any,.any]],ep:=ep+1 })[id]?=some {o with es:=o.es.take len++[.agg [.any,.any,.any,.any,.any]],ep:=ep+1 }:=List.getElem?_set_self hlt
      have hclp:closedH (h.set id {o with es:=o.es.take len++[.agg [.any,.any,.any,.any,.any]],ep:=ep+1 })=true:=by
       refine closed_mono (h:=h) (fun i hi=>?_) (fun o' h1=>?_) hcl
       ·unfold visible at hi ⊢
        by_cases hii:i=id
        ·subst hii
         rw [hselfp]
         simp [hm]
        ·rw [List.getElem?_set_ne (Ne.symm hii)];exact hi
       ·rcases List.mem_or_eq_of_mem_set h1 with h1 | rfl
        ·exact .inr (.inr ⟨o',h1,rfl,fun hh=>hh⟩)
        ·exact .inr (.inl (visRs_app (vis_vals _ _ (okV_vals hok)) rfl))
      have hap:L2 (VRel w (Av F (h.set id {o with es:=o.es.take len++[.agg [.any,.any,.any,.any,.any]],ep:=ep+1 }) β) β (h.set id {o with es:=o.es.take len++[.agg [.any,.any,.any,.any,.any]],ep:=ep+1 })) vs [.mref id (ep+1) 0 len,.int .i64 (k:Int),.snap fl [e1]]:=
       l2_three ha (fun v hv=>VRel.reshape g1 hbc hm hv g2 hle _ _) (fun v hv=>hv.mono Sp) (fun v hv=>hv.mono Sp)
      have cs:=ins_shift (o:={o with es:=o.es.take len++[.agg [.any,.any,.any,.any,.any]],ep:=ep+1 }) (X:=.agg [.any,.any,.any,.any,.any]) (pre:=o.es.take len) Hp hap (getM_at hselfp rfl (by show o.mu≠.x;rw [hm];simp)) hm hz rfl hpl hk' hn hok rfl he hclp
      refine cs.mono ?_
      rintro en w' ⟨v,β1,rfl,q1,q2,q3,_⟩
      rw [List.set_set] at q1 q2 q3
      exact ⟨v,β1,rfl,q1,q2,Sp.trans q3,fun hh=>by omega⟩
     ·-- all is made anew
      obtain ⟨p1,p2,p3,p4,p5,p6⟩:=lock1_shape o
      have gl:getM (h.map lock1) id ep=some (lock1 o):=getM_at (by rw [List.getElem?_map,g1];rfl) (by rw [p1];exact g2) (fun hh=>g3 (p4.1 hh))
      have hAl:∀ b,Av (Av F h β) (h.map lock1) β b→Av F h β b:=fun b hb=>hb.elim (fun hh=>hh) (fun hm=>absurd hm (lock_Mb h β b))
      have cs:=ins_grow (o:=lock1 o) (bc:=bc) H.lock (l2_three ha (fun v hv=>hv.alike (alike_lock h) hAl) (fun v hv=>hv.alike (alike_lock h) hAl) (fun v hv=>hv.alike (alike_lock h) hAl)) gl (by rw [p2];exact hz) (by rw [p3];exact hle) hbc (by omega) hk' hn (by rw [p3];exact hok) he (closed_lock hcl)
      rw [p3,List.length_map] at cs
      refine cs.mono ?_
      rintro en w' ⟨v,β1,rfl,q1,q2,q3,_⟩
      obtain ⟨es3,hes3⟩:∃ es3,es3=(o.es.take len).take k++[e1]++(o.es.take len).drop k:=⟨_,rfl⟩
      rw [← hes3] at q1 q2 q3 ⊢
      have hl3:es3.length=len+1:=by rw [hes3];simp;omega
      have hok3:es3.all (okV 5)=true:=by
       rw [List.all_eq_true] at hok ⊢
       intro x hx
       rw [hes3] at hx
       rcases List.mem_append.1 hx with hx | hx
       ·rcases List.mem_append.1 hx with hx | hx
        ·exact hok x (List.mem_of_mem_take hx)
        ·obtain rfl:=List.mem_singleton.1 hx
         exact he
       ·exact hok x (List.mem_of_mem_drop hx)
      have enew:(h.map lock1++[(⟨.m,0,5,es3⟩:AObj)])[h.length]?=some ⟨.m,0,5,es3⟩:=by
       rw [List.getElem?_append_right (by simp)];simp
      obtain ⟨bn,hbn⟩:=beta_at q2.len enew
      have mnew:Mb (h.map lock1++[⟨.m,0,5,es3⟩]) β1 bn.1:=⟨h.length,_,bn,enew,hbn,rfl,rfl⟩
      obtain ⟨T,cs0,k1,k2,k3,k4,k5⟩:=(q2.obj h.length _ bn enew hbn (by simp)).c (by simp)
      have hge:w.heap.size≤bn.1:=by
       rcases Nat.lt_or_ge bn.1 w.heap.size with hh | hh
       ·exact absurd (q3.shr bn.1 hh mnew) (lock_Mb h β bn.1)
       ·exact hh
      have hA:∀ b,Av F (h.set id {o with es:=es3,ep:=ep+1 }) (β.set id bn) b→Av (Av F h β) (h.map lock1++[⟨.m,0,5,es3⟩]) β1 b:=by
       rintro b (hb | ⟨id',o',bc',e1',e2',e3',e4'⟩)
       ·exact .inl (.inl hb)
       ·by_cases hid:id'=id
        ·subst hid
         rw [List.getElem?_set_self (by rw [H.len];exact hlt)] at e2'
         obtain rfl:=Option.some.inj e2'
         rw [← e4']
         exact .inr mnew
        ·rw [List.getElem?_set_ne (Ne.symm hid)] at e1' e2'
         exact .inl (.inr ⟨id',o',bc',e1',e2',e3',e4'⟩)
      obtain ⟨HH,SS⟩:=H.setNew (w':=w') g1 hbc hm T cs0 es3 (ep+1) bn q3.size k1 (fun b hb=>q3.keep b hb (lock_Mb h β b)) hge (by omega) q3.os q3.tape q3.output k2 (by rw [hz];exact k3) (fun i e hee=>by
       obtain ⟨m1,m2⟩:=k5 i e hee
       refine ⟨by rw [hz];exact m1,fun j p hp=>?_⟩
       obtain ⟨u,n1,n2⟩:=m2 j p hp
       have hv:isVal e=true:=by
        have:=List.all_eq_true.1 hok3 e (List.mem_of_getElem? hee)
        unfold okV at this
        simp only [Bool.and_eq_true] at this
        exact this.1.1
       exact ⟨u,by rw [hz];exact n1,n2.valWeak (celv hv p (List.mem_of_getElem? hp)) hA⟩) q3.drawn
      obtain ⟨_,_,m3⟩:=q1.mref_inv
      obtain ⟨cap,c1,c2⟩:=m3 _ bn enew hbn (by simp) rfl (by show 0+(len+1)≤es3.length;omega)
      refine ⟨v,β.set id bn,rfl,?_,HH,SS,fun hh=>by omega⟩
      refine .mref v id (ep+1) 0 (len+1) {o with es:=es3,ep:=ep+1 } bn ⟨_,_,_,c1⟩ (List.getElem?_set_self hlt) (List.getElem?_set_self (by rw [H.len];exact hlt)) (by show o.mu≠.x;rw [hm];simp) ⟨Nat.le_refl _,by show 0<o.esz;omega⟩ (fun _ _=>⟨cap,?_,c2⟩)
      rw [c1,Nat.zero_mul,Nat.zero_mul]
   ·cases e
  ·cases e
 ·cases e
end Zero
theorem clone_sim4:SimRun C.P 45 (clonePrim 4):=by
 intro args h r h' e w F β vs H ha
 unfold clonePrim at e
 split at e
 ·rename_i fl es
  split at e
  ·rename_i hem
   obtain ⟨rfl,rfl⟩:=Prod.mk.inj (Option.some.inj e)
   obtain rfl:es=[]:=by simpa using hem
   exact Zero.clone59 H ha rfl (by simp) (.inl ⟨rfl,rfl,rfl⟩)
  ·rename_i hem
   split at e
   ·rename_i hc
    obtain ⟨rfl,rfl⟩:=Prod.mk.inj (Option.some.inj e)
    exact Zero.clone59 H ha hc.1 hc.2 (.inr ⟨by simpa using hem,rfl,rfl⟩)
   ·cases e
 ·cases e
theorem clone_sim1:SimRun C.P 397 (clonePrim 1):=by
 intro args h r h' e w F β vs H ha
 unfold clonePrim at e
 split at e
 ·rename_i fl es
  split at e
  ·rename_i hem
   obtain ⟨rfl,rfl⟩:=Prod.mk.inj (Option.some.inj e)
   obtain rfl:es=[]:=by simpa using hem
   exact Zero.clone79 H ha rfl (by simp) (.inl ⟨rfl,rfl,rfl⟩)
  ·rename_i hem
   split at e
   ·rename_i hc
    obtain ⟨rfl,rfl⟩:=Prod.mk.inj (Option.some.inj e)
    exact Zero.clone79 H ha hc.1 hc.2 (.inr ⟨by simpa using hem,rfl,rfl⟩)
   ·cases e
 ·cases e
theorem cfgOk6:CfgOk C where
 enters f hf hne:=entersOk6 f (fun h=>hf h) hne
 primQ f g hh:=by
  have hm:mode06 f=.primQ g:=hh
  unfold mode06 at hm
  repeat' split at hm
  all_goals cases hm
 primL f g hh:=by
  have hm:mode06 f=.primL g:=hh
  unfold mode06 at hm
  split at hm
  ·cases hm
  split at hm
  ·cases hm
  split at hm
  ·rename_i hf
   subst hf
   obtain rfl:=Mode.primL.inj hm
   exact Zero.insert_sim
  split at hm
  ·rename_i hf
   subst hf
   obtain rfl:=Mode.primL.inj hm
   exact Zero.delete_sim
  split at hm
  ·rename_i hf
   subst hf
   obtain rfl:=Mode.primL.inj hm
   exact clone_sim4
  split at hm
  ·rename_i hf
   subst hf
   obtain rfl:=Mode.primL.inj hm
   exact clone_sim1
  repeat' split at hm
  all_goals cases hm
 ext:=extOk6
end Go.Pm
end
