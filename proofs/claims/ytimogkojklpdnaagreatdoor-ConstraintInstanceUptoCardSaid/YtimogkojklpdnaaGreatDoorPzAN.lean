/-
  A part of the library Pm and its contracts (joined by program): PmLinkI. Conditions: none.
-/
import Derived.Test.YtimogkojklpdnaaGreatDoorPzAH
import Derived.Test.YtimogkojklpdnaaGreatDoorPzAM
set_option linter.unusedVariables false
set_option linter.unusedSimpArgs false
section
set_option maxRecDepth 100000
set_option maxHeartbeats 2000000
namespace Go.Proofs.YtimogkojklpdnaaGreatDoor.Ci
open Go.ChangeShapes Go.WideShapes Go.ChangeAt Go.RowKit Go.Pm
theorem own:ownKnob Tryz.prog.godebug=none:=by kernel_rfl
theorem modeOf:Nine.C.mode 7=.pure:=rfl
theorem laid:laidOutB Tryz.prog=true:=by kernel_rfl
theorem contract (K:CfgOk Nine.C) (H:Type) (ec:TypeId × Value→H) (W:World) (base:Nat) (args:Array Value) (ds gs:List (DataW H)) (before:List MemPlace)
  (hval:∀ (j:Nat) t v,Tryz.f7.params[j]?=some t→args[j]?=some v→Value.okWide Tryz.prog W .any base t v)
  (hW:DataW.Whole ec Tryz.prog Tryz.f7.params.toList Rows.constraintInstanceSpec.vars false W args.toList ds gs before) (hk:Rows.uptoSmall H (ds++gs)=true) :
  Calls Tryz.prog 7 args W fun e W'=>∃ v,e=.returned v∧Rows.constraintInstanceSpec.post ec Tryz.prog Tryz.f7 false true false false W args v W':=by
 have hW':=hW
 have hlt:=fun p hp=>hW.lt p hp
 obtain ⟨p,q,hA0,hV,rfl,hfz,hnd⟩:=hW
 have hA:DataW.TrodAll ec Tryz.prog W 0 (fun _=>true) true Tryz.f7.params.toList args.toList ds p:=hA0
 rw [Tryz.params7] at hA hval
 obtain ⟨v0,vs0,d0,ds0,p0,q0,hargs,rfl,rfl,h0,u0⟩:=trodAll_cons hA
 obtain ⟨v1,vs1,d1,ds1,p1,q1,rfl,rfl,rfl,h1,u1⟩:=trodAll_cons u0
 obtain ⟨rfl,rfl,rfl⟩:=trodAll_nil u1
 obtain rfl:args = #[v0,v1]:=by cases args;simp_all
 obtain ⟨rfl,rfl⟩:=trodVars_none hV
 obtain ⟨l0,s0,b0⟩:=read_demsv (hval 0 _ v0 rfl rfl) h0
 obtain ⟨l1,s1,b1⟩:=read_bdgsv (hval 1 _ v1 rfl rfl) h1
 have hb:=of_decide_eq_true hk
 simp only [List.append_nil,Rows.uptoBulkAll] at hb
 obtain ⟨m,hm⟩:=(Nine.lawInst_fun l0 l1 (by unfold Nine.dsum;omega) (by unfold Nine.bsum;omega)).pureF
 have hargs2:L2 (SRel W NoB) [v0,v1] [.snap false (encDs l0),.snap false (encBs l1)]:=⟨rfl,fun j hj=>by
  match j,hj with
  | 0,_=>exact s0
  | 1,_=>exact s1⟩
 refine (pureF_sim K Nine.codesOk9 (.inl modeOf) hm (A:=NoB) (fun b hb=>hb.elim) hargs2).mono ?_
 rintro e W' ⟨v,rfl,hv,hg⟩
 cases hv
 refine ⟨_,rfl,?_⟩
 have stay0:∀ (v:Value) (d:DataW H) (p:List MemPlace) (h:DataW.Trod ec Tryz.prog W 0 (fun _=>true) true 22 v d p) (hl:∀ x∈p,x.block<W.heap.size),DataW.Trod ec Tryz.prog W' 0 (fun b=>decide (b<W.heap.size)) true 22 v d p:=fun v d p h hl=>
  WideElems.Trod_stays (P:=Tryz.prog) laid (by kernel_rfl) (of_decide_eq_true (by kernel_rfl)) h (fun p hp=>by
   have hb:=hl p hp
   cases p with
   | cell b off=>show W'.cell? ⟨b,off,none⟩=W.cell? ⟨b,off,none⟩;exact cell_keep (hg.keep b hb)
   | map b=>exact hg.keep b hb) (fun x hx=>by simpa using hl x hx)
 have stay1:∀ (v:Value) (d:DataW H) (p:List MemPlace) (h:DataW.Trod ec Tryz.prog W 0 (fun _=>true) true 23 v d p) (hl:∀ x∈p,x.block<W.heap.size),DataW.Trod ec Tryz.prog W' 0 (fun b=>decide (b<W.heap.size)) true 23 v d p:=fun v d p h hl=>
  WideElems.Trod_stays (P:=Tryz.prog) laid (by kernel_rfl) (of_decide_eq_true (by kernel_rfl)) h (fun p hp=>by
   have hb:=hl p hp
   cases p with
   | cell b off=>show W'.cell? ⟨b,off,none⟩=W.cell? ⟨b,off,none⟩;exact cell_keep (hg.keep b hb)
   | map b=>exact hg.keep b hb) (fun x hx=>by simpa using hl x hx)
 refine ⟨[d0,d1],[],_,[],p0++(p1),[],hW',?_,?_,?_,hg.kept _,fun h=>Bool.noConfusion h⟩
 ·exact trodAll_cons_mk (shut_bool (kd_bool (T6.hkd 4 _ rfl)) _) trodAll_mk0
 ·have h3:DataW.TrodAll ec Tryz.prog W' 0 (fun b=>decide (b<W.heap.size)) true [22,23] [v0,v1] [d0,d1] (p0++(p1++[])):=
   trodAll_cons_mk (stay0 v0 d0 p0 h0 (fun x hx=>hlt x (by simp [hx]))) (trodAll_cons_mk (stay1 v1 d1 p1 h1 (fun x hx=>hlt x (by simp [hx]))) trodAll_mk0)
  rw [List.append_nil] at h3
  exact h3
 ·rfl
end Go.Proofs.YtimogkojklpdnaaGreatDoor.Ci
end
