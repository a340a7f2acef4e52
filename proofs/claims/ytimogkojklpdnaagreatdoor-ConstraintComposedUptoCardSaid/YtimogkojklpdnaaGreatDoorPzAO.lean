/-
  A part of the library Pm (joined by program). Conditions: none.
-/
import Derived.Test.YtimogkojklpdnaaGreatDoorPzAA
import Derived.Test.YtimogkojklpdnaaGreatDoorPzAI
import Derived.Test.YtimogkojklpdnaaGreatDoorPzAN
import Derived.Test.YtimogkojklpdnaaGreatDoorPzAH
set_option linter.unusedVariables false
set_option linter.unusedSimpArgs false
set_option linter.unnecessarySimpa false
namespace Go.Proofs.YtimogkojklpdnaaGreatDoor.Cq
open Go.ChangeShapes Go.WideShapes Go.ChangeAt Go.RowKit Go.Pm
set_option maxRecDepth 100000
set_option maxHeartbeats 2000000
theorem own:ownKnob Tryz.prog.godebug=none:=by kernel_rfl
theorem SO:bO.C.mode 8=.pure:=rfl
theorem laid:laidOutB Tryz.prog=true:=by kernel_rfl
theorem Lk(K:fP bO.C)(H:Type)(ec:TypeId×Value->H)(W:World)(base:Nat)(args:Array Value)(ds gs:List (DataW H))(before:List MemPlace)
  (jf:∀(j:Nat) t v,Tryz.f8.params[j]?=some t->args[j]?=some v->Value.okWide Tryz.prog W .any base t v)
  (hW:DataW.Whole ec Tryz.prog Tryz.f8.params.toList Rows.constraintComposedSpec.vars false W args.toList ds gs before) (hk:Rows.uptoSmall H (ds++gs)=true):
  Calls Tryz.prog 8 args W λe W'=>∃v,e=.returned v/\Rows.constraintComposedSpec.post ec Tryz.prog Tryz.f8 false true false false W args v W':=by
 have hW':=hW;have cz:=λp hp=>hW.lt p hp
 obtain⟨p,q,WY,hV,rfl,Tv,hnd⟩:=hW;have hA:DataW.TrodAll ec Tryz.prog W 0 (λ_=>true) true Tryz.f8.params.toList args.toList ds p:=WY;rw[Tryz.params8]at hA jf;obtain⟨v0,vs0,d0,ds0,p0,q0,p8,rfl,rfl,h0,u0⟩:=trodAll_cons hA;obtain⟨v1,vs1,d1,ds1,p1,q1,rfl,rfl,rfl,h1,u1⟩:=trodAll_cons u0;obtain⟨v2,vs2,d2,ds2,p2,q2,rfl,rfl,rfl,h2,u2⟩:=trodAll_cons u1;obtain⟨rfl,rfl,rfl⟩:=trodAll_nil u2;obtain rfl:args= #[v0,v1,v2]:=by cases args;simp_all
 obtain⟨rfl,rfl⟩:=trodVars_none hV;obtain⟨l0,s0,b0,c0⟩:=Li (jf 0 _ v0 rfl rfl) h0;obtain⟨l1,s1,b1,c1⟩:=HZ (jf 1 _ v1 rfl rfl) h1;obtain⟨n2,s2⟩:=Lj (jf 2 _ v2 rfl rfl) h2;have hb:=of_decide_eq_true hk;simp only[ZV,Rows.uptoBulkAll]at hb;obtain⟨m,hm⟩:=(bO.Cp l0 l1 n2 (λy hy=>(b0 y hy).1) b1 (by omega) (by omega)).nZ
 have SP:L2 (bY W Lh) [v0,v1,v2] [.aa false (gB l0),.aa false (eG l1),.int .u8 n2]:=⟨rfl,λj hj=>by
  match j,hj with
  |0,_=>exact s0
  |1,_=>exact s1
  |2,_=>exact s2⟩
 refine(zh K bO.Ll (.inl SO) hm (A:=Lh) (λb hb=>hb.elim) SP).mono ?_;rintro e W' ⟨v,rfl,hv,hg⟩
 cases hv
 refine⟨_,rfl,?_⟩
 have stay0:∀(v:Value) (d:DataW H) (p:List MemPlace) (h:DataW.Trod ec Tryz.prog W 0 (λ_=>true) true 40 v d p) (hl:∀x∈p,x.block<W.heap.size),DataW.Trod ec Tryz.prog W' 0 (λb=>decide (b<W.heap.size)) true 40 v d p:=λv d p h hl=>
  WideElems.Trod_stays (P:=Tryz.prog) laid (by kernel_rfl) (of_decide_eq_true (by kernel_rfl)) h (λp hp=>by
   have hb:=hl p hp
   cases p with
   |cell b off=>show W'.cell? ⟨b,off,none⟩=W.cell? ⟨b,off,none⟩;exact ku (hg.aQ b hb)
   |map b=>exact hg.aQ b hb) (λx hx=>by simpa using hl x hx)
 have stay1:∀(v:Value) (d:DataW H) (p:List MemPlace) (h:DataW.Trod ec Tryz.prog W 0 (λ_=>true) true 41 v d p) (hl:∀x∈p,x.block<W.heap.size),DataW.Trod ec Tryz.prog W' 0 (λb=>decide (b<W.heap.size)) true 41 v d p:=λv d p h hl=>
  WideElems.Trod_stays (P:=Tryz.prog) laid (by kernel_rfl) (of_decide_eq_true (by kernel_rfl)) h (λp hp=>by
   have hb:=hl p hp
   cases p with
   |cell b off=>show W'.cell? ⟨b,off,none⟩=W.cell? ⟨b,off,none⟩;exact ku (hg.aQ b hb)
   |map b=>exact hg.aQ b hb) (λx hx=>by simpa using hl x hx)
 have stay2:∀(v:Value) (d:DataW H) (p:List MemPlace) (h:DataW.Trod ec Tryz.prog W 0 (λ_=>true) true 5 v d p) (hl:∀x∈p,x.block<W.heap.size),DataW.Trod ec Tryz.prog W' 0 (λb=>decide (b<W.heap.size)) true 5 v d p:=λv d p h hl=>
  WideElems.Trod_stays (P:=Tryz.prog) laid (by kernel_rfl) (of_decide_eq_true (by kernel_rfl)) h (λp hp=>by
   have hb:=hl p hp
   cases p with
   |cell b off=>show W'.cell? ⟨b,off,none⟩=W.cell? ⟨b,off,none⟩;exact ku (hg.aQ b hb)
   |map b=>exact hg.aQ b hb) (λx hx=>by simpa using hl x hx)
 refine⟨[d0,d1,d2],[],_,[],p0++(p1++(p2)),[],hW',?_,?_,?_,hg.kept _,λh=>Bool.noConfusion h⟩
 ·exact trodAll_cons_mk (shut_bool (Ax (T6.cP 4 _ rfl)) _) trodAll_mk0
 ·have h3:DataW.TrodAll ec Tryz.prog W' 0 (λb=>decide (b<W.heap.size)) true [40,41,5] [v0,v1,v2] [d0,d1,d2] (p0++(p1++(p2++[]))):=
   trodAll_cons_mk (stay0 v0 d0 p0 h0 (λx hx=>cz x (by simp[hx]))) (trodAll_cons_mk (stay1 v1 d1 p1 h1 (λx hx=>cz x (by simp[hx]))) (trodAll_cons_mk (stay2 v2 d2 p2 h2 (λx hx=>cz x (by simp[hx]))) trodAll_mk0))
  rw[ZV]at h3;exact h3
 ·rfl
end Go.Proofs.YtimogkojklpdnaaGreatDoor.Cq
