/-
  ExponentMember holds of the given program: at arguments within the statement's bounds the law returns true in every run. Conditions: none.
-/
import Derived.Test.YtejhjciockgicaaGreatPzAG
import Derived.Test.YtejhjciockgicaaGreatPzAM
set_option linter.unusedVariables false
set_option linter.unusedSimpArgs false
section
set_option maxRecDepth 100000
set_option maxHeartbeats 2000000
namespace Go.Proofs.YtejhjciockgicaaGreat.Me
open Go.ChangeShapes Go.WideShapes Go.ChangeAt Go.RowKit Go.Pm
theorem own:ownKnob Tryz.prog.godebug=none:=by kernel_rfl
theorem modeOf:Nine.C.mode 6=.pure:=rfl
theorem laid:laidOutB Tryz.prog=true:=by kernel_rfl
theorem contract (K:CfgOk Nine.C) (H:Type) (ec:TypeId × Value→H) (W:World) (base:Nat) (args:Array Value) (ds gs:List (DataW H)) (before:List MemPlace)
  (hval:∀ (j:Nat) t v,Tryz.f6.params[j]?=some t→args[j]?=some v→Value.okWide Tryz.prog W .any base t v)
  (hW:DataW.Whole ec Tryz.prog Tryz.f6.params.toList Rows.exponentMemberSpec.vars false W args.toList ds gs before) (hk:Rows.uptoSmall H (ds++gs)=true) :
  Calls Tryz.prog 6 args W fun e W'=>∃ v,e=.returned v∧Rows.exponentMemberSpec.post ec Tryz.prog Tryz.f6 false true false false W args v W':=by
 have hW':=hW
 have hlt:=fun p hp=>hW.lt p hp
 obtain ⟨p,q,hA0,hV,rfl,hfz,hnd⟩:=hW
 have hA:DataW.TrodAll ec Tryz.prog W 0 (fun _=>true) true Tryz.f6.params.toList args.toList ds p:=hA0
 rw [Tryz.params6] at hA hval
 obtain ⟨v0,vs0,d0,ds0,p0,q0,hargs,rfl,rfl,h0,u0⟩:=trodAll_cons hA
 obtain ⟨rfl,rfl,rfl⟩:=trodAll_nil u0
 obtain rfl:args = #[v0]:=by cases args;simp_all
 obtain ⟨rfl,rfl⟩:=trodVars_none hV
 obtain ⟨l0,x0,r0,s0,b0,b1,b2,b3,b4,b5⟩:=read_draftv (hval 0 _ v0 rfl rfl) h0
 have hb:=of_decide_eq_true hk
 simp only [List.append_nil,Rows.uptoBulkAll] at hb
 obtain ⟨m,hm⟩:=(Nine.lawN_fun l0 x0 r0 (fun y hy=>⟨(b0 y hy).1,by have:=(b0 y hy).2;omega⟩) (by omega) b2 (by omega) b4 (by omega)).pureF
 have hargs2:L2 (SRel W NoB) [v0] [.agg [.snap false (encLL l0),.snap false (encI8 x0),.snap false (encI8 r0)]]:=⟨rfl,fun j hj=>by
  match j,hj with
  | 0,_=>exact s0⟩
 refine (pureF_sim K Nine.codesOk9 (.inl modeOf) hm (A:=NoB) (fun b hb=>hb.elim) hargs2).mono ?_
 rintro e W' ⟨v,rfl,hv,hg⟩
 cases hv
 refine ⟨_,rfl,?_⟩
 have stay0:∀ (v:Value) (d:DataW H) (p:List MemPlace) (h:DataW.Trod ec Tryz.prog W 0 (fun _=>true) true 25 v d p) (hl:∀ x∈p,x.block<W.heap.size),DataW.Trod ec Tryz.prog W' 0 (fun b=>decide (b<W.heap.size)) true 25 v d p:=fun v d p h hl=>
  WideElems.Trod_stays (P:=Tryz.prog) laid (by kernel_rfl) (of_decide_eq_true (by kernel_rfl)) h (fun p hp=>by
   have hb:=hl p hp
   cases p with
   | cell b off=>show W'.cell? ⟨b,off,none⟩=W.cell? ⟨b,off,none⟩;exact cell_keep (hg.keep b hb)
   | map b=>exact hg.keep b hb) (fun x hx=>by simpa using hl x hx)
 refine ⟨[d0],[],_,[],p0,[],hW',?_,?_,?_,hg.kept _,fun h=>Bool.noConfusion h⟩
 ·exact trodAll_cons_mk (shut_bool (kd_bool (T6.hkd 4 _ rfl)) _) trodAll_mk0
 ·have h3:DataW.TrodAll ec Tryz.prog W' 0 (fun b=>decide (b<W.heap.size)) true [25] [v0] [d0] (p0++[]):=
   trodAll_cons_mk (stay0 v0 d0 p0 h0 (fun x hx=>hlt x (by simp [hx]))) trodAll_mk0
  rw [List.append_nil] at h3
  exact h3
 ·rfl
theorem lifted (K:CfgOk Nine.C) (os:Os) (started:os.Started) (H:Type) (ec:TypeId × Value→H) (F:Stop.Interp) :
  ReturnsInHanded {} Tryz.checked os 6 .any ((Rows.OpenSpec.upto Rows.exponentMemberSpec).pre6 ec Tryz.prog Tryz.f6 Rows.exponentMemberUptoRow.domain false) (((Rows.OpenSpec.upto Rows.exponentMemberSpec).at F).post ec Tryz.prog Tryz.f6 false true false false):=by
 refine returnsInHanded_of_cond (C:=Tryz.checked) (s:=Rows.OpenSpec.upto Rows.exponentMemberSpec) (k:=Rows.uptoSmall) rfl own started (by kernel_rfl) Tryz.func6
  (OpenSpec.witness (enc:=ec) (C:=Tryz.checked) (s:=Rows.OpenSpec.upto Rows.exponentMemberSpec) (k:=Rows.uptoSmall) rfl false ⟨#[],#[.agg #[.slice none 0 0,.slice none 0 0,.slice none 0 0]],[]⟩ 8 (by kernel_rfl) (by kernel_rfl) (by kernel_rfl)
   (x:=([.agg [.nil,.nil,.nil]],[],[])) (by kernel_rfl) rfl (by kernel_rfl)) ?_
 intro W base args ds gs before hval hW _ hk _
 exact contract K H ec W base args ds gs before hval hW hk
theorem over (K:CfgOk Nine.C):Rows.exponentMemberUptoRow.holds Tryz.pinned (Rows.OpenSpec.upto Rows.exponentMemberSpec):=
 OpenClaim.holds_of_cond 6 Tryz.f6 rfl rfl rfl rfl rfl rfl rfl ⟨rfl,rfl,rfl,rfl,rfl⟩ rfl rfl rfl rfl rfl (by kernel_rfl) Tryz.func6 (by kernel_rfl)
  (of_decide_eq_true (by kernel_rfl)) (by unfold Func.isWrapper;first | (rw [if_pos (by decide +kernel)];kernel_rfl) | (rw [if_neg (by decide +kernel)];exact ⟨rfl,rfl⟩))
  (fun os started H ec _ F=>lifted K os started H ec F)
theorem exponentMember:Rows.ExponentMemberUptoSaid:=over Go.Pm.Nine.cfgOk9
end Go.Proofs.YtejhjciockgicaaGreat.Me
end
