/-
  A part of the library Pm and its contracts (joined by program): PmValid PmCmp PmRef PmTCmp PmRef2 PmAdd PmBin PmClone PmIns PmRef3 PmCheck PmColl PmOf PmPVal PmCat PmTm. Conditions: none.
-/
import Derived.Test.YtejhjciockgicaaGreatPzAC
set_option linter.unusedVariables false
set_option linter.unusedSimpArgs false
section
set_option maxRecDepth 4000
set_option maxHeartbeats 4000000
namespace Go.Pm
open Go.Proofs
attribute [local irreducible] thenQ blockQ loopQ bodyQ Ev EvOps CallEv FnEv EvD
theorem rnode_fun (k s o l) (hb:bulk (.mk k s o l)<1000000000):Fun C 123 [enc (.mk k s o l)] (.int .i64 (node (.mk k s o l))):=by
 refine Fun.of (FnEv.bodyL Tryz.func123 rfl ?_)
 rw [enc_mk]
 have hel:=encs_len l
 have hlen:=len_bulks l
 have hbs:s.size<1000000000:=by simp only [bulk] at hb;omega
 (repeat' (first | refine EvOps.nil ?_ | (apply R.gOn;exact rfl;exact rfl;exact rfl) | (apply R.gOff;exact rfl;exact rfl;exact rfl) | (apply R.gUn;exact rfl;exact rfl) | (apply R.move;exact rfl) | (apply R.assign;exact rfl) | (apply R.pickT;exact rfl;exact rfl) | (apply R.pickF;exact rfl;exact rfl) | (apply R.load1 T6;exact rfl;exact rfl;exact rfl;exact rfl) | (apply R.fieldAddr T6;exact rfl;exact rfl;exact rfl;exact rfl) | (apply R.cmp;exact rfl;exact rfl;exact rfl;all_goals intro hc;all_goals (try (exfalso;omega))) | (apply R.not;exact rfl;exact rfl) | (apply R.lenS T6;exact rfl;exact rfl) | (apply R.box;exact rfl;exact rfl;exact rfl;exact .nil) | refine Ev.seq ?_ | refine Ev.region ?_ | (apply Ev.condB;exact rfl) | refine Ev.ret ?_ | refine Ev.skip ?_ | refine thenQ.normal ?_ | refine thenQ.ret ?_ | (apply bodyQ.ret;exact rfl) | fail))
 all_goals first
  | (refine ⟨_,rfl,congrArg (PV.int .i64) ?_⟩;rw [node,if_pos (by omega)])
  | (refine R.call rfl rfl (CallEv.pure rfl rfl (risName_fun s hbs) ?_);cases hN:isName s <;> (repeat' (first | refine EvOps.nil ?_ | (apply R.assign;exact rfl) | (apply R.load1 T6;exact rfl;exact rfl;exact rfl;exact rfl) | (apply R.fieldAddr T6;exact rfl;exact rfl;exact rfl;exact rfl) | (apply R.cmp;exact rfl;exact rfl;exact rfl;all_goals intro hc;all_goals (try (exfalso;omega))) | (apply R.not;exact rfl;exact rfl) | (apply R.lenS T6;exact rfl;exact rfl) | refine Ev.seq ?_ | refine Ev.region ?_ | (apply Ev.condB;exact rfl) | refine Ev.ret ?_ | refine Ev.skip ?_ | refine thenQ.normal ?_ | refine thenQ.ret ?_ | (apply bodyQ.ret;exact rfl) | fail)))
 all_goals first
  | (refine ⟨_,rfl,congrArg (PV.int .i64) ?_⟩;rw [node,if_neg (by omega),if_pos hN])
  | (refine ⟨_,rfl,congrArg (PV.int .i64) ?_⟩;rw [node,if_neg (by omega),if_neg (by rw [hN];simp),if_pos (by omega)])
  | (refine ⟨_,rfl,congrArg (PV.int .i64) ?_⟩;rw [node,if_neg (by omega),if_neg (by rw [hN];simp),if_neg (by omega)])
theorem rnodes_ev (k s o l) (hb:bulk (.mk k s o l)<1000000000) (ih:∀ t∈l,Fun C 109 [enc t] (.int .i64 (nodes t))):Fun C 109 [enc (.mk k s o l)] (.int .i64 (nodes (.mk k s o l))):=by
 have hno:=rnode_fun k s o l hb
 refine Fun.of (FnEv.bodyL Tryz.func109 rfl ?_)
 rw [enc_mk] at hno ⊢
 have hlen:=len_bulks l
 have hel:=encs_len l
 simp only [bulk] at hb
 (repeat' (first | refine EvOps.nil ?_ | (apply R.assign;exact rfl) | (apply R.loadA T6;exact rfl;exact rfl;exact rfl;exact rfl;exact (by repeat constructor)) | (apply R.box;exact rfl;exact rfl;exact rfl;exact .nil) | refine Ev.seq ?_ | refine Ev.region ?_ | refine thenQ.normal ?_ | fail))
 refine R.call rfl rfl (CallEv.pure rfl (by simp [isVals,isVal]) (by simpa [nrms,nrm,nrms_encs] using hno) ?_)
 (repeat' (first | refine EvOps.nil ?_ | (apply R.move;exact rfl) | (apply R.assign;exact rfl) | (apply R.cmp;exact rfl;exact rfl;exact rfl;all_goals intro hc) | refine Ev.seq ?_ | refine Ev.region ?_ | (apply Ev.condB;exact rfl) | refine Ev.ret ?_ | refine Ev.skip ?_ | refine Ev.block ?_ | refine thenQ.normal ?_ | refine thenQ.ret ?_ | (apply bodyQ.ret;exact rfl) | fail))
 ·refine ⟨_,rfl,?_⟩
  rw [nodes,if_pos (by assumption)];rfl
 ·have h0:nodes (.mk k s o l)=nodess l:=by rw [nodes,if_neg (by assumption)]
  refine Ev.loop (I:=fun k' st=>∃ (i:Nat) (ρ':Nat→PV),st=⟨al [(1,.ptr 0 0 0 0),(4,.int .i64 i)] ρ',[⟨.m,0,4,[.agg [.int .i64 k,.str s,.int .i64 o,.snap false (encs l)]]⟩]⟩∧k'+i=l.length∧nodess l=nodess (l.drop i)) l.length ?_ ?_
  ·exact ⟨0,_,St.keep ⟨rfl,rfl,trivial⟩,rfl,rfl⟩
  ·rintro k' _ ⟨i,ρ',rfl,hk,hb'⟩
   (repeat' (first | refine EvOps.nil ?_ | (apply R.move;exact rfl) | (apply R.assign;exact rfl) | (apply R.load1 T6;exact rfl;exact rfl;exact rfl;exact rfl) | (apply R.fieldAddr T6;exact rfl;exact rfl;exact rfl;exact rfl) | (apply R.cmp;exact rfl;exact rfl;exact rfl;all_goals intro hc) | (apply R.lenS T6;exact rfl;exact rfl) | refine Ev.seq ?_ | refine Ev.region ?_ | (apply Ev.condB;exact rfl) | refine Ev.ret ?_ | refine Ev.skip ?_ | refine Ev.exit ?_ | refine Ev.block ?_ | refine thenQ.normal ?_ | refine thenQ.exit ?_ | refine blockQ.hit ?_ | refine loopQ.exit ?_ | (apply bodyQ.ret;exact rfl) | fail))
   ·obtain ⟨k1,s1,o1,l1,hmem,hat,hd,hil,_⟩:=encs_at' hc
    refine R.indexS T6 rfl rfl rfl rfl hat rfl rfl ?_
    have hih:=ih _ hmem
    rw [enc_mk] at hih
    rw [hd,nodess] at hb'
    (repeat' (first | (apply R.loadA T6;exact rfl;exact rfl;exact rfl;exact rfl;exact (by repeat constructor)) | fail))
    refine R.call rfl rfl (CallEv.pure rfl (by simp [isVals,isVal]) (by simpa [nrms,nrm,nrms_encs] using hih) ?_)
    (repeat' (first | refine EvOps.nil ?_ | (apply R.move;exact rfl) | (apply R.assign;exact rfl) | (apply R.cmp;exact rfl;exact rfl;exact rfl;all_goals intro hc) | (apply R.arith;exact rfl;exact rfl;exact rfl;exact (wrapI (by omega) (by omega))) | refine Ev.seq ?_ | refine Ev.region ?_ | (apply Ev.condB;exact rfl) | refine Ev.ret ?_ | refine Ev.skip ?_ | refine thenQ.normal ?_ | refine thenQ.ret ?_ | refine blockQ.normal ?_ | refine blockQ.ret ?_ | refine loopQ.normal ?_ | refine loopQ.ret ?_ | (apply bodyQ.ret;exact rfl) | fail))
    ·refine ⟨_,rfl,?_⟩
     rw [h0,hb',if_pos (by assumption)];rfl
    ·refine ⟨k' - 1,by omega,i+1,_,St.keep ⟨rfl,rfl,trivial⟩,by omega,?_⟩
     rw [hb',if_neg (by assumption)]
   ·refine ⟨_,rfl,?_⟩
    rw [h0,hb',encs_end hc];rfl
theorem rnodes_fun (t:Tm) (hb:bulk t<1000000000):Fun C 109 [enc t] (.int .i64 (nodes t)):=by
 induction t using Tm.ind with
 | h k s o l ih=>
  exact rnodes_ev k s o l hb (fun t ht=>ih t ht (by have:=bulk_mem ht;simp only [bulk] at hb;omega))
theorem rdepth_ev (k s o l) (hb:bulk (.mk k s o l)<1000000000) (ih:∀ t∈l,Fun C 110 [enc t] (.int .i64 (depth t))):Fun C 110 [enc (.mk k s o l)] (.int .i64 (depth (.mk k s o l))):=by
 refine Fun.of (FnEv.bodyL Tryz.func110 rfl ?_)
 rw [enc_mk]
 have hlen:=len_bulks l
 have hel:=encs_len l
 have hsz:=sizes_bulk l
 have hds:=depths_sizes l
 simp only [bulk] at hb
 (repeat' (first | refine EvOps.nil ?_ | (apply R.assign;exact rfl) | (apply R.box;exact rfl;exact rfl;exact rfl;exact .nil) | refine Ev.seq ?_ | refine Ev.region ?_ | refine Ev.block ?_ | refine thenQ.normal ?_ | fail))
 refine Ev.loop (I:=fun k' st=>∃ (i:Nat) (n:Int) (ρ':Nat→PV),st=⟨al [(1,.ptr 0 0 0 0),(3,.int .i64 n),(4,.int .i64 i)] ρ',[⟨.m,0,4,[.agg [.int .i64 k,.str s,.int .i64 o,.snap false (encs l)]]⟩]⟩∧k'+i=l.length∧0≤n∧depths l=max n (depths (l.drop i))) l.length ?_ ?_
 ·exact ⟨0,0,_,St.keep ⟨rfl,rfl,rfl,trivial⟩,rfl,by omega,by simp only [List.drop_zero];omega⟩
 ·rintro k' _ ⟨i,n,ρ',rfl,hk,hn,hb'⟩
  (repeat' (first | refine EvOps.nil ?_ | (apply R.move;exact rfl) | (apply R.assign;exact rfl) | (apply R.load1 T6;exact rfl;exact rfl;exact rfl;exact rfl) | (apply R.fieldAddr T6;exact rfl;exact rfl;exact rfl;exact rfl) | (apply R.cmp;exact rfl;exact rfl;exact rfl;all_goals intro hc) | (apply R.arith;exact rfl;exact rfl;exact rfl;exact (wrapI (by omega) (by omega))) | (apply R.lenS T6;exact rfl;exact rfl) | refine Ev.seq ?_ | refine Ev.region ?_ | (apply Ev.condB;exact rfl) | refine Ev.ret ?_ | refine Ev.skip ?_ | refine Ev.exit ?_ | refine Ev.block ?_ | refine thenQ.normal ?_ | refine thenQ.exit ?_ | refine blockQ.hit ?_ | refine loopQ.exit ?_ | (apply bodyQ.ret;exact rfl) | fail))
  ·obtain ⟨k1,s1,o1,l1,hmem,hat,hd,hil,_⟩:=encs_at' hc
   refine R.indexS T6 rfl rfl rfl rfl hat rfl rfl ?_
   have hih:=ih _ hmem
   rw [enc_mk] at hih
   rw [hd,depths] at hb'
   have hpo:=depth_size (.mk k1 s1 o1 l1)
   (repeat' (first | (apply R.loadA T6;exact rfl;exact rfl;exact rfl;exact rfl;exact (by repeat constructor)) | fail))
   refine R.call rfl rfl (CallEv.pure rfl (by simp [isVals,isVal]) (by simpa [nrms,nrm,nrms_encs] using hih) ?_)
   (repeat' (first | refine EvOps.nil ?_ | (apply R.move;exact rfl) | (apply R.assign;exact rfl) | (apply R.arith;exact rfl;exact rfl;exact rfl;exact (wrapI (by omega) (by omega))) | (apply R.max;exact rfl;exact rfl) | refine Ev.region ?_ | refine thenQ.normal ?_ | refine blockQ.normal ?_ | refine loopQ.normal ?_ | fail))
   exact ⟨k' - 1,by omega,i+1,_,_,St.keep ⟨rfl,rfl,rfl,trivial⟩,by omega,by omega,by omega⟩
  ·rw [encs_end hc,depths] at hb'
   skip
   refine ⟨_,rfl,congrArg (PV.int .i64) ?_⟩
   rw [depth];omega
theorem rdepth_fun (t:Tm) (hb:bulk t<1000000000):Fun C 110 [enc t] (.int .i64 (depth t)):=by
 induction t using Tm.ind with
 | h k s o l ih=>
  exact rdepth_ev k s o l hb (fun t ht=>ih t ht (by have:=bulk_mem ht;simp only [bulk] at hb;omega))
theorem rvalid_fun (t:Tm) (hb:bulk t<1000000000):Fun C 81 [enc t] (.int .i64 (valid t)):=by
 have h1:=rnodes_fun t hb
 have h2:=size_fun t hb
 have h3:=rdepth_fun t hb
 obtain ⟨k,s,o,l⟩:=t
 refine Fun.of (FnEv.bodyL Tryz.func81 rfl ?_)
 rw [enc_mk] at h1 h2 h3 ⊢
 (repeat' (first | refine EvOps.nil ?_ | (apply R.assign;exact rfl) | (apply R.loadA T6;exact rfl;exact rfl;exact rfl;exact rfl;exact (by repeat constructor)) | (apply R.box;exact rfl;exact rfl;exact rfl;exact .nil) | refine Ev.seq ?_ | refine Ev.region ?_ | refine thenQ.normal ?_ | fail))
 refine R.call rfl rfl (CallEv.pure rfl (by simp [isVals,isVal]) (by simpa [nrms,nrm,nrms_encs] using h1) ?_)
 (repeat' (first | refine EvOps.nil ?_ | (apply R.move;exact rfl) | (apply R.assign;exact rfl) | (apply R.loadA T6;exact rfl;exact rfl;exact rfl;exact rfl;exact (by repeat constructor)) | (apply R.cmp;exact rfl;exact rfl;exact rfl;all_goals intro hc) | refine Ev.seq ?_ | refine Ev.region ?_ | (apply Ev.condB;exact rfl) | refine Ev.ret ?_ | refine Ev.skip ?_ | refine thenQ.normal ?_ | refine thenQ.ret ?_ | (apply bodyQ.ret;exact rfl) | fail))
 ·refine ⟨_,rfl,?_⟩
  rw [valid,if_pos (by assumption)];rfl
 ·have h0:=hc
  clear hc
  refine R.call rfl rfl (CallEv.pure rfl (by simp [isVals,isVal]) (by simpa [nrms,nrm,nrms_encs] using h2) ?_)
  (repeat' (first | refine EvOps.nil ?_ | (apply R.gOn;exact rfl;exact rfl;exact rfl) | (apply R.gOff;exact rfl;exact rfl;exact rfl) | (apply R.move;exact rfl) | (apply R.assign;exact rfl) | (apply R.pickT;exact rfl;exact rfl) | (apply R.loadA T6;exact rfl;exact rfl;exact rfl;exact rfl;exact (by repeat constructor)) | (apply R.cmp;exact rfl;exact rfl;exact rfl;all_goals intro hc) | refine Ev.seq ?_ | refine Ev.region ?_ | (apply Ev.condB;exact rfl) | refine Ev.ret ?_ | refine thenQ.normal ?_ | refine thenQ.ret ?_ | (apply bodyQ.ret;exact rfl) | fail))
  ·refine ⟨_,rfl,?_⟩
   rw [valid,if_neg h0,if_pos (by omega)];rfl
  ·refine R.call rfl rfl (CallEv.pure rfl (by simp [isVals,isVal]) (by simpa [nrms,nrm,nrms_encs] using h3) ?_)
   (repeat' (first | refine EvOps.nil ?_ | (apply R.gOn;exact rfl;exact rfl;exact rfl) | (apply R.assign;exact rfl) | (apply R.pickF;exact rfl;exact rfl) | (apply R.cmp;exact rfl;exact rfl;exact rfl;all_goals intro hc) | refine Ev.seq ?_ | refine Ev.region ?_ | (apply Ev.condB;exact rfl) | refine Ev.ret ?_ | refine Ev.skip ?_ | refine thenQ.normal ?_ | refine thenQ.ret ?_ | (apply bodyQ.ret;exact rfl) | fail))
   ·refine ⟨_,rfl,?_⟩
    rw [valid,if_neg h0,if_pos (by omega)];rfl
   ·refine ⟨_,rfl,?_⟩
    rw [valid,if_neg h0,if_neg (by omega)];rfl
end Go.Pm
end
section
set_option maxRecDepth 4000
set_option maxHeartbeats 4000000
namespace Go.Pm
open Go.Proofs
attribute [local irreducible] thenQ blockQ loopQ bodyQ Ev EvOps CallEv FnEv EvD
set_option maxHeartbeats 2000000 in
theorem rcmp_ev (k s o l k' s' o' l') (hb:bulk (.mk k s o l)<1000000000) (hb':bulk (.mk k' s' o' l')<1000000000)
  (ih:∀ t∈l,∀ t'∈l',Fun C 74 [enc t,enc t'] (.int .i64 (cmpT t t'))):Fun C 74 [enc (.mk k s o l),enc (.mk k' s' o' l')] (.int .i64 (cmpT (.mk k s o l) (.mk k' s' o' l'))):=by
 refine Fun.of (FnEv.bodyL Tryz.func74 rfl ?_)
 rw [enc_mk,enc_mk]
 have z1:=size_fun _ hb
 have z2:=size_fun _ hb'
 have v1:isVals (encs l)=true:=isVals_encs l
 have v2:isVals (encs l')=true:=isVals_encs l'
 have e1:=encs_len l
 have e2:=encs_len l'
 have b1:l.length<1000000000:=by have:=len_bulks l;simp only [bulk] at hb;omega
 have b2:l'.length<1000000000:=by have:=len_bulks l';simp only [bulk] at hb';omega
 rw [enc_mk] at z1 z2
 (repeat' (first | refine EvOps.nil ?_ | (apply R.assign;exact rfl) | (apply R.box;exact rfl;exact rfl;exact rfl;exact .nil) | (apply R.box;exact rfl;exact rfl;exact rfl;exact (.cons .nil)) | refine Ev.seq ?_ | refine Ev.region ?_ | refine Ev.regionD ?_ | (apply D.loadA T6;exact (by first | exact rfl | assumption);exact rfl;exact rfl;exact rfl;exact rfl;exact rfl;exact (by repeat constructor)) | refine thenQ.normal ?_ | fail))
 refine D.callP rfl rfl rfl rfl (by simp [isVals,isVal,v1]) rfl rfl (by simpa [nrms,nrm,nrms_encs] using z1) ?_
 (repeat' (first | (apply D.loadA T6;exact (by first | exact rfl | assumption);exact rfl;exact rfl;exact rfl;exact rfl;exact rfl;exact (by repeat constructor)) | fail))
 refine D.callP rfl rfl rfl rfl (by simp [isVals,isVal,v2]) rfl rfl (by simpa [nrms,nrm,nrms_encs] using z2) ?_
 refine D.callP rfl rfl rfl rfl rfl rfl rfl (number_fun _ _) ?_
 (repeat' (first | refine EvOps.nil ?_ | (apply R.move;exact rfl) | (apply R.assign;exact rfl) | (apply R.load1 T6;exact rfl;exact rfl;exact rfl;exact rfl) | (apply R.fieldAddr T6;exact rfl;exact rfl;exact rfl;exact rfl) | (apply R.cmp;exact rfl;exact rfl;exact rfl;all_goals intro hc) | refine Ev.seq ?_ | refine Ev.region ?_ | refine EvD.nil ?_ | (apply D.assign;exact rfl) | (apply Ev.condB;exact rfl) | refine Ev.ret ?_ | refine Ev.skip ?_ | refine thenQ.normal ?_ | refine thenQ.ret ?_ | (apply bodyQ.ret;exact rfl) | fail))
 ·exact ⟨_,rfl,by simp only [nrm,tupOf,cmpT];rw [if_pos hc]⟩
 have h1:=hc
 clear hc
 refine R.call rfl rfl (CallEv.pure rfl rfl (number_fun k k') ?_)
 (repeat' (first | refine EvOps.nil ?_ | (apply R.move;exact rfl) | (apply R.assign;exact rfl) | (apply R.load1 T6;exact rfl;exact rfl;exact rfl;exact rfl) | (apply R.fieldAddr T6;exact rfl;exact rfl;exact rfl;exact rfl) | (apply R.cmp;exact rfl;exact rfl;exact rfl;all_goals intro hc) | (apply R.strcmp;exact rfl;exact rfl;exact rfl;all_goals intro hc) | refine Ev.seq ?_ | refine Ev.region ?_ | (apply Ev.condB;exact rfl) | refine Ev.ret ?_ | refine Ev.skip ?_ | refine thenQ.normal ?_ | refine thenQ.ret ?_ | (apply bodyQ.ret;exact rfl) | fail))
 ·exact ⟨_,rfl,by simp only [nrm,tupOf,cmpT];rw [if_neg h1,if_pos hc]⟩
 ·rename_i h2
  have h3:=hc
  exact ⟨_,rfl,by simp only [nrm,tupOf,cmpT];rw [if_neg h1,if_neg h2,if_pos h3]⟩
 ·rename_i h2 h3
  have h4:=hc
  exact ⟨_,rfl,by simp only [nrm,tupOf,cmpT];rw [if_neg h1,if_neg h2,if_neg (by rw [h3];simp),if_pos h4]⟩
 rename_i h2 h3
 have h4:=hc
 clear hc
 refine R.call rfl rfl (CallEv.pure rfl rfl (number_fun o o') ?_)
 (repeat' (first | refine EvOps.nil ?_ | (apply R.move;exact rfl) | (apply R.assign;exact rfl) | (apply R.load1 T6;exact rfl;exact rfl;exact rfl;exact rfl) | (apply R.fieldAddr T6;exact rfl;exact rfl;exact rfl;exact rfl) | (apply R.cmp;exact rfl;exact rfl;exact rfl;all_goals intro hc) | (apply R.lenS T6;exact rfl;exact rfl) | refine Ev.seq ?_ | refine Ev.region ?_ | (apply Ev.condB;exact rfl) | refine Ev.ret ?_ | refine Ev.skip ?_ | refine thenQ.normal ?_ | refine thenQ.ret ?_ | (apply bodyQ.ret;exact rfl) | fail))
 ·exact ⟨_,rfl,by simp only [nrm,tupOf,cmpT];rw [if_neg h1,if_neg h2,if_neg (by rw [h3];simp),if_neg (by rw [h4];simp),if_pos hc]⟩
 have h5:=hc
 clear hc
 refine R.call rfl rfl (CallEv.pure rfl rfl (number_fun (encs l).length (encs l').length) ?_)
 (repeat' (first | refine EvOps.nil ?_ | (apply R.move;exact rfl) | (apply R.assign;exact rfl) | (apply R.cmp;exact rfl;exact rfl;exact rfl;all_goals intro hc) | refine Ev.seq ?_ | refine Ev.region ?_ | (apply Ev.condB;exact rfl) | refine Ev.ret ?_ | refine Ev.skip ?_ | refine Ev.block ?_ | refine thenQ.normal ?_ | refine thenQ.ret ?_ | (apply bodyQ.ret;exact rfl) | fail))
 ·refine ⟨_,rfl,?_⟩
  simp only [nrm,tupOf,cmpT]
  rw [e1,e2] at hc ⊢
  rw [if_neg h1,if_neg h2,if_neg (by rw [h3];simp),if_neg (by rw [h4];simp),if_neg h5,if_pos hc]
 have h6:=hc
 clear hc
 have hll:l.length=l'.length:=by
  rw [e1,e2] at h6
  unfold cmpN at h6
  repeat' split at h6
  all_goals omega
 have hspec:cmpT (.mk k s o l) (.mk k' s' o' l')=cmps l l':=by
  rw [e1,e2] at h6
  rw [cmpT,if_neg h1,if_neg h2,if_neg (by rw [h3];simp),if_neg (by rw [h4];simp),if_neg h5,if_neg h6]
 refine Ev.loop (I:=fun k'' st=>∃ (i:Nat) (ρ':Nat→PV),st=⟨al [(2,.ptr 0 0 0 0),(3,.ptr 1 0 0 0),(9,.int .i64 i)] ρ',[⟨.m,0,4,[.agg [.int .i64 k,.str s,.int .i64 o,.snap false (encs l)]]⟩,⟨.m,0,4,[.agg [.int .i64 k',.str s',.int .i64 o',.snap false (encs l')]]⟩]⟩∧k''+i=l.length∧cmps l l'=cmps (l.drop i) (l'.drop i)) l.length ?_ ?_
 ·exact ⟨0,_,St.keep ⟨rfl,rfl,rfl,trivial⟩,rfl,rfl⟩
 ·rintro k'' _ ⟨i,ρ',rfl,hk,hb2⟩
  (repeat' (first | refine EvOps.nil ?_ | (apply R.move;exact rfl) | (apply R.assign;exact rfl) | (apply R.load1 T6;exact rfl;exact rfl;exact rfl;exact rfl) | (apply R.fieldAddr T6;exact rfl;exact rfl;exact rfl;exact rfl) | (apply R.cmp;exact rfl;exact rfl;exact rfl;all_goals intro hc) | (apply R.lenS T6;exact rfl;exact rfl) | refine Ev.seq ?_ | refine Ev.region ?_ | refine Ev.regionD ?_ | (apply D.move;exact rfl) | (apply D.fieldAddr T6;exact rfl;exact rfl;exact rfl;exact rfl) | (apply D.load1 T6;exact (by first | exact rfl | assumption);exact rfl;exact rfl;exact rfl;exact rfl;exact rfl) | (apply Ev.condB;exact rfl) | refine Ev.ret ?_ | refine Ev.skip ?_ | refine Ev.exit ?_ | refine Ev.block ?_ | refine thenQ.normal ?_ | refine thenQ.exit ?_ | refine blockQ.hit ?_ | refine loopQ.exit ?_ | (apply bodyQ.ret;exact rfl) | fail))
  ·obtain ⟨k1,s1,o1,l1,hmem,hat,hd,hil,_⟩:=encs_at' hc
   obtain ⟨k2,s2,o2,l2,hmem',hat',hd',hil',_⟩:=encs_at' (l:=l') (i:=i) (by omega)
   have w1:isVals (encs l1)=true:=isVals_encs l1
   have w2:isVals (encs l2)=true:=isVals_encs l2
   have hih:=ih _ hmem _ hmem'
   rw [enc_mk,enc_mk] at hih
   refine D.indexS T6 rfl rfl rfl rfl rfl hat rfl rfl ?_
   (repeat' (first | (apply D.move;exact rfl) | (apply D.fieldAddr T6;exact rfl;exact rfl;exact rfl;exact rfl) | (apply D.load1 T6;exact (by first | exact rfl | assumption);exact rfl;exact rfl;exact rfl;exact rfl;exact rfl) | (apply D.loadA T6;exact (by first | exact rfl | assumption);exact rfl;exact rfl;exact rfl;exact rfl;exact rfl;exact (by repeat constructor)) | fail))
   refine D.indexS T6 rfl rfl rfl rfl rfl hat' rfl rfl ?_
   (repeat' (first | (apply D.loadA T6;exact (by first | exact rfl | assumption);exact rfl;exact rfl;exact rfl;exact rfl;exact rfl;exact (by repeat constructor)) | fail))
   refine D.callP rfl rfl rfl rfl (by simp [isVals,isVal,w1,w2]) rfl rfl (by simpa [nrms,nrm,nrms_encs] using hih) ?_
   (repeat' (first | refine EvOps.nil ?_ | (apply R.move;exact rfl) | (apply R.assign;exact rfl) | (apply R.cmp;exact rfl;exact rfl;exact rfl;all_goals intro hc) | (apply R.arith;exact rfl;exact rfl;exact rfl;exact (wrapI (by omega) (by omega))) | refine Ev.seq ?_ | refine Ev.region ?_ | refine EvD.nil ?_ | (apply D.assign;exact rfl) | (apply Ev.condB;exact rfl) | refine Ev.ret ?_ | refine Ev.skip ?_ | refine thenQ.normal ?_ | refine thenQ.ret ?_ | refine blockQ.normal ?_ | refine blockQ.ret ?_ | refine loopQ.normal ?_ | refine loopQ.ret ?_ | (apply bodyQ.ret;exact rfl) | fail))
   ·refine ⟨_,rfl,?_⟩
    simp only [nrm,tupOf]
    rw [hspec,hb2,hd,hd',cmps,if_pos (by assumption)]
   ·refine ⟨k'' - 1,by omega,i+1,_,St.keep ⟨rfl,rfl,rfl,trivial⟩,by omega,?_⟩
    rw [hb2,hd,hd',cmps,if_neg (by assumption)]
  ·refine ⟨_,rfl,?_⟩
   simp only [nrm,tupOf]
   rw [hspec,hb2,encs_end hc,cmps]
end Go.Pm
end
section
set_option maxRecDepth 4000
set_option maxHeartbeats 4000000
namespace Go.Pm
open Go.Proofs
attribute [local irreducible] thenQ blockQ loopQ bodyQ Ev EvOps CallEv FnEv EvD
theorem rcmp_fun (t t':Tm) (hb:bulk t<1000000000) (hb':bulk t'<1000000000):Fun C 74 [enc t,enc t'] (.int .i64 (cmpT t t')):=by
 induction t using Tm.ind generalizing t' with
 | h k s o l ih=>
  obtain ⟨k',s',o',l'⟩:=t'
  refine rcmp_ev k s o l k' s' o' l' hb hb' (fun t ht t' ht'=>ih t ht t' ?_ ?_)
  ·have:=bulk_mem ht;simp only [bulk] at hb;omega
  ·have:=bulk_mem ht';simp only [bulk] at hb';omega
theorem rsame_fun (t t':Tm) (hb:bulk t<1000000000) (hb':bulk t'<1000000000):Fun C 31 [enc t,enc t'] (.bool (decide (cmpT t t'=0))):=by
 have h1:=rcmp_fun t t' hb hb'
 obtain ⟨k,s,o,l⟩:=t
 obtain ⟨k',s',o',l'⟩:=t'
 refine Fun.of (FnEv.bodyL Tryz.func31 rfl ?_)
 rw [enc_mk,enc_mk] at h1 ⊢
 (repeat' (first | refine EvOps.nil ?_ | (apply R.assign;exact rfl) | (apply R.loadA T6;exact rfl;exact rfl;exact rfl;exact rfl;exact (by repeat constructor)) | (apply R.box;exact rfl;exact rfl;exact rfl;exact .nil) | (apply R.box;exact rfl;exact rfl;exact rfl;exact (.cons .nil)) | refine Ev.seq ?_ | refine Ev.region ?_ | refine thenQ.normal ?_ | fail))
 refine R.call rfl rfl (CallEv.pure rfl (by simp [isVals,isVal]) (by simpa [nrms,nrm,nrms_encs] using h1) ?_)
 (repeat' (first | refine EvOps.nil ?_ | (apply R.assign;exact rfl) | (apply R.cmp;exact rfl;exact rfl;exact rfl;all_goals intro hc) | refine Ev.ret ?_ | refine thenQ.normal ?_ | (apply bodyQ.ret;exact rfl) | fail))
 ·exact ⟨_,rfl,congrArg PV.bool (decide_eq_true (by assumption)).symm⟩
 ·exact ⟨_,rfl,congrArg PV.bool (decide_eq_false (by assumption)).symm⟩
theorem special_eq (k s o l):special (.mk k s o l)=decide (k=3∧(s.toList=nmMul∨s.toList=nmInv∨s.toList=nmOne)):=by
 simp only [special,← Bool.decide_or,← Bool.decide_and,or_assoc]
theorem cMul_l:(ByteArray.mk #[109,117,108]).toList=nmMul:=sMul_l
theorem cInv_l:(ByteArray.mk #[105,110,118]).toList=nmInv:=sInv_l
theorem cOne_l:(ByteArray.mk #[111,110,101]).toList=nmOne:=sOne_l
theorem rspecial_fun (k s o l):Fun C 82 [enc (.mk k s o l)] (.bool (special (.mk k s o l))):=by
 refine Fun.of (FnEv.bodyL Tryz.func82 rfl ?_)
 rw [enc_mk,special_eq]
 (repeat' (first | refine EvOps.nil ?_ | (apply R.gOn;exact rfl;exact rfl;exact rfl) | (apply R.gOff;exact rfl;exact rfl;exact rfl) | (apply R.gUn;exact rfl;exact rfl) | (apply R.move;exact rfl) | (apply R.assign;exact rfl) | (apply R.pickT;exact rfl;exact rfl) | (apply R.pickF;exact rfl;exact rfl) | (apply R.load1 T6;exact rfl;exact rfl;exact rfl;exact rfl) | (apply R.fieldAddr T6;exact rfl;exact rfl;exact rfl;exact rfl) | (apply R.cmp;exact rfl;exact rfl;exact rfl;all_goals intro hc) | (apply R.streq;exact rfl;exact rfl;all_goals intro hc) | (apply R.box;exact rfl;exact rfl;exact rfl;exact .nil) | refine Ev.seq ?_ | refine Ev.region ?_ | refine Ev.ret ?_ | refine thenQ.normal ?_ | (apply bodyQ.ret;exact rfl) | fail))
 all_goals try simp only [cMul_l,cInv_l,cOne_l] at *
 all_goals first
  | exact ⟨_,rfl,congrArg PV.bool (decide_eq_true (by simp [*])).symm⟩
  | exact ⟨_,rfl,congrArg PV.bool (decide_eq_false (by simp [*])).symm⟩
theorem symbol_fun (k s o l):Fun C 38 [enc (.mk k s o l)] (.bool (special (.mk k s o l))):=by
 refine Fun.of (FnEv.bodyL Tryz.func38 rfl ?_)
 rw [enc_mk,special_eq]
 (repeat' (first | refine EvOps.nil ?_ | (apply R.gOn;exact rfl;exact rfl;exact rfl) | (apply R.gOff;exact rfl;exact rfl;exact rfl) | (apply R.gUn;exact rfl;exact rfl) | (apply R.move;exact rfl) | (apply R.assign;exact rfl) | (apply R.pickT;exact rfl;exact rfl) | (apply R.pickF;exact rfl;exact rfl) | (apply R.load1 T6;exact rfl;exact rfl;exact rfl;exact rfl) | (apply R.fieldAddr T6;exact rfl;exact rfl;exact rfl;exact rfl) | (apply R.cmp;exact rfl;exact rfl;exact rfl;all_goals intro hc) | (apply R.streq;exact rfl;exact rfl;all_goals intro hc) | (apply R.box;exact rfl;exact rfl;exact rfl;exact .nil) | refine Ev.seq ?_ | refine Ev.region ?_ | refine Ev.ret ?_ | refine thenQ.normal ?_ | (apply bodyQ.ret;exact rfl) | fail))
 all_goals try simp only [cMul_l,cInv_l,cOne_l] at *
 all_goals first
  | exact ⟨_,rfl,congrArg PV.bool (decide_eq_true (by simp [*])).symm⟩
  | exact ⟨_,rfl,congrArg PV.bool (decide_eq_false (by simp [*])).symm⟩
end Go.Pm
end
section
set_option maxRecDepth 4000
set_option maxHeartbeats 4000000
namespace Go.Pm
open Go.Proofs
attribute [local irreducible] thenQ blockQ loopQ bodyQ Ev EvOps CallEv FnEv EvD
theorem cmpstr_fun (a b:ByteArray):Fun C 108 [.str a,.str b] (.int .i64 (cmpS a b)):=by
 have e:cmpS a b=Lib.compareBytes a.data.toList b.data.toList:=by unfold cmpS cmpBs;rw [ByteArray.toList_eq,ByteArray.toList_eq]
 rw [e]
 refine Fun.of (FnEv.bodyL Tryz.func108 rfl ?_)
 (repeat' (first | refine EvOps.nil ?_ | (apply R.move;exact rfl) | (apply R.assign;exact rfl) | refine Ev.seq ?_ | refine Ev.region ?_ | refine thenQ.normal ?_ | fail))
 refine R.call rfl rfl (CallEv.ext rfl rfl rfl ?_)
 (repeat' (first | refine EvOps.nil ?_ | (apply R.assign;exact rfl) | refine Ev.ret ?_ | refine thenQ.normal ?_ | (apply bodyQ.ret;exact rfl) | fail))
 exact ⟨_,rfl,rfl⟩
theorem scmp_fun (a b:ByteArray):Fun C 80 [.str a,.str b] (.int .i64 (cmpS a b)):=by
 refine Fun.of (FnEv.bodyL Tryz.func80 rfl ?_)
 (repeat' (first | refine EvOps.nil ?_ | (apply R.move;exact rfl) | (apply R.assign;exact rfl) | refine Ev.seq ?_ | refine Ev.region ?_ | refine thenQ.normal ?_ | fail))
 refine R.call rfl rfl (CallEv.pure rfl rfl (cmpstr_fun a b) ?_)
 (repeat' (first | refine EvOps.nil ?_ | (apply R.assign;exact rfl) | refine Ev.ret ?_ | refine thenQ.normal ?_ | (apply bodyQ.ret;exact rfl) | fail))
 exact ⟨_,rfl,rfl⟩
theorem tcmp_ev (k s o l k' s' o' l') (hb:bulk (.mk k s o l)<1000000000) (hb':bulk (.mk k' s' o' l')<1000000000)
  (ih:∀ t∈l,∀ t'∈l',Fun C 40 [enc t,enc t'] (.int .i64 (cmpT t t'))):Fun C 40 [enc (.mk k s o l),enc (.mk k' s' o' l')] (.int .i64 (cmpT (.mk k s o l) (.mk k' s' o' l'))):=by
 refine Fun.of (FnEv.bodyL Tryz.func40 rfl ?_)
 have hlex:=cmpT_lex k s o l k' s' o' l'
 have z1:=tsize_fun _ hb
 have z2:=tsize_fun _ hb'
 rw [enc_mk] at z1 z2
 rw [enc_mk,enc_mk]
 generalize cmpT (.mk k s o l) (.mk k' s' o' l')=R0 at hlex ⊢
 have e1:=encs_len l
 have e2:=encs_len l'
 have b1:l.length<1000000000:=by have:=len_bulks l;simp only [bulk] at hb;omega
 have b2:l'.length<1000000000:=by have:=len_bulks l';simp only [bulk] at hb';omega
 have hll:cmpN (encs l).length (encs l').length=0→l.length=l'.length:=fun h=>by have:=cmpN_zero h;omega
 rw [← e1,← e2] at hlex
 (repeat' (first | refine EvOps.nil ?_ | (apply R.assign;exact rfl) | (apply R.box;exact rfl;exact rfl;exact rfl;exact .nil) | (apply R.box;exact rfl;exact rfl;exact rfl;exact (.cons .nil)) | refine Ev.seq ?_ | refine Ev.region ?_ | refine Ev.regionD ?_ | (apply D.loadA T6;exact (by first | exact rfl | assumption);exact rfl;exact rfl;exact rfl;exact rfl;exact rfl;exact (by repeat constructor)) | refine thenQ.normal ?_ | fail))
 refine D.callP rfl rfl rfl rfl (by simp [isVals,isVal]) rfl rfl (by simpa [nrms,nrm,nrms_encs] using z1) ?_
 (repeat' (first | (apply D.loadA T6;exact (by first | exact rfl | assumption);exact rfl;exact rfl;exact rfl;exact rfl;exact rfl;exact (by repeat constructor)) | fail))
 refine D.callP rfl rfl rfl rfl (by simp [isVals,isVal]) rfl rfl (by simpa [nrms,nrm,nrms_encs] using z2) ?_
 refine D.callP rfl rfl rfl rfl rfl rfl rfl (sign_fun _ _) ?_
 generalize cmpN (size (.mk k s o l)) (size (.mk k' s' o' l'))=X1 at hlex ⊢
 (repeat' (first | refine EvOps.nil ?_ | (apply R.move;exact rfl) | (apply R.assign;exact rfl) | (apply R.load1 T6;exact rfl;exact rfl;exact rfl;exact rfl) | (apply R.fieldAddr T6;exact rfl;exact rfl;exact rfl;exact rfl) | (apply R.cmp;exact rfl;exact rfl;exact rfl;all_goals intro hc;all_goals (try (exfalso;omega))) | refine Ev.seq ?_ | refine Ev.region ?_ | refine EvD.nil ?_ | (apply D.assign;exact rfl) | (apply Ev.condB;exact rfl) | refine Ev.skip ?_ | refine Ev.block ?_ | refine thenQ.normal ?_ | fail))
 all_goals try (refine R.call rfl rfl (CallEv.pure rfl rfl (sign_fun k k') ?_);generalize cmpN k k'=X2 at hlex ⊢;(repeat' (first | refine EvOps.nil ?_ | (apply R.move;exact rfl) | (apply R.assign;exact rfl) | (apply R.load1 T6;exact rfl;exact rfl;exact rfl;exact rfl) | (apply R.fieldAddr T6;exact rfl;exact rfl;exact rfl;exact rfl) | (apply R.cmp;exact rfl;exact rfl;exact rfl;all_goals intro hc;all_goals (try (exfalso;omega))) | refine Ev.seq ?_ | refine Ev.region ?_ | (apply Ev.condB;exact rfl) | refine Ev.skip ?_ | refine Ev.block ?_ | refine thenQ.normal ?_ | fail)))
 all_goals try (refine R.call rfl rfl (CallEv.pure rfl rfl (scmp_fun s s') ?_);generalize cmpS s s'=X3 at hlex ⊢;(repeat' (first | refine EvOps.nil ?_ | (apply R.move;exact rfl) | (apply R.assign;exact rfl) | (apply R.load1 T6;exact rfl;exact rfl;exact rfl;exact rfl) | (apply R.fieldAddr T6;exact rfl;exact rfl;exact rfl;exact rfl) | (apply R.cmp;exact rfl;exact rfl;exact rfl;all_goals intro hc;all_goals (try (exfalso;omega))) | refine Ev.seq ?_ | refine Ev.region ?_ | (apply Ev.condB;exact rfl) | refine Ev.skip ?_ | refine Ev.block ?_ | refine thenQ.normal ?_ | fail)))
 all_goals try (refine R.call rfl rfl (CallEv.pure rfl rfl (sign_fun o o') ?_);generalize cmpN o o'=X4 at hlex ⊢;(repeat' (first | refine EvOps.nil ?_ | (apply R.move;exact rfl) | (apply R.assign;exact rfl) | (apply R.load1 T6;exact rfl;exact rfl;exact rfl;exact rfl) | (apply R.fieldAddr T6;exact rfl;exact rfl;exact rfl;exact rfl) | (apply R.cmp;exact rfl;exact rfl;exact rfl;all_goals intro hc;all_goals (try (exfalso;omega))) | (apply R.lenS T6;exact rfl;exact rfl) | refine Ev.seq ?_ | refine Ev.region ?_ | (apply Ev.condB;exact rfl) | refine Ev.skip ?_ | refine Ev.block ?_ | refine thenQ.normal ?_ | fail)))
 all_goals try (refine R.call rfl rfl (CallEv.pure rfl rfl (sign_fun (encs l).length (encs l').length) ?_);generalize cmpN (encs l).length (encs l').length=X5 at hlex hll ⊢;(repeat' (first | refine EvOps.nil ?_ | (apply R.assign;exact rfl) | refine Ev.seq ?_ | refine Ev.region ?_ | refine Ev.block ?_ | refine thenQ.normal ?_ | fail)))
 all_goals (
  refine Ev.loop (I:=fun k'' st=>∃ (i:Nat) (c:Int) (ρ':Nat→PV),st=⟨al [(2,.ptr 0 0 0 0),(3,.ptr 1 0 0 0),(5,.int .i64 c),(6,.int .i64 i)] ρ',[⟨.m,0,4,[.agg [.int .i64 k,.str s,.int .i64 o,.snap false (encs l)]]⟩,⟨.m,0,4,[.agg [.int .i64 k',.str s',.int .i64 o',.snap false (encs l')]]⟩]⟩∧k''+i=l.length∧R0=lexI c (cmps (l.drop i) (l'.drop i))∧(c=0→l.length=l'.length)) l.length ?_ ?_
  ·refine ⟨0,_,_,St.keep ⟨rfl,rfl,rfl,rfl,trivial⟩,rfl,?_,?_⟩
   ·rw [hlex];unfold lexI;simp only [List.drop_zero];(repeat' split) <;> first | rfl | omega
   ·first | exact hll | (intro h;exfalso;omega)
  ·clear hlex hll
   rintro k'' _ ⟨i,c,ρ',rfl,hk,hb2,hll⟩
   (repeat' (first | refine EvOps.nil ?_ | (apply R.gOn;exact rfl;exact rfl;exact rfl) | (apply R.gOff;exact rfl;exact rfl;exact rfl) | (apply R.move;exact rfl) | (apply R.assign;exact rfl) | (apply R.pickT;exact rfl;exact rfl) | (apply R.pickF;exact rfl;exact rfl) | (apply R.load1 T6;exact rfl;exact rfl;exact rfl;exact rfl) | (apply R.fieldAddr T6;exact rfl;exact rfl;exact rfl;exact rfl) | (apply R.cmp;exact rfl;exact rfl;exact rfl;all_goals intro hc;all_goals (try (exfalso;omega))) | (apply R.lenS T6;exact rfl;exact rfl) | refine Ev.seq ?_ | refine Ev.region ?_ | refine Ev.regionD ?_ | (apply D.move;exact rfl) | (apply D.fieldAddr T6;exact rfl;exact rfl;exact rfl;exact rfl) | (apply D.load1 T6;exact (by first | exact rfl | assumption);exact rfl;exact rfl;exact rfl;exact rfl;exact rfl) | (apply Ev.condB;exact rfl) | refine Ev.ret ?_ | refine Ev.skip ?_ | refine Ev.exit ?_ | refine Ev.block ?_ | refine thenQ.normal ?_ | refine thenQ.exit ?_ | refine blockQ.hit ?_ | refine loopQ.exit ?_ | (apply bodyQ.ret;exact rfl) | fail))
   ·have hll:=hll (by assumption)
    obtain ⟨k1,s1,o1,l1,hmem,hat,hd,hil,_⟩:=encs_at' hc
    obtain ⟨k2,s2,o2,l2,hmem',hat',hd',hil',_⟩:=encs_at' (l:=l') (i:=i) (by omega)
    have hih:=ih _ hmem _ hmem'
    rw [enc_mk,enc_mk] at hih
    refine D.indexS T6 rfl rfl rfl rfl rfl hat rfl rfl ?_
    (repeat' (first | (apply D.move;exact rfl) | (apply D.fieldAddr T6;exact rfl;exact rfl;exact rfl;exact rfl) | (apply D.load1 T6;exact (by first | exact rfl | assumption);exact rfl;exact rfl;exact rfl;exact rfl;exact rfl) | (apply D.loadA T6;exact (by first | exact rfl | assumption);exact rfl;exact rfl;exact rfl;exact rfl;exact rfl;exact (by repeat constructor)) | fail))
    refine D.indexS T6 rfl rfl rfl rfl rfl hat' rfl rfl ?_
    (repeat' (first | (apply D.loadA T6;exact (by first | exact rfl | assumption);exact rfl;exact rfl;exact rfl;exact rfl;exact rfl;exact (by repeat constructor)) | fail))
    refine D.callP rfl rfl rfl rfl (by simp [isVals,isVal]) rfl rfl (by simpa [nrms,nrm,nrms_encs] using hih) ?_
    (repeat' (first | refine EvOps.nil ?_ | (apply R.move;exact rfl) | (apply R.assign;exact rfl) | (apply R.arith;exact rfl;exact rfl;exact rfl;exact (wrapI (by omega) (by omega))) | refine Ev.region ?_ | refine EvD.nil ?_ | (apply D.assign;exact rfl) | refine thenQ.normal ?_ | refine blockQ.normal ?_ | refine loopQ.normal ?_ | fail))
    refine ⟨k'' - 1,by omega,i+1,_,_,St.keep ⟨rfl,rfl,rfl,rfl,trivial⟩,by omega,?_,fun _=>hll⟩
    have hc0:c=0:=by assumption
    rw [hb2,hc0,hd,hd',cmps_lex];rfl
   ·refine ⟨_,rfl,congrArg (PV.int .i64) ?_⟩
    have hc0:c=0:=by assumption
    rw [hb2,hc0,encs_end hc,cmps];rfl
   ·refine ⟨_,rfl,congrArg (PV.int .i64) ?_⟩
    rw [hb2,lexI,if_pos (by assumption)])
theorem tcmp_fun (t t':Tm) (hb:bulk t<1000000000) (hb':bulk t'<1000000000):Fun C 40 [enc t,enc t'] (.int .i64 (cmpT t t')):=by
 induction t using Tm.ind generalizing t' with
 | h k s o l ih=>
  obtain ⟨k',s',o',l'⟩:=t'
  refine tcmp_ev k s o l k' s' o' l' hb hb' (fun t ht t' ht'=>ih t ht t' ?_ ?_)
  ·have:=bulk_mem ht;simp only [bulk] at hb;omega
  ·have:=bulk_mem ht';simp only [bulk] at hb';omega
end Go.Pm
end
section
set_option maxRecDepth 4000
set_option maxHeartbeats 4000000
namespace Go.Pm
open Go.Proofs
attribute [local irreducible] thenQ blockQ loopQ bodyQ Ev EvOps CallEv FnEv EvD
end Go.Pm
end
section
set_option maxRecDepth 4000
set_option maxHeartbeats 4000000
namespace Go.Pm
open Go.Proofs
attribute [local irreducible] thenQ blockQ loopQ bodyQ Ev EvOps CallEv FnEv EvD
theorem encP_mk (k s o l n):encP (.mk k s o l,n)=.agg [.int .i64 k,.str s,.int .i64 o,.snap false (encs l),.int .i64 n]:=rfl
theorem encPs_len (l:List Pw):(encPs l).length=l.length:=by simp [encPs]
theorem encPs_at {l:List Pw} {i:Nat} (hc:(i:Int)<((encPs l).length:Int)):∃ k s o l' n,(.mk k s o l',n)∈l∧(encPs l)[i]?=some (.agg [.int .i64 k,.str s,.int .i64 o,.snap false (encs l'),.int .i64 n])∧l.drop i=(.mk k s o l',n)::l.drop (i+1)∧i<l.length∧l[i]?=some (.mk k s o l',n):=by
 have hil:i<l.length:=by have:=encPs_len l;omega
 rcases hp:l[i] with ⟨⟨k,s,o,l'⟩,n⟩
 refine ⟨k,s,o,l',n,hp ▸ List.getElem_mem hil,?_,?_,hil,?_⟩
 ·unfold encPs
  rw [List.getElem?_map,List.getElem?_eq_getElem hil,hp];rfl
 ·rw [List.drop_eq_getElem_cons hil,hp]
 ·rw [List.getElem?_eq_getElem hil,hp]
theorem encPs_end {l:List Pw} {i:Nat} (hc:¬ (i:Int)<((encPs l).length:Int)):l.drop i=[]:=List.drop_eq_nil_of_le (by have:=encPs_len l;omega)
theorem encPs_vals (l:List Pw):isVals (encPs l)=true:=by
 induction l with
 | nil=>rfl
 | cons p l ih=>
  obtain ⟨⟨k,s,o,l'⟩,n⟩:=p
  simp only [encPs,List.map_cons,isVals] at *
  rw [ih];rfl
theorem nrms_encPs (l:List Pw):nrms (encPs l)=encPs l:=by
 induction l with
 | nil=>rfl
 | cons p l ih=>
  obtain ⟨⟨k,s,o,l'⟩,n⟩:=p
  simp only [encPs,List.map_cons,nrms] at *
  rw [ih,encP_mk];simp [nrm,nrms,nrms_encs]
def Sm (l:List Pw):Prop:=(∀ p∈l,bulk p.1<1000000000)∧l.length<100000000
set_option maxHeartbeats 8000000 in
theorem radd_fun (l:List Pw) (t:Tm) (n:Int) (hl:Sm l) (ht:bulk t<1000000000) (hB:Bd 1000000000 l) (hn : -1000000000≤n∧n≤1000000000) :
  Fun C 59 [.snap false (encPs l),enc t,.int .i64 n] (.snap false (encPs (addP t n false l))):=by
 obtain ⟨hl1,hl2⟩:=hl
 have hcmp:∀ p∈l,Fun C 74 [enc t,enc p.1] (.int .i64 (cmpT t p.1)):=fun p hp=>rcmp_fun t p.1 ht (hl1 p hp)
 obtain ⟨tk,ts,to,tl⟩:=t
 refine Fun.of (FnEv.bodyL Tryz.func59 rfl ?_)
 rw [enc_mk]
 have hel:=encPs_len l
 (repeat' (first | refine EvOps.nil ?_ | (apply R.assign;exact rfl) | (apply R.box;exact rfl;exact rfl;exact rfl;exact .nil) | refine Ev.seq ?_ | refine Ev.region ?_ | refine Ev.block ?_ | refine thenQ.normal ?_ | fail))
 refine Ev.loop (I:=fun k' st=>∃ (i:Nat) (dn:Bool) (acc:List Pw) (v:PV) (J:AHeap) (ρ':Nat→PV),st=⟨al [(0,.snap false (encPs l)),(2,.int .i64 n),(4,.ptr 0 0 0 0),(7,v),(8,.bool dn),(9,.int .i64 i)] ρ',⟨.m,0,4,[.agg [.int .i64 tk,.str ts,.int .i64 to,.snap false (encs tl)]]⟩::J⟩∧k'+i=l.length∧HV J∧acc.length≤2 * i ∧
   OutA 5 [⟨.m,0,4,[.agg [.int .i64 tk,.str ts,.int .i64 to,.snap false (encs tl)]]⟩] J v (encPs acc)∧addP (.mk tk ts to tl) n false l=acc++addP (.mk tk ts to tl) n dn (l.drop i)) l.length ?_ ?_
 ·exact ⟨0,false,[],_,[],_,St.keep ⟨rfl,rfl,rfl,rfl,rfl,rfl,trivial⟩,rfl,HV.nil,by simp,OutA.nil _ _ _,rfl⟩
 ·rintro k' _ ⟨i,dn,acc,v,J,ρ',rfl,hk,hJ,hacc,hout,hb'⟩
  have hcl:closedH (⟨.m,0,4,[.agg [.int .i64 tk,.str ts,.int .i64 to,.snap false (encs tl)]]⟩::J)=true:=HV.closed (HV.app (h:=[⟨.m,0,4,[.agg [.int .i64 tk,.str ts,.int .i64 to,.snap false (encs tl)]]⟩]) (HV.one rfl) hJ)
  have hal:=encPs_len acc
  (repeat' (first | refine EvOps.nil ?_ | (apply R.move;exact rfl) | (apply R.cmp;exact rfl;exact rfl;exact rfl;all_goals intro hc) | (apply R.not;exact rfl;exact rfl) | (apply R.lenS T6;exact rfl;exact rfl) | refine Ev.seq ?_ | refine Ev.region ?_ | refine Ev.regionD ?_ | (apply D.move;exact rfl) | (apply D.loadA T6;exact (by first | exact rfl | assumption);exact rfl;exact rfl;exact rfl;exact rfl;exact rfl;exact (by repeat constructor)) | (apply Ev.condB;exact rfl) | refine Ev.skip ?_ | refine Ev.exit ?_ | refine Ev.block ?_ | refine thenQ.normal ?_ | refine thenQ.exit ?_ | refine blockQ.hit ?_ | refine loopQ.exit ?_ | fail))
  ·obtain ⟨k1,s1,o1,l1,n1,hmem,hat,hd,hil,_⟩:=encPs_at hc
   have hcm:=hcmp _ hmem
   have hbd:=hB _ hmem
   simp only [enc_mk] at hcm
   refine D.indexS T6 hcl rfl rfl rfl rfl hat rfl rfl ?_
   (repeat' (first | (apply D.fieldAddrS T6;exact rfl;exact rfl;exact rfl;exact rfl;exact rfl) | (apply D.loadA T6;exact (by first | exact rfl | assumption);exact rfl;exact rfl;exact rfl;exact rfl;exact rfl;exact (by repeat constructor)) | fail))
   refine D.callP hcl rfl rfl rfl (by simp [isVals,isVal]) rfl rfl (by simpa [nrms,nrm,nrms_encs] using hcm) ?_
   rw [hd,addP] at hb'
   simp only at hb' hbd
   generalize hcv:cmpT (.mk tk ts to tl) (.mk k1 s1 o1 l1)=cv at hb'
   clear hc hcm hcmp
   have tl0:∀ (X:Int) (acc1:List Pw) (dnx:Bool),acc1.length≤2 * i+1→addP (.mk tk ts to tl) n false l=acc1++((if X≠0 then [(.mk k1 s1 o1 l1,X)] else [])++addP (.mk tk ts to tl) n (dnx || decide (cv≤0)) (l.drop (i+1))) →
    ∀ (acc2:List Pw) (dny:Bool),acc2=acc1++(if X≠0 then [(.mk k1 s1 o1 l1,X)] else [])→dny=(dnx || decide (cv≤0))→acc2.length≤2 * (i+1)∧addP (.mk tk ts to tl) n false l=acc2++addP (.mk tk ts to tl) n dny (l.drop (i+1)):=by
    rintro X acc1 dnx hle hsp _ _ rfl rfl
    refine ⟨?_,by rw [hsp,List.append_assoc]⟩
    rw [List.length_append]
    have:(if X≠0 then [((.mk k1 s1 o1 l1:Tm),X)] else []).length≤1:=by by_cases hX:X=0 <;> simp [hX]
    omega
   cases dn
   ·by_cases hlt:cv<0
    ·rw [if_pos ⟨rfl,hlt⟩,← List.append_assoc,if_neg (show ¬ cv=0 by omega)] at hb'
     (repeat' (first | refine EvOps.nil ?_ | (apply R.gOn;exact rfl;exact rfl;exact rfl) | (apply R.move;exact rfl) | (apply R.pickT;exact rfl;exact rfl) | (apply R.loadA T6;exact rfl;exact rfl;exact rfl;exact rfl;exact (by repeat constructor)) | (apply R.cmp;exact rfl;exact rfl;exact rfl;all_goals intro hc;all_goals (try (exfalso;omega))) | (apply R.build T6;exact rfl;exact rfl;exact rfl;exact rfl;exact rfl;exact rfl) | (apply R.buildSlice T6;exact rfl;exact rfl;exact rfl;exact rfl;exact (by decide);exact rfl;exact rfl;exact rfl;exact rfl;exact rfl) | (apply R.not;exact rfl;exact rfl) | refine Ev.seq ?_ | refine Ev.region ?_ | refine EvD.nil ?_ | (apply D.assign;exact rfl) | (apply Ev.condB;exact rfl) | refine thenQ.normal ?_ | fail))
     refine R.append T6 (ts:=[]) (A:=[_]) (J:=J) (es:=encPs acc) rfl rfl rfl rfl rfl rfl rfl (by decide) rfl rfl rfl rfl hout (show (encPs acc).length+1<_ by omega) (by rw [isVals_eq,List.all_append,← isVals_eq,encPs_vals];rfl) hJ ?_
     intro v1 J1 ho1 hJ1
     have ho1:OutA 5 [⟨.m,0,4,[.agg [.int .i64 tk,.str ts,.int .i64 to,.snap false (encs tl)]]⟩] J1 v1 (encPs (acc++[(.mk tk ts to tl,n)])):=by unfold encPs;rw [List.map_append];exact ho1
     have hle1:(acc++[((.mk tk ts to tl:Tm),n)]).length≤2 * i+1:=by simp;omega
     generalize acc++[((.mk tk ts to tl:Tm),n)]=acc1 at *
     have hal1:=encPs_len acc1
     have fin:=tl0 n1 acc1 false hle1 hb'
     (repeat' (first | refine EvOps.nil ?_ | (apply R.move;exact rfl) | (apply R.assign;exact rfl) | refine Ev.seq ?_ | refine Ev.region ?_ | refine thenQ.normal ?_ | fail))
     refine R.indexS T6 rfl rfl rfl rfl hat rfl rfl ?_
     (repeat' (first | refine EvOps.nil ?_ | (apply R.move;exact rfl) | (apply R.assign;exact rfl) | (apply R.loadA T6;exact rfl;exact rfl;exact rfl;exact rfl;exact (by repeat constructor)) | (apply R.fieldAddr T6;exact rfl;exact rfl;exact rfl;exact rfl) | (apply R.cmp;exact rfl;exact rfl;exact rfl;all_goals intro hc;all_goals (try (exfalso;omega))) | (apply R.arith;exact rfl;exact rfl;exact rfl;exact (wrapI (by omega) (by omega))) | (apply R.buildSlice T6;exact rfl;exact rfl;exact rfl;exact rfl;exact (by decide);exact rfl;exact rfl;exact rfl;exact rfl;exact rfl) | (apply R.allocN T6;exact rfl;exact rfl;exact rfl) | (apply R.storeN T6;exact rfl;exact rfl;exact rfl;exact rfl;exact rfl;exact rfl) | (apply R.load1No T6;exact rfl;exact rfl;exact rfl;exact rfl) | (apply R.loadAN T6;exact rfl;exact rfl;exact rfl;exact (by repeat constructor)) | refine Ev.seq ?_ | refine Ev.region ?_ | (apply Ev.condB;exact rfl) | refine Ev.skip ?_ | refine thenQ.normal ?_ | refine blockQ.normal ?_ | refine loopQ.normal ?_ | fail))
     ·refine R.append T6 (ts:=[]) (A:=[_]) (J:=J1++_) (es:=encPs acc1) rfl rfl rfl rfl rfl rfl rfl (by decide) rfl rfl rfl rfl (ho1.app _) (show (encPs acc1).length+1<_ by omega) (by rw [isVals_eq,List.all_append,← isVals_eq,encPs_vals];rfl) (hJ1.app (HV.one rfl)) ?_
      intro v2 J2 ho2 hJ2
      have ho2:OutA 5 [⟨.m,0,4,[.agg [.int .i64 tk,.str ts,.int .i64 to,.snap false (encs tl)]]⟩] J2 v2 (encPs (acc1++[(.mk k1 s1 o1 l1,n1)])):=by unfold encPs;rw [List.map_append];exact ho2
      (repeat' (first | refine EvOps.nil ?_ | (apply R.move;exact rfl) | (apply R.assign;exact rfl) | (apply R.arith;exact rfl;exact rfl;exact rfl;exact (wrapI (by omega) (by omega))) | refine Ev.region ?_ | refine thenQ.normal ?_ | refine blockQ.normal ?_ | refine loopQ.normal ?_ | fail))
      obtain ⟨f1,f2⟩:=fin (acc1++[(.mk k1 s1 o1 l1,n1)]) true (by rw [if_pos (by omega)]) (by rw [decide_eq_true (show cv≤0 by omega)];rfl)
      exact ⟨k' - 1,by omega,i+1,true,_,v2,J2,_,St.keep ⟨rfl,rfl,rfl,rfl,rfl,rfl,trivial⟩,by omega,hJ2,f1,ho2,f2⟩
     ·obtain ⟨f1,f2⟩:=fin acc1 true (by rw [if_neg (by omega)];simp) (by rw [decide_eq_true (show cv≤0 by omega)];rfl)
      exact ⟨k' - 1,by omega,i+1,true,_,v1,J1++_,_,St.keep ⟨rfl,rfl,rfl,rfl,rfl,rfl,trivial⟩,by omega,hJ1.app (HV.one rfl),f1,ho1.app _,f2⟩
    ·rw [if_neg (fun h=>hlt h.2),List.nil_append] at hb'
     by_cases heq:cv=0
     ·rw [if_pos heq] at hb'
      have fin:=tl0 (n1+n) acc false (by omega) hb'
      (repeat' (first | refine EvOps.nil ?_ | (apply R.gOn;exact rfl;exact rfl;exact rfl) | (apply R.move;exact rfl) | (apply R.pickT;exact rfl;exact rfl) | (apply R.cmp;exact rfl;exact rfl;exact rfl;all_goals intro hc;all_goals (try (exfalso;omega))) | (apply R.not;exact rfl;exact rfl) | refine Ev.seq ?_ | refine Ev.region ?_ | refine EvD.nil ?_ | (apply D.assign;exact rfl) | (apply Ev.condB;exact rfl) | refine Ev.skip ?_ | refine thenQ.normal ?_ | fail))
      refine R.indexS T6 rfl rfl rfl rfl hat rfl rfl ?_
      (repeat' (first | refine EvOps.nil ?_ | (apply R.move;exact rfl) | (apply R.loadA T6;exact rfl;exact rfl;exact rfl;exact rfl;exact (by repeat constructor)) | (apply R.fieldAddr T6;exact rfl;exact rfl;exact rfl;exact rfl) | (apply R.cmp;exact rfl;exact rfl;exact rfl;all_goals intro hc;all_goals (try (exfalso;omega))) | (apply R.arith;exact rfl;exact rfl;exact rfl;exact (wrapI (by omega) (by omega))) | (apply R.allocN T6;exact rfl;exact rfl;exact rfl) | (apply R.storeN T6;exact rfl;exact rfl;exact rfl;exact rfl;exact rfl;exact rfl) | (apply R.load1No T6;exact rfl;exact rfl;exact rfl;exact rfl) | refine Ev.seq ?_ | refine Ev.region ?_ | (apply Ev.condB;exact rfl) | refine thenQ.normal ?_ | fail))
      refine R.storeNo T6 (e':=.agg [.int .i64 k1,.str s1,.int .i64 o1,.snap false (encs l1),.int .i64 (n1+n)]) rfl rfl rfl rfl rfl rfl rfl ?_
      (repeat' (first | refine EvOps.nil ?_ | (apply R.move;exact rfl) | (apply R.assign;exact rfl) | (apply R.fieldAddr T6;exact rfl;exact rfl;exact rfl;exact rfl) | (apply R.cmp;exact rfl;exact rfl;exact rfl;all_goals intro hc;all_goals (try (exfalso;omega))) | (apply R.arith;exact rfl;exact rfl;exact rfl;exact (wrapI (by omega) (by omega))) | (apply R.buildSlice T6;exact rfl;exact rfl;exact rfl;exact rfl;exact (by decide);exact rfl;exact rfl;exact rfl;exact rfl;exact rfl) | (apply R.load1No T6;exact rfl;exact rfl;exact rfl;exact rfl) | (apply R.loadAN T6;exact rfl;exact rfl;exact rfl;exact (by repeat constructor)) | refine Ev.seq ?_ | refine Ev.region ?_ | (apply Ev.condB;exact rfl) | refine Ev.skip ?_ | refine thenQ.normal ?_ | refine blockQ.normal ?_ | refine loopQ.normal ?_ | fail))
      ·refine R.append T6 (ts:=[]) (A:=[_]) (J:=J++_) (es:=encPs acc) rfl rfl rfl rfl rfl rfl rfl (by decide) rfl rfl rfl rfl (hout.app _) (show (encPs acc).length+1<_ by omega) (by rw [isVals_eq,List.all_append,← isVals_eq,encPs_vals];rfl) (hJ.app (HV.one rfl)) ?_
       intro v2 J2 ho2 hJ2
       have ho2:OutA 5 [⟨.m,0,4,[.agg [.int .i64 tk,.str ts,.int .i64 to,.snap false (encs tl)]]⟩] J2 v2 (encPs (acc++[(.mk k1 s1 o1 l1,(n1+n))])):=by unfold encPs;rw [List.map_append];exact ho2
       (repeat' (first | refine EvOps.nil ?_ | (apply R.move;exact rfl) | (apply R.assign;exact rfl) | (apply R.arith;exact rfl;exact rfl;exact rfl;exact (wrapI (by omega) (by omega))) | refine Ev.region ?_ | refine thenQ.normal ?_ | refine blockQ.normal ?_ | refine loopQ.normal ?_ | fail))
       obtain ⟨f1,f2⟩:=fin (acc++[(.mk k1 s1 o1 l1,(n1+n))]) true (by rw [if_pos (by omega)]) (by rw [decide_eq_true (show cv≤0 by omega)];rfl)
       exact ⟨k' - 1,by omega,i+1,true,_,v2,J2,_,St.keep ⟨rfl,rfl,rfl,rfl,rfl,rfl,trivial⟩,by omega,hJ2,f1,ho2,f2⟩
      ·obtain ⟨f1,f2⟩:=fin acc true (by rw [if_neg (by omega)];simp) (by rw [decide_eq_true (show cv≤0 by omega)];rfl)
       exact ⟨k' - 1,by omega,i+1,true,_,v,J++_,_,St.keep ⟨rfl,rfl,rfl,rfl,rfl,rfl,trivial⟩,by omega,hJ.app (HV.one rfl),f1,hout.app _,f2⟩
     ·rw [if_neg heq] at hb'
      have fin:=tl0 n1 acc false (by omega) hb'
      (repeat' (first | refine EvOps.nil ?_ | (apply R.gOn;exact rfl;exact rfl;exact rfl) | (apply R.move;exact rfl) | (apply R.pickT;exact rfl;exact rfl) | (apply R.cmp;exact rfl;exact rfl;exact rfl;all_goals intro hc;all_goals (try (exfalso;omega))) | (apply R.not;exact rfl;exact rfl) | refine Ev.seq ?_ | refine Ev.region ?_ | refine EvD.nil ?_ | (apply D.assign;exact rfl) | (apply Ev.condB;exact rfl) | refine Ev.skip ?_ | refine thenQ.normal ?_ | fail))
      refine R.indexS T6 rfl rfl rfl rfl hat rfl rfl ?_
      (repeat' (first | refine EvOps.nil ?_ | (apply R.move;exact rfl) | (apply R.assign;exact rfl) | (apply R.loadA T6;exact rfl;exact rfl;exact rfl;exact rfl;exact (by repeat constructor)) | (apply R.fieldAddr T6;exact rfl;exact rfl;exact rfl;exact rfl) | (apply R.cmp;exact rfl;exact rfl;exact rfl;all_goals intro hc;all_goals (try (exfalso;omega))) | (apply R.arith;exact rfl;exact rfl;exact rfl;exact (wrapI (by omega) (by omega))) | (apply R.buildSlice T6;exact rfl;exact rfl;exact rfl;exact rfl;exact (by decide);exact rfl;exact rfl;exact rfl;exact rfl;exact rfl) | (apply R.allocN T6;exact rfl;exact rfl;exact rfl) | (apply R.storeN T6;exact rfl;exact rfl;exact rfl;exact rfl;exact rfl;exact rfl) | (apply R.load1No T6;exact rfl;exact rfl;exact rfl;exact rfl) | (apply R.loadAN T6;exact rfl;exact rfl;exact rfl;exact (by repeat constructor)) | refine Ev.seq ?_ | refine Ev.region ?_ | (apply Ev.condB;exact rfl) | refine Ev.skip ?_ | refine thenQ.normal ?_ | refine blockQ.normal ?_ | refine loopQ.normal ?_ | fail))
      ·refine R.append T6 (ts:=[]) (A:=[_]) (J:=J++_) (es:=encPs acc) rfl rfl rfl rfl rfl rfl rfl (by decide) rfl rfl rfl rfl (hout.app _) (show (encPs acc).length+1<_ by omega) (by rw [isVals_eq,List.all_append,← isVals_eq,encPs_vals];rfl) (hJ.app (HV.one rfl)) ?_
       intro v2 J2 ho2 hJ2
       have ho2:OutA 5 [⟨.m,0,4,[.agg [.int .i64 tk,.str ts,.int .i64 to,.snap false (encs tl)]]⟩] J2 v2 (encPs (acc++[(.mk k1 s1 o1 l1,n1)])):=by unfold encPs;rw [List.map_append];exact ho2
       (repeat' (first | refine EvOps.nil ?_ | (apply R.move;exact rfl) | (apply R.assign;exact rfl) | (apply R.arith;exact rfl;exact rfl;exact rfl;exact (wrapI (by omega) (by omega))) | refine Ev.region ?_ | refine thenQ.normal ?_ | refine blockQ.normal ?_ | refine loopQ.normal ?_ | fail))
       obtain ⟨f1,f2⟩:=fin (acc++[(.mk k1 s1 o1 l1,n1)]) false (by rw [if_pos (by omega)]) (by rw [decide_eq_false (show ¬ cv≤0 by omega)];rfl)
       exact ⟨k' - 1,by omega,i+1,false,_,v2,J2,_,St.keep ⟨rfl,rfl,rfl,rfl,rfl,rfl,trivial⟩,by omega,hJ2,f1,ho2,f2⟩
      ·obtain ⟨f1,f2⟩:=fin acc false (by rw [if_neg (by omega)];simp) (by rw [decide_eq_false (show ¬ cv≤0 by omega)];rfl)
       exact ⟨k' - 1,by omega,i+1,false,_,v,J++_,_,St.keep ⟨rfl,rfl,rfl,rfl,rfl,rfl,trivial⟩,by omega,hJ.app (HV.one rfl),f1,hout.app _,f2⟩
   ·rw [if_neg (fun h=>Bool.noConfusion h.1),List.nil_append] at hb'
    by_cases heq:cv=0
    ·rw [if_pos heq] at hb'
     have fin:=tl0 (n1+n) acc true (by omega) hb'
     (repeat' (first | refine EvOps.nil ?_ | (apply R.gOff;exact rfl;exact rfl;exact rfl) | (apply R.move;exact rfl) | (apply R.pickF;exact rfl;exact rfl) | (apply R.not;exact rfl;exact rfl) | refine Ev.seq ?_ | refine Ev.region ?_ | refine EvD.nil ?_ | (apply D.assign;exact rfl) | (apply Ev.condB;exact rfl) | refine Ev.skip ?_ | refine thenQ.normal ?_ | fail))
     refine R.indexS T6 rfl rfl rfl rfl hat rfl rfl ?_
     (repeat' (first | refine EvOps.nil ?_ | (apply R.move;exact rfl) | (apply R.loadA T6;exact rfl;exact rfl;exact rfl;exact rfl;exact (by repeat constructor)) | (apply R.fieldAddr T6;exact rfl;exact rfl;exact rfl;exact rfl) | (apply R.cmp;exact rfl;exact rfl;exact rfl;all_goals intro hc;all_goals (try (exfalso;omega))) | (apply R.arith;exact rfl;exact rfl;exact rfl;exact (wrapI (by omega) (by omega))) | (apply R.allocN T6;exact rfl;exact rfl;exact rfl) | (apply R.storeN T6;exact rfl;exact rfl;exact rfl;exact rfl;exact rfl;exact rfl) | (apply R.load1No T6;exact rfl;exact rfl;exact rfl;exact rfl) | refine Ev.seq ?_ | refine Ev.region ?_ | (apply Ev.condB;exact rfl) | refine thenQ.normal ?_ | fail))
     refine R.storeNo T6 (e':=.agg [.int .i64 k1,.str s1,.int .i64 o1,.snap false (encs l1),.int .i64 (n1+n)]) rfl rfl rfl rfl rfl rfl rfl ?_
     (repeat' (first | refine EvOps.nil ?_ | (apply R.move;exact rfl) | (apply R.assign;exact rfl) | (apply R.fieldAddr T6;exact rfl;exact rfl;exact rfl;exact rfl) | (apply R.cmp;exact rfl;exact rfl;exact rfl;all_goals intro hc;all_goals (try (exfalso;omega))) | (apply R.arith;exact rfl;exact rfl;exact rfl;exact (wrapI (by omega) (by omega))) | (apply R.buildSlice T6;exact rfl;exact rfl;exact rfl;exact rfl;exact (by decide);exact rfl;exact rfl;exact rfl;exact rfl;exact rfl) | (apply R.load1No T6;exact rfl;exact rfl;exact rfl;exact rfl) | (apply R.loadAN T6;exact rfl;exact rfl;exact rfl;exact (by repeat constructor)) | refine Ev.seq ?_ | refine Ev.region ?_ | (apply Ev.condB;exact rfl) | refine Ev.skip ?_ | refine thenQ.normal ?_ | refine blockQ.normal ?_ | refine loopQ.normal ?_ | fail))
     ·refine R.append T6 (ts:=[]) (A:=[_]) (J:=J++_) (es:=encPs acc) rfl rfl rfl rfl rfl rfl rfl (by decide) rfl rfl rfl rfl (hout.app _) (show (encPs acc).length+1<_ by omega) (by rw [isVals_eq,List.all_append,← isVals_eq,encPs_vals];rfl) (hJ.app (HV.one rfl)) ?_
      intro v2 J2 ho2 hJ2
      have ho2:OutA 5 [⟨.m,0,4,[.agg [.int .i64 tk,.str ts,.int .i64 to,.snap false (encs tl)]]⟩] J2 v2 (encPs (acc++[(.mk k1 s1 o1 l1,(n1+n))])):=by unfold encPs;rw [List.map_append];exact ho2
      (repeat' (first | refine EvOps.nil ?_ | (apply R.move;exact rfl) | (apply R.assign;exact rfl) | (apply R.arith;exact rfl;exact rfl;exact rfl;exact (wrapI (by omega) (by omega))) | refine Ev.region ?_ | refine thenQ.normal ?_ | refine blockQ.normal ?_ | refine loopQ.normal ?_ | fail))
      obtain ⟨f1,f2⟩:=fin (acc++[(.mk k1 s1 o1 l1,(n1+n))]) true (by rw [if_pos (by omega)]) rfl
      exact ⟨k' - 1,by omega,i+1,true,_,v2,J2,_,St.keep ⟨rfl,rfl,rfl,rfl,rfl,rfl,trivial⟩,by omega,hJ2,f1,ho2,f2⟩
     ·obtain ⟨f1,f2⟩:=fin acc true (by rw [if_neg (by omega)];simp) rfl
      exact ⟨k' - 1,by omega,i+1,true,_,v,J++_,_,St.keep ⟨rfl,rfl,rfl,rfl,rfl,rfl,trivial⟩,by omega,hJ.app (HV.one rfl),f1,hout.app _,f2⟩
    ·rw [if_neg heq] at hb'
     have fin:=tl0 n1 acc true (by omega) hb'
     (repeat' (first | refine EvOps.nil ?_ | (apply R.gOff;exact rfl;exact rfl;exact rfl) | (apply R.move;exact rfl) | (apply R.pickF;exact rfl;exact rfl) | (apply R.not;exact rfl;exact rfl) | refine Ev.seq ?_ | refine Ev.region ?_ | refine EvD.nil ?_ | (apply D.assign;exact rfl) | (apply Ev.condB;exact rfl) | refine Ev.skip ?_ | refine thenQ.normal ?_ | fail))
     refine R.indexS T6 rfl rfl rfl rfl hat rfl rfl ?_
     (repeat' (first | refine EvOps.nil ?_ | (apply R.move;exact rfl) | (apply R.assign;exact rfl) | (apply R.loadA T6;exact rfl;exact rfl;exact rfl;exact rfl;exact (by repeat constructor)) | (apply R.fieldAddr T6;exact rfl;exact rfl;exact rfl;exact rfl) | (apply R.cmp;exact rfl;exact rfl;exact rfl;all_goals intro hc;all_goals (try (exfalso;omega))) | (apply R.arith;exact rfl;exact rfl;exact rfl;exact (wrapI (by omega) (by omega))) | (apply R.buildSlice T6;exact rfl;exact rfl;exact rfl;exact rfl;exact (by decide);exact rfl;exact rfl;exact rfl;exact rfl;exact rfl) | (apply R.allocN T6;exact rfl;exact rfl;exact rfl) | (apply R.storeN T6;exact rfl;exact rfl;exact rfl;exact rfl;exact rfl;exact rfl) | (apply R.load1No T6;exact rfl;exact rfl;exact rfl;exact rfl) | (apply R.loadAN T6;exact rfl;exact rfl;exact rfl;exact (by repeat constructor)) | refine Ev.seq ?_ | refine Ev.region ?_ | (apply Ev.condB;exact rfl) | refine Ev.skip ?_ | refine thenQ.normal ?_ | refine blockQ.normal ?_ | refine loopQ.normal ?_ | fail))
     ·refine R.append T6 (ts:=[]) (A:=[_]) (J:=J++_) (es:=encPs acc) rfl rfl rfl rfl rfl rfl rfl (by decide) rfl rfl rfl rfl (hout.app _) (show (encPs acc).length+1<_ by omega) (by rw [isVals_eq,List.all_append,← isVals_eq,encPs_vals];rfl) (hJ.app (HV.one rfl)) ?_
      intro v2 J2 ho2 hJ2
      have ho2:OutA 5 [⟨.m,0,4,[.agg [.int .i64 tk,.str ts,.int .i64 to,.snap false (encs tl)]]⟩] J2 v2 (encPs (acc++[(.mk k1 s1 o1 l1,n1)])):=by unfold encPs;rw [List.map_append];exact ho2
      (repeat' (first | refine EvOps.nil ?_ | (apply R.move;exact rfl) | (apply R.assign;exact rfl) | (apply R.arith;exact rfl;exact rfl;exact rfl;exact (wrapI (by omega) (by omega))) | refine Ev.region ?_ | refine thenQ.normal ?_ | refine blockQ.normal ?_ | refine loopQ.normal ?_ | fail))
      obtain ⟨f1,f2⟩:=fin (acc++[(.mk k1 s1 o1 l1,n1)]) true (by rw [if_pos (by omega)]) rfl
      exact ⟨k' - 1,by omega,i+1,true,_,v2,J2,_,St.keep ⟨rfl,rfl,rfl,rfl,rfl,rfl,trivial⟩,by omega,hJ2,f1,ho2,f2⟩
     ·obtain ⟨f1,f2⟩:=fin acc true (by rw [if_neg (by omega)];simp) rfl
      exact ⟨k' - 1,by omega,i+1,true,_,v,J++_,_,St.keep ⟨rfl,rfl,rfl,rfl,rfl,rfl,trivial⟩,by omega,hJ.app (HV.one rfl),f1,hout.app _,f2⟩
  ·rw [encPs_end hc] at hb'
   cases dn
   ·(repeat' (first | (apply R.move;exact rfl) | (apply R.loadA T6;exact rfl;exact rfl;exact rfl;exact rfl;exact (by repeat constructor)) | (apply R.build T6;exact rfl;exact rfl;exact rfl;exact rfl;exact rfl;exact rfl) | (apply R.buildSlice T6;exact rfl;exact rfl;exact rfl;exact rfl;exact (by decide);exact rfl;exact rfl;exact rfl;exact rfl;exact rfl) | refine Ev.region ?_ | fail))
    refine R.append T6 (ts:=[]) (A:=[_]) (J:=J) (es:=encPs acc) rfl rfl rfl rfl rfl rfl rfl (by decide) rfl rfl rfl rfl hout (show (encPs acc).length+1<_ by omega) (by rw [isVals_eq,List.all_append,← isVals_eq,encPs_vals];rfl) hJ ?_
    intro v1 J1 ho1 hJ1
    have ho1:OutA 5 [⟨.m,0,4,[.agg [.int .i64 tk,.str ts,.int .i64 to,.snap false (encs tl)]]⟩] J1 v1 (encPs (acc++[(.mk tk ts to tl,n)])):=by unfold encPs;rw [List.map_append];exact ho1
    (repeat' (first | refine EvOps.nil ?_ | (apply R.move;exact rfl) | (apply R.assign;exact rfl) | refine Ev.seq ?_ | refine Ev.region ?_ | refine Ev.ret ?_ | refine thenQ.normal ?_ | (apply bodyQ.ret;exact rfl) | fail))
    obtain ⟨r1,e1,e2⟩:=ho1.rb (encPs_vals _)
    refine ⟨r1,e1,?_⟩
    rw [e2,nrms_encPs,hb'];rfl
   ·(repeat' (first | refine EvOps.nil ?_ | (apply R.move;exact rfl) | (apply R.assign;exact rfl) | refine Ev.seq ?_ | refine Ev.region ?_ | refine Ev.ret ?_ | refine Ev.skip ?_ | refine thenQ.normal ?_ | (apply bodyQ.ret;exact rfl) | fail))
    obtain ⟨r1,e1,e2⟩:=hout.rb (encPs_vals _)
    refine ⟨r1,e1,?_⟩
    rw [e2,nrms_encPs,hb',addP];simp
end Go.Pm
end
section
set_option maxRecDepth 4000
set_option maxHeartbeats 4000000
namespace Go.Pm
open Go.Proofs
attribute [local irreducible] thenQ blockQ loopQ bodyQ Ev EvOps CallEv FnEv EvD
def lbP (t:Tm):List Pw→Nat
 | []=>0
 | p::l=>if cmpT p.1 t<0 then lbP t l+1 else 0
theorem lbP_le (t:Tm):∀ l:List Pw,lbP t l≤l.length
 | []=>by simp [lbP]
 | p::l=>by
  have:=lbP_le t l
  rw [lbP]
  split <;> simp <;> omega
theorem lbP_iff (t:Tm):∀ (l:List Pw),Srt l→∀ (m:Nat) (p:Pw),l[m]?=some p→(cmpT p.1 t<0↔m<lbP t l)
 | [],_,m,p,h=>by simp at h
 | q::l,s,m,p,h=>by
  obtain ⟨s1,s2⟩:=List.pairwise_cons.1 s
  rw [lbP]
  cases m with
  | zero=>
   simp at h
   subst h
   split
   ·simp;assumption
   ·simp;omega
  | succ m=>
   have h':l[m]?=some p:=by simpa using h
   have ih:=lbP_iff t l s2 m p h'
   have hm:=s1 p (List.mem_of_getElem? h')
   split
   ·rw [ih];omega
   ·rename_i hq
    constructor
    ·intro hp
     exact absurd (cmpT_trans hm hp) hq
    ·intro hh;omega
def fdP (t:Tm) (l:List Pw):Bool:=match l[lbP t l]? with | some p=>decide (cmpT p.1 t=0) | none=>false
theorem wrapU {n:Int} (h1:0≤n) (h2:n≤9223372036854775807):IntKind.u64.wrap n=n:=by
 have:IntKind.u64.wrap n=n % 18446744073709551616:=by simp [IntKind.wrap,IntKind.bits,IntKind.signed]
 rw [this];omega
end Go.Pm
end
section
set_option maxRecDepth 4000
set_option maxHeartbeats 4000000
namespace Go.Pm
open Go.Proofs
attribute [local irreducible] thenQ blockQ loopQ bodyQ Ev EvOps CallEv FnEv EvD
theorem encs_ok (l:List Tm):((encs l).all fun v=>decide ((cells v).length=4) && (cells v).all oneC)=true:=by
 rw [List.all_eq_true]
 intro v hv
 rw [encs_eq] at hv
 obtain ⟨⟨k,s,o,l'⟩,_,rfl⟩:=List.mem_map.1 hv
 rw [enc_mk];rfl
theorem clone_ev (k s o l) (hb:bulk (.mk k s o l)<1000000000) (ih:∀ t∈l,Fun C 71 [enc t] (enc t)):Fun C 71 [enc (.mk k s o l)] (enc (.mk k s o l)):=by
 refine Fun.of (FnEv.bodyL Tryz.func71 rfl ?_)
 rw [enc_mk]
 have hel:=encs_len l
 have hlen:=len_bulks l
 simp only [bulk] at hb
 (repeat' (first | refine EvOps.nil ?_ | (apply R.load1 T6;exact rfl;exact rfl;exact rfl;exact rfl) | (apply R.fieldAddr T6;exact rfl;exact rfl;exact rfl;exact rfl) | (apply R.box;exact rfl;exact rfl;exact rfl;exact .nil) | (apply R.alloc T6;exact rfl;exact rfl;exact rfl;exact (.cons .nil)) | refine Ev.seq ?_ | refine Ev.region ?_ | refine thenQ.normal ?_ | fail))
 refine EvOps.heap (h':=[⟨.m,0,4,[.agg [.int .i64 k,.str s,.int .i64 o,.snap false (encs l)]]⟩,⟨.m,0,4,[.agg [.int .i64 0,.str ByteArray.empty,.int .i64 0,.snap true []]]⟩]) rfl ?_
 rcases hl:l with _ | ⟨t0,l0⟩
 ·refine R.call rfl rfl (CallEv.primL (rv:=.snap true []) (h':=[⟨.m,0,4,[.agg [.int .i64 k,.str s,.int .i64 o,.snap false (encs [])]]⟩,⟨.m,0,4,[.agg [.int .i64 0,.str ByteArray.empty,.int .i64 0,.snap true []]]⟩]) rfl rfl ?_)
  (repeat' (first | (apply R.fieldAddr T6;exact rfl;exact rfl;exact rfl;exact rfl) | fail))
  refine R.storeH T6 (n:=0) (o:=⟨.m,0,4,[.agg [.int .i64 k,.str s,.int .i64 o,.snap false (encs [])]]⟩) (i:=0) (e:=.agg [.int .i64 k,.str s,.int .i64 o,.snap false (encs [])]) rfl rfl rfl rfl rfl rfl rfl rfl (Nat.le_refl 4) ?_
  refine EvOps.heap (h':=[⟨.m,0,4,[.agg [.int .i64 k,.str s,.int .i64 o,.snap true []]]⟩,⟨.m,0,4,[.agg [.int .i64 0,.str ByteArray.empty,.int .i64 0,.snap true []]]⟩]) rfl ?_
  (repeat' (first | refine EvOps.nil ?_ | (apply R.move;exact rfl) | (apply R.load1 T6;exact rfl;exact rfl;exact rfl;exact rfl) | (apply R.fieldAddr T6;exact rfl;exact rfl;exact rfl;exact rfl) | (apply R.lenS T6;exact rfl;exact rfl) | refine Ev.seq ?_ | refine Ev.region ?_ | refine Ev.block ?_ | refine thenQ.normal ?_ | fail))
  refine Ev.loop (I:=fun k' st=>∃ ρ',st=⟨al [(1,.ptr 0 0 0 0),(2,.ptr 1 0 0 0),(11,.int .i64 0),(12,.int .i64 0)] ρ',[⟨.m,0,4,[.agg [.int .i64 k,.str s,.int .i64 o,.snap true []]]⟩,⟨.m,0,4,[.agg [.int .i64 0,.str ByteArray.empty,.int .i64 0,.snap true []]]⟩]⟩) 0 ⟨_,St.keep ⟨rfl,rfl,rfl,rfl,trivial⟩⟩ ?_
  rintro _ _ ⟨ρ',rfl⟩
  (repeat' (first | refine EvOps.nil ?_ | (apply R.loadA T6;exact rfl;exact rfl;exact rfl;exact rfl;exact (by repeat constructor)) | (apply R.cmp;exact rfl;exact rfl;exact rfl;all_goals intro hc;all_goals (try (exfalso;omega))) | refine Ev.seq ?_ | refine Ev.region ?_ | (apply Ev.condB;exact rfl) | refine Ev.exit ?_ | refine thenQ.normal ?_ | refine thenQ.exit ?_ | refine blockQ.hit ?_ | refine loopQ.exit ?_ | fail))
  refine R.storeH T6 (n:=0) (o:=⟨.m,0,4,[.agg [.int .i64 0,.str ByteArray.empty,.int .i64 0,.snap true []]]⟩) (i:=0) (e:=.agg [.int .i64 0,.str ByteArray.empty,.int .i64 0,.snap true []]) rfl rfl rfl rfl rfl rfl rfl rfl (Nat.le_refl 4) ?_
  (repeat' (first | refine EvOps.nil ?_ | refine Ev.ret ?_ | refine thenQ.normal ?_ | (apply bodyQ.retC T6;exact rfl) | fail))
  exact ⟨_,rfl,rfl⟩
 ·rw [← hl]
  refine R.call rfl rfl (CallEv.primL (rv:=.mref 2 0 0 (encs l).length) (h':=[⟨.m,0,4,[.agg [.int .i64 k,.str s,.int .i64 o,.snap false (encs l)]]⟩,⟨.m,0,4,[.agg [.int .i64 0,.str ByteArray.empty,.int .i64 0,.snap true []]]⟩,⟨.m,0,4,encs l⟩]) rfl ?_ ?_)
  ·show clonePrim 4 [.snap false (encs l)] _=_
   have hne:(encs l).isEmpty=false:=by rw [hl];rfl
   simp only [clonePrim,hne,Bool.false_eq_true,if_false,newObj]
   rw [if_pos ⟨encs_ok l,by omega⟩]
   rfl
  rw [hel]
  (repeat' (first | (apply R.fieldAddr T6;exact rfl;exact rfl;exact rfl;exact rfl) | fail))
  refine R.storeH T6 (n:=0) (o:=⟨.m,0,4,[.agg [.int .i64 k,.str s,.int .i64 o,.snap false (encs l)]]⟩) (i:=0) (e:=.agg [.int .i64 k,.str s,.int .i64 o,.snap false (encs l)]) rfl rfl rfl rfl rfl rfl rfl rfl (Nat.le_refl 4) ?_
  refine EvOps.heap (h':=[⟨.m,0,4,[.agg [.int .i64 k,.str s,.int .i64 o,.mref 2 0 0 l.length]]⟩,⟨.m,0,4,[.agg [.int .i64 0,.str ByteArray.empty,.int .i64 0,.snap true []]]⟩,⟨.m,0,4,encs l⟩]) rfl ?_
  (repeat' (first | refine EvOps.nil ?_ | (apply R.load1 T6;exact rfl;exact rfl;exact rfl;exact rfl) | (apply R.fieldAddr T6;exact rfl;exact rfl;exact rfl;exact rfl) | refine Ev.seq ?_ | refine Ev.region ?_ | refine thenQ.normal ?_ | fail))
  refine R.lenM T6 (o:=⟨.m,0,4,encs l⟩) rfl rfl rfl (by show 0+l.length≤(encs l).length;omega) ?_
  (repeat' (first | refine EvOps.nil ?_ | (apply R.move;exact rfl) | refine Ev.block ?_ | refine thenQ.normal ?_ | fail))
  refine Ev.loop (I:=fun k' st=>∃ (i:Nat) (J:AHeap) (ρ':Nat→PV),st=⟨al [(1,.ptr 0 0 0 0),(2,.ptr 1 0 0 0),(10,.mref 2 0 0 l.length),(11,.int .i64 l.length),(12,.int .i64 i)] ρ',⟨.m,0,4,[.agg [.int .i64 k,.str s,.int .i64 o,.mref 2 0 0 l.length]]⟩::⟨.m,0,4,[.agg [.int .i64 0,.str ByteArray.empty,.int .i64 0,.snap true []]]⟩::⟨.m,0,4,encs l⟩::J⟩∧k'+i=l.length∧HV J) l.length ?_ ?_
  ·exact ⟨0,[],_,St.keep ⟨rfl,rfl,rfl,rfl,rfl,trivial⟩,rfl,HV.nil⟩
  ·rintro k' _ ⟨i,J,ρ',rfl,hk,hJ⟩
   (repeat' (first | refine EvOps.nil ?_ | (apply R.move;exact rfl) | (apply R.loadA T6;exact rfl;exact rfl;exact rfl;exact rfl;exact (by repeat constructor)) | (apply R.cmp;exact rfl;exact rfl;exact rfl;all_goals intro hc) | refine Ev.seq ?_ | refine Ev.region ?_ | (apply Ev.condB;exact rfl) | refine Ev.skip ?_ | refine Ev.exit ?_ | refine Ev.block ?_ | refine thenQ.normal ?_ | refine thenQ.exit ?_ | refine blockQ.hit ?_ | refine loopQ.exit ?_ | fail))
   ·obtain ⟨k1,s1,o1,l1,hmem,hat,hd,hil,_⟩:=encs_at' (l:=l) (i:=i) (by omega)
    have hih:=ih _ hmem
    rw [enc_mk] at hih
    refine R.indexM T6 (o:=⟨.m,0,4,encs l⟩) rfl rfl rfl rfl rfl (by omega) (by show 0+l.length≤(encs l).length;omega) ?_
    have hat0:(encs l)[0+i]?=some (.agg [.int .i64 k1,.str s1,.int .i64 o1,.snap false (encs l1)]):=by rw [Nat.zero_add];exact hat
    refine R.loadA T6 (cs:=[.int .i64 k1,.str s1,.int .i64 o1,.snap false (encs l1)]) rfl rfl rfl ?_ (by repeat constructor) ?_
    ·simp [pcells,getM,hat,cells]
    have hJ2:=hJ.app (HV.one (ep:=0) (n:=4) (es:=[.agg [.int .i64 k1,.str s1,.int .i64 o1,.snap false (encs l1)]]) rfl)
    have hcl:closedH ([⟨.m,0,4,[.agg [.int .i64 k,.str s,.int .i64 o,.mref 2 0 0 l.length]]⟩,⟨.m,0,4,[.agg [.int .i64 0,.str ByteArray.empty,.int .i64 0,.snap true []]]⟩,⟨.m,0,4,encs l⟩]++(J++[⟨.m,0,4,[.agg [.int .i64 k1,.str s1,.int .i64 o1,.snap false (encs l1)]]⟩]))=true:=closed_app (by simp [visRs,visR,visible,vis_vals _ _ (isVals_encs l)]) hJ2
    (repeat' (first | refine EvOps.nil ?_ | (apply R.assign;exact rfl) | (apply R.allocN T6;exact rfl;exact rfl;exact rfl) | (apply R.storeN T6;exact rfl;exact rfl;exact rfl;exact rfl;exact rfl;exact rfl) | refine Ev.regionD ?_ | (apply D.move;exact rfl) | (apply D.fieldAddr T6;exact rfl;exact rfl;exact rfl;exact rfl) | (apply D.load1 T6;exact (by first | exact rfl | assumption);exact rfl;exact rfl;exact rfl;exact rfl;exact rfl) | refine thenQ.normal ?_ | (apply D.loadAN T6;exact (by first | exact rfl | assumption);exact rfl;exact rfl;exact rfl;exact (by repeat constructor)) | fail))
    refine D.callP (by assumption) rfl rfl rfl rfl rfl rfl (by simpa [nrms,nrm,nrms_encs] using hih) ?_
    refine D.indexM T6 (o:=⟨.m,0,4,encs l⟩) (by assumption) rfl rfl rfl rfl rfl (by omega) (by show 0+l.length≤(encs l).length;omega) ?_
    refine D.storeH T6 (o:=⟨.m,0,4,encs l⟩) (j:=0+i) rfl rfl rfl rfl rfl rfl hat0 rfl rfl (Nat.le_refl 4) ?_
    have hset:((⟨.m,0,4,[.agg [.int .i64 k,.str s,.int .i64 o,.mref 2 0 0 l.length]]⟩::⟨.m,0,4,[.agg [.int .i64 0,.str ByteArray.empty,.int .i64 0,.snap true []]]⟩::⟨.m,0,4,encs l⟩::J)++[⟨.m,0,4,[.agg [.int .i64 k1,.str s1,.int .i64 o1,.snap false (encs l1)]]⟩]:AHeap).set 2 { (⟨.m,0,4,encs l⟩:AObj) with es:=(⟨.m,0,4,encs l⟩:AObj).es.set (0+i) (recell 0 4 (.agg [.int .i64 k1,.str s1,.int .i64 o1,.snap false (encs l1)]) (.agg [.int .i64 k1,.str s1,.int .i64 o1,.snap false (encs l1)])) }=⟨.m,0,4,[.agg [.int .i64 k,.str s,.int .i64 o,.mref 2 0 0 l.length]]⟩::⟨.m,0,4,[.agg [.int .i64 0,.str ByteArray.empty,.int .i64 0,.snap true []]]⟩::⟨.m,0,4,encs l⟩::(J++[⟨.m,0,4,[.agg [.int .i64 k1,.str s1,.int .i64 o1,.snap false (encs l1)]]⟩]):=by
     have:(encs l).set (0+i) (.agg [.int .i64 k1,.str s1,.int .i64 o1,.snap false (encs l1)])=encs l:=by
      have hlt:=lt_of_some hat0
      rw [List.getElem?_eq_getElem hlt] at hat0
      rw [← Option.some.inj hat0]
      exact List.set_getElem_self hlt
     show ⟨.m,0,4,[.agg [.int .i64 k,.str s,.int .i64 o,.mref 2 0 0 l.length]]⟩::⟨.m,0,4,[.agg [.int .i64 0,.str ByteArray.empty,.int .i64 0,.snap true []]]⟩::({ (⟨.m,0,4,encs l⟩:AObj) with es:=(encs l).set (0+i) (.agg [.int .i64 k1,.str s1,.int .i64 o1,.snap false (encs l1)]) }:AObj)::(J++[_])=_
     rw [this]
    refine EvD.heap hset ?_
    (repeat' (first | refine EvOps.nil ?_ | (apply R.move;exact rfl) | (apply R.arith;exact rfl;exact rfl;exact rfl;exact (wrapI (by omega) (by omega))) | refine Ev.region ?_ | refine EvD.nil ?_ | refine thenQ.normal ?_ | refine blockQ.normal ?_ | refine loopQ.normal ?_ | fail))
    exact ⟨k' - 1,by omega,i+1,_,_,St.keep ⟨rfl,rfl,rfl,rfl,rfl,trivial⟩,by omega,hJ2⟩
   ·refine R.storeH T6 (n:=0) (o:=⟨.m,0,4,[.agg [.int .i64 0,.str ByteArray.empty,.int .i64 0,.snap true []]]⟩) (i:=0) (e:=.agg [.int .i64 0,.str ByteArray.empty,.int .i64 0,.snap true []]) rfl rfl rfl rfl rfl rfl rfl rfl (Nat.le_refl 4) ?_
    refine EvOps.heap (h':=⟨.m,0,4,[.agg [.int .i64 k,.str s,.int .i64 o,.mref 2 0 0 l.length]]⟩::⟨.m,0,4,[.agg [.int .i64 k,.str s,.int .i64 o,.mref 2 0 0 l.length]]⟩::⟨.m,0,4,encs l⟩::J) rfl ?_
    (repeat' (first | refine EvOps.nil ?_ | refine Ev.ret ?_ | refine thenQ.normal ?_ | (apply bodyQ.retC T6;exact rfl) | fail))
    refine ⟨.agg [.int .i64 k,.str s,.int .i64 o,.snap false (encs l)],?_,by simp [nrm,nrms,nrms_encs]⟩
    have ht:(encs l).take l.length=encs l:=by rw [← hel];exact List.take_length
    simp [rb,rbA,cells,tupOf]
    simp [rb1s,rb1,getM,isVals_encs,isVal,ht,hel]
theorem clone_fun (t:Tm) (hb:bulk t<1000000000):Fun C 71 [enc t] (enc t):=by
 induction t using Tm.ind with
 | h k s o l ih=>exact clone_ev k s o l hb (fun t ht=>ih t ht (by have:=bulk_mem ht;simp only [bulk] at hb;omega))
end Go.Pm
end
section
set_option maxRecDepth 4000
set_option maxHeartbeats 4000000
namespace Go.Pm
open Go.Proofs
attribute [local irreducible] thenQ blockQ loopQ bodyQ Ev EvOps CallEv FnEv EvD
end Go.Pm
end
section
set_option maxRecDepth 4000
set_option maxHeartbeats 4000000
namespace Go.Pm
open Go.Proofs
attribute [local irreducible] thenQ blockQ loopQ bodyQ Ev EvOps CallEv FnEv EvD
end Go.Pm
end
section
set_option maxRecDepth 4000
set_option maxHeartbeats 4000000
namespace Go.Pm
open Go.Proofs
attribute [local irreducible] thenQ blockQ loopQ bodyQ Ev EvOps CallEv FnEv EvD
structure CkH (H:AHeap) (n d:Int):Prop where
 f1:H[1]?=some ⟨.m,0,1,[.int .i64 n]⟩
 f2:H[2]?=some ⟨.m,0,1,[.int .i64 d]⟩
 hv:HV H
 len:3≤H.length
def CkP (H:AHeap) (t:Tm) (lvl n d:Int) (r:PV) (h':AHeap):Prop:=r=.int .i64 (nodes t)∧∃ n' d',CkH h' n' d'∧H.length≤h'.length∧(∀ j,j≠1→j≠2→j<H.length→h'[j]?=H[j]?)∧(nodes t=0→n'=n+size t∧d'=max d (lvl - 1+depth t))
theorem CkH.app {H:AHeap} {n d:Int} (c:CkH H n d) {K:AHeap} (hK:HV K):CkH (H++K) n d:=by
 have:=c.len
 exact ⟨by rw [List.getElem?_append_left (by omega)];exact c.f1,by rw [List.getElem?_append_left (by omega)];exact c.f2,c.hv.app hK,by simp;omega⟩
theorem CkH.set1 {H:AHeap} {n d:Int} (c:CkH H n d) (n':Int):CkH (H.set 1 ⟨.m,0,1,[.int .i64 n']⟩) n' d:=by
 have:=c.len
 exact ⟨List.getElem?_set_self (by omega),by rw [List.getElem?_set_ne (by omega)];exact c.f2,c.hv.set 1 (by simp) rfl,by simp;omega⟩
theorem CkH.set2 {H:AHeap} {n d:Int} (c:CkH H n d) (d':Int):CkH (H.set 2 ⟨.m,0,1,[.int .i64 d']⟩) n d':=by
 have:=c.len
 exact ⟨by rw [List.getElem?_set_ne (by omega)];exact c.f1,List.getElem?_set_self (by omega),c.hv.set 2 (by simp) rfl,by simp;omega⟩
theorem CkH.take {H:AHeap} {n d:Int} (c:CkH H n d) (m:Nat) (hm:3≤m):CkH (H.take m) n d:=by
 have:=c.len
 exact ⟨by rw [List.getElem?_take_of_lt (by omega)];exact c.f1,by rw [List.getElem?_take_of_lt (by omega)];exact c.f2,fun o ho=>c.hv o (List.mem_of_mem_take ho),by simp;omega⟩
theorem check_ev (k s o l) (hb:bulk (.mk k s o l)<1000000000)
  (ih:∀ t∈l,∀ (H:AHeap) (lvl n d:Int),CkH H n d→0≤n→n+size t≤1000000000→0≤d→d≤1000000000→0≤lvl→lvl+depth t≤1000000000→FnEv C 77 [enc t,.int .i64 lvl,.ptr 1 0 0 0,.ptr 2 0 0 0] H (CkP H t lvl n d))
  (H:AHeap) (lvl n d:Int) (hH:CkH H n d) (n0:0≤n) (n1:n+size (.mk k s o l)≤1000000000) (d0:0≤d) (d1:d≤1000000000) (l0:0≤lvl) (l1:lvl+depth (.mk k s o l)≤1000000000) :
  FnEv C 77 [enc (.mk k s o l),.int .i64 lvl,.ptr 1 0 0 0,.ptr 2 0 0 0] H (CkP H (.mk k s o l) lvl n d):=by
 refine FnEv.bodyL Tryz.func77 rfl ?_
 rw [enc_mk]
 have hlen:=len_bulks l
 have hel:=encs_len l
 have hsz:=sizes_bulk l
 have hds:=depths_sizes l
 have hbs:s.size<1000000000:=by simp only [bulk] at hb;omega
 have hbl:bulks l<1000000000:=by simp only [bulk] at hb;omega
 simp only [size] at n1
 simp only [depth] at l1
 have hHl:=hH.len
 (repeat' (first | refine EvOps.nil ?_ | (apply R.move;exact rfl) | (apply R.assign;exact rfl) | (apply R.boxN;exact rfl;exact rfl;exact rfl) | (apply R.nilCheck;exact rfl) | refine Ev.seq ?_ | refine Ev.region ?_ | refine thenQ.normal ?_ | fail))
 obtain ⟨H1,hH1⟩:∃ x,x=H++[⟨.m,0,4,[.agg [.int .i64 k,.str s,.int .i64 o,.snap false (encs l)]]⟩]:=⟨_,rfl⟩
 have c1:CkH H1 n d:=by rw [hH1];exact hH.app (HV.one rfl)
 have b1:H1[H.length]?=some ⟨.m,0,4,[.agg [.int .i64 k,.str s,.int .i64 o,.snap false (encs l)]]⟩:=by rw [hH1];simp
 have g1:H1.length=H.length+1:=by rw [hH1];simp
 have p1:∀ j,j<H.length→H1[j]?=H[j]?:=fun j hj=>by rw [hH1,List.getElem?_append_left hj]
 refine EvOps.heap hH1.symm ?_
 clear hH1
 have u1:=c1.f1
 have u2:=c1.f2
 (repeat' (first | (apply R.arith;exact rfl;exact rfl;exact rfl;exact (wrapI (by omega) (by omega))) | (apply R.load1H T6;exact rfl;exact rfl;exact rfl;exact (by assumption);exact rfl) | (apply R.nilCheck;exact rfl) | fail))
 refine R.storeH T6 (n:=0) (o:=⟨.m,0,1,[.int .i64 n]⟩) (i:=0) (e:=.int .i64 n) rfl rfl rfl (getM_at u1 rfl (by simp)) rfl rfl rfl rfl (Nat.le_refl 1) ?_
 obtain ⟨H2,hH2⟩:∃ x,x=H1.set 1 ⟨.m,0,1,[.int .i64 (n+1)]⟩:=⟨_,rfl⟩
 have c2:CkH H2 (n+1) d:=by rw [hH2];exact c1.set1 _
 have b2:H2[H.length]?=some ⟨.m,0,4,[.agg [.int .i64 k,.str s,.int .i64 o,.snap false (encs l)]]⟩:=by rw [hH2,List.getElem?_set_ne (by omega)];exact b1
 have g2:H2.length=H.length+1:=by rw [hH2];simp [g1]
 have p2:∀ j,j≠1→j<H.length→H2[j]?=H[j]?:=fun j h1 hj=>by rw [hH2,List.getElem?_set_ne (by omega)];exact p1 j hj
 refine EvOps.heap hH2.symm ?_
 clear hH2 c1 b1 g1 p1 u1 u2
 have u1:=c2.f1
 have u2:=c2.f2
 (repeat' (first | refine EvOps.nil ?_ | (apply R.move;exact rfl) | (apply R.max;exact rfl;exact rfl) | (apply R.load1H T6;exact rfl;exact rfl;exact rfl;exact (by assumption);exact rfl) | (apply R.nilCheck;exact rfl) | refine Ev.seq ?_ | refine Ev.region ?_ | refine thenQ.normal ?_ | fail))
 refine R.storeH T6 (n:=0) (o:=⟨.m,0,1,[.int .i64 d]⟩) (i:=0) (e:=.int .i64 d) rfl rfl rfl (getM_at u2 rfl (by simp)) rfl rfl rfl rfl (Nat.le_refl 1) ?_
 obtain ⟨H3,hH3⟩:∃ x,x=H2.set 2 ⟨.m,0,1,[.int .i64 (max d lvl)]⟩:=⟨_,rfl⟩
 have c3:CkH H3 (n+1) (max d lvl):=by rw [hH3];exact c2.set2 _
 have b3:H3[H.length]?=some ⟨.m,0,4,[.agg [.int .i64 k,.str s,.int .i64 o,.snap false (encs l)]]⟩:=by rw [hH3,List.getElem?_set_ne (by omega)];exact b2
 have g3:H3.length=H.length+1:=by rw [hH3];simp [g2]
 have p3:∀ j,j≠1→j≠2→j<H.length→H3[j]?=H[j]?:=fun j h1 h2 hj=>by rw [hH3,List.getElem?_set_ne (by omega)];exact p2 j h1 hj
 refine EvOps.heap hH3.symm ?_
 clear hH3 c2 b2 g2 p2 u1 u2
 have bad:∀ e:Int,node (.mk k s o l)=e→e≠0→CkP H (.mk k s o l) lvl n d (.int .i64 e) H3:=fun e h1 h2=>by
  have:nodes (.mk k s o l)=e:=by rw [nodes,if_pos (by rw [h1];exact h2),h1]
  exact ⟨by rw [this],_,_,c3,by omega,p3,fun h=>absurd (this ▸ h) h2⟩
 (repeat' (first | refine EvOps.nil ?_ | (apply R.gOn;exact rfl;exact rfl;exact rfl) | (apply R.gOff;exact rfl;exact rfl;exact rfl) | (apply R.move;exact rfl) | (apply R.assign;exact rfl) | (apply R.pickT;exact rfl;exact rfl) | (apply R.pickF;exact rfl;exact rfl) | (apply R.fieldAddr T6;exact rfl;exact rfl;exact rfl;exact rfl) | (apply R.cmp;exact rfl;exact rfl;exact rfl;all_goals intro hc;all_goals (try (exfalso;omega))) | (apply R.lenS T6;exact rfl;exact rfl) | (apply R.load1H T6;exact rfl;exact rfl;exact rfl;exact (by assumption);exact rfl) | refine Ev.seq ?_ | refine Ev.region ?_ | (apply Ev.condB;exact rfl) | refine Ev.ret ?_ | refine Ev.skip ?_ | refine Ev.block ?_ | refine thenQ.normal ?_ | refine thenQ.ret ?_ | refine blockQ.normal ?_ | refine blockQ.ret ?_ | (apply bodyQ.ret;exact rfl) | fail))
 all_goals try (refine bad 1 ?_ (by decide);rw [node,if_pos (by omega)])
 all_goals (refine R.call rfl rfl (CallEv.pure rfl rfl (isName_fun s hbs) ?_);cases hN:isName s <;> (repeat' (first | refine EvOps.nil ?_ | (apply R.move;exact rfl) | (apply R.assign;exact rfl) | (apply R.fieldAddr T6;exact rfl;exact rfl;exact rfl;exact rfl) | (apply R.cmp;exact rfl;exact rfl;exact rfl;all_goals intro hc;all_goals (try (exfalso;omega))) | (apply R.not;exact rfl;exact rfl) | (apply R.lenS T6;exact rfl;exact rfl) | (apply R.load1H T6;exact rfl;exact rfl;exact rfl;exact (by assumption);exact rfl) | refine Ev.seq ?_ | refine Ev.region ?_ | (apply Ev.condB;exact rfl) | refine Ev.ret ?_ | refine Ev.skip ?_ | refine Ev.block ?_ | refine thenQ.normal ?_ | refine thenQ.ret ?_ | (apply bodyQ.ret;exact rfl) | fail)))
 all_goals try (refine bad 2 ?_ (by decide);rw [node,if_neg (by omega),if_pos hN])
 all_goals try (refine bad 3 ?_ (by decide);rw [node,if_neg (by omega),if_neg (by rw [hN];simp),if_pos (by omega)])
 all_goals (
  have hno:node (.mk k s o l)=0:=by rw [node,if_neg (by omega),if_neg (by rw [hN];simp),if_neg (by omega)]
  have h0:nodes (.mk k s o l)=nodess l:=by rw [nodes,if_neg (by rw [hno];simp)]
  clear bad hc
  refine Ev.loop (I:=fun k' st=>∃ (i:Nat) (Hc:AHeap) (nc dc:Int) (ρ':Nat→PV),st=⟨al [(1,.int .i64 lvl),(2,.ptr 1 0 0 0),(3,.ptr 2 0 0 0),(4,.ptr H.length 0 0 0),(57,.snap false (encs l)),(58,.int .i64 (encs l).length),(59,.int .i64 i)] ρ',Hc⟩∧k'+i=l.length ∧
   CkH Hc nc dc∧Hc[H.length]?=some ⟨.m,0,4,[.agg [.int .i64 k,.str s,.int .i64 o,.snap false (encs l)]]⟩∧H.length<Hc.length∧(∀ j,j≠1→j≠2→j<H.length→Hc[j]?=H[j]?)∧0≤nc∧nc+sizes (l.drop i)=n+1+sizes l∧lvl≤dc∧dc≤1000000000∧max dc (lvl+depths (l.drop i))=max d (lvl+depths l)∧nodess l=nodess (l.drop i)) l.length ?_ ?_
  ·exact ⟨0,H3,_,_,_,St.keep ⟨rfl,rfl,rfl,rfl,rfl,rfl,rfl,trivial⟩,rfl,c3,b3,by omega,p3,by omega,rfl,by omega,by omega,by simp only [List.drop_zero];omega,rfl⟩
  ·clear c3 b3 g3 p3
   rintro k' _ ⟨i,Hc,nc,dc,ρ',rfl,hk,c4,b4,g4,p4,m0,m1,m2,m3,m4,hb'⟩
   (repeat' (first | refine EvOps.nil ?_ | (apply R.assign;exact rfl) | (apply R.cmp;exact rfl;exact rfl;exact rfl;all_goals intro hc) | refine Ev.seq ?_ | refine Ev.region ?_ | (apply Ev.condB;exact rfl) | refine Ev.ret ?_ | refine Ev.skip ?_ | refine Ev.exit ?_ | refine Ev.block ?_ | refine thenQ.normal ?_ | refine thenQ.exit ?_ | refine blockQ.hit ?_ | refine loopQ.exit ?_ | (apply bodyQ.ret;exact rfl) | fail))
   ·obtain ⟨k1,s1,o1,l1',hmem,hat,hd,hil,_⟩:=encs_at' hc
    refine R.indexS T6 rfl rfl rfl rfl hat rfl rfl ?_
    have hdr:=sizes_bulk (l.drop (i+1))
    have hddr:=depths_sizes (l.drop (i+1))
    have hdm:=depths_mem _ hmem
    have hs1:=size_bulk (.mk k1 s1 o1 l1')
    have hp1:=depth_size (.mk k1 s1 o1 l1')
    rw [hd,sizes] at m1
    rw [hd,depths] at m4
    rw [hd,nodess] at hb'
    (repeat' (first | refine EvOps.nil ?_ | (apply R.move;exact rfl) | (apply R.loadA T6;exact rfl;exact rfl;exact rfl;exact rfl;exact (by repeat constructor)) | (apply R.arith;exact rfl;exact rfl;exact rfl;exact (wrapI (by omega) (by omega))) | (apply R.allocN T6;exact rfl;exact rfl;exact rfl) | (apply R.storeN T6;exact rfl;exact rfl;exact rfl;exact rfl;exact rfl;exact rfl) | (apply R.loadAN T6;exact rfl;exact rfl;exact rfl;exact (by repeat constructor)) | refine Ev.seq ?_ | refine Ev.region ?_ | refine thenQ.normal ?_ | fail))
    obtain ⟨H5,hH5⟩:∃ x,x=Hc++[⟨.m,0,4,[.agg [.int .i64 k1,.str s1,.int .i64 o1,.snap false (encs l1')]]⟩]:=⟨_,rfl⟩
    have c5:CkH H5 nc dc:=by rw [hH5];exact c4.app (HV.one rfl)
    have b5:H5[H.length]?=some ⟨.m,0,4,[.agg [.int .i64 k,.str s,.int .i64 o,.snap false (encs l)]]⟩:=by rw [hH5,List.getElem?_append_left (by omega)];exact b4
    have g5:H5.length=Hc.length+1:=by rw [hH5];simp
    have p5:∀ j,j≠1→j≠2→j<H.length→H5[j]?=H[j]?:=fun j h1 h2 hj=>by rw [hH5,List.getElem?_append_left (by omega)];exact p4 j h1 h2 hj
    have hih:=ih _ hmem H5 (lvl+1) nc dc c5 m0 (by omega) (by omega) m3 (by omega) (by omega)
    rw [enc_mk] at hih
    refine R.call rfl rfl (CallEv.openedV rfl hH5.symm rfl rfl hih ?_)
    rintro r h' ⟨rfl,n',d',c6,g6,p6,e6⟩
    refine ⟨c6.hv,fun _=>?_,fun hf=>Bool.noConfusion hf⟩
    have c7:=c6.take H5.length (by omega)
    have b7:(h'.take H5.length)[H.length]?=some ⟨.m,0,4,[.agg [.int .i64 k,.str s,.int .i64 o,.snap false (encs l)]]⟩:=by rw [List.getElem?_take_of_lt (by omega),p6 _ (by omega) (by omega) (by omega)];exact b5
    have g7:(h'.take H5.length).length=H5.length:=by simp;omega
    have p7:∀ j,j≠1→j≠2→j<H.length→(h'.take H5.length)[j]?=H[j]?:=fun j h1 h2 hj=>by rw [List.getElem?_take_of_lt (by omega),p6 j h1 h2 (by omega)];exact p5 j h1 h2 hj
    generalize h'.take H5.length=H7 at c7 b7 g7 p7 ⊢
    clear c6 p6
    (repeat' (first | refine EvOps.nil ?_ | (apply R.move;exact rfl) | (apply R.assign;exact rfl) | (apply R.cmp;exact rfl;exact rfl;exact rfl;all_goals intro hc) | (apply R.arith;exact rfl;exact rfl;exact rfl;exact (wrapI (by omega) (by omega))) | refine Ev.seq ?_ | refine Ev.region ?_ | (apply Ev.condB;exact rfl) | refine Ev.ret ?_ | refine Ev.skip ?_ | refine thenQ.normal ?_ | refine thenQ.ret ?_ | refine blockQ.normal ?_ | refine blockQ.ret ?_ | refine loopQ.normal ?_ | refine loopQ.ret ?_ | (apply bodyQ.ret;exact rfl) | fail))
    ·have hne:=hc
     rw [if_pos hne] at hb'
     exact ⟨by rw [h0,hb'];rfl,_,_,c7,by omega,p7,fun h=>absurd (by rw [← hb',← h0];exact h) hne⟩
    ·rw [if_neg (by assumption)] at hb'
     obtain ⟨e7,e8⟩:=e6 (by omega)
     exact ⟨k' - 1,by omega,i+1,H7,n',d',_,St.keep ⟨rfl,rfl,rfl,rfl,rfl,rfl,rfl,trivial⟩,by omega,c7,b7,by omega,p7,by omega,by omega,by omega,by omega,by omega,hb'⟩
   ·rw [encs_end hc] at hb' m1 m4
    simp only [sizes,depths,nodess] at hb' m1 m4
    refine ⟨by rw [h0,hb'];rfl,_,_,c4,by omega,p4,fun _=>⟨?_,?_⟩⟩
    ·simp only [size];omega
    ·simp only [depth];omega)
theorem check_fun (t:Tm) (hb:bulk t<1000000000):∀ (H:AHeap) (lvl n d:Int),CkH H n d→0≤n→n+size t≤1000000000→0≤d→d≤1000000000→0≤lvl→lvl+depth t≤1000000000→FnEv C 77 [enc t,.int .i64 lvl,.ptr 1 0 0 0,.ptr 2 0 0 0] H (CkP H t lvl n d):=by
 induction t using Tm.ind with
 | h k s o l ih=>exact check_ev k s o l hb (fun t ht=>ih t ht (by have:=bulk_mem ht;simp only [bulk] at hb;omega))
theorem valid_fun (t:Tm) (hb:bulk t<100000000):Fun C 37 [enc t] (.int .i64 (valid t)):=by
 have hck:=check_fun t (by omega)
 have hsz:=size_bulk t
 have hdp:=depth_size t
 obtain ⟨k,s,o,l⟩:=t
 refine Fun.of (FnEv.bodyL Tryz.func37 rfl ?_)
 rw [enc_mk] at hck ⊢
 (repeat' (first | refine EvOps.nil ?_ | (apply R.assign;exact rfl) | (apply R.box;exact rfl;exact rfl;exact rfl;exact .nil) | (apply R.alloc T6;exact rfl;exact rfl;exact rfl;exact (.cons .nil)) | (apply R.alloc T6;exact rfl;exact rfl;exact rfl;exact (.cons (.cons .nil))) | refine Ev.seq ?_ | refine Ev.region ?_ | refine thenQ.normal ?_ | fail))
 refine R.storeH T6 (n:=0) (o:=⟨.m,0,1,[.int .i64 0]⟩) (i:=0) (e:=.int .i64 0) rfl rfl rfl rfl rfl rfl rfl rfl (Nat.le_refl 1) ?_
 skip
 refine R.storeH T6 (n:=0) (o:=⟨.m,0,1,[.int .i64 0]⟩) (i:=0) (e:=.int .i64 0) rfl rfl rfl rfl rfl rfl rfl rfl (Nat.le_refl 1) ?_
 refine EvOps.heap (h':=[⟨.m,0,4,[.agg [.int .i64 k,.str s,.int .i64 o,.snap false (encs l)]]⟩,⟨.m,0,1,[.int .i64 0]⟩,⟨.m,0,1,[.int .i64 0]⟩]) rfl ?_
 (repeat' (first | refine EvOps.nil ?_ | (apply R.loadA T6;exact rfl;exact rfl;exact rfl;exact rfl;exact (by repeat constructor)) | refine Ev.seq ?_ | refine Ev.region ?_ | refine thenQ.normal ?_ | fail))
 have c0:CkH [⟨.m,0,4,[.agg [.int .i64 k,.str s,.int .i64 o,.snap false (encs l)]]⟩,⟨.m,0,1,[.int .i64 0]⟩,⟨.m,0,1,[.int .i64 0]⟩] 0 0:=⟨rfl,rfl,fun o ho=>by
  simp at ho
  rcases ho with rfl | rfl <;> exact ⟨by simp,rfl⟩,by simp⟩
 refine R.call rfl rfl (CallEv.openedV rfl rfl rfl rfl (hck _ 1 0 0 c0 (by omega) (by omega) (by omega) (by omega) (by omega) (by omega)) ?_)
 rintro r h' ⟨rfl,n',d',c6,g6,p6,e6⟩
 refine ⟨c6.hv,fun _=>?_,fun hf=>Bool.noConfusion hf⟩
 have c7:=c6.take 3 (Nat.le_refl 3)
 refine EvOps.heap (h':=h'.take 3) rfl ?_
 generalize h'.take 3=H7 at c7 ⊢
 have u1:=c7.f1
 have u2:=c7.f2
 clear c6 p6 g6 hck
 have hv:nodes (.mk k s o l)≠0→valid (.mk k s o l)=nodes (.mk k s o l):=fun h=>by rw [valid,if_pos h]
 have hv2:nodes (.mk k s o l)=0→valid (.mk k s o l)=if 400<size (.mk k s o l)∨40<depth (.mk k s o l) then 3 else 0:=fun h=>by rw [valid,if_neg (by omega)]
 (repeat' (first | refine EvOps.nil ?_ | (apply R.gOn;exact rfl;exact rfl;exact rfl) | (apply R.gOff;exact rfl;exact rfl;exact rfl) | (apply R.move;exact rfl) | (apply R.assign;exact rfl) | (apply R.pickT;exact rfl;exact rfl) | (apply R.pickF;exact rfl;exact rfl) | (apply R.cmp;exact rfl;exact rfl;exact rfl;all_goals intro hc) | (apply R.load1H T6;exact rfl;exact rfl;exact rfl;exact (by assumption);exact rfl) | refine Ev.seq ?_ | refine Ev.region ?_ | (apply Ev.condB;exact rfl) | refine Ev.ret ?_ | refine Ev.skip ?_ | refine thenQ.normal ?_ | refine thenQ.ret ?_ | (apply bodyQ.ret;exact rfl) | fail))
 ·exact ⟨_,rfl,by rw [hv (by assumption)];rfl⟩
 ·have h0:nodes (.mk k s o l)=0:=by omega
  obtain ⟨e7,e8⟩:=e6 h0
  exact ⟨_,rfl,by rw [hv2 h0,if_pos (by omega)];rfl⟩
 ·have h0:nodes (.mk k s o l)=0:=by omega
  obtain ⟨e7,e8⟩:=e6 h0
  exact ⟨_,rfl,by rw [hv2 h0,if_pos (by omega)];rfl⟩
 ·have h0:nodes (.mk k s o l)=0:=by omega
  obtain ⟨e7,e8⟩:=e6 h0
  exact ⟨_,rfl,by rw [hv2 h0,if_neg (by omega)];rfl⟩
end Go.Pm
end
section
set_option maxRecDepth 4000
set_option maxHeartbeats 4000000
namespace Go.Pm
open Go.Proofs
attribute [local irreducible] thenQ blockQ loopQ bodyQ Ev EvOps CallEv FnEv EvD
end Go.Pm
end
section
set_option maxRecDepth 4000
set_option maxHeartbeats 4000000
namespace Go.Pm
open Go.Proofs
attribute [local irreducible] thenQ blockQ loopQ bodyQ Ev EvOps CallEv FnEv EvD
theorem Out.rbA {sz:Nat} {h:AHeap} {v:PV} {es:List PV} (o:Out sz h v es) (hv:isVals es=true):∃ r1,rbA h v=some r1∧nrm r1=.snap false (nrms es):=by
 rcases o with ⟨rfl,rfl⟩ | ⟨id,ep,rfl,e2⟩
 ·exact ⟨_,rfl,rfl⟩
 ·exact ⟨.snap false es,by simp [Pm.rbA,rb1,getM,e2,hv],by simp [nrm]⟩
end Go.Pm
end
section
set_option maxRecDepth 4000
set_option maxHeartbeats 4000000
namespace Go.Pm
open Go.Proofs
attribute [local irreducible] thenQ blockQ loopQ bodyQ Ev EvOps CallEv FnEv EvD
def validGo:Option Tm→List Pw→Int
 | _,[]=>0
 | pr,p::l=>if valid p.1≠0 then valid p.1 else if special p.1=true then 1 else if p.2=0∨p.2 < -1000∨1000<p.2 then 7 else
  if (match pr with | some q=>decide (0≤cmpT q p.1) | none=>false)=true then 5 else validGo (some p.1) l
theorem validGo_cons (pr:Option Tm) (p:Pw) (l:List Pw):validGo pr (p::l)=if valid p.1≠0 then valid p.1 else if special p.1=true then 1 else if p.2=0∨p.2 < -1000∨1000<p.2 then 7 else
  if (match pr with | some q=>decide (0≤cmpT q p.1) | none=>false)=true then 5 else validGo (some p.1) l:=by
 cases pr <;> rfl
theorem validGo_nil (pr:Option Tm):validGo pr []=0:=by cases pr <;> rfl
def validP (l:List Pw):Int:=if 200<l.length then 3 else validGo none l
def prv (l:List Pw) (i:Nat):Option Tm:=match i with | 0=>none | i+1=>(l[i]?).map (·.1)
set_option maxHeartbeats 8000000 in
theorem pvalid_fun (l:List Pw) (hb:∀ p∈l,bulk p.1<100000000) (hl:l.length<100000000):Fun C 34 [.snap false (encPs l)] (.int .i64 (validP l)):=by
 have hel:=encPs_len l
 have r1:200<l.length→validP l=3:=fun h=>by rw [validP,if_pos h]
 have r2:¬ 200<l.length→validP l=validGo none l:=fun h=>by rw [validP,if_neg h]
 refine Fun.of (FnEv.bodyL Tryz.func34 rfl ?_)
 generalize validP l=R0 at r1 r2 ⊢
 (repeat' (first | refine EvOps.nil ?_ | (apply R.move;exact rfl) | (apply R.assign;exact rfl) | (apply R.cmp;exact rfl;exact rfl;exact rfl;all_goals intro hc) | (apply R.lenS T6;exact rfl;exact rfl) | refine Ev.seq ?_ | refine Ev.region ?_ | (apply Ev.condB;exact rfl) | refine Ev.ret ?_ | refine Ev.skip ?_ | refine Ev.block ?_ | refine thenQ.normal ?_ | refine thenQ.ret ?_ | (apply bodyQ.ret;exact rfl) | fail))
 ·exact ⟨_,rfl,by rw [r1 (by omega)];rfl⟩
 ·have r2:=r2 (by omega)
  clear r1
  refine Ev.loop (I:=fun k' st=>∃ (i:Nat) (J:AHeap) (ρ':Nat→PV),st=⟨al [(0,.snap false (encPs l)),(9,.snap false (encPs l)),(10,.int .i64 (encPs l).length),(11,.int .i64 i)] ρ',J⟩∧k'+i=l.length∧HV J∧R0=validGo (prv l i) (l.drop i)) l.length ?_ ?_
  ·exact ⟨0,[],_,St.keep ⟨rfl,rfl,rfl,rfl,trivial⟩,rfl,HV.nil,r2⟩
  ·clear r2
   rintro k' _ ⟨i,J,ρ',rfl,hk,hJ,hb'⟩
   (repeat' (first | refine EvOps.nil ?_ | (apply R.move;exact rfl) | (apply R.assign;exact rfl) | (apply R.cmp;exact rfl;exact rfl;exact rfl;all_goals intro hc) | refine Ev.seq ?_ | refine Ev.region ?_ | (apply Ev.condB;exact rfl) | refine Ev.ret ?_ | refine Ev.skip ?_ | refine Ev.exit ?_ | refine Ev.block ?_ | refine thenQ.normal ?_ | refine thenQ.exit ?_ | refine blockQ.hit ?_ | refine loopQ.exit ?_ | (apply bodyQ.ret;exact rfl) | fail))
   ·obtain ⟨k1,s1,o1,l1,n1,hmem,hat,hd,hil,hget⟩:=encPs_at hc
    have hva:=valid_fun _ (hb _ hmem)
    have hsy:=symbol_fun k1 s1 o1 l1
    rw [hd,validGo_cons] at hb'
    simp only at hva hb'
    rw [enc_mk] at hva hsy
    have hJ2:=hJ.app (HV.one (ep:=0) (n:=5) (es:=[.agg [.int .i64 k1,.str s1,.int .i64 o1,.snap false (encs l1),.int .i64 n1]]) rfl)
    have hcl:=hJ2.closed
    clear hc
    refine R.indexS T6 rfl rfl rfl rfl hat rfl rfl ?_
    (repeat' (first | refine EvOps.nil ?_ | (apply R.assign;exact rfl) | (apply R.loadA T6;exact rfl;exact rfl;exact rfl;exact rfl;exact (by repeat constructor)) | (apply R.fieldAddr T6;exact rfl;exact rfl;exact rfl;exact rfl) | (apply R.allocN T6;exact rfl;exact rfl;exact rfl) | (apply R.storeN T6;exact rfl;exact rfl;exact rfl;exact rfl;exact rfl;exact rfl) | (apply R.loadAN T6;exact rfl;exact rfl;exact rfl;exact (by repeat constructor)) | refine Ev.seq ?_ | refine Ev.region ?_ | refine thenQ.normal ?_ | fail))
    refine R.call rfl rfl (CallEv.pure rfl (by simp [isVals,isVal]) (by simpa [nrms,nrm,nrms_encs] using hva) ?_)
    (repeat' (first | refine EvOps.nil ?_ | (apply R.move;exact rfl) | (apply R.assign;exact rfl) | (apply R.fieldAddr T6;exact rfl;exact rfl;exact rfl;exact rfl) | (apply R.cmp;exact rfl;exact rfl;exact rfl;all_goals intro hc) | (apply R.loadAN T6;exact rfl;exact rfl;exact rfl;exact (by repeat constructor)) | refine Ev.seq ?_ | refine Ev.region ?_ | (apply Ev.condB;exact rfl) | refine Ev.ret ?_ | refine Ev.skip ?_ | refine Ev.block ?_ | refine thenQ.normal ?_ | refine thenQ.ret ?_ | refine blockQ.ret ?_ | refine loopQ.ret ?_ | (apply bodyQ.ret;exact rfl) | fail))
    ·rw [if_pos (by assumption)] at hb'
     exact ⟨_,rfl,by rw [hb'];rfl⟩
    ·rw [if_neg (by assumption)] at hb'
     refine R.call rfl rfl (CallEv.pure rfl (by simp [isVals,isVal]) (by simpa [nrms,nrm,nrms_encs] using hsy) ?_)
     cases hsp:special (.mk k1 s1 o1 l1)
     ·rw [if_neg (by rw [hsp];simp)] at hb'
      (repeat' (first | refine EvOps.nil ?_ | (apply R.gOn;exact rfl;exact rfl;exact rfl) | (apply R.gOff;exact rfl;exact rfl;exact rfl) | (apply R.move;exact rfl) | (apply R.assign;exact rfl) | (apply R.pickT;exact rfl;exact rfl) | (apply R.pickF;exact rfl;exact rfl) | (apply R.fieldAddr T6;exact rfl;exact rfl;exact rfl;exact rfl) | (apply R.cmp;exact rfl;exact rfl;exact rfl;all_goals intro hc;all_goals (try (exfalso;omega))) | (apply R.arith;exact rfl;exact rfl;exact rfl;exact (wrapI (by omega) (by omega))) | (apply R.load1No T6;exact rfl;exact rfl;exact rfl;exact rfl) | refine Ev.seq ?_ | refine Ev.region ?_ | refine Ev.regionD ?_ | refine EvD.nil ?_ | (apply D.move;exact rfl) | (apply D.assign;exact rfl) | (apply D.gOn;exact rfl;exact rfl;exact rfl;exact rfl) | (apply D.gOff;exact rfl;exact rfl;exact rfl) | (apply D.pickF;exact rfl;exact rfl) | (apply D.cmp;exact rfl;exact rfl;exact rfl;all_goals intro hc;all_goals (try (exfalso;omega))) | (apply D.arith;exact rfl;exact rfl;exact rfl;exact (wrapI (by omega) (by omega))) | (apply Ev.condB;exact rfl) | refine Ev.ret ?_ | refine Ev.skip ?_ | refine thenQ.normal ?_ | refine thenQ.ret ?_ | refine blockQ.normal ?_ | refine blockQ.ret ?_ | refine loopQ.normal ?_ | refine loopQ.ret ?_ | (apply bodyQ.ret;exact rfl) | fail))
      all_goals try (rw [if_pos (by omega)] at hb';exact ⟨_,rfl,by rw [hb'];rfl⟩)
      ·-- a factor before it
       rw [if_neg (by omega)] at hb'
       obtain ⟨i',rfl⟩:∃ i',i=i'+1:=⟨i - 1,by omega⟩
       obtain ⟨k2,s2,o2,l2,n2,hmem2,hat2,hd2,hil2,hget2⟩:=encPs_at (l:=l) (i:=i') (by omega)
       have hcm:=tcmp_fun _ _ (by have:=hb _ hmem2;simp only at this;omega:bulk (.mk k2 s2 o2 l2)<1000000000) (by have:=hb _ hmem;simp only at this;omega:bulk (.mk k1 s1 o1 l1)<1000000000)
       rw [enc_mk,enc_mk] at hcm
       have hpr:prv l (i'+1)=some (.mk k2 s2 o2 l2):=by simp only [prv,hget2];rfl
       rw [hpr] at hb'
       simp only at hb'
       refine D.indexS T6 (by assumption) rfl (congrArg (fun z=>some (PV.int .i64 z)) (show ((i'+1:Nat):Int) - 1=(i':Int) by omega)) rfl rfl hat2 rfl rfl ?_
       (repeat' (first | (apply D.gOn;exact rfl;exact rfl;exact rfl;exact rfl) | (apply D.fieldAddrS T6;exact rfl;exact rfl;exact rfl;exact rfl;exact rfl) | (apply D.fieldAddr T6;exact rfl;exact rfl;exact rfl;exact rfl) | (apply D.loadA T6;exact (by first | exact rfl | assumption);exact rfl;exact rfl;exact rfl;exact rfl;exact rfl;exact (by repeat constructor)) | (apply D.loadAN T6;exact (by first | exact rfl | assumption);exact rfl;exact rfl;exact rfl;exact (by repeat constructor)) | fail))
       refine D.callP (by assumption) rfl rfl rfl rfl rfl rfl (by simpa [nrms,nrm,nrms_encs] using hcm) ?_
       (repeat' (first | refine EvOps.nil ?_ | (apply R.move;exact rfl) | (apply R.assign;exact rfl) | (apply R.arith;exact rfl;exact rfl;exact rfl;exact (wrapI (by omega) (by omega))) | refine Ev.seq ?_ | refine Ev.region ?_ | refine EvD.nil ?_ | (apply D.assign;exact rfl) | (apply D.gOn;exact rfl;exact rfl;exact rfl;exact rfl) | (apply D.pickT;exact rfl;exact rfl) | (apply D.cmp;exact rfl;exact rfl;exact rfl;all_goals intro hc) | (apply Ev.condB;exact rfl) | refine Ev.ret ?_ | refine Ev.skip ?_ | refine thenQ.normal ?_ | refine thenQ.ret ?_ | refine blockQ.normal ?_ | refine blockQ.ret ?_ | refine loopQ.normal ?_ | refine loopQ.ret ?_ | (apply bodyQ.ret;exact rfl) | fail))
       ·rw [if_pos (decide_eq_true (by assumption))] at hb'
        exact ⟨_,rfl,by rw [hb'];rfl⟩
       ·rw [if_neg (by rw [decide_eq_false (by assumption)];simp)] at hb'
        refine ⟨k' - 1,by omega,i'+1+1,_,_,St.keep ⟨rfl,rfl,rfl,rfl,trivial⟩,by omega,hJ2,?_⟩
        have:prv l (i'+1+1)=some (.mk k1 s1 o1 l1):=by simp only [prv,hget];rfl
        rw [this];exact hb'
      ·rw [if_neg (by omega)] at hb'
       obtain rfl:i=0:=by omega
       simp only [prv,Bool.false_eq_true,if_false] at hb'
       refine ⟨k' - 1,by omega,0+1,_,_,St.keep ⟨rfl,rfl,rfl,rfl,trivial⟩,by omega,hJ2,?_⟩
       have:prv l (0+1)=some (.mk k1 s1 o1 l1):=by simp only [prv,hget];rfl
       rw [this];exact hb'
     ·rw [if_pos hsp] at hb'
      (repeat' (first | refine EvOps.nil ?_ | (apply R.assign;exact rfl) | refine Ev.seq ?_ | refine Ev.region ?_ | (apply Ev.condB;exact rfl) | refine Ev.ret ?_ | refine thenQ.normal ?_ | refine thenQ.ret ?_ | refine blockQ.ret ?_ | refine loopQ.ret ?_ | (apply bodyQ.ret;exact rfl) | fail))
      exact ⟨_,rfl,by rw [hb'];rfl⟩
   ·rw [encPs_end hc,validGo_nil] at hb'
    exact ⟨_,rfl,by rw [hb'];rfl⟩
end Go.Pm
end
section
set_option maxRecDepth 4000
set_option maxHeartbeats 4000000
namespace Go.Pm
open Go.Proofs
section
variable {C:Cfg} (T:Tab C.P)
variable {ops:Array Oper} {d:Nat} {ty:TypeId} {pos:String} {af:Array Edge} {r:List Oper} {ρ:Nat→PV} {L:List (Nat × PV)} {h:AHeap} {Q:St→Prop}
theorem Out.elems {sz:Nat} {h:AHeap} {v:PV} {es:List PV} (o:Out sz h v es):elems h v=some es:=by
 rcases o with ⟨rfl,rfl⟩ | ⟨id,ep,rfl,e2⟩
 ·rfl
 ·simp [Pm.elems,getM,e2]
end
section
variable {C:Cfg} (T:Tab C.P)
theorem Out.cells {sz:Nat} {h:AHeap} {v:PV} {es:List PV} (o:Out sz h v es):cells v=[v]:=by
 rcases o with ⟨rfl,rfl⟩ | ⟨id,ep,rfl,e2⟩ <;> rfl
end
attribute [local irreducible] thenQ blockQ loopQ bodyQ Ev EvOps CallEv FnEv EvD
end Go.Pm
end
section
set_option maxRecDepth 4000
set_option maxHeartbeats 4000000
namespace Go.Pm
open Go.Proofs
section
variable {C:Cfg} (T:Tab C.P)
variable {ops:Array Oper} {d:Nat} {ty:TypeId} {pos:String} {af:Array Edge} {r:List Oper} {ρ:Nat→PV} {L:List (Nat × PV)} {h:AHeap} {Q:St→Prop}
theorem resC_cell {a b c n:Nat} {t:TypeId} {cs:List PV} {v:PV} {sz:Nat} (ha:lk L a=some (.ptr b 0 0 0)) (hb:h[b]?=some ⟨.m,0,n,[.agg cs]⟩) (hs:T.ts t=some (sz+1)) (ht:T.ta t=some true) (hl:cs.length=sz+1) (hc:lk L c=some v):resC T L h [.cell a t,.tmp c]=some [.agg cs,v]:=by
 have hp:pcells h (.ptr b 0 0 0)=some cs:=(pcOf hb).trans rfl
 have hld:loadT T h t (.ptr b 0 0 0)=some (.agg cs):=by
  unfold loadT
  rw [hs,ht,hp]
  have:Nat.ble (sz+1) cs.length=true:=Nat.ble_eq_true_of_le (by omega)
  simp only [this,if_true]
  rw [List.take_of_length_le (by omega)]
 simp only [resC,ha,hld,hc]
end
def zeroT:Tm:=.mk 0 ByteArray.empty 0 []
theorem Out.lt {sz:Nat} {h:AHeap} {v:PV} {es:List PV} (o:Out sz h v es) {j ep n:Nat} (hv:v=.mref j ep 0 n):j<h.length:=by
 rcases o with ⟨rfl,_⟩ | ⟨id,ep',rfl,e2⟩
 ·cases hv
 ·cases hv;exact lt_of_some e2
theorem LP.obj {H:AHeap} {v:PV} {sz:Nat} {es:List PV} {r:PV} {h':AHeap} (a:LP H v sz es r h') {b:Nat} {o:AObj} (e:H[b]?=some o) (hb:∀ ep n,v≠.mref b ep 0 n):h'[b]?=some o∧∀ ep n,r≠.mref b ep 0 n:=by
 refine ⟨by rw [a.fr b (lt_of_some e) hb];exact e,fun ep n hh=>?_⟩
 rcases a.ref b ep n hh with ⟨ep',n',h3⟩ | h3
 ·exact hb ep' n' h3
 ·have:=lt_of_some e;omega
end Go.Pm
end
