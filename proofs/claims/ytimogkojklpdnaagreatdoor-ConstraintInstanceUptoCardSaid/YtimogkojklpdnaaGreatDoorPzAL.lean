/-
  A part of the library Pm and its contracts (joined by program): PmVr PmVc PmVd PmVe PmVf PmVg PmVh PmVi PmVj. Conditions: none.
-/
import Derived.Test.YtimogkojklpdnaaGreatDoorPzAK
import Derived.Test.YtimogkojklpdnaaGreatDoorPzAH
set_option linter.unusedVariables false
set_option linter.unusedSimpArgs false
set_option linter.unnecessarySimpa false
section
set_option maxRecDepth 4000
namespace Go.Pm.Nine
open Go.Proofs
attribute [local irreducible] thenQ blockQ loopQ bodyQ Ev EvOps CallEv FnEv EvD encSys
theorem ord1_fun (a b:Tm) (ha:bulk a<1000000000) (hb:bulk b<1000000000):Fun C 178 [enc a,enc b] (.bool (decide (cmpT a b=0))):=by
 have h1:=(tcmp_fun a b ha hb).nine
 rw [enc_x,enc_x] at h1 ⊢
 refine Fun.x T6 Tryz.func178 rfl ?_
 (repeat' (first | (refine Rn.go ?_;conv=>whnf) | refine .mk ?_ | refine .tt ?_ | refine .ff ?_ | refine .m2 ?_ | refine .m3 ?_ | refine .mk (fun hc=>?_) fun hc=>?_ | refine .lp fun v H lp=>?_ | fail))
 refine .p h1 ?_
 (repeat' (first | (refine Rn.go ?_;conv=>whnf) | refine .mk ?_ | refine .tt ?_ | refine .ff ?_ | refine .m2 ?_ | refine .m3 ?_ | refine .mk (fun hc=>?_) fun hc=>?_ | refine .lp fun v H lp=>?_ | fail))
 all_goals exact ⟨_,rfl,by simp [tupOf, *]⟩
theorem ocompact_nil (g:FuncId) (H:AHeap):FnEv C 162 [.snap true [],.fn g []] H (fun r h'=>r=.snap true []∧h'=H):=by
 refine FnEv.x T6 Tryz.func162 rfl ?_
 (repeat' (first | (refine Rn.go ?_;conv=>whnf) | refine .mk ?_ | refine .tt ?_ | refine .ff ?_ | refine .m2 ?_ | refine .m3 ?_ | refine .mk (fun hc=>?_) fun hc=>?_ | refine .lp fun v H lp=>?_ | fail))
 exact ⟨rfl,rfl⟩
theorem ocompact_ev (g:FuncId) (hm:C.mode g=.pure) (hg:∀ a b:Tm,bulk a<1000000000→bulk b<1000000000→Fun C g [enc a,enc b] (.bool (decide (cmpT a b=0)))) (x:Tm) (l:List Tm) (H:AHeap) (hH:HR H) (id ep:Nat) (e1:H[id]?=some ⟨.m,ep,4,encs (x::l)⟩) (hn:l.length<100000000) (hb:∀ t∈x::l,bulk t<1000000000) :
  FnEv C 162 [.mref id ep 0 (encs (x::l)).length,.fn g []] H
   (fun r h'=>r=.mref id ep 0 (dd (x::l)).length∧∃ tl,isVals tl=true∧h'=H.set id ⟨.m,ep,4,encs (dd (x::l))++tl⟩):=by
 have hel:(encs (x::l)).length=l.length+1:=by rw [encs_len];rfl
 refine FnEv.x T6 Tryz.func162 rfl ?_
 (repeat' (first | (refine Rn.go ?_;conv=>whnf) | refine .mk ?_ | refine .tt ?_ | refine .ff ?_ | refine .m2 ?_ | refine .m3 ?_ | refine .mk (fun hc=>?_) fun hc=>?_ | refine .lp fun v H lp=>?_ | fail))
 ·obtain rfl:l=[]:=List.eq_nil_of_length_eq_zero (by omega)
  exact ⟨rfl,[],rfl,by rw [List.append_nil];exact (list_set_self e1).symm⟩
 refine LpX.zip T6 l (fun p q L h=>h=H∧∃ P' prev,x::p=P'++[prev]∧P'++prev::ddp prev q=dd (x::l)∧L=[(0,.mref id ep 0 (encs (x::l)).length),(1,.fn g []),(5,.int .i64 ((p.length+1:Nat):Int))]) (.nx ⟨rfl,[],x,rfl,rfl,rfl⟩) ?_ ?_
 ·rintro p a q _ h ρ e ⟨rfl,P',prev,hp,hd,rfl⟩
  have hl2:=congrArg List.length e
  simp only [List.length_append,List.length_cons] at hl2
  have hpl:=congrArg List.length hp
  simp only [List.length_append,List.length_cons,List.length_nil] at hpl
  have hat1:(encs (x::l))[0+(p.length+1)]?=some (.agg [.int .i64 a.k,.str a.s,.int .i64 a.o,.snap false (encs a.l)]):=nth_enc (by rw [e,Nat.zero_add];simp)
  have hat2:(encs (x::l))[0+(((p.length+1:Nat):Int) - 1).toNat]?=some (.agg [.int .i64 prev.k,.str prev.s,.int .i64 prev.o,.snap false (encs prev.l)]):=nth_enc (by
   rw [show (((p.length+1:Nat):Int) - 1).toNat=p.length by omega,e,← List.cons_append,hp,Nat.zero_add,List.getElem?_append_left (by simp;omega),List.getElem?_append_right (by omega)]
   simp [show p.length - P'.length=0 by omega])
  have hq:=hg a prev (hb a (by rw [e];simp)) (hb prev (by rw [e,← List.cons_append,hp];simp))
  rw [enc_x,enc_x] at hq
  (repeat' (first | (refine Rn.go ?_;conv=>whnf) | refine .mk ?_ | refine .tt ?_ | refine .ff ?_ | refine .m2 ?_ | refine .m3 ?_ | refine .mk (fun hc=>?_) fun hc=>?_ | refine .lp fun v H lp=>?_ | fail))
  refine .p hq ?_ hm
  cases hc:decide (cmpT a prev=0)
  ·(repeat' (first | (refine Rn.go ?_;conv=>whnf) | refine .mk ?_ | refine .tt ?_ | refine .ff ?_ | refine .m2 ?_ | refine .m3 ?_ | refine .mk (fun hc=>?_) fun hc=>?_ | refine .lp fun v H lp=>?_ | fail))
   refine .nx ⟨rfl,P'++[prev],a,by rw [← List.cons_append,hp],?_,rfl⟩
   rw [← hd,ddp,if_neg (by simpa using hc)]
   simp
  ·(repeat' (first | (refine Rn.go ?_;conv=>whnf) | refine .mk ?_ | refine .tt ?_ | refine .ff ?_ | refine .m2 ?_ | refine .m3 ?_ | refine .mk (fun hc=>?_) fun hc=>?_ | refine .lp fun v H lp=>?_ | fail))
   rw [hel] at *
   refine .sl rfl rfl (slice_lo T6 rfl rfl e1 (by rw [encs_len];simp) (by omega) (by omega)) ?_
   (repeat' (first | (refine Rn.go ?_;conv=>whnf) | refine .mk ?_ | refine .tt ?_ | refine .ff ?_ | refine .m2 ?_ | refine .m3 ?_ | refine .mk (fun hc=>?_) fun hc=>?_ | refine .lp fun v H lp=>?_ | fail))
   refine LpX.zip T6 q (fun p2 q2 L h'=>∃ R M0 pr,bulk pr<1000000000∧R.length+M0.length=p.length+1+p2.length∧R++ddp pr q2=dd (x::l)∧h'=h.set id ⟨.m,ep,4,encs (R++(M0++[pr]++q2))⟩ ∧
    L=[(0,.mref id ep 0 (l.length+1)),(1,.fn g []),(5,.int .i64 (R.length:Int)),(6,.mref id ep (0+(p.length+1)) (l.length+1 - (p.length+1))),(7,.int .i64 ((p2.length+1:Nat):Int))]) (.nx ⟨P'++[prev],[],a,hb a (by rw [e];simp),by simp only [List.length_append,List.length_cons,List.length_nil];omega,?_,?_,rfl⟩) ?_ ?_
   ·rw [← hd,ddp,if_pos (by simpa using hc)];simp
   ·rw [list_set_self];rw [e1,e,← List.cons_append,hp];simp
   ·rintro p2 b q2 _ _ ρ2 e2 ⟨R,M0,pr,hpb,hl3,hd2,rfl,rfl⟩
    have hl4:=congrArg List.length e2
    simp only [List.length_append,List.length_cons] at hl4
    have e1':(h.set id ⟨.m,ep,4,encs (R++(M0++[pr]++b::q2))⟩)[id]?=some ⟨.m,ep,4,encs (R++(M0++[pr]++b::q2))⟩:=List.getElem?_set_self (lt_of_some e1)
    have hH':HR (h.set id ⟨.m,ep,4,encs (R++(M0++[pr]++b::q2))⟩):=hH.set id (by simp) (vis_vals _ _ (by simp))
    have hn2:(encs (R++(M0++[pr]++b::q2))).length=l.length+1:=by rw [encs_len];simp;omega
    have hat3:(encs (R++(M0++[pr]++b::q2)))[0+(p.length+1)+(p2.length+1)]?=some (.agg [.int .i64 b.k,.str b.s,.int .i64 b.o,.snap false (encs b.l)]):=nth_enc (nth_at (A:=R++M0++[pr]) (B:=q2) (by simp) (by simp;omega))
    have hat4:(encs (R++(M0++[pr]++b::q2)))[0+(p.length+1)+(((p2.length+1:Nat):Int) - 1).toNat]?=some (.agg [.int .i64 pr.k,.str pr.s,.int .i64 pr.o,.snap false (encs pr.l)]):=nth_enc (nth_at (A:=R++M0) (B:=b::q2) (by simp) (by simp;omega))
    have hq2:=hg b pr (hb b (by rw [e,e2];simp)) hpb
    rw [enc_x,enc_x] at hq2
    obtain ⟨m,M1,hM⟩:∃ m M1,M0++[pr]=m::M1:=by cases M0 with | nil=>exact ⟨_,_,rfl⟩ | cons m M=>exact ⟨m,M++[pr],rfl⟩
    have hM1:=congrArg List.length hM
    simp only [List.length_append,List.length_cons,List.length_nil] at hM1
    have hat5:(encs (R++(M0++[pr]++b::q2)))[0+R.length]?=some (.agg [.int .i64 m.k,.str m.s,.int .i64 m.o,.snap false (encs m.l)]):=nth_enc (nth_at (A:=R) (B:=M1++b::q2) (by rw [hM];simp) (by omega))
    have hset:(encs (R++(M0++[pr]++b::q2))).set (0+R.length) (.agg [.int .i64 b.k,.str b.s,.int .i64 b.o,.snap false (encs b.l)])=encs ((R++[b])++(M1++[b]++q2)):=by
     rw [← enc_x,set_encs,hM,Nat.zero_add];simp
    clear hq hat1 hat2
    (repeat' (first | (refine Rn.go ?_;conv=>whnf) | refine .mk ?_ | refine .tt ?_ | refine .ff ?_ | refine .m2 ?_ | refine .m3 ?_ | refine .mk (fun hc=>?_) fun hc=>?_ | refine .lp fun v H lp=>?_ | fail))
    refine .p hq2 ?_ hm
    cases hc2:decide (cmpT b pr=0)
    ·(repeat' (first | (refine Rn.go ?_;conv=>whnf) | refine .mk ?_ | refine .tt ?_ | refine .ff ?_ | refine .m2 ?_ | refine .m3 ?_ | refine .mk (fun hc=>?_) fun hc=>?_ | refine .lp fun v H lp=>?_ | fail))
     rw [hset,List.set_set]
     refine .nx ⟨R++[b],M1,b,hb b (by rw [e,e2];simp),by simp;omega,?_,rfl,rfl⟩
     rw [← hd2,ddp,if_neg (by simpa using hc2)];simp
    ·(repeat' (first | (refine Rn.go ?_;conv=>whnf) | refine .mk ?_ | refine .tt ?_ | refine .ff ?_ | refine .m2 ?_ | refine .m3 ?_ | refine .mk (fun hc=>?_) fun hc=>?_ | refine .lp fun v H lp=>?_ | fail))
     refine .nx ⟨R,M0++[pr],b,hb b (by rw [e,e2];simp),by simp;omega,?_,by simp,rfl⟩
     rw [← hd2,ddp,if_pos (by simpa using hc2)]
   ·rintro _ _ ρ2 ⟨R,M0,pr,hpb,hl3,hd2,rfl,rfl⟩
    have e1':(h.set id ⟨.m,ep,4,encs (R++(M0++[pr]++[]))⟩)[id]?=some ⟨.m,ep,4,encs (R++(M0++[pr]++[]))⟩:=List.getElem?_set_self (lt_of_some e1)
    have hH':HR (h.set id ⟨.m,ep,4,encs (R++(M0++[pr]++[]))⟩):=hH.set id (by simp) (vis_vals _ _ (by simp))
    have hn2:(encs (R++(M0++[pr]++[]))).length=l.length+1:=by rw [encs_len];simp;omega
    rw [ddp,List.append_nil] at hd2
    subst hd2
    (repeat' (first | (refine Rn.go ?_;conv=>whnf) | refine .mk ?_ | refine .tt ?_ | refine .ff ?_ | refine .m2 ?_ | refine .m3 ?_ | refine .mk (fun hc=>?_) fun hc=>?_ | refine .lp fun v H lp=>?_ | fail))
    refine .sl rfl rfl (slice_lo T6 rfl rfl e1' (by omega) ?_ (by omega)) ?_
    ·simp [dd]
    (repeat' (first | (refine Rn.go ?_;conv=>whnf) | refine .mk ?_ | refine .tt ?_ | refine .ff ?_ | refine .m2 ?_ | refine .m3 ?_ | refine .mk (fun hc=>?_) fun hc=>?_ | refine .lp fun v H lp=>?_ | fail))
    refine .clr rfl (clear_at T6 rfl rfl rfl e1' (by omega) rfl rfl) ?_
    have hfin:List.take (0+(dd (x::l)).length) (encs (dd (x::l)++(M0++[pr]++[])))=encs (dd (x::l)):=by rw [encs_eq,encs_eq,Nat.zero_add,List.map_append,List.take_left' (by simp)]
    have hdr:List.drop (0+(dd (x::l)).length+(l.length+1 - (dd (x::l)).length)) (encs (dd (x::l)++(M0++[pr]++[])))=[]:=List.drop_eq_nil_of_le (by omega)
    rw [hfin,hdr,List.set_set]
    obtain ⟨tl,htl,hlt,hvt⟩:∃ tl:List PV,tl=List.replicate (l.length+1 - (dd (x::l)).length) (.agg [.int .i64 0,.str ByteArray.empty,.int .i64 0,.snap true []])∧tl.length=l.length+1 - (dd (x::l)).length∧isVals tl=true:=
     ⟨_,rfl,by simp,by rw [isVals_eq,List.all_eq_true];intro y hy;rw [List.eq_of_mem_replicate hy];rfl⟩
    have e3:(h.set id ⟨.m,ep,4,encs (dd (x::l))++tl⟩)[id]?=some ⟨.m,ep,4,encs (dd (x::l))++tl⟩:=List.getElem?_set_self (lt_of_some e1)
    rw [← htl,List.append_nil]
    (repeat' (first | (refine Rn.go ?_;conv=>whnf) | refine .mk ?_ | refine .tt ?_ | refine .ff ?_ | refine .m2 ?_ | refine .m3 ?_ | refine .mk (fun hc=>?_) fun hc=>?_ | refine .lp fun v H lp=>?_ | fail))
    refine .sh rfl rfl (slice_hi T6 rfl rfl e3 (by rw [List.length_append,encs_len,hlt];have:=dd_len (x::l);simp at this;omega) (by omega)) ?_
    (repeat' (first | (refine Rn.go ?_;conv=>whnf) | refine .mk ?_ | refine .tt ?_ | refine .ff ?_ | refine .m2 ?_ | refine .m3 ?_ | refine .mk (fun hc=>?_) fun hc=>?_ | refine .lp fun v H lp=>?_ | fail))
    exact ⟨rfl,tl,hvt,rfl⟩
 ·rintro _ h ρ ⟨rfl,P',prev,hp,hd,rfl⟩
  have hdd:encs (dd (x::l))=encs (x::l):=by rw [← hd,hp,ddp]
  (repeat' (first | (refine Rn.go ?_;conv=>whnf) | refine .mk ?_ | refine .tt ?_ | refine .ff ?_ | refine .m2 ?_ | refine .m3 ?_ | refine .mk (fun hc=>?_) fun hc=>?_ | refine .lp fun v H lp=>?_ | fail))
  exact ⟨congrArg (PV.mref id ep 0) (by rw [← hdd,encs_len]),[],rfl,by rw [hdd,List.append_nil];exact (list_set_self e1).symm⟩
theorem ocompact_mt (g:FuncId) (H:AHeap) (id ep:Nat) (e1:H[id]?=some ⟨.m,ep,4,encs []⟩):FnEv C 162 [.mref id ep 0 0,.fn g []] H (fun r h'=>r=.mref id ep 0 0∧h'=H):=by
 refine FnEv.x T6 Tryz.func162 rfl ?_
 (repeat' (first | (refine Rn.go ?_;conv=>whnf) | refine .mk ?_ | refine .tt ?_ | refine .ff ?_ | refine .m2 ?_ | refine .m3 ?_ | refine .mk (fun hc=>?_) fun hc=>?_ | refine .lp fun v H lp=>?_ | fail))
 exact ⟨rfl,rfl⟩
theorem orderedN_ev (H:AHeap):FnEv C 130 [.snap true []] H (fun r h'=>r=.snap true []∧h'=H):=by
 refine FnEv.x T6 Tryz.func130 rfl ?_
 (repeat' (first | (refine Rn.go ?_;conv=>whnf) | refine .mk ?_ | refine .tt ?_ | refine .ff ?_ | refine .m2 ?_ | refine .m3 ?_ | refine .mk (fun hc=>?_) fun hc=>?_ | refine .lp fun v H lp=>?_ | fail))
 refine CallEv.primL rfl rfl ?_
 (repeat' (first | (refine Rn.go ?_;conv=>whnf) | refine .mk ?_ | refine .tt ?_ | refine .ff ?_ | refine .m2 ?_ | refine .m3 ?_ | refine .mk (fun hc=>?_) fun hc=>?_ | refine .lp fun v H lp=>?_ | fail))
 refine .ln (ocompact_nil _ H) (fun r h' hr=>by rw [hr.2]) (fun r h' hr=>?_)
 obtain ⟨rfl,rfl⟩:=hr
 (repeat' (first | (refine Rn.go ?_;conv=>whnf) | refine .mk ?_ | refine .tt ?_ | refine .ff ?_ | refine .m2 ?_ | refine .m3 ?_ | refine .mk (fun hc=>?_) fun hc=>?_ | refine .lp fun v H lp=>?_ | fail))
 refine LpX.zip T6 ([]:List Tm) (fun p q L K=>L=[(0,.snap true []),(9,.int .i64 0),(10,.int .i64 p.length)]∧K=h') (.nx ⟨rfl,rfl⟩) ?_ ?_
 ·rintro p u q _ K ρ e _
  cases p <;> cases e
 ·rintro _ K ρ ⟨rfl,rfl⟩
  (repeat' (first | (refine Rn.go ?_;conv=>whnf) | refine .mk ?_ | refine .tt ?_ | refine .ff ?_ | refine .m2 ?_ | refine .m3 ?_ | refine .mk (fun hc=>?_) fun hc=>?_ | refine .lp fun v H lp=>?_ | fail))
  exact ⟨rfl,rfl⟩
theorem ordered_ev (H:AHeap) (hH:HR H) (id ep:Nat) (a:List Tm) (e1:H[id]?=some ⟨.m,ep,4,encs a⟩) (hn:a.length<100000000) (hb:∀ t∈a,bulk t<100000000) :
  FnEv C 130 [.mref id ep 0 a.length] H (fun r h'=>r=.mref id ep 0 (dd (sortT a)).length∧∃ tl,isVals tl=true∧h'=H.set id ⟨.m,ep,4,encs (dd (sortT a))++tl⟩):=by
 have hel2:=encs_len a
 have hlt:=lt_of_some e1
 refine FnEv.x T6 Tryz.func130 rfl ?_
 (repeat' (first | (refine Rn.go ?_;conv=>whnf) | refine .mk ?_ | refine .tt ?_ | refine .ff ?_ | refine .m2 ?_ | refine .m3 ?_ | refine .mk (fun hc=>?_) fun hc=>?_ | refine .lp fun v H lp=>?_ | fail))
 refine CallEv.primL rfl (sortPrim_of e1 (by omega) (fun t ht=>by have:=hb t ht;omega)) ?_
 have e2:(H.set id ⟨.m,ep,4,encs (sortT a)⟩)[id]?=some ⟨.m,ep,4,encs (sortT a)⟩:=List.getElem?_set_self (lt_of_some e1)
 have hH2:HR (H.set id ⟨.m,ep,4,encs (sortT a)⟩):=hH.set id (by simp) (vis_vals _ _ (by simp))
 have hln:=(sortT_perm a).length_eq
 have hmem:∀ t∈sortT a,bulk t<100000000:=fun t ht=>hb t ((sortT_perm _).mem_iff.1 ht)
 rw [← hln] at hel2 hn ⊢
 generalize sortT a=S at *
 cases S with
 | nil=>
  (repeat' (first | (refine Rn.go ?_;conv=>whnf) | refine .mk ?_ | refine .tt ?_ | refine .ff ?_ | refine .m2 ?_ | refine .m3 ?_ | refine .mk (fun hc=>?_) fun hc=>?_ | refine .lp fun v H lp=>?_ | fail))
  refine .ln (ocompact_mt _ _ id ep e2) (fun r h' hr=>by rw [hr.2]) (fun r h' hr=>?_)
  obtain ⟨rfl,rfl⟩:=hr
  (repeat' (first | (refine Rn.go ?_;conv=>whnf) | refine .mk ?_ | refine .tt ?_ | refine .ff ?_ | refine .m2 ?_ | refine .m3 ?_ | refine .mk (fun hc=>?_) fun hc=>?_ | refine .lp fun v H lp=>?_ | fail))
  refine LpX.zip T6 ([]:List Tm) (fun p q L K=>L=[(0,.mref id ep 0 0),(9,.int .i64 0),(10,.int .i64 p.length)]∧K=H.set id ⟨.m,ep,4,encs []⟩) (.nx ⟨rfl,rfl⟩) ?_ ?_
  ·rintro p u q _ K ρ e _
   cases p <;> cases e
  ·rintro _ K ρ ⟨rfl,rfl⟩
   (repeat' (first | (refine Rn.go ?_;conv=>whnf) | refine .mk ?_ | refine .tt ?_ | refine .ff ?_ | refine .m2 ?_ | refine .m3 ?_ | refine .mk (fun hc=>?_) fun hc=>?_ | refine .lp fun v H lp=>?_ | fail))
   exact ⟨rfl,[],rfl,by simp [dd]⟩
 | cons x r=>
  have hc:=ocompact_ev _ rfl ord1_fun x r _ hH2 id ep e2 (by simp at hn;omega) (fun t ht=>by have:=hmem t ht;omega)
  rw [encs_len] at hc
  (repeat' (first | (refine Rn.go ?_;conv=>whnf) | refine .mk ?_ | refine .tt ?_ | refine .ff ?_ | refine .m2 ?_ | refine .m3 ?_ | refine .mk (fun hc=>?_) fun hc=>?_ | refine .lp fun v H lp=>?_ | fail))
  refine .ln hc (fun r h' hr=>by obtain ⟨_,_,_,rfl⟩:=hr;simp) (fun r h' hr=>?_)
  obtain ⟨rfl,tl,hv,rfl⟩:=hr
  rw [List.set_set]
  have e3:(H.set id ⟨.m,ep,4,encs (dd (x::r))++tl⟩)[id]?=some ⟨.m,ep,4,encs (dd (x::r))++tl⟩:=List.getElem?_set_self (lt_of_some e1)
  have hK3:HR (H.set id ⟨.m,ep,4,encs (dd (x::r))++tl⟩):=hH.set id (by simp) (vis_vals _ _ (by show isVals (encs (dd (x::r))++tl)=true;rw [isVals_app,hv];simp))
  have hDn:=dd_len (x::r)
  have hbD:∀ t∈dd (x::r),bulk t<100000000:=fun t ht=>hmem t ((dd_in (x::r) t).1 ht)
  generalize hD:dd (x::r)=D at *
  generalize hK:H.set id ⟨.m,ep,4,encs D++tl⟩=K0 at *
  (repeat' (first | (refine Rn.go ?_;conv=>whnf) | refine .mk ?_ | refine .tt ?_ | refine .ff ?_ | refine .m2 ?_ | refine .m3 ?_ | refine .mk (fun hc=>?_) fun hc=>?_ | refine .lp fun v H lp=>?_ | fail))
  have hDl:=encs_len D
  refine LpX.zip T6 D (fun p q L K=>L=[(0,.mref id ep 0 D.length),(9,.int .i64 D.length),(10,.int .i64 p.length)]∧K=K0) (.nx ⟨rfl,rfl⟩) ?_ ?_
  ·rintro p u q _ _ ρ e ⟨rfl,rfl⟩
   have hl2:=congrArg List.length e
   simp only [List.length_append,List.length_cons] at hl2
   have hat:(encs D++tl)[0+p.length]?=some (.agg [.int .i64 u.k,.str u.s,.int .i64 u.o,.snap false (encs u.l)]):=by
    rw [List.getElem?_append_left (by omega),Nat.zero_add];exact at_encs e
   have hcl:=clone_fun u (hbD u (by rw [e];simp))
   have hset:=list_set_self hat
   rw [enc_x] at hcl
   (repeat' (first | (refine Rn.go ?_;conv=>whnf) | refine .mk ?_ | refine .tt ?_ | refine .ff ?_ | refine .m2 ?_ | refine .m3 ?_ | refine .mk (fun hc=>?_) fun hc=>?_ | refine .lp fun v H lp=>?_ | fail))
   refine .p hcl ?_
   (repeat' (first | (refine Rn.go ?_;conv=>whnf) | refine .mk ?_ | refine .tt ?_ | refine .ff ?_ | refine .m2 ?_ | refine .m3 ?_ | refine .mk (fun hc=>?_) fun hc=>?_ | refine .lp fun v H lp=>?_ | fail))
   exact .nx ⟨rfl,by rw [hset];exact list_set_self e3⟩
  ·rintro _ _ ρ ⟨rfl,rfl⟩
   (repeat' (first | (refine Rn.go ?_;conv=>whnf) | refine .mk ?_ | refine .tt ?_ | refine .ff ?_ | refine .m2 ?_ | refine .m3 ?_ | refine .mk (fun hc=>?_) fun hc=>?_ | refine .lp fun v H lp=>?_ | fail))
   exact ⟨rfl,tl,hv,hK.symm⟩
theorem ofKind_fun (t:Tm) (n:Int) (hb:bulk t<10000000):Fun C 106 [enc t,.int .i64 n] (.snap false (encs (kindT n t))):=by
 have hr0:HR [⟨.m,0,4,[enc t]⟩,⟨.m,0,1,[.int .i64 n]⟩,⟨.m,0,1,[.snap true []]⟩]:=by
  intro x hx
  simp at hx
  rcases hx with rfl | rfl | rfl <;> simp [visRs,visR,vis_vals]
  exact vis_val _ _ (by simp)
 have hw:=walk_fn n t _ (.snap true []) [] hr0 rfl rfl (.inl ⟨rfl,rfl⟩) (by simp [vid]) (by simp;omega)
 have hol:=ofK_len n (pre t)
 have hpl:=pre_len t
 rw [enc_x] at hw ⊢
 refine Fun.x T6 Tryz.func106 rfl ?_
 (repeat' (first | (refine Rn.go ?_;conv=>whnf) | refine .mk ?_ | refine .tt ?_ | refine .ff ?_ | refine .m2 ?_ | refine .m3 ?_ | refine .mk (fun hc=>?_) fun hc=>?_ | refine .lp fun v H lp=>?_ | fail))
 refine CallEv.ks hw (by simp) (fun h' ks=>?_)
 rw [List.nil_append] at ks
 obtain ⟨v',e1,e2,e3⟩:=ks.var
 have hh:=ks.hr
 (repeat' (first | (refine Rn.go ?_;conv=>whnf) | refine .mk ?_ | refine .tt ?_ | refine .ff ?_ | refine .m2 ?_ | refine .m3 ?_ | refine .mk (fun hc=>?_) fun hc=>?_ | refine .lp fun v H lp=>?_ | fail))
 have hkd:dd (sortT (ofK n (pre t)))=kindT n t:=dd_set _
 rcases e2 with ⟨rfl,e0⟩ | ⟨id,ep,rfl,e2⟩
 ·have e4:ofK n (pre t)=[]:=List.eq_nil_of_length_eq_zero (by rw [← encs_len,e0];rfl)
  rw [e4] at hkd
  (repeat' (first | (refine Rn.go ?_;conv=>whnf) | refine .mk ?_ | refine .tt ?_ | refine .ff ?_ | refine .m2 ?_ | refine .m3 ?_ | refine .mk (fun hc=>?_) fun hc=>?_ | refine .lp fun v H lp=>?_ | fail))
  refine .ln (orderedN_ev h') (fun r h' hr=>by rw [hr.2]) (fun r h' hr=>?_)
  obtain ⟨rfl,rfl⟩:=hr
  rw [← hkd]
  (repeat' (first | (refine Rn.go ?_;conv=>whnf) | refine .mk ?_ | refine .tt ?_ | refine .ff ?_ | refine .m2 ?_ | refine .m3 ?_ | refine .mk (fun hc=>?_) fun hc=>?_ | refine .lp fun v H lp=>?_ | fail))
  exact ⟨_,rfl,rfl⟩
 ·have ho:=ordered_ev h' hh id ep (ofK n (pre t)) e2 (by omega) (fun u hu=>by have:=pre_bulk t u (List.mem_filter.1 hu).1;omega)
  rw [encs_len]
  (repeat' (first | (refine Rn.go ?_;conv=>whnf) | refine .mk ?_ | refine .tt ?_ | refine .ff ?_ | refine .m2 ?_ | refine .m3 ?_ | refine .mk (fun hc=>?_) fun hc=>?_ | refine .lp fun v H lp=>?_ | fail))
  refine .ln ho (fun r h' hr=>by obtain ⟨_,_,_,rfl⟩:=hr;simp) (fun r h' hr=>?_)
  obtain ⟨rfl,tl,hv,rfl⟩:=hr
  rw [hkd]
  have e5:=List.getElem?_set_self (a:=(⟨.m,ep,4,encs (kindT n t)++tl⟩:AObj)) (lt_of_some e2)
  (repeat' (first | (refine Rn.go ?_;conv=>whnf) | refine .mk ?_ | refine .tt ?_ | refine .ff ?_ | refine .m2 ?_ | refine .m3 ?_ | refine .mk (fun hc=>?_) fun hc=>?_ | refine .lp fun v H lp=>?_ | fail))
  exact mref_pre e5 (by rw [encs_len]) (by simp) (by simp)
theorem vars_fun (t:Tm) (hb:bulk t<10000000):Fun C 54 [enc t] (.snap false (encs (varsT t))):=by
 have h1:=ofKind_fun t 1 hb
 rw [enc_x] at h1 ⊢
 refine Fun.x T6 Tryz.func54 rfl ?_
 (repeat' (first | (refine Rn.go ?_;conv=>whnf) | refine .mk ?_ | refine .tt ?_ | refine .ff ?_ | refine .m2 ?_ | refine .m3 ?_ | refine .mk (fun hc=>?_) fun hc=>?_ | refine .lp fun v H lp=>?_ | fail))
 refine .p h1 ?_
 (repeat' (first | (refine Rn.go ?_;conv=>whnf) | refine .mk ?_ | refine .tt ?_ | refine .ff ?_ | refine .m2 ?_ | refine .m3 ?_ | refine .mk (fun hc=>?_) fun hc=>?_ | refine .lp fun v H lp=>?_ | fail))
 exact ⟨_,rfl,by simp [tupOf,varsT]⟩
end Go.Pm.Nine
end
section
set_option maxRecDepth 4000
namespace Go.Pm.Nine
open Go.Proofs
attribute [local irreducible] thenQ blockQ loopQ bodyQ Ev EvOps CallEv FnEv EvD encSys
def PredEv (H:AHeap) (g:FuncId) (cs:List PV) (x:PV) (b:Bool):Prop:=∀ H',Exd H H'→∀ Q:PV→AHeap→Prop,(∀ h',Exd H' h'→Q (.bool b) h')→CallEv C 2 g (x::cs) H' Q
theorem idxT_ev (l:List Tm) (g:FuncId) (cs:List PV) (p:Tm→Bool) (H:AHeap) (hl:l.length<1000000000) (hp:∀ x∈l,PredEv H g cs (enc x) (p x)) :
  FnEv C 142 [.snap false (encs l),.fn g cs] H (fun r h'=>r=.int .i64 (idxI p l)∧Exd H h'):=by
 have hel:=encs_len l
 refine FnEv.x T6 Tryz.func142 rfl ?_
 (repeat' (first | (refine Rn.go ?_;conv=>whnf) | refine .mk ?_ | refine .tt ?_ | refine .ff ?_ | refine .m2 ?_ | refine .m3 ?_ | refine .mk (fun hc=>?_) fun hc=>?_ | refine .lp fun v H lp=>?_ | fail))
 refine LpX.zip T6 l (fun a q L K=>L=[(0,.snap false (encs l)),(1,.fn g cs),(7,.int .i64 (encs l).length),(8,.int .i64 a.length)]∧Exd H K∧∀ y∈a,p y=false) (.nx ⟨rfl,Exd.refl _,by simp⟩) ?_ ?_
 ·rintro a x q _ K ρ e ⟨rfl,hE,ha⟩
  have hat:=at_encs e
  have hl2:=congrArg List.length e
  simp only [List.length_append,List.length_cons] at hl2
  have hpx:=hp x (by rw [e];simp) _ hE
  rw [enc_x] at hpx
  (repeat' (first | (refine Rn.go ?_;conv=>whnf) | refine .mk ?_ | refine .tt ?_ | refine .ff ?_ | refine .m2 ?_ | refine .m3 ?_ | refine .mk (fun hc=>?_) fun hc=>?_ | refine .lp fun v H lp=>?_ | fail))
  refine hpx _ (fun h' hE'=>?_)
  cases hb:p x
  ·(repeat' (first | (refine Rn.go ?_;conv=>whnf) | refine .mk ?_ | refine .tt ?_ | refine .ff ?_ | refine .m2 ?_ | refine .m3 ?_ | refine .mk (fun hc=>?_) fun hc=>?_ | refine .lp fun v H lp=>?_ | fail))
   exact .nx ⟨rfl,hE.trans hE',fun y hy=>by rcases List.mem_append.1 hy with h | h;exact ha y h;simp at h;rw [h];exact hb⟩
  ·(repeat' (first | (refine Rn.go ?_;conv=>whnf) | refine .mk ?_ | refine .tt ?_ | refine .ff ?_ | refine .m2 ?_ | refine .m3 ?_ | refine .mk (fun hc=>?_) fun hc=>?_ | refine .lp fun v H lp=>?_ | fail))
   exact ⟨by rw [e,idxI_at ha hb];rfl,hE.trans hE'⟩
 ·rintro _ K ρ ⟨rfl,hE,ha⟩
  (repeat' (first | (refine Rn.go ?_;conv=>whnf) | refine .mk ?_ | refine .tt ?_ | refine .ff ?_ | refine .m2 ?_ | refine .m3 ?_ | refine .mk (fun hc=>?_) fun hc=>?_ | refine .lp fun v H lp=>?_ | fail))
  exact ⟨by rw [idxI_none ha];rfl,hE⟩
theorem cntT_ev (l:List Tm) (g:FuncId) (cs:List PV) (p:Tm→Bool) (H:AHeap) (hl:l.length<1000000000) (hp:∀ x∈l,PredEv H g cs (enc x) (p x)) :
  FnEv C 86 [.snap false (encs l),.fn g cs] H (fun r h'=>r=.bool (l.any p)∧Exd H h'):=by
 have hi:=idxT_ev l g cs p H hl hp
 have ha:=idxI_any p l
 refine FnEv.x T6 Tryz.func86 rfl ?_
 (repeat' (first | (refine Rn.go ?_;conv=>whnf) | refine .mk ?_ | refine .tt ?_ | refine .ff ?_ | refine .m2 ?_ | refine .m3 ?_ | refine .mk (fun hc=>?_) fun hc=>?_ | refine .lp fun v H lp=>?_ | fail))
 refine .ex hi (fun h' hE=>?_)
 (repeat' (first | (refine Rn.go ?_;conv=>whnf) | refine .mk ?_ | refine .tt ?_ | refine .ff ?_ | refine .m2 ?_ | refine .m3 ?_ | refine .mk (fun hc=>?_) fun hc=>?_ | refine .lp fun v H lp=>?_ | fail))
 all_goals exact ⟨by rw [← ha];simp [tupOf, *],hE⟩
theorem PredEv.pure {H:AHeap} {g:FuncId} {cs:List PV} {x:PV} {b:Bool} (a:Fun C g (nrms (x::cs)) (.bool b)) (hx:isVals (x::cs)=true) (hm:C.mode g=.pure:=by rfl):PredEv H g cs x b:=
 fun H' _ Q hQ=>CallEv.pure hm hx a (hQ _ (Exd.refl _))
theorem PredEv.opened {H:AHeap} {g:FuncId} {cs:List PV} {x:PV} {b:Bool} (a:∀ H',Exd H H'→FnEv C g (x::cs) H' (fun r h'=>r=.bool b∧Exd H' h')) (hm:C.mode g=.opened:=by rfl):PredEv H g cs x b:=
 fun H' hE Q hQ=>CallEv.ex (a H' hE) hQ hm
theorem rt1_fun (t:Tm):Fun C 141 [enc t] (.bool (agT t)):=by
 rw [enc_x]
 refine Fun.x T6 Tryz.func141 rfl ?_
 (repeat' (first | (refine Rn.go ?_;conv=>whnf) | refine .mk ?_ | refine .tt ?_ | refine .ff ?_ | refine .m2 ?_ | refine .m3 ?_ | refine .mk (fun hc=>?_) fun hc=>?_ | refine .lp fun v H lp=>?_ | fail))
 all_goals exact ⟨_,rfl,by simp [tupOf,agT, *]⟩
theorem has1_ev (t u:Tm) (ht:bulk t<1000000000) (hu:bulk u<1000000000) (id:Nat) (H:AHeap) (hH:closedH (H++[⟨.m,0,4,[enc u]⟩])=true) (h0:H[id]?=some ⟨.m,0,4,[enc t]⟩):FnEv C 143 [enc u,.ptr id 0 0 0] H (fun r h'=>r=.bool (decide (cmpT t u=0))∧Exd H h'):=by
 have h1:=(tcmp_fun t u ht hu).nine
 have hlt:=lt_of_some h0
 rw [enc_x t] at h0 h1
 rw [enc_x u] at h1 hH ⊢
 refine FnEv.x T6 Tryz.func143 rfl ?_
 (repeat' (first | (refine Rn.go ?_;conv=>whnf) | refine .mk ?_ | refine .tt ?_ | refine .ff ?_ | refine .m2 ?_ | refine .m3 ?_ | refine .mk (fun hc=>?_) fun hc=>?_ | refine .lp fun v H lp=>?_ | fail))
 refine .p h1 ?_
 (repeat' (first | (refine Rn.go ?_;conv=>whnf) | refine .mk ?_ | refine .tt ?_ | refine .ff ?_ | refine .m2 ?_ | refine .m3 ?_ | refine .mk (fun hc=>?_) fun hc=>?_ | refine .lp fun v H lp=>?_ | fail))
 all_goals exact ⟨by simp [tupOf, *],(Exd.refl _).app (HV.one (by simp))⟩
theorem has_ev (l:List Tm) (t:Tm) (ht:bulk t<1000000000) (hl:l.length<1000000000) (hb:∀ u∈l,bulk u<1000000000):Fun C 88 [.snap false (encs l),enc t] (.bool (hasT l t)):=by
 have hc:=cntT_ev l 143 [.ptr 0 0 0 0] (fun u=>decide (cmpT t u=0)) [⟨.m,0,4,[enc t]⟩] hl (fun x hx=>PredEv.opened fun H' hE=>has1_ev t x ht (hb x hx) 0 H' ((hE.hv (HV.one (by simp))).app (HV.one (by simp))).closed (hE.at rfl))
 rw [enc_x t] at hc ⊢
 refine Fun.x T6 Tryz.func88 rfl ?_
 (repeat' (first | (refine Rn.go ?_;conv=>whnf) | refine .mk ?_ | refine .tt ?_ | refine .ff ?_ | refine .m2 ?_ | refine .m3 ?_ | refine .mk (fun hc=>?_) fun hc=>?_ | refine .lp fun v H lp=>?_ | fail))
 refine .ex hc (fun h' hE=>?_)
 (repeat' (first | (refine Rn.go ?_;conv=>whnf) | refine .mk ?_ | refine .tt ?_ | refine .ff ?_ | refine .m2 ?_ | refine .m3 ?_ | refine .mk (fun hc=>?_) fun hc=>?_ | refine .lp fun v H lp=>?_ | fail))
 exact ⟨_,rfl,rfl⟩
theorem cright_fun (t:Tm) (hb:bulk t<10000000):Fun C 85 [enc t] (.int .i64 (rightC t)):=by
 have h1:=thv_fun t (by omega)
 have h2:=free9_fun t (by omega)
 have h3:=vars_fun t hb
 have h4:=(tsize_fun t (by omega)).nine
 have hvl:=varsT_len t
 rw [enc_x] at h1 h2 h3 h4 ⊢
 have h5:∀ H,FnEv C 86 [.snap false (encs (varsT t)),.fn 141 []] H (fun r h'=>r=.bool ((varsT t).any agT)∧Exd H h'):=fun H=>
  cntT_ev (varsT t) 141 [] agT H (by omega) (fun x hx=>PredEv.pure (by simpa [nrms] using rt1_fun x) (by simp [isVals]))
 refine Fun.x T6 Tryz.func85 rfl ?_
 (repeat' (first | (refine Rn.go ?_;conv=>whnf) | refine .mk ?_ | refine .tt ?_ | refine .ff ?_ | refine .m2 ?_ | refine .m3 ?_ | refine .mk (fun hc=>?_) fun hc=>?_ | refine .lp fun v H lp=>?_ | fail))
 refine .p h1 ?_
 (repeat' (first | (refine Rn.go ?_;conv=>whnf) | refine .mk ?_ | refine .tt ?_ | refine .ff ?_ | refine .m2 ?_ | refine .m3 ?_ | refine .mk (fun hc=>?_) fun hc=>?_ | refine .lp fun v H lp=>?_ | fail))
 ·have hth:thv t=0:=by omega
  have hrc:rightC t=if freeT t=false∨(varsT t).any agT=true then 10 else if 60<size t then 3 else 0:=by rw [rightC,if_neg (by omega)]
  refine .p h2 ?_
  cases hf:freeT t
  ·(repeat' (first | (refine Rn.go ?_;conv=>whnf) | refine .mk ?_ | refine .tt ?_ | refine .ff ?_ | refine .m2 ?_ | refine .m3 ?_ | refine .mk (fun hc=>?_) fun hc=>?_ | refine .lp fun v H lp=>?_ | fail))
   exact ⟨_,rfl,by rw [hrc,if_pos (.inl hf)];rfl⟩
  ·(repeat' (first | (refine Rn.go ?_;conv=>whnf) | refine .mk ?_ | refine .tt ?_ | refine .ff ?_ | refine .m2 ?_ | refine .m3 ?_ | refine .mk (fun hc=>?_) fun hc=>?_ | refine .lp fun v H lp=>?_ | fail))
   refine .p h3 ?_
   (repeat' (first | (refine Rn.go ?_;conv=>whnf) | refine .mk ?_ | refine .tt ?_ | refine .ff ?_ | refine .m2 ?_ | refine .m3 ?_ | refine .mk (fun hc=>?_) fun hc=>?_ | refine .lp fun v H lp=>?_ | fail))
   refine .ex (h5 _) (fun h' hE=>?_)
   have k0:=hE.at (i:=0) rfl
   cases ha:(varsT t).any agT
   ·rw [hf,ha,if_neg (by simp)] at hrc
    (repeat' (first | (refine Rn.go ?_;conv=>whnf) | refine .mk ?_ | refine .tt ?_ | refine .ff ?_ | refine .m2 ?_ | refine .m3 ?_ | refine .mk (fun hc=>?_) fun hc=>?_ | refine .lp fun v H lp=>?_ | fail))
    refine .p h4 ?_
    (repeat' (first | (refine Rn.go ?_;conv=>whnf) | refine .mk ?_ | refine .tt ?_ | refine .ff ?_ | refine .m2 ?_ | refine .m3 ?_ | refine .mk (fun hc=>?_) fun hc=>?_ | refine .lp fun v H lp=>?_ | fail))
    ·exact ⟨_,rfl,by rw [hrc,if_pos (by omega)];rfl⟩
    ·exact ⟨_,rfl,by rw [hrc,if_neg (by omega)];rfl⟩
   ·(repeat' (first | (refine Rn.go ?_;conv=>whnf) | refine .mk ?_ | refine .tt ?_ | refine .ff ?_ | refine .m2 ?_ | refine .m3 ?_ | refine .mk (fun hc=>?_) fun hc=>?_ | refine .lp fun v H lp=>?_ | fail))
    exact ⟨_,rfl,by rw [hrc,if_pos (.inr ha)];rfl⟩
 ·exact ⟨_,rfl,by rw [rightC,if_pos (by assumption)];rfl⟩
theorem _root_.Go.Pm.EvD.lv1 {C:Cfg} {ops:Array Oper} {i d:Nat} {ty:TypeId} {pos:String} {af:Array Edge} {r:List Oper} {ρ:Nat→PV} {L:Al} {h:AHeap} {L0:Nat} {own:List Nat} {Q:St→Prop} {op:Op} {v:PV} {h':AHeap} (M J:AHeap)
  (hc:∃ n0,∀ n,n0≤n→opVal C (runF C n) 1 op (al L ρ) M=some (v,h')) (k:EvD C ops (i+1) r ⟨⟨al ((d,v)::L) ρ,h++J⟩,L0,own++List.replicate J.length i⟩ Q) (hM:maskE ((before ops).getD i 0).testBit L0 own h=M) (hJ:h'.drop h.length=J) (hcl:closedH M=true) (hop:(op.operands.toList.all fun y=>visR (visible M) (ev (al L ρ) y))=true)
  (hlk:(J.all fun o=>decide (o.mu≠.l))=true) (hh:heapy op=true:=by rfl) (hl:(level ops (before ops) i == 2)=false:=by rfl):EvD C ops i (⟨some d,op,ty,pos,af,none⟩::r) ⟨⟨al L ρ,h⟩,L0,own⟩ Q:=by
 obtain ⟨n0,hn⟩:=hc
 have hl2:level ops (before ops) i≠2:=by simpa using hl
 refine EvD.step ⟨n0,fun n h1=>?_⟩ k
 subst hM hJ
 simp only [opStepD,wantedA,hh,Bool.true_eq_false,if_false,hl2,hcl,hop,and_self,if_true,hn n h1,hlk,al_cons]
theorem _root_.Go.Pm.prim1 {C:Cfg} {run:Run} {f:FuncId} {g:List PV→AHeap→Option (PV × AHeap)} {ρ:Nat→PV} {xs:List Operand} {ats:Array TypeId} {M h':AHeap} {us:List PV} {v:PV} (hm:C.mode f=.primL g) (hx:xs.map (ev ρ)=us) (hg:g us (M.map lock1)=some (v,h')) (hlk:((h'.drop M.length).all fun o=>decide (o.mu≠.l))=true) :
  opVal C run 1 (.call ⟨.value (.func f),xs.toArray,ats⟩) ρ M=some (v,M++h'.drop M.length):=by
 simp only [opVal,calleeP,ev,hx,List.append_nil]
 unfold callF
 rw [hm]
 simp only [lockCall,hg,hlk,if_true]
 rfl
theorem _root_.Go.Pm.opLd {C:Cfg} (T:Tab C.P) {run:Run} {lv:Nat} {L:Al} {ρ:Nat→PV} {M:AHeap} {t:TypeId} {x:Operand} {p v:PV} (hx:evL L x=some p) (hl:loadT T M t p=some v):opVal C run lv (.load t x) (al L ρ) M=some (v,M):=by
 simp only [opVal,stepOp,evL_ev hx,loadT_of T hl,Option.map_some]
theorem _root_.Go.Pm.opBs {C:Cfg} (T:Tab C.P) {run:Run} {L:Al} {ρ:Nat→PV} {M:AHeap} {t:TypeId} {n:Nat} {ps:Array (Nat × Operand)} {vs:List PV} (x:litX T t n ps.toList L (fun _ es=>es=vs)) (hv:isVals vs=true):opVal C run 1 (.buildSlice t n ps) (al L ρ) M=some (.snap true vs,M):=by
 obtain ⟨sz,es,rfl,e⟩:=litX_out T x
 have:=e ρ M 1
 rw [if_pos hv] at this
 simpa only [opVal,stepOp] using this
theorem _root_.Go.Pm.opAp {C:Cfg} {run:Run} {lv:Nat} {L:Al} {ρ:Nat→PV} {h h':AHeap} {st xt:TypeId} {x y:Operand} {v u r:PV} (hx:evL L x=some v) (hy:evL L y=some u) (ha:appendP C.P lv h st xt v u=some (r,h')):opVal C run lv (.call ⟨.builtin .append,#[x,y],#[st,xt]⟩) (al L ρ) h=some (r,h'):=by
 simp only [opVal,builtinP,List.map_cons,List.map_nil,evL_ev hx,evL_ev hy,ha]
theorem terms_fun (d:Dem) (hk:d.kn.length<10000000):Fun C 71 [encD d] (.snap false (encs (d.kn++[d.tm]))):=by
 have hel:=encs_len d.kn
 rw [encD_x]
 refine Fun.x T6 Tryz.func71 rfl ?_
 refine Rn.go ?_;conv=>whnf
 refine .mk ?_
 refine Rn.go ?_;conv=>whnf
 refine .raw (fun ρ=>?_)
 refine D.fieldAddr T6 rfl rfl rfl rfl ?_
 refine D.load1 T6 rfl rfl rfl rfl rfl rfl ?_
 have hen:(encs d.kn).isEmpty=d.kn.isEmpty:=by cases d.kn <;> rfl
 obtain ⟨box,hbox⟩:∃ b:AObj,b=⟨.m,0,5,[.agg [.snap false (encs d.kn),.int .i64 d.tm.k,.str d.tm.s,.int .i64 d.tm.o,.snap false (encs d.tm.l)]]⟩:=⟨_,rfl⟩
 by_cases he:d.kn=[]
 ·have hcp:clonePrim 4 [.snap false (encs d.kn)] ([box].map lock1)=some (.snap true [],[box].map lock1):=by simp [clonePrim,he,encs]
  refine .lv1 [box] [] ⟨0,fun n _=>prim1 rfl rfl hcp rfl⟩ ?_ (by rw [hbox];rfl) rfl (by rw [hbox];simp [closedH,visRs,visR]) rfl rfl
  refine D.fieldAddr T6 rfl rfl rfl rfl ?_
  refine .lv1 [box] [] ⟨0,fun n _=>opLd T6 rfl (by rw [hbox];rfl)⟩ ?_ (by rw [hbox];rfl) rfl (by rw [hbox];simp [closedH,visRs,visR]) (by rw [hbox];rfl) rfl
  refine .lv1 [box] [] ⟨0,fun n _=>opBs T6 (vs:=[.agg [.int .i64 d.tm.k,.str d.tm.s,.int .i64 d.tm.o,.snap false (encs d.tm.l)]]) (by exact rfl) (by simp)⟩ ?_ (by rw [hbox];rfl) rfl (by rw [hbox];simp [closedH,visRs,visR]) (by rw [hbox];rfl) rfl
  subst hbox
  refine EvD.two rfl rfl ⟨0,fun n _=>opAp rfl rfl (appendP_new T6 (lv:=2) (full:=true) (ys:=[.agg [.int .i64 d.tm.k,.str d.tm.s,.int .i64 d.tm.o,.snap false (encs d.tm.l)]]) (by omega) rfl rfl rfl rfl rfl (by decide) rfl rfl rfl rfl (by simp))⟩ ?_
  refine D.assign rfl ?_
  refine EvD.nil ⟨_,_,rfl,?_⟩
  conv=>whnf
  rw [he]
  exact mref_pre (ep:=0) (sz:=4) (tl:=[]) (es:=encs ([]++[d.tm])) (by simp only [List.append_nil,List.nil_append,encs];rw [← enc_x];rfl) (by rw [encs_len];simp) (by simp) (by simp)
 ·have hcp:clonePrim 4 [.snap false (encs d.kn)] ([box].map lock1)=some (.mref 1 0 0 d.kn.length,[box].map lock1++[⟨.m,0,4,encs d.kn⟩]):=by
   have h1:d.kn.isEmpty=false:=by cases h:d.kn with | nil=>exact absurd h he | cons=>rfl
   simp only [clonePrim,hen,h1,Bool.false_eq_true,if_false]
   rw [if_pos ⟨encs_ok _,by omega⟩,hel]
   rfl
  refine .lv1 [box] [⟨.m,0,4,encs d.kn⟩] ⟨0,fun n _=>prim1 rfl rfl hcp rfl⟩ ?_ (by rw [hbox];rfl) rfl (by rw [hbox];simp [closedH,visRs,visR]) rfl rfl
  refine D.fieldAddr T6 rfl rfl rfl rfl ?_
  refine .lv1 [box,hide1 ⟨.m,0,4,encs d.kn⟩] [] ⟨0,fun n _=>opLd T6 rfl (by rw [hbox];rfl)⟩ ?_ (by rw [hbox];rfl) rfl (by rw [hbox];simp [closedH,visRs,visR,hide1]) (by rw [hbox];rfl) rfl
  refine .lv1 [box,hide1 ⟨.m,0,4,encs d.kn⟩] [] ⟨0,fun n _=>opBs T6 (vs:=[.agg [.int .i64 d.tm.k,.str d.tm.s,.int .i64 d.tm.o,.snap false (encs d.tm.l)]]) (by exact rfl) (by simp)⟩ ?_ (by rw [hbox];rfl) rfl (by rw [hbox];simp [closedH,visRs,visR,hide1]) (by rw [hbox];rfl) rfl
  subst hbox
  refine EvD.two rfl rfl ⟨0,fun n _=>opAp rfl rfl (appendP_m T6 (len:=d.kn.length) (o:=⟨.m,0,4,encs d.kn⟩) (full:=true) (ys:=[.agg [.int .i64 d.tm.k,.str d.tm.s,.int .i64 d.tm.o,.snap false (encs d.tm.l)]]) rfl rfl rfl rfl rfl (by decide) rfl rfl rfl rfl (by simp;omega) (getM_at rfl rfl (by simp)) rfl rfl (by simp [hel]))⟩ ?_
  refine D.assign rfl ?_
  refine EvD.nil ⟨_,_,rfl,?_⟩
  conv=>whnf
  have htk:List.take d.kn.length (encs d.kn)=encs d.kn:=List.take_of_length_le (by omega)
  exact mref_pre (ep:=1) (sz:=4) (tl:=[]) (es:=encs (d.kn++[d.tm])) (by rw [encs_app];simp only [htk,List.append_nil,encs];rw [← enc_x];rfl) (by rw [encs_len];simp) (by simp) (by simp)
end Go.Pm.Nine
end
section
set_option maxRecDepth 4000
namespace Go.Pm.Nine
open Go.Proofs
attribute [local irreducible] thenQ blockQ loopQ bodyQ Ev EvOps CallEv FnEv EvD encSys
theorem cvalid1_ev (d:Dem) (u:Tm) (hu:bulk u<1000000000) (hk:d.kn.length<1000000000) (hb:∀ t∈d.kn,bulk t<1000000000) (id:Nat) (H:AHeap) (hH:closedH (H++[⟨.m,0,4,[enc u]⟩])=true) (h0:H[id]?=some ⟨.m,0,5,[encD d]⟩) :
  FnEv C 87 [enc u,.ptr id 0 0 0] H (fun r h'=>r=.bool (!hasT d.kn u)∧Exd H h'):=by
 have h1:=has_ev d.kn u hu hk hb
 rw [encD_x] at h0
 rw [enc_x] at h1 hH ⊢
 refine FnEv.x T6 Tryz.func87 rfl ?_
 (repeat' (first | (refine Rn.go ?_;conv=>whnf) | refine .mk ?_ | refine .tt ?_ | refine .ff ?_ | refine .m2 ?_ | refine .m3 ?_ | refine .mk (fun hc=>?_) fun hc=>?_ | refine .lp fun v H lp=>?_ | fail))
 refine .p h1 ?_
 cases hasT d.kn u
 all_goals
  (repeat' (first | (refine Rn.go ?_;conv=>whnf) | refine .mk ?_ | refine .tt ?_ | refine .ff ?_ | refine .m2 ?_ | refine .m3 ?_ | refine .mk (fun hc=>?_) fun hc=>?_ | refine .lp fun v H lp=>?_ | fail))
  exact ⟨rfl,(Exd.refl _).app (HV.one (by simp))⟩
theorem cvalid2_ev (b:List Tm) (v:PV) (u:Tm) (hu:bulk u<1000000000) (hk:b.length<1000000000) (hb:∀ t∈b,bulk t<1000000000) (id:Nat) (H:AHeap) (hH:closedH (H++[⟨.m,0,4,[enc u]⟩])=true) (h0:H[id]?=some ⟨.m,0,1,[v]⟩) (ho:Out 4 H v (encs b)) :
  FnEv C 89 [enc u,.ptr id 0 0 0] H (fun r h'=>r=.bool (!hasT b u)∧Exd H h'):=by
 have h1:=has_ev b u hu hk hb
 have ho2:=ho.app [⟨.m,0,4,[enc u]⟩]
 rw [enc_x] at h1 hH ho2 ⊢
 refine FnEv.x T6 Tryz.func89 rfl ?_
 have ho3:=ho2
 rcases ho2 with ⟨rfl,e⟩ | ⟨id',ep,rfl,e⟩
 all_goals
  (repeat' (first | (refine Rn.go ?_;conv=>whnf) | refine .mk ?_ | refine .tt ?_ | refine .ff ?_ | refine .m2 ?_ | refine .m3 ?_ | refine .mk (fun hc=>?_) fun hc=>?_ | refine .lp fun v H lp=>?_ | fail))
  refine CallEv.plS (.inl ho3) h1 ?_
  cases hasT b u
  all_goals
   (repeat' (first | (refine Rn.go ?_;conv=>whnf) | refine .mk ?_ | refine .tt ?_ | refine .ff ?_ | refine .m2 ?_ | refine .m3 ?_ | refine .mk (fun hc=>?_) fun hc=>?_ | refine .lp fun v H lp=>?_ | fail))
   exact ⟨rfl,(Exd.refl _).app (HV.one (by simp))⟩
def prevO (p:List Dem):Option (List Tm):=p.getLast?.map Dem.kn
def bndO (p:List Dem):List Tm:=p.flatMap fun d=>varsT d.tm
theorem prevO_snoc (p:List Dem) (d:Dem):prevO (p++[d])=some d.kn:=by simp [prevO]
theorem bndO_snoc (p:List Dem) (d:Dem):bndO (p++[d])=bndO p++varsT d.tm:=by simp [bndO]
theorem rights_at {l p q:List Tm} {u:Tm} (e:l=p++u::q) (hp:∀ v∈p,rightC v=0) (hu:rightC u≠0):rightCs l=rightC u:=by
 subst e
 induction p with
 | nil=>simp only [List.nil_append,rightCs];rw [if_pos hu]
 | cons v p ih=>
  simp only [List.cons_append,rightCs]
  rw [if_neg (by rw [hp v (by simp)];simp),ih (fun w hw=>hp w (by simp [hw]))]
theorem rights_none:∀ {l:List Tm},(∀ v∈l,rightC v=0)→rightCs l=0
 | [],_=>rfl
 | v::l,h=>by
  rw [rightCs,if_neg (by rw [h v (by simp)];simp)]
  exact rights_none fun u hu=>h u (by simp [hu])
theorem right_bulk {t:Tm} (h:rightC t=0):bulk t≤10000:=valid_bulk (right_zero h).1
theorem bndO_len {p:List Dem} (h:∀ d∈p,rightC d.tm=0):(bndO p).length≤p.length * 10000:=by
 induction p with
 | nil=>simp [bndO]
 | cons d p ih=>
  have h1:=ih fun x hx=>h x (by simp [hx])
  have h2:=varsT_len d.tm
  have h3:=right_bulk (h d (by simp))
  simp only [bndO,List.flatMap_cons,List.length_append,List.length_cons] at h1 ⊢
  omega
theorem bndO_bulk {p:List Dem} (h:∀ d∈p,rightC d.tm=0):∀ t∈bndO p,bulk t≤10000:=by
 intro t ht
 obtain ⟨d,hd,ht⟩:=List.mem_flatMap.1 ht
 have:=varsT_bulk ht
 have:=right_bulk (h d hd)
 omega
theorem cvalid_fun (l:List Dem) (hl:l.length<1000000000) (hb:∀ d∈l,d.kn.length<10000000∧∀ t∈d.kn++[d.tm],bulk t<10000000):Fun C 30 [.snap false (encDs l)] (.int .i64 (sysV l)):=by
 have hel:=encDs_len l
 refine Fun.x T6 Tryz.func30 rfl ?_
 (repeat' (first | (refine Rn.go ?_;conv=>whnf) | refine .mk ?_ | refine .tt ?_ | refine .ff ?_ | refine .m2 ?_ | refine .m3 ?_ | refine .mk (fun hc=>?_) fun hc=>?_ | refine .lp fun v H lp=>?_ | fail))
 ·exact ⟨_,rfl,by rw [sysV,if_pos (by omega)];rfl⟩
 have hsv:sysV l=sysGo none [] l:=by rw [sysV,if_neg (by omega)]
 refine LpX.zip T6 l (fun p q L H=>∃ v,L=[(0,.snap false (encDs l)),(3,.ptr 0 0 0 0),(14,.snap false (encDs l)),(15,.int .i64 (encDs l).length),(16,.int .i64 p.length)]∧HR H∧H[0]?=some ⟨.m,0,1,[v]⟩∧Out 4 H v (encs (bndO p))∧(∀ i∈vid v,1≤i)∧sysV l=sysGo (prevO p) (bndO p) q∧∀ d∈p,rightC d.tm=0) (.nx ⟨_,rfl,(HV.one (by simp)).hr,rfl,.inl ⟨rfl,rfl⟩,by simp [vid],hsv,by simp⟩) ?_ ?_
 ·rintro p d q _ H ρ e ⟨v,rfl,hH,h0,ho,hv,hs,hp⟩
  have hat:=at_encDs e
  have hl2:=congrArg List.length e
  simp only [List.length_append,List.length_cons] at hl2
  obtain ⟨hkl,hbd⟩:=hb d (by rw [e];simp)
  have htf:=terms_fun d hkl
  have hek:=encs_len d.kn
  rw [sysGo] at hs
  rw [encD_x] at htf
  (repeat' (first | (refine Rn.go ?_;conv=>whnf) | refine .mk ?_ | refine .tt ?_ | refine .ff ?_ | refine .m2 ?_ | refine .m3 ?_ | refine .mk (fun hc=>?_) fun hc=>?_ | refine .lp fun v H lp=>?_ | fail))
  ·exact ⟨_,rfl,by rw [hs,if_pos (by omega)];rfl⟩
  rw [if_neg (by omega)] at hs
  (repeat' (first | (refine Rn.go ?_;conv=>whnf) | refine .mk ?_ | refine .tt ?_ | refine .ff ?_ | refine .m2 ?_ | refine .m3 ?_ | refine .mk (fun hc=>?_) fun hc=>?_ | refine .lp fun v H lp=>?_ | fail))
  refine .p htf ?_
  (repeat' (first | (refine Rn.go ?_;conv=>whnf) | refine .mk ?_ | refine .tt ?_ | refine .ff ?_ | refine .m2 ?_ | refine .m3 ?_ | refine .mk (fun hc=>?_) fun hc=>?_ | refine .lp fun v H lp=>?_ | fail))
  obtain ⟨H2,hH2⟩:∃ x,x=H++[⟨.m,0,5,[.agg [.snap false (encs d.kn),.int .i64 d.tm.k,.str d.tm.s,.int .i64 d.tm.o,.snap false (encs d.tm.l)]]⟩]:=⟨_,rfl⟩
  have b2:H2[H.length]?=some ⟨.m,0,5,[.agg [.snap false (encs d.kn),.int .i64 d.tm.k,.str d.tm.s,.int .i64 d.tm.o,.snap false (encs d.tm.l)]]⟩:=by rw [hH2];simp
  have z2:H2[0]?=some ⟨.m,0,1,[v]⟩:=by rw [hH2,List.getElem?_append_left (lt_of_some h0)];exact h0
  have r2:HR H2:=by rw [hH2];exact hH.appV (HV.one (by simp))
  have o2:Out 4 H2 v (encs (bndO p)):=by rw [hH2];exact ho.app _
  have ekt:=encs_len (d.kn++[d.tm])
  rw [← hH2]
  refine LpX.zip T6 (d.kn++[d.tm]) (fun p2 q2 L K=>L=[(0,.snap false (encDs l)),(3,.ptr 0 0 0 0),(4,.int .i64 p.length),(5,.ptr H.length 0 0 0),(14,.snap false (encDs l)),(15,.int .i64 (encDs l).length),(16,.int .i64 p.length),(26,.snap false (encs (d.kn++[d.tm]))),(27,.int .i64 (encs (d.kn++[d.tm])).length),(28,.int .i64 p2.length)]∧Exd H2 K∧∀ u∈p2,rightC u=0) (.nx ⟨rfl,Exd.refl _,by simp⟩) ?_ ?_
  ·rintro p2 u q2 _ K ρ e2 ⟨rfl,hE,hp2⟩
   have hat2:=at_encs e2
   have hl3:=congrArg List.length e2
   rw [List.length_append,List.length_append] at hl3
   simp only [List.length_cons,List.length_nil] at hl3
   rw [List.length_append] at ekt
   simp only [List.length_cons,List.length_nil] at ekt
   have hri:=cright_fun u (hbd u (by rw [e2];simp))
   rw [enc_x] at hri
   (repeat' (first | (refine Rn.go ?_;conv=>whnf) | refine .mk ?_ | refine .tt ?_ | refine .ff ?_ | refine .m2 ?_ | refine .m3 ?_ | refine .mk (fun hc=>?_) fun hc=>?_ | refine .lp fun v H lp=>?_ | fail))
   refine .p hri ?_
   (repeat' (first | (refine Rn.go ?_;conv=>whnf) | refine .mk ?_ | refine .tt ?_ | refine .ff ?_ | refine .m2 ?_ | refine .m3 ?_ | refine .mk (fun hc=>?_) fun hc=>?_ | refine .lp fun v H lp=>?_ | fail))
   ·exact .nx ⟨rfl,hE.app (HV.one (by simp)),fun w hw=>by rcases List.mem_append.1 hw with h | h;exact hp2 w h;simp at h;rw [h];assumption⟩
   ·have hra:=rights_at e2 hp2 (by assumption)
    exact ⟨_,rfl,by rw [hs,hra,if_pos (by assumption)];rfl⟩
  ·rintro _ K ρ ⟨rfl,hE,hp2⟩
   rw [if_neg (by rw [rights_none hp2];simp)] at hs
   have bK:=hE.at b2
   have zK:=hE.at z2
   have rK:HR K:=by obtain ⟨J,hJ,rfl⟩:=hE;exact r2.appV hJ
   have oK:Out 4 K v (encs (bndO p)):=by obtain ⟨J,hJ,rfl⟩:=hE;exact o2.app _
   have hbb:=bndO_bulk hp
   have hbl:=bndO_len hp
   have hpl:p.length<41:=by omega
   by_cases hp0:p=[]
   ·have hk0:kept (prevO p) d.kn=true:=by rw [hp0];rfl
    rw [hk0,if_neg (by simp)] at hs
    have hp1:p.length=0:=by rw [hp0];rfl
    (repeat' (first | (refine Rn.go ?_;conv=>whnf) | refine .mk ?_ | refine .tt ?_ | refine .ff ?_ | refine .m2 ?_ | refine .m3 ?_ | refine .mk (fun hc=>?_) fun hc=>?_ | refine .lp fun v H lp=>?_ | fail))
    obtain ⟨K3,hK3⟩:∃ x,x=K:=⟨_,rfl⟩
    rw [← hK3] at bK zK rK oK ⊢
    have b3:=bK
    have z3:=zK
    have r3:=rK
    have o3:=oK
    have ekn:=encs_len d.kn
    refine LpX.zip T6 d.kn (fun p4 q4 L K4=>L=[(0,.snap false (encDs l)),(3,.ptr 0 0 0 0),(5,.ptr H.length 0 0 0),(14,.snap false (encDs l)),(15,.int .i64 (encDs l).length),(16,.int .i64 p.length),(51,.snap false (encs d.kn)),(52,.int .i64 (encs d.kn).length),(53,.int .i64 p4.length)]∧Exd K3 K4∧∀ u∈p4,((varsT u).all fun x=>hasT (bndO p) x)=true) (.nx ⟨rfl,Exd.refl _,by simp⟩) ?_ ?_
    ·rintro p4 u q4 _ K4 ρ e4 ⟨rfl,hE4,hp4⟩
     have hat4:=at_encs e4
     have hl4:=congrArg List.length e4
     simp only [List.length_append,List.length_cons] at hl4
     have hru:rightC u=0:=hp2 u (by rw [e4];simp)
     have hbu:=right_bulk hru
     have hvu:=vars_fun u (by omega)
     have hvl:=varsT_len u
     have r5:HR (K4++[⟨.m,0,4,[enc u]⟩]):=by obtain ⟨J,hJ,rfl⟩:=hE4;exact (r3.appV hJ).appV (HV.one (by simp))
     have z5:(K4++[⟨.m,0,4,[enc u]⟩])[0]?=some ⟨.m,0,1,[v]⟩:=by rw [List.getElem?_append_left (lt_of_some (hE4.at z3))];exact hE4.at z3
     have o5:Out 4 (K4++[⟨.m,0,4,[enc u]⟩]) v (encs (bndO p)):=by obtain ⟨J,hJ,rfl⟩:=hE4;exact (o3.app _).app _
     have hcnt:=cntT_ev (varsT u) 89 [.ptr 0 0 0 0] (fun x=>!hasT (bndO p) x) (K4++[⟨.m,0,4,[enc u]⟩]) (by omega) (fun x hx=>PredEv.opened fun H' hE=>by
      have hx2:=varsT_bulk hx
      obtain ⟨J,hJ,rfl⟩:=hE
      exact cvalid2_ev (bndO p) v x (by omega) (by omega) (fun t ht=>by have:=hbb t ht;omega) 0 _ ((r5.appV hJ).appV (HV.one (by simp))).closed (by rw [List.getElem?_append_left (lt_of_some z5)];exact z5) (o5.app _))
     rw [enc_x] at hvu hcnt
     (repeat' (first | (refine Rn.go ?_;conv=>whnf) | refine .mk ?_ | refine .tt ?_ | refine .ff ?_ | refine .m2 ?_ | refine .m3 ?_ | refine .mk (fun hc=>?_) fun hc=>?_ | refine .lp fun v H lp=>?_ | fail))
     refine .p hvu ?_
     (repeat' (first | (refine Rn.go ?_;conv=>whnf) | refine .mk ?_ | refine .tt ?_ | refine .ff ?_ | refine .m2 ?_ | refine .m3 ?_ | refine .mk (fun hc=>?_) fun hc=>?_ | refine .lp fun v H lp=>?_ | fail))
     refine .ex hcnt (fun h' hE5=>?_)
     cases hany:(varsT u).any fun x=>!hasT (bndO p) x
     ·have hall:((varsT u).all fun x=>hasT (bndO p) x)=true:=by
       rw [List.any_eq_false] at hany
       rw [List.all_eq_true]
       intro x hx
       simpa using hany x hx
      (repeat' (first | (refine Rn.go ?_;conv=>whnf) | refine .mk ?_ | refine .tt ?_ | refine .ff ?_ | refine .m2 ?_ | refine .m3 ?_ | refine .mk (fun hc=>?_) fun hc=>?_ | refine .lp fun v H lp=>?_ | fail))
      exact .nx ⟨rfl,(hE4.app (HV.one (by simp))).trans hE5,fun w hw=>by rcases List.mem_append.1 hw with h | h;exact hp4 w h;simp at h;rw [h];exact hall⟩
     ·have hbn:bnd (bndO p) d.kn=false:=by
       unfold bnd
       rw [List.all_eq_false]
       refine ⟨u,by rw [e4];simp,?_⟩
       obtain ⟨x,hx,hx2⟩:=List.any_eq_true.1 hany
       rw [List.all_eq_true]
       intro h
       have:=h x hx
       simp [this] at hx2
      (repeat' (first | (refine Rn.go ?_;conv=>whnf) | refine .mk ?_ | refine .tt ?_ | refine .ff ?_ | refine .m2 ?_ | refine .m3 ?_ | refine .mk (fun hc=>?_) fun hc=>?_ | refine .lp fun v H lp=>?_ | fail))
      exact ⟨_,rfl,by rw [hs,if_pos hbn];rfl⟩
    ·rintro _ K4 ρ ⟨rfl,hE4,hp4⟩
     have hbn:bnd (bndO p) d.kn=true:=by
      unfold bnd
      rw [List.all_eq_true]
      exact hp4
     rw [hbn,if_neg (by simp)] at hs
     have b6:=hE4.at b3
     have z6:=hE4.at z3
     have r6:HR K4:=by obtain ⟨J,hJ,rfl⟩:=hE4;exact r3.appV hJ
     have o6:Out 4 K4 v (encs (bndO p)):=by obtain ⟨J,hJ,rfl⟩:=hE4;exact o3.app _
     have hrt:rightC d.tm=0:=hp2 d.tm (by simp)
     have hbt:=right_bulk hrt
     have hvt:=vars_fun d.tm (by omega)
     have hvl:=varsT_len d.tm
     rw [enc_x] at hvt
     have o7:=o6
     have k6:=lt_of_some z6
     have hlv:=encs_len (varsT d.tm)
     have hlb:=encs_len (bndO p)
     rcases o7 with ⟨rfl,e7⟩ | ⟨id7,ep7,rfl,e7⟩
     all_goals
      (repeat' (first | (refine Rn.go ?_;conv=>whnf) | refine .mk ?_ | refine .tt ?_ | refine .ff ?_ | refine .m2 ?_ | refine .m3 ?_ | refine .mk (fun hc=>?_) fun hc=>?_ | refine .lp fun v H lp=>?_ | fail))
      refine .p hvt ?_
      (repeat' (first | (refine Rn.go ?_;conv=>whnf) | refine .mk ?_ | refine .tt ?_ | refine .ff ?_ | refine .m2 ?_ | refine .m3 ?_ | refine .mk (fun hc=>?_) fun hc=>?_ | refine .lp fun v H lp=>?_ | fail))
      refine .lr (fun v' h' lr=>?_) o6
      have f0:h'[0]?=K4[0]?:=lr.fr 0 k6 (fun ep n hh=>by have:=hv 0 (by rw [hh];simp [vid]);omega)
      rw [z6] at f0
      have lo:=lr.out
      have lh:=lr.hr
      have kh:=lt_of_some f0
      have hw:∀ i∈vid v',1≤i:=fun i hi=>by
       rcases lr.vid i hi with h | h
       ·exact hv i h
       ·omega
      have hwr:=lo.visR
      rw [← encs_app,← bndO_snoc] at lo
      rcases lo with ⟨rfl,e8⟩ | ⟨id8,ep8,rfl,e8⟩
      all_goals
       (repeat' (first | (refine Rn.go ?_;conv=>whnf) | refine .mk ?_ | refine .tt ?_ | refine .ff ?_ | refine .m2 ?_ | refine .m3 ?_ | refine .mk (fun hc=>?_) fun hc=>?_ | refine .lp fun v H lp=>?_ | fail))
       refine .nx ⟨_,rfl,lh.set _ (by simp) (by simpa [visRs,visR] using hwr),List.getElem?_set_self kh,?_,hw,by rw [prevO_snoc,bndO_snoc];exact hs,fun w hw=>by rcases List.mem_append.1 hw with h | h;exact hp w h;simp at h;rw [h];exact hrt⟩
       first
        | exact .inl ⟨rfl,e8⟩
        | exact .inr ⟨id8,ep8,rfl,(List.getElem?_set_ne (by have:=hw id8 (by simp [vid]);omega)).trans e8⟩
   ·obtain ⟨p',e0,hpe⟩:∃ p' e0,p=p'++[e0]:=by
     rcases List.eq_nil_or_concat p with h | ⟨a,b,h⟩
     ·exact absurd h hp0
     ·exact ⟨a,b,by rw [h];simp⟩
    have hat0:=at_encDs (l:=l) (p:=p') (d:=e0) (q:=d::q) (by rw [e,hpe];simp)
    have hp1:p.length=p'.length+1:=by rw [hpe];simp
    have hpr:prevO p=some e0.kn:=by rw [hpe,prevO_snoc]
    obtain ⟨hkl0,hbd0⟩:=hb e0 (by rw [e,hpe];simp)
    have hcnt:=cntT_ev e0.kn 87 [.ptr H.length 0 0 0] (fun u=>!hasT d.kn u) K (by omega) (fun x hx=>PredEv.opened fun H' hE=>by
     obtain ⟨J,hJ,rfl⟩:=hE
     exact cvalid1_ev d x (by have:=hbd0 x (by simp [hx]);omega) (by omega) (fun t ht=>by have:=hbd t (by simp [ht]);omega) H.length _ ((rK.appV hJ).appV (HV.one (by simp))).closed (by rw [List.getElem?_append_left (lt_of_some bK)];exact bK))
    (repeat' (first | (refine Rn.go ?_;conv=>whnf) | refine .mk ?_ | refine .tt ?_ | refine .ff ?_ | refine .m2 ?_ | refine .m3 ?_ | refine .mk (fun hc=>?_) fun hc=>?_ | refine .lp fun v H lp=>?_ | fail))
    refine .mk (n:=p'.length) ?_ (by omega) hat0 rfl
    (repeat' (first | (refine Rn.go ?_;conv=>whnf) | refine .mk ?_ | refine .tt ?_ | refine .ff ?_ | refine .m2 ?_ | refine .m3 ?_ | refine .mk (fun hc=>?_) fun hc=>?_ | refine .lp fun v H lp=>?_ | fail))
    refine .ex hcnt (fun K3 hE3=>?_)
    cases hany:e0.kn.any fun u=>!hasT d.kn u
    ·have hkp:kept (prevO p) d.kn=true:=by
      rw [hpr]
      show (e0.kn.all fun t=>hasT d.kn t)=true
      rw [List.any_eq_false] at hany
      rw [List.all_eq_true]
      intro x hx
      simpa using hany x hx
     rw [hkp,if_neg (by simp)] at hs
     have b3:=hE3.at bK
     have z3:=hE3.at zK
     have r3:HR K3:=by obtain ⟨J,hJ,rfl⟩:=hE3;exact rK.appV hJ
     have o3:Out 4 K3 v (encs (bndO p)):=by obtain ⟨J,hJ,rfl⟩:=hE3;exact oK.app _
     (repeat' (first | (refine Rn.go ?_;conv=>whnf) | refine .mk ?_ | refine .tt ?_ | refine .ff ?_ | refine .m2 ?_ | refine .m3 ?_ | refine .mk (fun hc=>?_) fun hc=>?_ | refine .lp fun v H lp=>?_ | fail))
     have ekn:=encs_len d.kn
     refine LpX.zip T6 d.kn (fun p4 q4 L K4=>L=[(0,.snap false (encDs l)),(3,.ptr 0 0 0 0),(5,.ptr H.length 0 0 0),(14,.snap false (encDs l)),(15,.int .i64 (encDs l).length),(16,.int .i64 p.length),(51,.snap false (encs d.kn)),(52,.int .i64 (encs d.kn).length),(53,.int .i64 p4.length)]∧Exd K3 K4∧∀ u∈p4,((varsT u).all fun x=>hasT (bndO p) x)=true) (.nx ⟨rfl,Exd.refl _,by simp⟩) ?_ ?_
     ·rintro p4 u q4 _ K4 ρ e4 ⟨rfl,hE4,hp4⟩
      have hat4:=at_encs e4
      have hl4:=congrArg List.length e4
      simp only [List.length_append,List.length_cons] at hl4
      have hru:rightC u=0:=hp2 u (by rw [e4];simp)
      have hbu:=right_bulk hru
      have hvu:=vars_fun u (by omega)
      have hvl:=varsT_len u
      have r5:HR (K4++[⟨.m,0,4,[enc u]⟩]):=by obtain ⟨J,hJ,rfl⟩:=hE4;exact (r3.appV hJ).appV (HV.one (by simp))
      have z5:(K4++[⟨.m,0,4,[enc u]⟩])[0]?=some ⟨.m,0,1,[v]⟩:=by rw [List.getElem?_append_left (lt_of_some (hE4.at z3))];exact hE4.at z3
      have o5:Out 4 (K4++[⟨.m,0,4,[enc u]⟩]) v (encs (bndO p)):=by obtain ⟨J,hJ,rfl⟩:=hE4;exact (o3.app _).app _
      have hcnt:=cntT_ev (varsT u) 89 [.ptr 0 0 0 0] (fun x=>!hasT (bndO p) x) (K4++[⟨.m,0,4,[enc u]⟩]) (by omega) (fun x hx=>PredEv.opened fun H' hE=>by
       have hx2:=varsT_bulk hx
       obtain ⟨J,hJ,rfl⟩:=hE
       exact cvalid2_ev (bndO p) v x (by omega) (by omega) (fun t ht=>by have:=hbb t ht;omega) 0 _ ((r5.appV hJ).appV (HV.one (by simp))).closed (by rw [List.getElem?_append_left (lt_of_some z5)];exact z5) (o5.app _))
      rw [enc_x] at hvu hcnt
      (repeat' (first | (refine Rn.go ?_;conv=>whnf) | refine .mk ?_ | refine .tt ?_ | refine .ff ?_ | refine .m2 ?_ | refine .m3 ?_ | refine .mk (fun hc=>?_) fun hc=>?_ | refine .lp fun v H lp=>?_ | fail))
      refine .p hvu ?_
      (repeat' (first | (refine Rn.go ?_;conv=>whnf) | refine .mk ?_ | refine .tt ?_ | refine .ff ?_ | refine .m2 ?_ | refine .m3 ?_ | refine .mk (fun hc=>?_) fun hc=>?_ | refine .lp fun v H lp=>?_ | fail))
      refine .ex hcnt (fun h' hE5=>?_)
      cases hany:(varsT u).any fun x=>!hasT (bndO p) x
      ·have hall:((varsT u).all fun x=>hasT (bndO p) x)=true:=by
        rw [List.any_eq_false] at hany
        rw [List.all_eq_true]
        intro x hx
        simpa using hany x hx
       (repeat' (first | (refine Rn.go ?_;conv=>whnf) | refine .mk ?_ | refine .tt ?_ | refine .ff ?_ | refine .m2 ?_ | refine .m3 ?_ | refine .mk (fun hc=>?_) fun hc=>?_ | refine .lp fun v H lp=>?_ | fail))
       exact .nx ⟨rfl,(hE4.app (HV.one (by simp))).trans hE5,fun w hw=>by rcases List.mem_append.1 hw with h | h;exact hp4 w h;simp at h;rw [h];exact hall⟩
      ·have hbn:bnd (bndO p) d.kn=false:=by
        unfold bnd
        rw [List.all_eq_false]
        refine ⟨u,by rw [e4];simp,?_⟩
        obtain ⟨x,hx,hx2⟩:=List.any_eq_true.1 hany
        rw [List.all_eq_true]
        intro h
        have:=h x hx
        simp [this] at hx2
       (repeat' (first | (refine Rn.go ?_;conv=>whnf) | refine .mk ?_ | refine .tt ?_ | refine .ff ?_ | refine .m2 ?_ | refine .m3 ?_ | refine .mk (fun hc=>?_) fun hc=>?_ | refine .lp fun v H lp=>?_ | fail))
       exact ⟨_,rfl,by rw [hs,if_pos hbn];rfl⟩
     ·rintro _ K4 ρ ⟨rfl,hE4,hp4⟩
      have hbn:bnd (bndO p) d.kn=true:=by
       unfold bnd
       rw [List.all_eq_true]
       exact hp4
      rw [hbn,if_neg (by simp)] at hs
      have b6:=hE4.at b3
      have z6:=hE4.at z3
      have r6:HR K4:=by obtain ⟨J,hJ,rfl⟩:=hE4;exact r3.appV hJ
      have o6:Out 4 K4 v (encs (bndO p)):=by obtain ⟨J,hJ,rfl⟩:=hE4;exact o3.app _
      have hrt:rightC d.tm=0:=hp2 d.tm (by simp)
      have hbt:=right_bulk hrt
      have hvt:=vars_fun d.tm (by omega)
      have hvl:=varsT_len d.tm
      rw [enc_x] at hvt
      have o7:=o6
      have k6:=lt_of_some z6
      have hlv:=encs_len (varsT d.tm)
      have hlb:=encs_len (bndO p)
      rcases o7 with ⟨rfl,e7⟩ | ⟨id7,ep7,rfl,e7⟩
      all_goals
       (repeat' (first | (refine Rn.go ?_;conv=>whnf) | refine .mk ?_ | refine .tt ?_ | refine .ff ?_ | refine .m2 ?_ | refine .m3 ?_ | refine .mk (fun hc=>?_) fun hc=>?_ | refine .lp fun v H lp=>?_ | fail))
       refine .p hvt ?_
       (repeat' (first | (refine Rn.go ?_;conv=>whnf) | refine .mk ?_ | refine .tt ?_ | refine .ff ?_ | refine .m2 ?_ | refine .m3 ?_ | refine .mk (fun hc=>?_) fun hc=>?_ | refine .lp fun v H lp=>?_ | fail))
       refine .lr (fun v' h' lr=>?_) o6
       have f0:h'[0]?=K4[0]?:=lr.fr 0 k6 (fun ep n hh=>by have:=hv 0 (by rw [hh];simp [vid]);omega)
       rw [z6] at f0
       have lo:=lr.out
       have lh:=lr.hr
       have kh:=lt_of_some f0
       have hw:∀ i∈vid v',1≤i:=fun i hi=>by
        rcases lr.vid i hi with h | h
        ·exact hv i h
        ·omega
       have hwr:=lo.visR
       rw [← encs_app,← bndO_snoc] at lo
       rcases lo with ⟨rfl,e8⟩ | ⟨id8,ep8,rfl,e8⟩
       all_goals
        (repeat' (first | (refine Rn.go ?_;conv=>whnf) | refine .mk ?_ | refine .tt ?_ | refine .ff ?_ | refine .m2 ?_ | refine .m3 ?_ | refine .mk (fun hc=>?_) fun hc=>?_ | refine .lp fun v H lp=>?_ | fail))
        refine .nx ⟨_,rfl,lh.set _ (by simp) (by simpa [visRs,visR] using hwr),List.getElem?_set_self kh,?_,hw,by rw [prevO_snoc,bndO_snoc];exact hs,fun w hw=>by rcases List.mem_append.1 hw with h | h;exact hp w h;simp at h;rw [h];exact hrt⟩
        first
         | exact .inl ⟨rfl,e8⟩
         | exact .inr ⟨id8,ep8,rfl,(List.getElem?_set_ne (by have:=hw id8 (by simp [vid]);omega)).trans e8⟩
    ·have hkp:kept (prevO p) d.kn=false:=by
      rw [hpr]
      show (e0.kn.all fun t=>hasT d.kn t)=false
      obtain ⟨x,hx,hx2⟩:=List.any_eq_true.1 hany
      rw [List.all_eq_false]
      exact ⟨x,hx,by simpa using hx2⟩
     (repeat' (first | (refine Rn.go ?_;conv=>whnf) | refine .mk ?_ | refine .tt ?_ | refine .ff ?_ | refine .m2 ?_ | refine .m3 ?_ | refine .mk (fun hc=>?_) fun hc=>?_ | refine .lp fun v H lp=>?_ | fail))
     exact ⟨_,rfl,by rw [hs,if_pos hkp];rfl⟩
 ·rintro _ H ρ ⟨v,rfl,hH,h0,ho,hv,hs,hp⟩
  (repeat' (first | (refine Rn.go ?_;conv=>whnf) | refine .mk ?_ | refine .tt ?_ | refine .ff ?_ | refine .m2 ?_ | refine .m3 ?_ | refine .mk (fun hc=>?_) fun hc=>?_ | refine .lp fun v H lp=>?_ | fail))
  exact ⟨_,rfl,by rw [hs,sysGo];rfl⟩
end Go.Pm.Nine
end
section
set_option maxRecDepth 4000
namespace Go.Pm.Nine
open Go.Proofs
attribute [local irreducible] thenQ blockQ loopQ bodyQ Ev EvOps CallEv FnEv EvD encSys
theorem sfits_fun (x t:Tm) (hx:bulk x<100000000) (ht:bulk t<100000000):Fun C 99 [enc x,enc t] (.bool (fitsT x t)):=by
 have h1:=(valid_fun x hx).nine
 have h2:=(valid_fun t ht).nine
 rw [enc_x] at h1 h2 ⊢
 rw [enc_x t]
 refine Fun.x T6 Tryz.func99 rfl ?_
 (repeat' (first | (refine Rn.go ?_;conv=>whnf) | refine .mk ?_ | refine .tt ?_ | refine .ff ?_ | refine .m2 ?_ | refine .m3 ?_ | refine .mk (fun hc=>?_) fun hc=>?_ | refine .lp fun v H lp=>?_ | fail))
 refine .p h1 ?_
 (repeat' (first | (refine Rn.go ?_;conv=>whnf) | refine .mk ?_ | refine .tt ?_ | refine .ff ?_ | refine .m2 ?_ | refine .m3 ?_ | refine .mk (fun hc=>?_) fun hc=>?_ | refine .lp fun v H lp=>?_ | fail))
 ·refine .p h2 ?_
  (repeat' (first | (refine Rn.go ?_;conv=>whnf) | refine .mk ?_ | refine .tt ?_ | refine .ff ?_ | refine .m2 ?_ | refine .m3 ?_ | refine .mk (fun hc=>?_) fun hc=>?_ | refine .lp fun v H lp=>?_ | fail))
  all_goals exact ⟨_,rfl,by simp [tupOf,fitsT, *]⟩
 ·exact ⟨_,rfl,by simp [tupOf,fitsT, *]⟩
theorem sub_at {q:List Bdg} {b:Bdg} {o:Option Tm} (hb:bdE b≠0):subGo o (b::q)=bdE b:=by rw [subGo,if_pos hb]
def prevV (p:List Bdg):Option Tm:=p.getLast?.map Bdg.v
theorem prevV_snoc (p:List Bdg) (d:Bdg):prevV (p++[d])=some d.v:=by simp [prevV]
theorem svalid_fun (s:List Bdg) (hl:s.length<1000000000) (hb:∀ b∈s,bulk b.v<100000000∧bulk b.t<100000000):Fun C 48 [.snap false (encBs s)] (.int .i64 (subV s)):=by
 have hel:=encBs_len s
 refine Fun.x T6 Tryz.func48 rfl ?_
 (repeat' (first | (refine Rn.go ?_;conv=>whnf) | refine .mk ?_ | refine .tt ?_ | refine .ff ?_ | refine .m2 ?_ | refine .m3 ?_ | refine .mk (fun hc=>?_) fun hc=>?_ | refine .lp fun v H lp=>?_ | fail))
 ·exact ⟨_,rfl,by rw [subV,if_pos (by omega)];rfl⟩
 have hsv:subV s=subGo none s:=by rw [subV,if_neg (by omega)]
 refine LpX.zip T6 s (fun p q L H=>L=[(0,.snap false (encBs s)),(10,.snap false (encBs s)),(11,.int .i64 (encBs s).length),(12,.int .i64 p.length)]∧HV H∧subV s=subGo (prevV p) q) (.nx ⟨rfl,HV.nil,hsv⟩) ?_ ?_
 ·rintro p b q _ H ρ e ⟨rfl,hH,hs⟩
  have hat:=at_encBs e
  have hl2:=congrArg List.length e
  simp only [List.length_append,List.length_cons] at hl2
  obtain ⟨hbv,hbt⟩:=hb b (by rw [e];simp)
  have h1:=(valid_fun b.v hbv).nine
  have h2:=(valid_fun b.t hbt).nine
  have h3:=(tcmp_fun b.v b.t (by omega) (by omega)).nine
  have h4:=sfits_fun b.v b.t hbv hbt
  rw [enc_x] at h1 h2 h3 h4
  rw [enc_x b.t] at h3 h4
  have hE:∀ n,bdE b=n→n≠0→subV s=n:=fun n h h'=>by rw [hs,sub_at (q:=q) (by rw [h];exact h'),h]
  have hN:bdE b=0→subV s=if behind (prevV p) b.v=false then 5 else subGo (some b.v) q:=fun h=>by rw [hs,subGo,if_neg (by rw [h];simp)]
  (repeat' (first | (refine Rn.go ?_;conv=>whnf) | refine .mk ?_ | refine .tt ?_ | refine .ff ?_ | refine .m2 ?_ | refine .m3 ?_ | refine .mk (fun hc=>?_) fun hc=>?_ | refine .lp fun v H lp=>?_ | fail))
  refine .p h1 ?_
  (repeat' (first | (refine Rn.go ?_;conv=>whnf) | refine .mk ?_ | refine .tt ?_ | refine .ff ?_ | refine .m2 ?_ | refine .m3 ?_ | refine .mk (fun hc=>?_) fun hc=>?_ | refine .lp fun v H lp=>?_ | fail))
  ·have hv0:valid b.v=0:=by omega
   have hk1:b.v.k=1:=by omega
   refine .p h3 ?_
   (repeat' (first | (refine Rn.go ?_;conv=>whnf) | refine .mk ?_ | refine .tt ?_ | refine .ff ?_ | refine .m2 ?_ | refine .m3 ?_ | refine .mk (fun hc=>?_) fun hc=>?_ | refine .lp fun v H lp=>?_ | fail))
   ·exact ⟨_,rfl,by rw [hE 1 (by rw [bdE,if_neg (by omega),if_pos (.inr (by assumption))]) (by decide)];rfl⟩
   ·have hc0:¬ (b.v.k≠1∨cmpT b.v b.t=0):=by omega
    refine .p h2 ?_
    (repeat' (first | (refine Rn.go ?_;conv=>whnf) | refine .mk ?_ | refine .tt ?_ | refine .ff ?_ | refine .m2 ?_ | refine .m3 ?_ | refine .mk (fun hc=>?_) fun hc=>?_ | refine .lp fun v H lp=>?_ | fail))
    ·have ht0:valid b.t=0:=by omega
     refine .p h4 ?_
     cases hf:fitsT b.v b.t
     ·(repeat' (first | (refine Rn.go ?_;conv=>whnf) | refine .mk ?_ | refine .tt ?_ | refine .ff ?_ | refine .m2 ?_ | refine .m3 ?_ | refine .mk (fun hc=>?_) fun hc=>?_ | refine .lp fun v H lp=>?_ | fail))
      exact ⟨_,rfl,by rw [hE 10 (by rw [bdE,if_neg (by omega),if_neg hc0,if_neg (by omega),if_pos hf]) (by decide)];rfl⟩
     ·have hs1:=hN (by rw [bdE,if_neg (by omega),if_neg hc0,if_neg (by omega),if_neg (by rw [hf];simp)])
      by_cases hp0:p=[]
      ·have hk0:behind (prevV p) b.v=true:=by rw [hp0];rfl
       rw [hk0,if_neg (by simp)] at hs1
       have hp1:p.length=0:=by rw [hp0];rfl
       (repeat' (first | (refine Rn.go ?_;conv=>whnf) | refine .mk ?_ | refine .tt ?_ | refine .ff ?_ | refine .m2 ?_ | refine .m3 ?_ | refine .mk (fun hc=>?_) fun hc=>?_ | refine .lp fun v H lp=>?_ | fail))
       exact .nx ⟨rfl,hH.app (HV.one (by simp)),by rw [prevV_snoc];exact hs1⟩
      ·obtain ⟨p',e0,hpe⟩:∃ p' e0,p=p'++[e0]:=by
        rcases List.eq_nil_or_concat p with h | ⟨a,b,h⟩
        ·exact absurd h hp0
        ·exact ⟨a,b,by rw [h];simp⟩
       have hat0:=at_encBs (l:=s) (p:=p') (b:=e0) (q:=b::q) (by rw [e,hpe];simp)
       have hp1:p.length=p'.length+1:=by rw [hpe];simp
       have hpr:prevV p=some e0.v:=by rw [hpe,prevV_snoc]
       have h5:=(tcmp_fun e0.v b.v (by have:=(hb e0 (by rw [e,hpe];simp)).1;omega) (by omega)).nine
       rw [enc_x,enc_x b.v] at h5
       rw [hpr] at hs1
       (repeat' (first | (refine Rn.go ?_;conv=>whnf) | refine .mk ?_ | refine .tt ?_ | refine .ff ?_ | refine .m2 ?_ | refine .m3 ?_ | refine .mk (fun hc=>?_) fun hc=>?_ | refine .lp fun v H lp=>?_ | fail))
       refine .mk (n:=p'.length) ?_ (by omega) hat0 rfl
       (repeat' (first | (refine Rn.go ?_;conv=>whnf) | refine .mk ?_ | refine .tt ?_ | refine .ff ?_ | refine .m2 ?_ | refine .m3 ?_ | refine .mk (fun hc=>?_) fun hc=>?_ | refine .lp fun v H lp=>?_ | fail))
       refine .p h5 ?_
       (repeat' (first | (refine Rn.go ?_;conv=>whnf) | refine .mk ?_ | refine .tt ?_ | refine .ff ?_ | refine .m2 ?_ | refine .m3 ?_ | refine .mk (fun hc=>?_) fun hc=>?_ | refine .lp fun v H lp=>?_ | fail))
       ·exact ⟨_,rfl,by rw [hs1,if_pos (by simp [behind];omega)];rfl⟩
       ·exact .nx ⟨rfl,hH.app (HV.one (by simp)),by rw [prevV_snoc,hs1,if_neg (by simp [behind];omega)]⟩
    ·exact ⟨_,rfl,by rw [hE (valid b.t) (by rw [bdE,if_neg (by omega),if_neg hc0,if_pos (by omega)]) (by omega)];rfl⟩
  ·exact ⟨_,rfl,by rw [hE 1 (by rw [bdE,if_neg (by omega),if_pos (.inl (by assumption))]) (by decide)];rfl⟩
  ·exact ⟨_,rfl,by rw [hE (valid b.v) (by rw [bdE,if_pos (by omega)]) (by omega)];rfl⟩
 ·rintro _ H ρ ⟨rfl,hH,hs⟩
  (repeat' (first | (refine Rn.go ?_;conv=>whnf) | refine .mk ?_ | refine .tt ?_ | refine .ff ?_ | refine .m2 ?_ | refine .m3 ?_ | refine .mk (fun hc=>?_) fun hc=>?_ | refine .lp fun v H lp=>?_ | fail))
  exact ⟨_,rfl,by rw [hs];rfl⟩
end Go.Pm.Nine
end
section
set_option maxRecDepth 4000
namespace Go.Pm
def SrtB (l:List Bdg):Prop:=l.Pairwise fun p q=>cmpT p.v q.v<0
def lbB (t:Tm):List Bdg→Nat
 | []=>0
 | p::l=>if cmpT p.v t<0 then lbB t l+1 else 0
theorem lbB_le (t:Tm):∀ l:List Bdg,lbB t l≤l.length
 | []=>by simp [lbB]
 | p::l=>by
  have:=lbB_le t l
  rw [lbB]
  split <;> simp <;> omega
theorem lbB_iff (t:Tm):∀ (l:List Bdg),SrtB l→∀ (m:Nat) (p:Bdg),l[m]?=some p→(cmpT p.v t<0↔m<lbB t l)
 | [],_,m,p,h=>by simp at h
 | q::l,s,m,p,h=>by
  obtain ⟨s1,s2⟩:=List.pairwise_cons.1 s
  rw [lbB]
  cases m with
  | zero=>
   simp at h
   subst h
   split
   ·simp;assumption
   ·simp;omega
  | succ m=>
   have h':l[m]?=some p:=by simpa using h
   have ih:=lbB_iff t l s2 m p h'
   have hm:=s1 p (List.mem_of_getElem? h')
   split
   ·rw [ih];omega
   ·rename_i hq
    constructor
    ·intro hp
     exact absurd (cmpT_trans hm hp) hq
    ·intro hh;omega
def fdB (t:Tm) (l:List Bdg):Bool:=match l[lbB t l]? with | some p=>decide (cmpT p.v t=0) | none=>false
theorem getB_none:∀ {s:List Bdg} {x:Tm},(∀ b∈s,cmpT b.v x≠0)→getB s x=x
 | [],_,_=>rfl
 | b::s,x,h=>by
  rw [getB,if_neg (h b (by simp))]
  exact getB_none fun c hc=>h c (by simp [hc])
theorem getB_lb (x:Tm):∀ (s:List Bdg),SrtB s→(∀ b,s[lbB x s]?=some b→cmpT b.v x=0→getB s x=b.t)∧(fdB x s=false→getB s x=x)
 | [],_=>⟨fun b h=>by simp at h,fun _=>rfl⟩
 | c::s,hs=>by
  obtain ⟨s1,s2⟩:=List.pairwise_cons.1 hs
  obtain ⟨ih1,ih2⟩:=getB_lb x s s2
  by_cases hc:cmpT c.v x<0
  ·have hl:lbB x (c::s)=lbB x s+1:=by rw [lbB,if_pos hc]
   have hg:getB (c::s) x=getB s x:=by rw [getB,if_neg (by omega)]
   have hf:fdB x (c::s)=fdB x s:=by unfold fdB;rw [hl];simp
   rw [hl,hg,hf]
   exact ⟨fun b h=>ih1 b (by simpa using h),ih2⟩
  ·have hl:lbB x (c::s)=0:=by rw [lbB,if_neg hc]
   have hf:fdB x (c::s)=decide (cmpT c.v x=0):=by unfold fdB;rw [hl];rfl
   rw [hl,hf]
   refine ⟨fun b h h0=>?_,fun h=>?_⟩
   ·simp at h
    subst h
    rw [getB,if_pos h0]
   ·have h0:cmpT c.v x≠0:=of_decide_eq_false h
    refine getB_none fun b hb=>?_
    rcases List.mem_cons.1 hb with rfl | hb
    ·exact h0
    ·intro h1
     have h2:=s1 b hb
     have h3:=cmpT_zero h1
     subst h3
     exact hc h2
end Go.Pm
namespace Go.Pm.Nine
open Go.Proofs
attribute [local irreducible] thenQ blockQ loopQ bodyQ Ev EvOps CallEv FnEv EvD encSys
theorem retTX {h:AHeap} {k o:Int} {n:ByteArray} {l:List Tm} {x:PV} (hx:rbA h x=some x:=by rfl) (hn:nrm x=x:=by rfl):∃ r1,rb h (tupOf [.agg (List.take (3+1) (List.drop 0 (cells (.agg [.int .i64 k,.str n,.int .i64 o,.snap false (encs l)])))),x])=some r1∧nrm r1=.tup [.agg [.int .i64 k,.str n,.int .i64 o,.snap false (encs l)],x]:=by
 refine ⟨.tup [.agg [.int .i64 k,.str n,.int .i64 o,.snap false (encs l)],x],?_,by simp [nrm,nrms,hn]⟩
 simp only [tupOf,rb,rbAs,hx]
 simp [rbA,rb1s,rb1,cells]
theorem find1_fun (b:Bdg) (t:Tm) (hb:bulk b.v<100000000) (ht:bulk t<100000000):Fun C 257 [encB b,enc t] (.int .i64 (cmpT b.v t)):=by
 have h1:=(tcmp_fun b.v t (by omega) (by omega)).nine
 rw [enc_x,enc_x t] at h1
 rw [encB_x,enc_x]
 refine Fun.x T6 Tryz.func257 rfl ?_
 (repeat' (first | (refine Rn.go ?_;conv=>whnf) | refine .mk ?_ | refine .tt ?_ | refine .ff ?_ | refine .m2 ?_ | refine .m3 ?_ | refine .mk (fun hc=>?_) fun hc=>?_ | refine .lp fun v H lp=>?_ | fail))
 refine .p h1 ?_
 (repeat' (first | (refine Rn.go ?_;conv=>whnf) | refine .mk ?_ | refine .tt ?_ | refine .ff ?_ | refine .m2 ?_ | refine .m3 ?_ | refine .mk (fun hc=>?_) fun hc=>?_ | refine .lp fun v H lp=>?_ | fail))
 exact ⟨_,rfl,rfl⟩
theorem binB_fun (l:List Bdg) (t:Tm) (hs:SrtB l) (hl:l.length<100000000) (hb:∀ b∈l,bulk b.v<100000000) (ht:bulk t<100000000) :
  Fun C 256 [.snap false (encBs l),enc t,.fn 257 []] (.tup [.int .i64 (lbB t l),.bool (fdB t l)]):=by
 have hle:=lbB_le t l
 have hif:=lbB_iff t l hs
 have hfd:fdB t l=match l[lbB t l]? with | some p=>decide (cmpT p.v t=0) | none=>false:=rfl
 have hel:=encBs_len l
 generalize fdB t l=FD at hfd ⊢
 generalize lbB t l=LB at hle hif hfd ⊢
 have elem:∀ m,m<l.length→∃ b,l[m]?=some b∧(encBs l)[m]?=some (.agg [.int .i64 b.v.k,.str b.v.s,.int .i64 b.v.o,.snap false (encs b.v.l),.int .i64 b.t.k,.str b.t.s,.int .i64 b.t.o,.snap false (encs b.t.l)])∧Fun C 257 [encB b,enc t] (.int .i64 (cmpT b.v t)):=fun m hm=>by
  have h1:l[m]?=some l[m]:=List.getElem?_eq_getElem hm
  exact ⟨_,h1,nth_encBs h1,find1_fun _ t (hb _ (List.mem_of_getElem? h1)) ht⟩
 rw [enc_x] at elem ⊢
 refine Fun.x T6 Tryz.func256 rfl ?_
 (repeat' (first | (refine Rn.go ?_;conv=>whnf) | refine .mk ?_ | refine .tt ?_ | refine .ff ?_ | refine .m2 ?_ | refine .m3 ?_ | refine .mk (fun hc=>?_) fun hc=>?_ | refine .lp fun v H lp=>?_ | fail))
 refine LpX.nat T6 (fun k L H=>∃ i j:Nat,L=[(0,.snap false (encBs l)),(2,.fn 257 []),(4,.ptr 0 0 0 0),(8,.int .i64 (encBs l).length),(9,.int .i64 i),(10,.int .i64 j)]∧H=[⟨.m,0,4,[.agg [.int .i64 t.k,.str t.s,.int .i64 t.o,.snap false (encs t.l)]]⟩]∧k=j - i∧i≤LB∧LB≤j∧j≤l.length) l.length (.nx ⟨0,(encBs l).length,rfl,rfl,by omega,by omega,by omega,by omega⟩) ?_
 rintro k _ _ ρ ⟨i,j,rfl,rfl,hk,i1,i2,i3⟩
 by_cases hij:i<j
 ·obtain ⟨m,hmm⟩:∃ m:Nat,((i:Int)+j) / 2=m:=⟨(i+j) / 2,by omega⟩
  obtain ⟨b,h1,hat,hcm⟩:=elem m (by omega)
  have hiff:=hif m _ h1
  rw [encB_x] at hcm
  (repeat' (first | (refine Rn.go ?_;conv=>whnf) | refine .mk ?_ | refine .tt ?_ | refine .ff ?_ | refine .m2 ?_ | refine .m3 ?_ | refine .mk (fun hc=>?_) fun hc=>?_ | refine .lp fun v H lp=>?_ | fail))
  refine .mk (n:=m) ?_ hmm hat
  (repeat' (first | (refine Rn.go ?_;conv=>whnf) | refine .mk ?_ | refine .tt ?_ | refine .ff ?_ | refine .m2 ?_ | refine .m3 ?_ | refine .mk (fun hc=>?_) fun hc=>?_ | refine .lp fun v H lp=>?_ | fail))
  refine .p hcm ?_
  (repeat' (first | (refine Rn.go ?_;conv=>whnf) | refine .mk ?_ | refine .tt ?_ | refine .ff ?_ | refine .m2 ?_ | refine .m3 ?_ | refine .mk (fun hc=>?_) fun hc=>?_ | refine .lp fun v H lp=>?_ | fail))
  ·exact .nx ⟨j - (m+1),by omega,m+1,j,rfl,rfl,rfl,by omega,by omega,by omega⟩
  ·exact .nx ⟨m - i,by omega,i,m,rfl,rfl,rfl,by omega,by omega,by omega⟩
 ·have hi:i=LB:=by omega
  subst hi
  by_cases hil:i<l.length
  ·obtain ⟨b,h1,hat,hcm⟩:=elem i hil
   rw [h1] at hfd
   dsimp only at hfd
   rw [encB_x] at hcm
   (repeat' (first | (refine Rn.go ?_;conv=>whnf) | refine .mk ?_ | refine .tt ?_ | refine .ff ?_ | refine .m2 ?_ | refine .m3 ?_ | refine .mk (fun hc=>?_) fun hc=>?_ | refine .lp fun v H lp=>?_ | fail))
   refine .p hcm ?_
   (repeat' (first | (refine Rn.go ?_;conv=>whnf) | refine .mk ?_ | refine .tt ?_ | refine .ff ?_ | refine .m2 ?_ | refine .m3 ?_ | refine .mk (fun hc=>?_) fun hc=>?_ | refine .lp fun v H lp=>?_ | fail))
   all_goals exact ⟨_,rfl,by rw [hfd];simp [tupOf,nrm,nrms, *]⟩
  ·rw [List.getElem?_eq_none (by omega)] at hfd
   (repeat' (first | (refine Rn.go ?_;conv=>whnf) | refine .mk ?_ | refine .tt ?_ | refine .ff ?_ | refine .m2 ?_ | refine .m3 ?_ | refine .mk (fun hc=>?_) fun hc=>?_ | refine .lp fun v H lp=>?_ | fail))
   exact ⟨_,rfl,by rw [hfd];rfl⟩
theorem sfind_fun (l:List Bdg) (t:Tm) (hs:SrtB l) (hl:l.length<100000000) (hb:∀ b∈l,bulk b.v<100000000) (ht:bulk t<100000000):Fun C 201 [.snap false (encBs l),enc t] (.tup [enc (getB l t),.bool (fdB t l)]):=by
 have h1:=binB_fun l t hs hl hb ht
 obtain ⟨g1,g2⟩:=getB_lb t l hs
 have hfd:fdB t l=match l[lbB t l]? with | some p=>decide (cmpT p.v t=0) | none=>false:=rfl
 have hel:=encBs_len l
 rw [enc_x] at h1
 rw [enc_x t]
 refine Fun.x T6 Tryz.func201 rfl ?_
 (repeat' (first | (refine Rn.go ?_;conv=>whnf) | refine .mk ?_ | refine .tt ?_ | refine .ff ?_ | refine .m2 ?_ | refine .m3 ?_ | refine .mk (fun hc=>?_) fun hc=>?_ | refine .lp fun v H lp=>?_ | fail))
 refine .p h1 ?_
 cases hf:fdB t l
 ·rw [g2 hf,enc_x]
  (repeat' (first | (refine Rn.go ?_;conv=>whnf) | refine .mk ?_ | refine .tt ?_ | refine .ff ?_ | refine .m2 ?_ | refine .m3 ?_ | refine .mk (fun hc=>?_) fun hc=>?_ | refine .lp fun v H lp=>?_ | fail))
  exact retTX
 ·obtain ⟨b,hb1,hb2⟩:∃ b,l[lbB t l]?=some b∧cmpT b.v t=0:=by
   rw [hf] at hfd
   cases hx:l[lbB t l]? with
   | none=>rw [hx] at hfd;cases hfd
   | some b=>rw [hx] at hfd;exact ⟨b,rfl,of_decide_eq_true hfd.symm⟩
  rw [g1 b hb1 hb2,enc_x]
  have hat:=nth_encBs hb1
  have hlt:=lt_of_some hb1
  (repeat' (first | (refine Rn.go ?_;conv=>whnf) | refine .mk ?_ | refine .tt ?_ | refine .ff ?_ | refine .m2 ?_ | refine .m3 ?_ | refine .mk (fun hc=>?_) fun hc=>?_ | refine .lp fun v H lp=>?_ | fail))
  exact retTX
end Go.Pm.Nine
end
section
set_option maxRecDepth 4000
namespace Go.Pm.Nine
open Go.Proofs
attribute [local irreducible] thenQ blockQ loopQ bodyQ Ev EvOps CallEv FnEv EvD encSys
theorem retT0 {h:AHeap} {k o:Int} {n:ByteArray} {l:List Tm}:∃ r1,rb h (tupOf [.agg (List.take (3+1) (List.drop 0 (cells (.agg [.int .i64 k,.str n,.int .i64 o,.snap false (encs l)]))))])=some r1∧nrm r1=.agg [.int .i64 k,.str n,.int .i64 o,.snap false (encs l)]:=by
 refine ⟨.agg [.int .i64 k,.str n,.int .i64 o,.snap false (encs l)],?_,by simp [nrm,nrms]⟩
 simp [tupOf,rb,rbA,rb1s,rb1,cells]
theorem set_mid {A B:List Tm} {x y:Tm} {n:Nat} (h:n=A.length):(A++x::B).set n y=A++y::B:=by
 subst h
 induction A with
 | nil=>rfl
 | cons a A ih=>simpa using ih
theorem clonePrim_encs {l:List Tm} (h0:l≠[]) (hl:l.length<1000000000) (H:AHeap):clonePrim 4 [.snap false (encs l)] H=some (.mref H.length 0 0 l.length,H++[⟨.m,0,4,encs l⟩]):=by
 have hel:=encs_len l
 have h1:(encs l).isEmpty=false:=by cases l with | nil=>exact absurd rfl h0 | cons=>rfl
 simp only [clonePrim,h1,Bool.false_eq_true,if_false]
 rw [if_pos ⟨encs_ok _,by omega⟩,hel]
 rfl
theorem sclone_ev (k s o l) (hl:l.length<100000000) (ih:∀ t∈l,Fun C 202 [enc t] (enc t)):Fun C 202 [enc (.mk k s o l)] (enc (.mk k s o l)):=by
 have hel:=encs_len l
 rw [enc_mk]
 refine Fun.x T6 Tryz.func202 rfl ?_
 by_cases h0:l=[]
 ·subst h0
  (repeat' (first | (refine Rn.go ?_;conv=>whnf) | refine .mk ?_ | refine .tt ?_ | refine .ff ?_ | refine .m2 ?_ | refine .m3 ?_ | refine .mk (fun hc=>?_) fun hc=>?_ | refine .lp fun v H lp=>?_ | fail))
  refine CallEv.primL rfl rfl ?_
  (repeat' (first | (refine Rn.go ?_;conv=>whnf) | refine .mk ?_ | refine .tt ?_ | refine .ff ?_ | refine .m2 ?_ | refine .m3 ?_ | refine .mk (fun hc=>?_) fun hc=>?_ | refine .lp fun v H lp=>?_ | fail))
  have hr0:HR [⟨.m,0,4,[.agg [.int .i64 k,.str s,.int .i64 o,.snap true []]]⟩,⟨.m,0,4,[.agg [.int .i64 0,.str ByteArray.empty,.int .i64 0,.snap true []]]⟩]:=by
   intro x hx
   simp at hx
   rcases hx with rfl | rfl <;> simp [visRs,visR]
  refine LpX.zip T6 ([]:List Tm) (fun p q L K=>L=[(1,.ptr 0 0 0 0),(2,.ptr 1 0 0 0),(10,.snap true []),(11,.int .i64 0),(12,.int .i64 p.length)]∧K=[⟨.m,0,4,[.agg [.int .i64 k,.str s,.int .i64 o,.snap true []]]⟩,⟨.m,0,4,[.agg [.int .i64 0,.str ByteArray.empty,.int .i64 0,.snap true []]]⟩]) (.nx ⟨rfl,rfl⟩) ?_ ?_
  ·rintro p u q _ K ρ e _
   cases p <;> cases e
  ·rintro _ K ρ ⟨rfl,rfl⟩
   (repeat' (first | (refine Rn.go ?_;conv=>whnf) | refine .mk ?_ | refine .tt ?_ | refine .ff ?_ | refine .m2 ?_ | refine .m3 ?_ | refine .mk (fun hc=>?_) fun hc=>?_ | refine .lp fun v H lp=>?_ | fail))
   exact ⟨_,rfl,rfl⟩
 ·(repeat' (first | (refine Rn.go ?_;conv=>whnf) | refine .mk ?_ | refine .tt ?_ | refine .ff ?_ | refine .m2 ?_ | refine .m3 ?_ | refine .mk (fun hc=>?_) fun hc=>?_ | refine .lp fun v H lp=>?_ | fail))
  refine CallEv.primL rfl (clonePrim_encs h0 (by omega) _) ?_
  (repeat' (first | (refine Rn.go ?_;conv=>whnf) | refine .mk ?_ | refine .tt ?_ | refine .ff ?_ | refine .m2 ?_ | refine .m3 ?_ | refine .mk (fun hc=>?_) fun hc=>?_ | refine .lp fun v H lp=>?_ | fail))
  have hr0:HR [⟨.m,0,4,[.agg [.int .i64 k,.str s,.int .i64 o,.mref 2 0 0 l.length]]⟩,⟨.m,0,4,[.agg [.int .i64 0,.str ByteArray.empty,.int .i64 0,.snap true []]]⟩,⟨.m,0,4,encs l⟩]:=by
   intro x hx
   simp at hx
   rcases hx with rfl | rfl | rfl
   ·simp [visRs,visR]
   ·simp [visRs,visR]
   ·exact ⟨by simp,vis_vals _ _ (by simp)⟩
  refine LpX.zip T6 l (fun p q L H=>L=[(1,.ptr 0 0 0 0),(2,.ptr 1 0 0 0),(10,.mref 2 0 0 l.length),(11,.int .i64 l.length),(12,.int .i64 p.length)]∧HR H∧H[0]?=some ⟨.m,0,4,[.agg [.int .i64 k,.str s,.int .i64 o,.mref 2 0 0 l.length]]⟩∧H[1]?=some ⟨.m,0,4,[.agg [.int .i64 0,.str ByteArray.empty,.int .i64 0,.snap true []]]⟩∧H[2]?=some ⟨.m,0,4,encs l⟩) (.nx ⟨rfl,hr0,rfl,rfl,rfl⟩) ?_ ?_
  ·rintro p u q _ H ρ e ⟨rfl,hH,g0,g1,g2⟩
   have hat0:=at_encs e
   have hat:(encs l)[0+p.length]?=some (.agg [.int .i64 u.k,.str u.s,.int .i64 u.o,.snap false (encs u.l)]):=by rw [Nat.zero_add];exact hat0
   have hset:=list_set_self hat
   have hl2:=congrArg List.length e
   simp only [List.length_append,List.length_cons] at hl2
   have hi:=ih u (by rw [e];simp)
   rw [enc_x] at hi
   have hH2:HR (H++[⟨.m,0,4,[.agg [.int .i64 u.k,.str u.s,.int .i64 u.o,.snap false (encs u.l)]]⟩]):=hH.appV (HV.one (by simp))
   (repeat' (first | (refine Rn.go ?_;conv=>whnf) | refine .mk ?_ | refine .tt ?_ | refine .ff ?_ | refine .m2 ?_ | refine .m3 ?_ | refine .mk (fun hc=>?_) fun hc=>?_ | refine .lp fun v H lp=>?_ | fail))
   refine .p hi ?_
   (repeat' (first | (refine Rn.go ?_;conv=>whnf) | refine .mk ?_ | refine .tt ?_ | refine .ff ?_ | refine .m2 ?_ | refine .m3 ?_ | refine .mk (fun hc=>?_) fun hc=>?_ | refine .lp fun v H lp=>?_ | fail))
   rw [hset]
   have k2:=lt_of_some g2
   exact .nx ⟨rfl,hH2.set 2 (by simp) (vis_vals _ _ (by simp)),by rw [List.getElem?_set_ne (by omega),List.getElem?_append_left (by omega)];exact g0,by rw [List.getElem?_set_ne (by omega),List.getElem?_append_left (by omega)];exact g1,List.getElem?_set_self (by simp;omega)⟩
  ·rintro _ H ρ ⟨rfl,hH,g0,g1,g2⟩
   have k1:=lt_of_some g1
   have e2:=List.getElem?_set_self (a:=(⟨.m,0,4,[.agg [.int .i64 k,.str s,.int .i64 o,.mref 2 0 0 l.length]]⟩:AObj)) k1
   (repeat' (first | (refine Rn.go ?_;conv=>whnf) | refine .mk ?_ | refine .tt ?_ | refine .ff ?_ | refine .m2 ?_ | refine .m3 ?_ | refine .mk (fun hc=>?_) fun hc=>?_ | refine .lp fun v H lp=>?_ | fail))
   refine .mk ?_ (resC_n (T:=T6) rfl e2 rfl rfl rfl rfl)
   exact ⟨retT (.inr ⟨2,0,by rw [hel],(List.getElem?_set_ne (by omega)).trans g2⟩) (by simp) (by simp)⟩
theorem sclone_fun (t:Tm) (hb:bulk t<100000000):Fun C 202 [enc t] (enc t):=by
 induction t using Tm.ind with
 | h k s o l ih=>
  have:=len_bulks l
  simp only [bulk] at hb
  exact sclone_ev k s o l (by omega) fun t ht=>ih t ht (by have:=bulk_mem ht;omega)
structure SubOk (s:List Bdg):Prop where
 srt:SrtB s
 len:s.length<100000000
 v:∀ b∈s,bulk b.v<10000000
 t:∀ b∈s,bulk b.t<10000000
theorem SubOk.get {s:List Bdg} (h:SubOk s) {x:Tm} (hx:bulk x<10000000):bulk (getB s x)<10000000:=by
 have:=getB_le (B:=9999999) (x:=x) (s:=s) fun b hb=>by have:=h.t b hb;omega
 omega
theorem sput_ev (S:List Bdg) (hS:SubOk S) (k s o l) (hb:bulk (.mk k s o l)<10000000) (ih:∀ t∈l,Fun C 157 [.snap false (encBs S),enc t] (enc (putT S t))):Fun C 157 [.snap false (encBs S),enc (.mk k s o l)] (enc (putT S (.mk k s o l))):=by
 have hel:=encs_len l
 have hll:=len_bulks l
 have hl:l.length<10000000:=by simp only [bulk] at hb;omega
 have hfi:=sfind_fun S (.mk k s o l) hS.srt hS.len (fun b hb=>by have:=hS.v b hb;omega) (by omega)
 have hcl:=sclone_fun (getB S (.mk k s o l)) (by have:=hS.get hb;omega)
 obtain ⟨g,hg⟩:∃ g,g=getB S (.mk k s o l):=⟨_,rfl⟩
 have hpv:k=1→putT S (.mk k s o l)=g:=fun h=>by rw [putT,if_pos h,hg]
 have hpt:k≠1→putT S (.mk k s o l)=.mk k s o (putTs S l):=fun h=>by rw [putT,if_neg h]
 rw [← hg] at hfi hcl
 rw [enc_x g] at hfi hcl
 rw [enc_mk] at hfi ⊢
 refine Fun.x T6 Tryz.func157 rfl ?_
 by_cases hk:k=1
 ·rw [hpv hk,enc_x]
  (repeat' (first | (refine Rn.go ?_;conv=>whnf) | refine .mk ?_ | refine .tt ?_ | refine .ff ?_ | refine .m2 ?_ | refine .m3 ?_ | refine .mk (fun hc=>?_) fun hc=>?_ | refine .lp fun v H lp=>?_ | fail))
  refine .p hfi ?_
  (repeat' (first | (refine Rn.go ?_;conv=>whnf) | refine .mk ?_ | refine .tt ?_ | refine .ff ?_ | refine .m2 ?_ | refine .m3 ?_ | refine .mk (fun hc=>?_) fun hc=>?_ | refine .lp fun v H lp=>?_ | fail))
  refine .p hcl ?_
  (repeat' (first | (refine Rn.go ?_;conv=>whnf) | refine .mk ?_ | refine .tt ?_ | refine .ff ?_ | refine .m2 ?_ | refine .m3 ?_ | refine .mk (fun hc=>?_) fun hc=>?_ | refine .lp fun v H lp=>?_ | fail))
  exact retT0
 ·rw [hpt hk,enc_mk]
  by_cases h0:l=[]
  ·subst h0
   (repeat' (first | (refine Rn.go ?_;conv=>whnf) | refine .mk ?_ | refine .tt ?_ | refine .ff ?_ | refine .m2 ?_ | refine .m3 ?_ | refine .mk (fun hc=>?_) fun hc=>?_ | refine .lp fun v H lp=>?_ | fail))
   refine CallEv.primL rfl rfl ?_
   (repeat' (first | (refine Rn.go ?_;conv=>whnf) | refine .mk ?_ | refine .tt ?_ | refine .ff ?_ | refine .m2 ?_ | refine .m3 ?_ | refine .mk (fun hc=>?_) fun hc=>?_ | refine .lp fun v H lp=>?_ | fail))
   refine LpX.zip T6 ([]:List Tm) (fun p q L K=>L=[(0,.snap false (encBs S)),(3,.ptr 0 0 0 0),(4,.ptr 1 0 0 0),(25,.snap true []),(26,.int .i64 0),(27,.int .i64 p.length)]∧K=[⟨.m,0,4,[.agg [.int .i64 k,.str s,.int .i64 o,.snap true []]]⟩,⟨.m,0,4,[.agg [.int .i64 0,.str ByteArray.empty,.int .i64 0,.snap true []]]⟩]) (.nx ⟨rfl,rfl⟩) ?_ ?_
   ·rintro p u q _ K ρ e _
    cases p <;> cases e
   ·rintro _ K ρ ⟨rfl,rfl⟩
    (repeat' (first | (refine Rn.go ?_;conv=>whnf) | refine .mk ?_ | refine .tt ?_ | refine .ff ?_ | refine .m2 ?_ | refine .m3 ?_ | refine .mk (fun hc=>?_) fun hc=>?_ | refine .lp fun v H lp=>?_ | fail))
    exact ⟨_,rfl,rfl⟩
  ·(repeat' (first | (refine Rn.go ?_;conv=>whnf) | refine .mk ?_ | refine .tt ?_ | refine .ff ?_ | refine .m2 ?_ | refine .m3 ?_ | refine .mk (fun hc=>?_) fun hc=>?_ | refine .lp fun v H lp=>?_ | fail))
   refine CallEv.primL rfl (clonePrim_encs h0 (by omega) _) ?_
   (repeat' (first | (refine Rn.go ?_;conv=>whnf) | refine .mk ?_ | refine .tt ?_ | refine .ff ?_ | refine .m2 ?_ | refine .m3 ?_ | refine .mk (fun hc=>?_) fun hc=>?_ | refine .lp fun v H lp=>?_ | fail))
   have hr0:HR [⟨.m,0,4,[.agg [.int .i64 k,.str s,.int .i64 o,.mref 2 0 0 l.length]]⟩,⟨.m,0,4,[.agg [.int .i64 0,.str ByteArray.empty,.int .i64 0,.snap true []]]⟩,⟨.m,0,4,encs l⟩]:=by
    intro x hx
    simp at hx
    rcases hx with rfl | rfl | rfl
    ·simp [visRs,visR]
    ·simp [visRs,visR]
    ·exact ⟨by simp,vis_vals _ _ (by simp)⟩
   refine LpX.zip T6 l (fun p q L H=>L=[(0,.snap false (encBs S)),(3,.ptr 0 0 0 0),(4,.ptr 1 0 0 0),(25,.mref 2 0 0 l.length),(26,.int .i64 l.length),(27,.int .i64 p.length)]∧HR H∧H[0]?=some ⟨.m,0,4,[.agg [.int .i64 k,.str s,.int .i64 o,.mref 2 0 0 l.length]]⟩∧H[1]?=some ⟨.m,0,4,[.agg [.int .i64 0,.str ByteArray.empty,.int .i64 0,.snap true []]]⟩∧H[2]?=some ⟨.m,0,4,encs (putTs S p++q)⟩) (.nx ⟨rfl,hr0,rfl,rfl,rfl⟩) ?_ ?_
   ·rintro p u q _ H ρ e ⟨rfl,hH,g0,g1,g2⟩
    have hpl:=putTs_len S p
    have hat:(encs (putTs S p++u::q))[0+p.length]?=some (.agg [.int .i64 u.k,.str u.s,.int .i64 u.o,.snap false (encs u.l)]):=by rw [Nat.zero_add,← hpl];exact at_encs rfl
    have hset:(encs (putTs S p++u::q)).set (0+p.length) (enc (putT S u))=encs (putTs S (p++[u])++q):=by
     rw [set_encs,Nat.zero_add,set_mid hpl.symm,putTs_map,putTs_map,List.map_append]
     simp
    have hl2:=congrArg List.length e
    simp only [List.length_append,List.length_cons] at hl2
    have hel2:(encs (putTs S p++u::q)).length=l.length:=by rw [encs_len];simp;omega
    have hi:=ih u (by rw [e];simp)
    rw [enc_x u,enc_x (putT S u)] at hi
    rw [enc_x (putT S u)] at hset
    have hH2:HR (H++[⟨.m,0,4,[.agg [.int .i64 u.k,.str u.s,.int .i64 u.o,.snap false (encs u.l)]]⟩]):=hH.appV (HV.one (by simp))
    (repeat' (first | (refine Rn.go ?_;conv=>whnf) | refine .mk ?_ | refine .tt ?_ | refine .ff ?_ | refine .m2 ?_ | refine .m3 ?_ | refine .mk (fun hc=>?_) fun hc=>?_ | refine .lp fun v H lp=>?_ | fail))
    refine .p hi ?_
    (repeat' (first | (refine Rn.go ?_;conv=>whnf) | refine .mk ?_ | refine .tt ?_ | refine .ff ?_ | refine .m2 ?_ | refine .m3 ?_ | refine .mk (fun hc=>?_) fun hc=>?_ | refine .lp fun v H lp=>?_ | fail))
    rw [hset]
    have k2:=lt_of_some g2
    exact .nx ⟨rfl,hH2.set 2 (by simp) (vis_vals _ _ (by simp)),by rw [List.getElem?_set_ne (by omega),List.getElem?_append_left (by omega)];exact g0,by rw [List.getElem?_set_ne (by omega),List.getElem?_append_left (by omega)];exact g1,List.getElem?_set_self (by simp;omega)⟩
   ·rintro _ H ρ ⟨rfl,hH,g0,g1,g2⟩
    rw [List.append_nil] at g2
    have hpl:=putTs_len S l
    have k1:=lt_of_some g1
    have e2:=List.getElem?_set_self (a:=(⟨.m,0,4,[.agg [.int .i64 k,.str s,.int .i64 o,.mref 2 0 0 l.length]]⟩:AObj)) k1
    (repeat' (first | (refine Rn.go ?_;conv=>whnf) | refine .mk ?_ | refine .tt ?_ | refine .ff ?_ | refine .m2 ?_ | refine .m3 ?_ | refine .mk (fun hc=>?_) fun hc=>?_ | refine .lp fun v H lp=>?_ | fail))
    refine .mk ?_ (resC_n (T:=T6) rfl e2 rfl rfl rfl rfl)
    exact ⟨retT (.inr ⟨2,0,by rw [encs_len,hpl],(List.getElem?_set_ne (by omega)).trans g2⟩) (by simp) (by simp)⟩
theorem sput_fun (S:List Bdg) (hS:SubOk S) (t:Tm) (hb:bulk t<10000000):Fun C 157 [.snap false (encBs S),enc t] (enc (putT S t)):=by
 induction t using Tm.ind with
 | h k s o l ih=>
  refine sput_ev S hS k s o l hb fun t ht=>ih t ht ?_
  have:=bulk_mem ht
  simp only [bulk] at hb
  omega
end Go.Pm.Nine
end
section
set_option maxRecDepth 4000
namespace Go.Pm
theorem name_pos {s:ByteArray} (h:isName s=true):1≤s.size:=by
 rw [← bsize]
 unfold isName isNameL at h
 cases e:s.toList with
 | nil=>rw [e] at h;simp at h
 | cons c l=>simp
theorem puts_le2 {s:List Bdg} {B:Nat}:∀ {l:List Tm},(∀ t∈l,2 * bulk (putT s t)≤bulk t * B)→2 * bulks (putTs s l)≤bulks l * B
 | [],_=>by simp [putTs,bulks]
 | t::l,h=>by
  have h1:=h t (by simp)
  have h2:=puts_le2 (l:=l) fun u hu=>h u (by simp [hu])
  simp only [putTs,bulks,Nat.add_mul]
  omega
theorem put_bulk2 {s:List Bdg} {B:Nat} (hB:2≤B) (hs:∀ b∈s,bulk b.t≤B) (t:Tm):nodes t=0→2 * bulk (putT s t)≤bulk t * B:=by
 induction t using Tm.ind with
 | h k n o l ih=>
  intro h0
  obtain ⟨q1,q2⟩:=nodes_mk h0
  have hn:=name_pos (node_name q1).1
  have hb2:2≤bulk (.mk k n o l):=by simp only [bulk];omega
  have h1:bulk (.mk k n o l) * 2≤bulk (.mk k n o l) * B:=Nat.mul_le_mul_left _ hB
  have h2:2 * B≤bulk (.mk k n o l) * B:=Nat.mul_le_mul_right _ hb2
  unfold putT
  split
  ·have:=getB_le (x:=.mk k n o l) hs
   omega
  ·have h3:=puts_le2 (s:=s) (B:=B) (l:=l) fun t ht=>ih t ht (nodess_mem q2 t ht)
   simp only [bulk,Nat.add_mul] at h1 ⊢
   have h4:n.size * 2≤n.size * B:=Nat.mul_le_mul_left _ hB
   omega
theorem SubOk.of {s:List Bdg} (h:subV s=0):Nine.SubOk s:=by
 obtain ⟨h1,h2,h3⟩:=subV_zero h
 refine ⟨h3,by omega,fun b hb=>?_,fun b hb=>?_⟩
 ·have:=valid_bulk (bdE_zero (h2 b hb)).1;omega
 ·have:=valid_bulk (bdE_zero (h2 b hb)).2.2.1;omega
theorem sub_put {s:List Bdg} (h:subV s=0) {t:Tm} (ht:valid t=0):bulk (putT s t)≤50000000:=by
 obtain ⟨h1,h2,h3⟩:=subV_zero h
 have h4:=put_bulk2 (s:=s) (B:=10000) (by omega) (fun b hb=>valid_bulk (bdE_zero (h2 b hb)).2.2.1) t (valid_zero.1 ht).1
 have h5:=valid_bulk ht
 have h6:bulk t * 10000≤10000 * 10000:=Nat.mul_le_mul_right _ h5
 omega
end Go.Pm
namespace Go.Pm.Nine
open Go.Proofs
attribute [local irreducible] thenQ blockQ loopQ bodyQ Ev EvOps CallEv FnEv EvD encSys
theorem zeroT_x:enc zeroT=.agg [.int .i64 0,.str ByteArray.empty,.int .i64 0,.snap false (encs [])]:=rfl
theorem sapply_fun (S:List Bdg) (hS:subV S=0) (t:Tm) (hb:bulk t<10000000):Fun C 112 [.snap false (encBs S),enc t] (.tup [enc (applyT S t).1,.int .i64 (applyT S t).2]):=by
 have hok:=SubOk.of hS
 have h1:=(valid_fun t (by omega)).nine
 have h2:=sput_fun S hok t hb
 have h3:valid t=0→Fun C 98 [enc (putT S t)] (.int .i64 (valid (putT S t))):=fun h=>(valid_fun (putT S t) (by have:=sub_put hS h;omega)).nine
 have a1:valid t≠0→applyT S t=(zeroT,valid t):=fun h=>by rw [applyT,if_pos h]
 have a2:valid t=0→valid (putT S t)≠0→applyT S t=(zeroT,valid (putT S t)):=fun h h'=>by rw [applyT,if_neg (by omega),if_pos h']
 have a3:valid t=0→valid (putT S t)=0→applyT S t=(putT S t,0):=fun h h'=>by rw [applyT,if_neg (by omega),if_neg (by omega)]
 generalize applyT S t=A at *
 generalize putT S t=u at *
 rw [enc_x t] at h1 h2 ⊢
 rw [enc_x u] at h2 h3
 refine Fun.x T6 Tryz.func112 rfl ?_
 (repeat' (first | (refine Rn.go ?_;conv=>whnf) | refine .mk ?_ | refine .tt ?_ | refine .ff ?_ | refine .m2 ?_ | refine .m3 ?_ | refine .mk (fun hc=>?_) fun hc=>?_ | refine .lp fun v H lp=>?_ | fail))
 refine .p h1 ?_
 (repeat' (first | (refine Rn.go ?_;conv=>whnf) | refine .mk ?_ | refine .tt ?_ | refine .ff ?_ | refine .m2 ?_ | refine .m3 ?_ | refine .mk (fun hc=>?_) fun hc=>?_ | refine .lp fun v H lp=>?_ | fail))
 ·have hv:valid t=0:=by omega
  refine .p h2 ?_
  (repeat' (first | (refine Rn.go ?_;conv=>whnf) | refine .mk ?_ | refine .tt ?_ | refine .ff ?_ | refine .m2 ?_ | refine .m3 ?_ | refine .mk (fun hc=>?_) fun hc=>?_ | refine .lp fun v H lp=>?_ | fail))
  refine .p (h3 hv) ?_
  (repeat' (first | (refine Rn.go ?_;conv=>whnf) | refine .mk ?_ | refine .tt ?_ | refine .ff ?_ | refine .m2 ?_ | refine .m3 ?_ | refine .mk (fun hc=>?_) fun hc=>?_ | refine .lp fun v H lp=>?_ | fail))
  ·rw [a3 hv (by omega),enc_x]
   exact retTX
  ·rw [a2 hv (by omega),zeroT_x]
   exact ⟨_,rfl,rfl⟩
 ·rw [a1 (by omega),zeroT_x]
  exact ⟨_,rfl,rfl⟩
theorem app_zero {S:List Bdg} {t:Tm} (h:(applyT S t).2=0):applyT S t=(putT S t,0)∧valid t=0∧valid (putT S t)=0:=by
 unfold applyT at h ⊢
 split at h
 ·rename_i h1;exact absurd h h1
 ·rename_i h1
  split at h
  ·rename_i h2;exact absurd h h2
  ·rename_i h2
   rw [if_neg h1,if_neg h2]
   exact ⟨rfl,by omega,by omega⟩
theorem allE_at {S:List Bdg} {l p q:List Tm} {u:Tm} (e:l=p++u::q) (hp:∀ v∈p,(applyT S v).2=0) (hu:(applyT S u).2≠0):allE S l=(applyT S u).2:=by
 subst e
 induction p with
 | nil=>simp only [List.nil_append,allE];rw [if_pos hu]
 | cons v p ih=>
  simp only [List.cons_append,allE]
  rw [if_neg (by rw [hp v (by simp)];simp),ih (fun w hw=>hp w (by simp [hw]))]
theorem allE_none {S:List Bdg}:∀ {l:List Tm},(∀ v∈l,(applyT S v).2=0)→allE S l=0
 | [],_=>rfl
 | v::l,h=>by
  rw [allE,if_neg (by rw [h v (by simp)];simp)]
  exact allE_none fun u hu=>h u (by simp [hu])
theorem svalid0 {S:List Bdg} (hS:subV S=0):Fun C 48 [.snap false (encBs S)] (.int .i64 0):=by
 obtain ⟨h1,h2,h3⟩:=subV_zero hS
 have:=svalid_fun S (by omega) fun b hb=>by
  have h4:=valid_bulk (bdE_zero (h2 b hb)).1
  have h5:=valid_bulk (bdE_zero (h2 b hb)).2.2.1
  exact ⟨by omega,by omega⟩
 rwa [hS] at this
theorem sApply_fun (S:List Bdg) (hS:subV S=0) (t:Tm) (hb:bulk t<10000000):Fun C 57 [.snap false (encBs S),enc t] (.tup [enc (applyT S t).1,.int .i64 (applyT S t).2]):=by
 have h1:=svalid0 hS
 have h2:=sapply_fun S hS t hb
 generalize applyT S t=A at *
 obtain ⟨u,n⟩:=A
 dsimp only at h2 ⊢
 rw [enc_x t,enc_x u] at h2
 rw [enc_x t,enc_x u]
 refine Fun.x T6 Tryz.func57 rfl ?_
 (repeat' (first | (refine Rn.go ?_;conv=>whnf) | refine .mk ?_ | refine .tt ?_ | refine .ff ?_ | refine .m2 ?_ | refine .m3 ?_ | refine .mk (fun hc=>?_) fun hc=>?_ | refine .lp fun v H lp=>?_ | fail))
 refine .p h1 ?_
 (repeat' (first | (refine Rn.go ?_;conv=>whnf) | refine .mk ?_ | refine .tt ?_ | refine .ff ?_ | refine .m2 ?_ | refine .m3 ?_ | refine .mk (fun hc=>?_) fun hc=>?_ | refine .lp fun v H lp=>?_ | fail))
 refine .p h2 ?_
 (repeat' (first | (refine Rn.go ?_;conv=>whnf) | refine .mk ?_ | refine .tt ?_ | refine .ff ?_ | refine .m2 ?_ | refine .m3 ?_ | refine .mk (fun hc=>?_) fun hc=>?_ | refine .lp fun v H lp=>?_ | fail))
 exact retTX
theorem sAll_fun (S:List Bdg) (hS:subV S=0) (l:List Tm) (hl:l.length≤200) (hb:∀ t∈l,bulk t<10000000):Fun C 56 [.snap false (encBs S),.snap false (encs l)] (.tup [.snap false (encs (if allE S l≠0 then [] else putTs S l)),.int .i64 (allE S l)]):=by
 have h1:=svalid0 hS
 have hel:=encs_len l
 refine Fun.x T6 Tryz.func56 rfl ?_
 (repeat' (first | (refine Rn.go ?_;conv=>whnf) | refine .mk ?_ | refine .tt ?_ | refine .ff ?_ | refine .m2 ?_ | refine .m3 ?_ | refine .mk (fun hc=>?_) fun hc=>?_ | refine .lp fun v H lp=>?_ | fail))
 refine .p h1 ?_
 (repeat' (first | (refine Rn.go ?_;conv=>whnf) | refine .mk ?_ | refine .tt ?_ | refine .ff ?_ | refine .m2 ?_ | refine .m3 ?_ | refine .mk (fun hc=>?_) fun hc=>?_ | refine .lp fun v H lp=>?_ | fail))
 refine LpX.zip T6 l (fun p q L H=>∃ v,L=[(0,.snap false (encBs S)),(7,v),(20,.snap false (encs l)),(21,.int .i64 (encs l).length),(22,.int .i64 p.length)]∧HV H∧Out 4 H v (encs (putTs S p))∧∀ u∈p,(applyT S u).2=0) (.nx ⟨_,rfl,HV.nil,.inl ⟨rfl,rfl⟩,by simp⟩) ?_ ?_
 ·rintro p u q _ H ρ e ⟨v,rfl,hH,ho,hp⟩
  have hat:=at_encs e
  have hl2:=congrArg List.length e
  simp only [List.length_append,List.length_cons] at hl2
  have hap:=sapply_fun S hS u (hb u (by rw [e];simp))
  have hpl:=putTs_len S p
  have hle:=encs_len (putTs S p)
  have h0:(applyT S u).2=0→(applyT S u).1=putT S u:=fun h=>by rw [(app_zero h).1]
  have hx:(applyT S u).2≠0→allE S l=(applyT S u).2:=allE_at e hp
  have hsn:putTs S (p++[u])=putTs S p++[putT S u]:=by rw [putTs_map,putTs_map];simp
  have hpn:(applyT S u).2=0→∀ w∈p++[u],(applyT S w).2=0:=fun h w hw=>by
   rcases List.mem_append.1 hw with h1 | h1
   ·exact hp w h1
   ·simp at h1;rw [h1];exact h
  generalize (applyT S u).1=w at *
  generalize (applyT S u).2=n at *
  rw [enc_x u,enc_x w] at hap
  have ho2:=(ho.app [⟨.m,0,4,[.agg [.int .i64 u.k,.str u.s,.int .i64 u.o,.snap false (encs u.l)]]⟩]).app [⟨.m,0,4,[.agg [.int .i64 w.k,.str w.s,.int .i64 w.o,.snap false (encs w.l)]]⟩]
  (repeat' (first | (refine Rn.go ?_;conv=>whnf) | refine .mk ?_ | refine .tt ?_ | refine .ff ?_ | refine .m2 ?_ | refine .m3 ?_ | refine .mk (fun hc=>?_) fun hc=>?_ | refine .lp fun v H lp=>?_ | fail))
  have hH2:HV (H++[⟨.m,0,4,[.agg [.int .i64 u.k,.str u.s,.int .i64 u.o,.snap false (encs u.l)]]⟩]++[⟨.m,0,4,[.agg [.int .i64 w.k,.str w.s,.int .i64 w.o,.snap false (encs w.l)]]⟩]):=(hH.app (HV.one (by simp))).app (HV.one (by simp))
  refine .p hap ?_
  (repeat' (first | (refine Rn.go ?_;conv=>whnf) | refine .mk ?_ | refine .tt ?_ | refine .ff ?_ | refine .m2 ?_ | refine .m3 ?_ | refine .mk (fun hc=>?_) fun hc=>?_ | refine .lp fun v H lp=>?_ | fail))
  ·have hw:=h0 (by omega)
   refine .nx ⟨_,rfl,lp.hv,?_,hpn (by omega)⟩
   have:=lp.out
   have e9:encs (putTs S p)++[.agg [.int .i64 w.k,.str w.s,.int .i64 w.o,.snap false (encs w.l)]]=encs (putTs S p++[w]):=by rw [encs_app,← enc_x];rfl
   rw [hsn,← hw,← e9]
   exact this
  ·have hxx:=hx (by omega)
   exact ⟨_,rfl,by rw [hxx,if_pos (by omega)];rfl⟩
 ·rintro _ H ρ ⟨v,rfl,hH,ho,hp⟩
  have he:=allE_none hp
  rw [he,if_neg (by simp)]
  (repeat' (first | (refine Rn.go ?_;conv=>whnf) | refine .mk ?_ | refine .tt ?_ | refine .ff ?_ | refine .m2 ?_ | refine .m3 ?_ | refine .mk (fun hc=>?_) fun hc=>?_ | refine .lp fun v H lp=>?_ | fail))
  exact Ls.ret2 (.inl ho)
end Go.Pm.Nine
end
section
set_option maxRecDepth 4000
namespace Go.Pm.Nine
open Go.Proofs
attribute [local irreducible] thenQ blockQ loopQ bodyQ Ev EvOps CallEv FnEv EvD encSys
theorem demsE_at {S:List Bdg} {l p q:List Dem} {u:Dem} (e:l=p++u::q) (hp:∀ v∈p,demE S v=0) (hu:demE S u≠0):demsE S l=demE S u:=by
 subst e
 induction p with
 | nil=>simp only [List.nil_append,demsE];rw [if_pos hu]
 | cons v p ih=>
  simp only [List.cons_append,demsE]
  rw [if_neg (by rw [hp v (by simp)];simp),ih (fun w hw=>hp w (by simp [hw]))]
theorem demsE_none {S:List Bdg}:∀ {l:List Dem},(∀ v∈l,demE S v=0)→demsE S l=0
 | [],_=>rfl
 | v::l,h=>by
  rw [demsE,if_neg (by rw [h v (by simp)];simp)]
  exact demsE_none fun u hu=>h u (by simp [hu])
theorem allE_zero {S:List Bdg}:∀ {l:List Tm},allE S l=0→∀ t∈l,(applyT S t).2=0
 | [],_,t,h=>by cases h
 | u::l,e,t,h=>by
  rw [allE] at e
  split at e
  ·rename_i hn;exact absurd e hn
  ·rcases List.mem_cons.1 h with rfl | h
   ·omega
   ·exact allE_zero e t h
theorem demE_zero {S:List Bdg} {d:Dem} (h:demE S d=0):allE S d.kn=0∧(applyT S d.tm).2=0∧∀ t∈(demP S d).kn++[(demP S d).tm],bulk t≤10000:=by
 unfold demE at h
 split at h
 ·rename_i h1;exact absurd h h1
 ·rename_i h1
  have h2:allE S d.kn=0:=by omega
  refine ⟨h2,h,fun t ht=>?_⟩
  simp only [demP,List.mem_append,List.mem_singleton,putTs_map,List.mem_map] at ht
  rcases ht with ⟨u,hu,rfl⟩ | rfl
  ·exact valid_bulk (app_zero (allE_zero h2 u hu)).2.2
  ·exact valid_bulk (app_zero h).2.2
theorem encDs_app (a b:List Dem):encDs (a++b)=encDs a++encDs b:=by simp [encDs]
theorem pinst_fun (l:List Dem) (S:List Bdg) (hl:l.length<1000000000) (hb:∀ d∈l,d.kn.length<10000000∧∀ t∈d.kn++[d.tm],bulk t<10000000) (hls:S.length<1000000000) (hbs:∀ b∈S,bulk b.v<100000000∧bulk b.t<100000000) :
  Fun C 25 [.snap false (encDs l),.snap false (encBs S)] (.tup [.snap false (encDs (instL l S)),.int .i64 (instE l S)]):=by
 have h1:=cvalid_fun l hl hb
 have h2:=svalid_fun S hls hbs
 have hel:=encDs_len l
 refine Fun.x T6 Tryz.func25 rfl ?_
 (repeat' (first | (refine Rn.go ?_;conv=>whnf) | refine .mk ?_ | refine .tt ?_ | refine .ff ?_ | refine .m2 ?_ | refine .m3 ?_ | refine .mk (fun hc=>?_) fun hc=>?_ | refine .lp fun v H lp=>?_ | fail))
 refine .p h1 ?_
 (repeat' (first | (refine Rn.go ?_;conv=>whnf) | refine .mk ?_ | refine .tt ?_ | refine .ff ?_ | refine .m2 ?_ | refine .m3 ?_ | refine .mk (fun hc=>?_) fun hc=>?_ | refine .lp fun v H lp=>?_ | fail))
 ·have hl0:sysV l=0:=by omega
  obtain ⟨hln,hlz⟩:=sysV_zero hl0
  refine .p h2 ?_
  (repeat' (first | (refine Rn.go ?_;conv=>whnf) | refine .mk ?_ | refine .tt ?_ | refine .ff ?_ | refine .m2 ?_ | refine .m3 ?_ | refine .mk (fun hc=>?_) fun hc=>?_ | refine .lp fun v H lp=>?_ | fail))
  ·have hS:subV S=0:=by omega
   have hi1:demsE S l≠0→instE l S=demsE S l:=fun h=>by rw [instE,if_neg (by omega),if_neg (by omega),if_pos h]
   have hi2:demsE S l=0→instE l S=sysV (l.map (demP S)):=fun h=>by rw [instE,if_neg (by omega),if_neg (by omega),if_neg (by omega)]
   refine LpX.zip T6 l (fun p q L H=>∃ v,L=[(1,.snap false (encBs S)),(8,v),(25,.snap false (encDs l)),(26,.int .i64 (encDs l).length),(27,.int .i64 p.length)]∧HV H∧Out 5 H v (encDs (p.map (demP S)))∧∀ u∈p,demE S u=0) (.nx ⟨_,rfl,HV.nil,.inl ⟨rfl,rfl⟩,by simp⟩) ?_ ?_
   ·rintro p u q _ H ρ e ⟨v,rfl,hH,ho,hp⟩
    have hat:=at_encDs e
    have hl2:=congrArg List.length e
    simp only [List.length_append,List.length_cons] at hl2
    obtain ⟨hz1,hz2⟩:=hlz u (by rw [e];simp)
    have hal:=sAll_fun S hS u.kn (by omega) (fun t ht=>by have:=right_bulk (hz2 t (by simp [ht]));omega)
    have hap:=sApply_fun S hS u.tm (by have:=right_bulk (hz2 u.tm (by simp));omega)
    have hdm:demE S u=if allE S u.kn≠0 then allE S u.kn else (applyT S u.tm).2:=rfl
    have hx:demE S u≠0→demsE S l=demE S u:=demsE_at e hp
    have hbad:∀ n,demE S u=n→n≠0→instE l S=n∧instL l S=[]:=fun n h h'=>by
     have h3:=hx (by rw [h];exact h')
     have h4:=hi1 (by rw [h3,h];exact h')
     rw [h3,h] at h4
     exact ⟨h4,by rw [instL,if_pos (by rw [h4];exact h')]⟩
    rw [enc_x u.tm] at hap
    rw [enc_x (applyT S u.tm).1] at hap
    have ho2:=ho.app [⟨.m,0,5,[.agg [.snap false (encs u.kn),.int .i64 u.tm.k,.str u.tm.s,.int .i64 u.tm.o,.snap false (encs u.tm.l)]]⟩]
    have hlm:=encDs_len (p.map (demP S))
    rw [List.length_map] at hlm
    obtain ⟨w,hw⟩:∃ w,w=(applyT S u.tm).1:=⟨_,rfl⟩
    have hw2:(applyT S u.tm).2=0→w=putT S u.tm:=fun h=>by rw [hw,(app_zero h).1]
    rw [← hw] at hap
    have ho3:=ho2.app [⟨.m,0,4,[.agg [.int .i64 w.k,.str w.s,.int .i64 w.o,.snap false (encs w.l)]]⟩]
    have hH3:HV (H++[⟨.m,0,5,[.agg [.snap false (encs u.kn),.int .i64 u.tm.k,.str u.tm.s,.int .i64 u.tm.o,.snap false (encs u.tm.l)]]⟩]++[⟨.m,0,4,[.agg [.int .i64 w.k,.str w.s,.int .i64 w.o,.snap false (encs w.l)]]⟩]):=(hH.app (HV.one (by simp))).app (HV.one (by simp))
    (repeat' (first | (refine Rn.go ?_;conv=>whnf) | refine .mk ?_ | refine .tt ?_ | refine .ff ?_ | refine .m2 ?_ | refine .m3 ?_ | refine .mk (fun hc=>?_) fun hc=>?_ | refine .lp fun v H lp=>?_ | fail))
    refine .p hal ?_
    (repeat' (first | (refine Rn.go ?_;conv=>whnf) | refine .mk ?_ | refine .tt ?_ | refine .ff ?_ | refine .m2 ?_ | refine .m3 ?_ | refine .mk (fun hc=>?_) fun hc=>?_ | refine .lp fun v H lp=>?_ | fail))
    ·have ha0:allE S u.kn=0:=by omega
     rw [if_neg (by omega)]
     refine .p hap ?_
     (repeat' (first | (refine Rn.go ?_;conv=>whnf) | refine .mk ?_ | refine .tt ?_ | refine .ff ?_ | refine .m2 ?_ | refine .m3 ?_ | refine .mk (fun hc=>?_) fun hc=>?_ | refine .lp fun v H lp=>?_ | fail))
     ·have hd0:demE S u=0:=by rw [hdm,if_neg (by omega)];omega
      have hww:=hw2 (by omega)
      refine .nx ⟨_,rfl,lp.hv,?_,fun x hx=>by rcases List.mem_append.1 hx with h | h;exact hp x h;simp at h;rw [h];exact hd0⟩
      have:=lp.out
      have e9:encDs (p.map (demP S))++[.agg [.snap false (encs (putTs S u.kn)),.int .i64 w.k,.str w.s,.int .i64 w.o,.snap false (encs w.l)]]=encDs ((p++[u]).map (demP S)):=by rw [List.map_append,encDs_app,hww];rfl
      rw [← e9]
      exact this
     ·obtain ⟨q1,q2⟩:=hbad (applyT S u.tm).2 (by rw [hdm,if_neg (by omega)]) (by omega)
      exact ⟨_,rfl,by rw [q1,q2];rfl⟩
    ·obtain ⟨q1,q2⟩:=hbad (allE S u.kn) (by rw [hdm,if_pos (by omega)]) (by omega)
     exact ⟨_,rfl,by rw [q1,q2];rfl⟩
   ·rintro _ H ρ ⟨v,rfl,hH,ho,hp⟩
    have hi3:=hi2 (demsE_none hp)
    have hcv:=cvalid_fun (l.map (demP S)) (by simp;omega) (fun d hd=>by
     obtain ⟨u,hu,rfl⟩:=List.mem_map.1 hd
     refine ⟨?_,fun t ht=>by have:=(demE_zero (hp u hu)).2.2 t ht;omega⟩
     simp only [demP,putTs_len]
     have:=(hlz u hu).1
     omega)
    (repeat' (first | (refine Rn.go ?_;conv=>whnf) | refine .mk ?_ | refine .tt ?_ | refine .ff ?_ | refine .m2 ?_ | refine .m3 ?_ | refine .mk (fun hc=>?_) fun hc=>?_ | refine .lp fun v H lp=>?_ | fail))
    refine .plS (.inl ho) hcv ?_
    (repeat' (first | (refine Rn.go ?_;conv=>whnf) | refine .mk ?_ | refine .tt ?_ | refine .ff ?_ | refine .m2 ?_ | refine .m3 ?_ | refine .mk (fun hc=>?_) fun hc=>?_ | refine .lp fun v H lp=>?_ | fail))
    ·have hz:instE l S=0:=by omega
     have hL:instL l S=l.map (demP S):=by rw [instL,if_neg (by omega)]
     rw [hz,hL]
     exact Ls.ret2 (.inl ho)
    ·have hz:instL l S=[]:=by rw [instL,if_pos (by omega)]
     exact ⟨_,rfl,by rw [hz,hi3];rfl⟩
  ·have hi:instE l S=subV S:=by rw [instE,if_neg (by omega),if_pos (by omega)]
   exact ⟨_,rfl,by rw [instL,if_pos (by omega),hi];rfl⟩
 ·have hi:instE l S=sysV l:=by rw [instE,if_pos (by omega)]
  exact ⟨_,rfl,by rw [instL,if_pos (by omega),hi];rfl⟩
end Go.Pm.Nine
end
section
set_option maxRecDepth 4000
namespace Go.Pm.Nine
open Go.Proofs
attribute [local irreducible] thenQ blockQ loopQ bodyQ Ev EvOps CallEv FnEv EvD encSys
theorem accs_snoc (p a:List Tm) (u:Tm):accs (p++[u]) a=addT u (accs p a):=by simp [accs]
theorem rset_fun (l:List Tm) (hl:l.length<1000000) (hb:∀ t∈l,bulk t<100000000):Fun C 70 [.snap false (encs l)] (.snap false (encs (setT l))):=by
 have hel:=encs_len l
 refine Fun.x T6 Tryz.func70 rfl ?_
 (repeat' (first | (refine Rn.go ?_;conv=>whnf) | refine .mk ?_ | refine .tt ?_ | refine .ff ?_ | refine .m2 ?_ | refine .m3 ?_ | refine .mk (fun hc=>?_) fun hc=>?_ | refine .lp fun v H lp=>?_ | fail))
 refine LpX.zip T6 l (fun p q L H=>∃ f,L=[(0,.snap false (encs l)),(3,.snap f (encs (accs p []))),(4,.int .i64 p.length)]∧H=[]) (.nx ⟨true,rfl,rfl⟩) ?_ ?_
 ·rintro p u q _ _ ρ e ⟨f,rfl,rfl⟩
  have hat:=at_encs e
  have hl2:=congrArg List.length e
  simp only [List.length_append,List.length_cons] at hl2
  have h1:=accs_len p []
  simp only [List.length_nil] at h1
  have had:=(addT_fun u (accs p []) (by have:=hb u (by rw [e];simp);omega) (fun x hx=>by
   rcases accs_mem hx with h | h
   ·have:=hb x (by rw [e];simp [h]);omega
   ·cases h) (by omega)).nine
  rw [enc_x] at had
  (repeat' (first | (refine Rn.go ?_;conv=>whnf) | refine .mk ?_ | refine .tt ?_ | refine .ff ?_ | refine .m2 ?_ | refine .m3 ?_ | refine .mk (fun hc=>?_) fun hc=>?_ | refine .lp fun v H lp=>?_ | fail))
  refine .p had ?_
  (repeat' (first | (refine Rn.go ?_;conv=>whnf) | refine .mk ?_ | refine .tt ?_ | refine .ff ?_ | refine .m2 ?_ | refine .m3 ?_ | refine .mk (fun hc=>?_) fun hc=>?_ | refine .lp fun v H lp=>?_ | fail))
  exact .nx ⟨_,by rw [accs_snoc],rfl⟩
 ·rintro _ _ ρ ⟨f,rfl,rfl⟩
  (repeat' (first | (refine Rn.go ?_;conv=>whnf) | refine .mk ?_ | refine .tt ?_ | refine .ff ?_ | refine .m2 ?_ | refine .m3 ?_ | refine .mk (fun hc=>?_) fun hc=>?_ | refine .lp fun v H lp=>?_ | fail))
  exact ⟨_,rfl,by simp [tupOf,nrm,setT]⟩
theorem rkind_fun (t:Tm) (n:Int) (hb:bulk t<1000000):Fun C 124 [enc t,.int .i64 n] (.snap false (encs (kindT n t))):=by
 have h1:=rall_fun t (by omega)
 have hpl:=pre_len t
 have hel:=encs_len (pre t)
 have hse:=rset_fun (ofK n (pre t)) (by have:=ofK_len n (pre t);omega) (fun u hu=>by have:=pre_bulk t u (List.mem_filter.1 hu).1;omega)
 rw [enc_x] at h1 ⊢
 refine Fun.x T6 Tryz.func124 rfl ?_
 (repeat' (first | (refine Rn.go ?_;conv=>whnf) | refine .mk ?_ | refine .tt ?_ | refine .ff ?_ | refine .m2 ?_ | refine .m3 ?_ | refine .mk (fun hc=>?_) fun hc=>?_ | refine .lp fun v H lp=>?_ | fail))
 refine .p h1 ?_
 (repeat' (first | (refine Rn.go ?_;conv=>whnf) | refine .mk ?_ | refine .tt ?_ | refine .ff ?_ | refine .m2 ?_ | refine .m3 ?_ | refine .mk (fun hc=>?_) fun hc=>?_ | refine .lp fun v H lp=>?_ | fail))
 refine LpX.zip T6 (pre t) (fun p q L H=>∃ v,L=[(1,.int .i64 n),(5,v),(6,.snap false (encs (pre t))),(7,.int .i64 p.length)]∧HV H∧Out 4 H v (encs (ofK n p))) (.nx ⟨_,rfl,HV.one (by simp),.inl ⟨rfl,rfl⟩⟩) ?_ ?_
 ·rintro p u q _ H ρ e ⟨v,rfl,hH,ho⟩
  have hat:=at_encs e
  have hl2:=congrArg List.length e
  simp only [List.length_append,List.length_cons] at hl2
  have hol:=ofK_len n p
  have hle:=encs_len (ofK n p)
  have e9:encs (ofK n p)++[.agg [.int .i64 u.k,.str u.s,.int .i64 u.o,.snap false (encs u.l)]]=encs (ofK n p++[u]):=by rw [encs_app,← enc_x];rfl
  have hsn:=ofK_app n p [u]
  rw [ofK_cons] at hsn
  (repeat' (first | (refine Rn.go ?_;conv=>whnf) | refine .mk ?_ | refine .tt ?_ | refine .ff ?_ | refine .m2 ?_ | refine .m3 ?_ | refine .mk (fun hc=>?_) fun hc=>?_ | refine .lp fun v H lp=>?_ | fail))
  ·rw [if_pos (by assumption)] at hsn
   refine .nx ⟨_,rfl,lp.hv,?_⟩
   have:=lp.out
   rw [e9] at this
   rw [hsn]
   exact this
  ·rw [if_neg (by assumption)] at hsn
   refine .nx ⟨_,rfl,hH,?_⟩
   rw [hsn]
   simpa [ofK] using ho
 ·rintro _ H ρ ⟨v,rfl,hH,ho⟩
  (repeat' (first | (refine Rn.go ?_;conv=>whnf) | refine .mk ?_ | refine .tt ?_ | refine .ff ?_ | refine .m2 ?_ | refine .m3 ?_ | refine .mk (fun hc=>?_) fun hc=>?_ | refine .lp fun v H lp=>?_ | fail))
  refine .pl (.inl ho) hse (fun h' fz=>?_)
  (repeat' (first | (refine Rn.go ?_;conv=>whnf) | refine .mk ?_ | refine .tt ?_ | refine .ff ?_ | refine .m2 ?_ | refine .m3 ?_ | refine .mk (fun hc=>?_) fun hc=>?_ | refine .lp fun v H lp=>?_ | fail))
  exact ⟨_,rfl,by simp [tupOf,nrm,kindT,ofK]⟩
theorem rvars_fun (t:Tm) (hb:bulk t<1000000):Fun C 67 [enc t] (.snap false (encs (varsT t))):=by
 have h1:=rkind_fun t 1 hb
 rw [enc_x] at h1 ⊢
 refine Fun.x T6 Tryz.func67 rfl ?_
 (repeat' (first | (refine Rn.go ?_;conv=>whnf) | refine .mk ?_ | refine .tt ?_ | refine .ff ?_ | refine .m2 ?_ | refine .m3 ?_ | refine .mk (fun hc=>?_) fun hc=>?_ | refine .lp fun v H lp=>?_ | fail))
 refine .p h1 ?_
 (repeat' (first | (refine Rn.go ?_;conv=>whnf) | refine .mk ?_ | refine .tt ?_ | refine .ff ?_ | refine .m2 ?_ | refine .m3 ?_ | refine .mk (fun hc=>?_) fun hc=>?_ | refine .lp fun v H lp=>?_ | fail))
 exact ⟨_,rfl,by simp [tupOf,varsT]⟩
theorem rhas_fun (l:List Tm) (t:Tm) (ht:bulk t<1000000000) (hl:l.length<1000000000) (hb:∀ u∈l,bulk u<1000000000):Fun C 91 [.snap false (encs l),enc t] (.bool (hasT l t)):=by
 have hel:=encs_len l
 rw [enc_x]
 refine Fun.x T6 Tryz.func91 rfl ?_
 (repeat' (first | (refine Rn.go ?_;conv=>whnf) | refine .mk ?_ | refine .tt ?_ | refine .ff ?_ | refine .m2 ?_ | refine .m3 ?_ | refine .mk (fun hc=>?_) fun hc=>?_ | refine .lp fun v H lp=>?_ | fail))
 refine LpX.zip T6 l (fun p q L H=>L=[(0,.snap false (encs l)),(3,.ptr 0 0 0 0),(5,.int .i64 p.length)]∧H=[⟨.m,0,4,[.agg [.int .i64 t.k,.str t.s,.int .i64 t.o,.snap false (encs t.l)]]⟩]∧∀ u∈p,cmpT u t≠0) (.nx ⟨rfl,rfl,by simp⟩) ?_ ?_
 ·rintro p u q _ _ ρ e ⟨rfl,rfl,hp⟩
  have hat:=at_encs e
  have hl2:=congrArg List.length e
  simp only [List.length_append,List.length_cons] at hl2
  have hsa:=(rsame_fun u t (hb u (by rw [e];simp)) ht).nine
  rw [enc_x,enc_x t] at hsa
  (repeat' (first | (refine Rn.go ?_;conv=>whnf) | refine .mk ?_ | refine .tt ?_ | refine .ff ?_ | refine .m2 ?_ | refine .m3 ?_ | refine .mk (fun hc=>?_) fun hc=>?_ | refine .lp fun v H lp=>?_ | fail))
  refine .p hsa ?_
  by_cases hc:cmpT u t=0
  ·rw [decide_eq_true hc]
   (repeat' (first | (refine Rn.go ?_;conv=>whnf) | refine .mk ?_ | refine .tt ?_ | refine .ff ?_ | refine .m2 ?_ | refine .m3 ?_ | refine .mk (fun hc=>?_) fun hc=>?_ | refine .lp fun v H lp=>?_ | fail))
   have hh:hasT l t=true:=hasT_iff.2 (by rw [← cmpT_zero hc,e];simp)
   exact ⟨_,rfl,by rw [hh];rfl⟩
  ·rw [decide_eq_false hc]
   (repeat' (first | (refine Rn.go ?_;conv=>whnf) | refine .mk ?_ | refine .tt ?_ | refine .ff ?_ | refine .m2 ?_ | refine .m3 ?_ | refine .mk (fun hc=>?_) fun hc=>?_ | refine .lp fun v H lp=>?_ | fail))
   exact .nx ⟨rfl,rfl,fun w hw=>by rcases List.mem_append.1 hw with h | h;exact hp w h;simp at h;rw [h];exact hc⟩
 ·rintro _ _ ρ ⟨rfl,rfl,hp⟩
  (repeat' (first | (refine Rn.go ?_;conv=>whnf) | refine .mk ?_ | refine .tt ?_ | refine .ff ?_ | refine .m2 ?_ | refine .m3 ?_ | refine .mk (fun hc=>?_) fun hc=>?_ | refine .lp fun v H lp=>?_ | fail))
  have hh:hasT l t=false:=by
   cases hx:hasT l t with
   | false=>rfl
   | true=>exact absurd (cmpT_self t) (hp t (hasT_iff.1 hx))
  exact ⟨_,rfl,by rw [hh];rfl⟩
end Go.Pm.Nine
end
