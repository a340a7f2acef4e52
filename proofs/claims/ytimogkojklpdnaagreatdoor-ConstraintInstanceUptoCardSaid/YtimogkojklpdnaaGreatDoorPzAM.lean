/-
  A part of the library Pm and its contracts (joined by program): PmVk PmVl PmVm PmVn PmVo PmVp PmCm PmVq PmLawI0 PmLawI. Conditions: none.
-/
import Derived.Test.YtimogkojklpdnaaGreatDoorPzAL
import Derived.Test.YtimogkojklpdnaaGreatDoorPzAK
import Derived.Test.YtimogkojklpdnaaGreatDoorPzAG
import Derived.Test.YtimogkojklpdnaaGreatDoorPzAI
set_option linter.unusedVariables false
set_option linter.unusedSimpArgs false
section
set_option maxRecDepth 4000
namespace Go.Pm.Nine
open Go.Proofs
attribute [local irreducible] thenQ blockQ loopQ bodyQ Ev EvOps CallEv FnEv EvD encSys
theorem rvarsOf_fun (l:List Tm) (hl:(l.flatMap varsT).length<1000000) (hll:l.length<1000000) (hb:∀ t∈l,bulk t<1000000):Fun C 21 [.snap false (encs l)] (.snap false (encs (setT (l.flatMap varsT)))):=by
 have hel:=encs_len l
 have hse:=rset_fun (l.flatMap varsT) hl (fun u hu=>by
  obtain ⟨t,ht,hu⟩:=List.mem_flatMap.1 hu
  have:=varsT_bulk hu
  have:=hb t ht
  omega)
 refine Fun.x T6 Tryz.func21 rfl ?_
 (repeat' (first | (refine Rn.go ?_;conv=>whnf) | refine .mk ?_ | refine .tt ?_ | refine .ff ?_ | refine .m2 ?_ | refine .m3 ?_ | refine .mk (fun hc=>?_) fun hc=>?_ | refine .lp fun v H lp=>?_ | fail))
 refine LpX.zip T6 l (fun p q L H=>∃ v,L=[(0,.snap false (encs l)),(3,v),(4,.int .i64 p.length)]∧HV H∧Out 4 H v (encs (p.flatMap varsT))) (.nx ⟨_,rfl,HV.nil,.inl ⟨rfl,rfl⟩⟩) ?_ ?_
 ·rintro p u q _ H ρ e ⟨v,rfl,hH,ho⟩
  have hat:=at_encs e
  have hl2:=congrArg List.length e
  simp only [List.length_append,List.length_cons] at hl2
  have hva:=rvars_fun u (hb u (by rw [e];simp))
  have hsn:(p++[u]).flatMap varsT=p.flatMap varsT++varsT u:=by simp
  have hsl:(p.flatMap varsT).length+(varsT u).length≤(l.flatMap varsT).length:=by rw [e];simp
  have hle:=encs_len (p.flatMap varsT)
  have hlu:=encs_len (varsT u)
  rw [enc_x] at hva
  (repeat' (first | (refine Rn.go ?_;conv=>whnf) | refine .mk ?_ | refine .tt ?_ | refine .ff ?_ | refine .m2 ?_ | refine .m3 ?_ | refine .mk (fun hc=>?_) fun hc=>?_ | refine .lp fun v H lp=>?_ | fail))
  refine .p hva ?_
  (repeat' (first | (refine Rn.go ?_;conv=>whnf) | refine .mk ?_ | refine .tt ?_ | refine .ff ?_ | refine .m2 ?_ | refine .m3 ?_ | refine .mk (fun hc=>?_) fun hc=>?_ | refine .lp fun v H lp=>?_ | fail))
  refine .nx ⟨_,rfl,lp.hv,?_⟩
  have:=lp.out
  rw [hsn,encs_app]
  exact this
 ·rintro _ H ρ ⟨v,rfl,hH,ho⟩
  (repeat' (first | (refine Rn.go ?_;conv=>whnf) | refine .mk ?_ | refine .tt ?_ | refine .ff ?_ | refine .m2 ?_ | refine .m3 ?_ | refine .mk (fun hc=>?_) fun hc=>?_ | refine .lp fun v H lp=>?_ | fail))
  refine .pl (.inl ho) hse (fun h' fz=>?_)
  (repeat' (first | (refine Rn.go ?_;conv=>whnf) | refine .mk ?_ | refine .tt ?_ | refine .ff ?_ | refine .m2 ?_ | refine .m3 ?_ | refine .mk (fun hc=>?_) fun hc=>?_ | refine .lp fun v H lp=>?_ | fail))
  exact ⟨_,rfl,by simp [tupOf,nrm]⟩
theorem rlists_fun (a b:List Tm) (hla:a.length<1000000000) (hlb:b.length<1000000000) (ha:∀ t∈a,bulk t<1000000000) (hb:∀ t∈b,bulk t<1000000000) (he:a=b):Fun C 77 [.snap false (encs a),.snap false (encs b)] (.bool true):=by
 subst he
 have hel:=encs_len a
 refine Fun.x T6 Tryz.func77 rfl ?_
 (repeat' (first | (refine Rn.go ?_;conv=>whnf) | refine .mk ?_ | refine .tt ?_ | refine .ff ?_ | refine .m2 ?_ | refine .m3 ?_ | refine .mk (fun hc=>?_) fun hc=>?_ | refine .lp fun v H lp=>?_ | fail))
 refine LpX.zip T6 a (fun p q L H=>L=[(0,.snap false (encs a)),(1,.snap false (encs a)),(5,.int .i64 p.length)]∧H=[]) (.nx ⟨rfl,rfl⟩) ?_ ?_
 ·rintro p u q _ _ ρ e ⟨rfl,rfl⟩
  have hat:=at_encs e
  have hl2:=congrArg List.length e
  simp only [List.length_append,List.length_cons] at hl2
  have hu:=ha u (by rw [e];simp)
  have hsa:=(rsame_fun u u hu hu).nine
  rw [enc_x,decide_eq_true (cmpT_self u)] at hsa
  (repeat' (first | (refine Rn.go ?_;conv=>whnf) | refine .mk ?_ | refine .tt ?_ | refine .ff ?_ | refine .m2 ?_ | refine .m3 ?_ | refine .mk (fun hc=>?_) fun hc=>?_ | refine .lp fun v H lp=>?_ | fail))
  refine .p hsa ?_
  (repeat' (first | (refine Rn.go ?_;conv=>whnf) | refine .mk ?_ | refine .tt ?_ | refine .ff ?_ | refine .m2 ?_ | refine .m3 ?_ | refine .mk (fun hc=>?_) fun hc=>?_ | refine .lp fun v H lp=>?_ | fail))
  exact .nx ⟨rfl,rfl⟩
 ·rintro _ _ ρ ⟨rfl,rfl⟩
  (repeat' (first | (refine Rn.go ?_;conv=>whnf) | refine .mk ?_ | refine .tt ?_ | refine .ff ?_ | refine .m2 ?_ | refine .m3 ?_ | refine .mk (fun hc=>?_) fun hc=>?_ | refine .lp fun v H lp=>?_ | fail))
  exact ⟨_,rfl,rfl⟩
theorem rright_fun (t:Tm) (hb:bulk t<10000000):Fun C 144 [enc t] (.int .i64 (rightC t)):=by
 have h1:=rthv_fun t (by omega)
 have h2:=rfree9_fun t (by omega)
 have hva:thv t=0→valid t=0:=fun h=>by
  unfold thv at h
  split at h
  ·rename_i hn;exact absurd h hn
  ·omega
 have h3:thv t=0→Fun C 67 [enc t] (.snap false (encs (varsT t))):=fun h=>rvars_fun t (by have:=valid_bulk (hva h);omega)
 have h4:=(size_fun t (by omega)).nine
 have hvl:=varsT_len t
 have hel:=encs_len (varsT t)
 rw [enc_x] at h1 h2 h3 h4 ⊢
 refine Fun.x T6 Tryz.func144 rfl ?_
 (repeat' (first | (refine Rn.go ?_;conv=>whnf) | refine .mk ?_ | refine .tt ?_ | refine .ff ?_ | refine .m2 ?_ | refine .m3 ?_ | refine .mk (fun hc=>?_) fun hc=>?_ | refine .lp fun v H lp=>?_ | fail))
 refine .p h1 ?_
 (repeat' (first | (refine Rn.go ?_;conv=>whnf) | refine .mk ?_ | refine .tt ?_ | refine .ff ?_ | refine .m2 ?_ | refine .m3 ?_ | refine .mk (fun hc=>?_) fun hc=>?_ | refine .lp fun v H lp=>?_ | fail))
 ·have hth:thv t=0:=by omega
  have h3:=h3 hth
  have hrc:rightC t=if freeT t=false∨(varsT t).any agT=true then 10 else if 60<size t then 3 else 0:=by rw [rightC,if_neg (by omega)]
  refine .p h3 ?_
  (repeat' (first | (refine Rn.go ?_;conv=>whnf) | refine .mk ?_ | refine .tt ?_ | refine .ff ?_ | refine .m2 ?_ | refine .m3 ?_ | refine .mk (fun hc=>?_) fun hc=>?_ | refine .lp fun v H lp=>?_ | fail))
  refine LpX.zip T6 (varsT t) (fun p q L H=>L=[(1,.ptr 0 0 0 0),(4,.snap false (encs (varsT t))),(5,.int .i64 p.length)]∧H=[⟨.m,0,4,[.agg [.int .i64 t.k,.str t.s,.int .i64 t.o,.snap false (encs t.l)]]⟩]∧∀ u∈p,agT u=false) (.nx ⟨rfl,rfl,by simp⟩) ?_ ?_
  ·rintro p u q _ _ ρ e ⟨rfl,rfl,hp⟩
   have hat:=at_encs e
   have hl2:=congrArg List.length e
   simp only [List.length_append,List.length_cons] at hl2
   have hx:agT u=true→rightC t=10:=fun h=>by rw [hrc,if_pos (.inr (List.any_eq_true.2 ⟨u,by rw [e];simp,h⟩))]
   have hn:agT u=false→∀ w∈p++[u],agT w=false:=fun h w hw=>by rcases List.mem_append.1 hw with h1 | h1;exact hp w h1;simp at h1;rw [h1];exact h
   (repeat' (first | (refine Rn.go ?_;conv=>whnf) | refine .mk ?_ | refine .tt ?_ | refine .ff ?_ | refine .m2 ?_ | refine .m3 ?_ | refine .mk (fun hc=>?_) fun hc=>?_ | refine .lp fun v H lp=>?_ | fail))
   ·exact ⟨_,rfl,by rw [hx (by simp [agT, *])];rfl⟩
   ·exact ⟨_,rfl,by rw [hx (by simp [agT, *])];rfl⟩
   ·exact .nx ⟨rfl,rfl,hn (by simp [agT, *])⟩
  ·rintro _ _ ρ ⟨rfl,rfl,hp⟩
   have ha:(varsT t).any agT=false:=by rw [List.any_eq_false];intro u hu;simp [hp u hu]
   (repeat' (first | (refine Rn.go ?_;conv=>whnf) | refine .mk ?_ | refine .tt ?_ | refine .ff ?_ | refine .m2 ?_ | refine .m3 ?_ | refine .mk (fun hc=>?_) fun hc=>?_ | refine .lp fun v H lp=>?_ | fail))
   refine .p h2 ?_
   cases hf:freeT t
   ·(repeat' (first | (refine Rn.go ?_;conv=>whnf) | refine .mk ?_ | refine .tt ?_ | refine .ff ?_ | refine .m2 ?_ | refine .m3 ?_ | refine .mk (fun hc=>?_) fun hc=>?_ | refine .lp fun v H lp=>?_ | fail))
    exact ⟨_,rfl,by rw [hrc,if_pos (.inl hf)];rfl⟩
   ·rw [hf,ha,if_neg (by simp)] at hrc
    (repeat' (first | (refine Rn.go ?_;conv=>whnf) | refine .mk ?_ | refine .tt ?_ | refine .ff ?_ | refine .m2 ?_ | refine .m3 ?_ | refine .mk (fun hc=>?_) fun hc=>?_ | refine .lp fun v H lp=>?_ | fail))
    refine .p h4 ?_
    (repeat' (first | (refine Rn.go ?_;conv=>whnf) | refine .mk ?_ | refine .tt ?_ | refine .ff ?_ | refine .m2 ?_ | refine .m3 ?_ | refine .mk (fun hc=>?_) fun hc=>?_ | refine .lp fun v H lp=>?_ | fail))
    ·exact ⟨_,rfl,by rw [hrc,if_pos (by omega)];rfl⟩
    ·exact ⟨_,rfl,by rw [hrc,if_neg (by omega)];rfl⟩
 ·exact ⟨_,rfl,by rw [rightC,if_pos (by assumption)];rfl⟩
theorem rights_snoc {l:List Tm} {t:Tm} (h:∀ u∈l,rightC u=0):rightCs (l++[t])=rightC t:=by
 induction l with
 | nil=>
  show (if rightC t≠0 then rightC t else 0)=rightC t
  split
  ·rfl
  ·omega
 | cons v l ih=>
  show (if rightC v≠0 then rightC v else rightCs (l++[t]))=_
  rw [if_neg (by rw [h v (by simp)];simp)]
  exact ih fun u hu=>h u (by simp [hu])
def oneC (d:Dem):Int:=if 40<d.kn.length then 3 else rightCs (d.kn++[d.tm])
theorem rone_fun (d:Dem) (hl:d.kn.length<1000000000) (hb:∀ t∈d.kn++[d.tm],bulk t<10000000):Fun C 90 [encD d] (.int .i64 (Nine.oneC d)):=by
 have hel:=encs_len d.kn
 have hrt:=rright_fun d.tm (hb d.tm (by simp))
 rw [enc_x] at hrt
 rw [encD_x]
 refine Fun.x T6 Tryz.func90 rfl ?_
 (repeat' (first | (refine Rn.go ?_;conv=>whnf) | refine .mk ?_ | refine .tt ?_ | refine .ff ?_ | refine .m2 ?_ | refine .m3 ?_ | refine .mk (fun hc=>?_) fun hc=>?_ | refine .lp fun v H lp=>?_ | fail))
 ·exact ⟨_,rfl,by rw [Nine.oneC,if_pos (by omega)];rfl⟩
 have ho:Nine.oneC d=rightCs (d.kn++[d.tm]):=by rw [Nine.oneC,if_neg (by omega)]
 refine LpX.zip T6 d.kn (fun p q L H=>L=[(1,.ptr 0 0 0 0),(3,.int .i64 p.length)]∧H=[⟨.m,0,5,[.agg [.snap false (encs d.kn),.int .i64 d.tm.k,.str d.tm.s,.int .i64 d.tm.o,.snap false (encs d.tm.l)]]⟩]∧∀ u∈p,rightC u=0) (.nx ⟨rfl,rfl,by simp⟩) ?_ ?_
 ·rintro p u q _ _ ρ e ⟨rfl,rfl,hp⟩
  have hat:=at_encs e
  have hl2:=congrArg List.length e
  simp only [List.length_append,List.length_cons] at hl2
  have hru:=rright_fun u (hb u (by rw [e];simp))
  have hx:=rights_at (l:=d.kn++[d.tm]) (p:=p) (q:=q++[d.tm]) (u:=u) (by rw [e];simp) hp
  rw [enc_x] at hru
  (repeat' (first | (refine Rn.go ?_;conv=>whnf) | refine .mk ?_ | refine .tt ?_ | refine .ff ?_ | refine .m2 ?_ | refine .m3 ?_ | refine .mk (fun hc=>?_) fun hc=>?_ | refine .lp fun v H lp=>?_ | fail))
  refine .p hru ?_
  (repeat' (first | (refine Rn.go ?_;conv=>whnf) | refine .mk ?_ | refine .tt ?_ | refine .ff ?_ | refine .m2 ?_ | refine .m3 ?_ | refine .mk (fun hc=>?_) fun hc=>?_ | refine .lp fun v H lp=>?_ | fail))
  ·exact .nx ⟨rfl,rfl,fun w hw=>by rcases List.mem_append.1 hw with h | h;exact hp w h;simp at h;rw [h];assumption⟩
  ·exact ⟨_,rfl,by rw [ho,hx (by assumption)];rfl⟩
 ·rintro _ _ ρ ⟨rfl,rfl,hp⟩
  (repeat' (first | (refine Rn.go ?_;conv=>whnf) | refine .mk ?_ | refine .tt ?_ | refine .ff ?_ | refine .m2 ?_ | refine .m3 ?_ | refine .mk (fun hc=>?_) fun hc=>?_ | refine .lp fun v H lp=>?_ | fail))
  refine .p hrt ?_
  (repeat' (first | (refine Rn.go ?_;conv=>whnf) | refine .mk ?_ | refine .tt ?_ | refine .ff ?_ | refine .m2 ?_ | refine .m3 ?_ | refine .mk (fun hc=>?_) fun hc=>?_ | refine .lp fun v H lp=>?_ | fail))
  exact ⟨_,rfl,by rw [ho,rights_snoc hp];rfl⟩
end Go.Pm.Nine
end
section
set_option maxRecDepth 4000
namespace Go.Pm.Nine
open Go.Proofs
attribute [local irreducible] thenQ blockQ loopQ bodyQ Ev EvOps CallEv FnEv EvD encSys
theorem fm_len {l:List Tm} (h:∀ t∈l,rightC t=0):(l.flatMap varsT).length≤l.length * 10000:=by
 induction l with
 | nil=>simp
 | cons t l ih=>
  have h1:=ih fun x hx=>h x (by simp [hx])
  have h2:=varsT_len t
  have h3:=right_bulk (h t (by simp))
  simp only [List.flatMap_cons,List.length_append,List.length_cons] at h1 ⊢
  omega
theorem bnd_set (b l:List Tm):bnd b l=(setT (l.flatMap varsT)).all fun x=>hasT b x:=by
 rw [Bool.eq_iff_iff]
 unfold bnd
 simp only [List.all_eq_true,setT_in,List.mem_flatMap]
 exact ⟨fun h x ⟨t,ht,hx⟩=>h t ht x hx,fun h t ht x hx=>h x ⟨t,ht,hx⟩⟩
theorem rVal_fun (l:List Dem) (hl:l.length<1000000000) (hb:∀ d∈l,d.kn.length<10000000∧∀ t∈d.kn++[d.tm],bulk t<10000000):Fun C 31 [.snap false (encDs l)] (.int .i64 (sysV l)):=by
 have hel:=encDs_len l
 refine Fun.x T6 Tryz.func31 rfl ?_
 (repeat' (first | (refine Rn.go ?_;conv=>whnf) | refine .mk ?_ | refine .tt ?_ | refine .ff ?_ | refine .m2 ?_ | refine .m3 ?_ | refine .mk (fun hc=>?_) fun hc=>?_ | refine .lp fun v H lp=>?_ | fail))
 ·exact ⟨_,rfl,by rw [sysV,if_pos (by omega)];rfl⟩
 have hsv:sysV l=sysGo none [] l:=by rw [sysV,if_neg (by omega)]
 refine LpX.zip T6 l (fun p q L H=>∃ v,L=[(0,.snap false (encDs l)),(3,v),(4,.int .i64 p.length)]∧HV H∧Out 4 H v (encs (bndO p))∧sysV l=sysGo (prevO p) (bndO p) q∧∀ d∈p,rightC d.tm=0) (.nx ⟨_,rfl,HV.nil,.inl ⟨rfl,rfl⟩,hsv,by simp⟩) ?_ ?_
 ·rintro p d q _ H ρ e ⟨v,rfl,hH,ho,hs,hp⟩
  have hat:=at_encDs e
  have hl2:=congrArg List.length e
  simp only [List.length_append,List.length_cons] at hl2
  obtain ⟨hkl,hbd⟩:=hb d (by rw [e];simp)
  have hon:=rone_fun d (by omega) hbd
  have hek:=encs_len d.kn
  rw [encD_x] at hon
  have hbad:Nine.oneC d≠0→sysV l=Nine.oneC d:=fun h=>by
   rw [hs,sysGo]
   unfold Nine.oneC at h ⊢
   by_cases h1:40<d.kn.length
   ·rw [if_pos h1,if_pos h1]
   ·rw [if_neg h1] at h ⊢
    rw [if_neg h1,if_pos h]
  have hgood:Nine.oneC d=0→d.kn.length≤40∧(∀ t∈d.kn++[d.tm],rightC t=0)∧sysV l=if kept (prevO p) d.kn=false then 9 else if bnd (bndO p) d.kn=false then 13 else sysGo (some d.kn) (bndO p++varsT d.tm) q:=fun h=>by
   unfold Nine.oneC at h
   split at h
   ·cases h
   ·rename_i h1
    exact ⟨by omega,rights_zero h,by rw [hs,sysGo,if_neg h1,if_neg (by omega)]⟩
  (repeat' (first | (refine Rn.go ?_;conv=>whnf) | refine .mk ?_ | refine .tt ?_ | refine .ff ?_ | refine .m2 ?_ | refine .m3 ?_ | refine .mk (fun hc=>?_) fun hc=>?_ | refine .lp fun v H lp=>?_ | fail))
  refine .p hon ?_
  (repeat' (first | (refine Rn.go ?_;conv=>whnf) | refine .mk ?_ | refine .tt ?_ | refine .ff ?_ | refine .m2 ?_ | refine .m3 ?_ | refine .mk (fun hc=>?_) fun hc=>?_ | refine .lp fun v H lp=>?_ | fail))
  ·obtain ⟨hk40,hrz,hs⟩:=hgood (by omega)
   have hbb:=bndO_bulk hp
   have hbl:=bndO_len hp
   have hpl:p.length<41:=by omega
   have hlb:=encs_len (bndO p)
   have hfl:=fm_len (l:=d.kn) fun t ht=>hrz t (by simp [ht])
   have hvo:=rvarsOf_fun d.kn (by omega) (by omega) (fun t ht=>by have:=right_bulk (hrz t (by simp [ht]));omega)
   have hsl:=setT_len (d.kn.flatMap varsT)
   have hes:=encs_len (setT (d.kn.flatMap varsT))
   have hsb:∀ x∈setT (d.kn.flatMap varsT),bulk x≤10000:=fun x hx=>by
    obtain ⟨t,ht,hx⟩:=List.mem_flatMap.1 ((setT_in _ _).1 hx)
    have:=varsT_bulk hx
    have:=right_bulk (hrz t (by simp [ht]))
    omega
   have hbt:=right_bulk (hrz d.tm (by simp))
   have hvt:=rvars_fun d.tm (by omega)
   have hvl:=varsT_len d.tm
   have hev:=encs_len (varsT d.tm)
   have hbs:=bnd_set (bndO p) d.kn
   rw [enc_x] at hvt
   by_cases hp0:p=[]
   ·have hk0:kept (prevO p) d.kn=true:=by rw [hp0];rfl
    rw [hk0,if_neg (by simp)] at hs
    have hp1:p.length=0:=by rw [hp0];rfl
    refine LpX.zip T6 ([]:List Tm) (fun p2 q2 L K=>L=[(0,.snap false (encDs l)),(3,v),(4,.int .i64 p.length),(6,.int .i64 p2.length)]∧H=K) (.nx ⟨rfl,rfl⟩) ?_ ?_
    ·rintro p2 u q2 _ K ρ e2 _
     cases p2 <;> cases e2
    ·rintro _ _ ρ ⟨rfl,rfl⟩
     (repeat' (first | (refine Rn.go ?_;conv=>whnf) | refine .mk ?_ | refine .tt ?_ | refine .ff ?_ | refine .m2 ?_ | refine .m3 ?_ | refine .mk (fun hc=>?_) fun hc=>?_ | refine .lp fun v H lp=>?_ | fail))
     refine .p hvo ?_
     (repeat' (first | (refine Rn.go ?_;conv=>whnf) | refine .mk ?_ | refine .tt ?_ | refine .ff ?_ | refine .m2 ?_ | refine .m3 ?_ | refine .mk (fun hc=>?_) fun hc=>?_ | refine .lp fun v H lp=>?_ | fail))
     refine LpX.zip T6 (setT (d.kn.flatMap varsT)) (fun p4 q4 L K=>L=[(0,.snap false (encDs l)),(3,v),(4,.int .i64 p.length),(7,.snap false (encs (setT (d.kn.flatMap varsT)))),(8,.int .i64 p4.length)]∧H=K∧∀ x∈p4,hasT (bndO p) x=true) (.nx ⟨rfl,rfl,by simp⟩) ?_ ?_
     ·rintro p4 x q4 _ _ ρ e4 ⟨rfl,rfl,hp4⟩
      have hat4:=at_encs e4
      have hl4:=congrArg List.length e4
      simp only [List.length_append,List.length_cons] at hl4
      have hxb:=hsb x (by rw [e4];simp)
      have hha:=rhas_fun (bndO p) x (by omega) (by omega) (fun t ht=>by have:=hbb t ht;omega)
      rw [enc_x] at hha
      (repeat' (first | (refine Rn.go ?_;conv=>whnf) | refine .mk ?_ | refine .tt ?_ | refine .ff ?_ | refine .m2 ?_ | refine .m3 ?_ | refine .mk (fun hc=>?_) fun hc=>?_ | refine .lp fun v H lp=>?_ | fail))
      refine .plS (.inl ho) hha ?_
      cases hh:hasT (bndO p) x
      ·have hbn:bnd (bndO p) d.kn=false:=by
        rw [hbs,List.all_eq_false]
        exact ⟨x,by rw [e4];simp,by simp [hh]⟩
       (repeat' (first | (refine Rn.go ?_;conv=>whnf) | refine .mk ?_ | refine .tt ?_ | refine .ff ?_ | refine .m2 ?_ | refine .m3 ?_ | refine .mk (fun hc=>?_) fun hc=>?_ | refine .lp fun v H lp=>?_ | fail))
       exact ⟨_,rfl,by rw [hs,if_pos hbn];rfl⟩
      ·(repeat' (first | (refine Rn.go ?_;conv=>whnf) | refine .mk ?_ | refine .tt ?_ | refine .ff ?_ | refine .m2 ?_ | refine .m3 ?_ | refine .mk (fun hc=>?_) fun hc=>?_ | refine .lp fun v H lp=>?_ | fail))
       exact .nx ⟨rfl,rfl,fun w hw=>by rcases List.mem_append.1 hw with h | h;exact hp4 w h;simp at h;rw [h];exact hh⟩
     ·rintro _ _ ρ ⟨rfl,rfl,hp4⟩
      have hbn:bnd (bndO p) d.kn=true:=by
       rw [hbs,List.all_eq_true]
       exact hp4
      rw [hbn,if_neg (by simp)] at hs
      (repeat' (first | (refine Rn.go ?_;conv=>whnf) | refine .mk ?_ | refine .tt ?_ | refine .ff ?_ | refine .m2 ?_ | refine .m3 ?_ | refine .mk (fun hc=>?_) fun hc=>?_ | refine .lp fun v H lp=>?_ | fail))
      refine .p hvt ?_
      (repeat' (first | (refine Rn.go ?_;conv=>whnf) | refine .mk ?_ | refine .tt ?_ | refine .ff ?_ | refine .m2 ?_ | refine .m3 ?_ | refine .mk (fun hc=>?_) fun hc=>?_ | refine .lp fun v H lp=>?_ | fail))
      refine .nx ⟨_,rfl,lp.hv,?_,by rw [prevO_snoc,bndO_snoc];exact hs,fun w hw=>by rcases List.mem_append.1 hw with h | h;exact hp w h;simp at h;rw [h];exact hrz d.tm (by simp)⟩
      have:=lp.out
      rw [bndO_snoc,encs_app]
      exact this
   ·obtain ⟨p',e0,hpe⟩:∃ p' e0,p=p'++[e0]:=by
     rcases List.eq_nil_or_concat p with h | ⟨a,b,h⟩
     ·exact absurd h hp0
     ·exact ⟨a,b,by rw [h];simp⟩
    have hat0:=at_encDs (l:=l) (p:=p') (d:=e0) (q:=d::q) (by rw [e,hpe];simp)
    have hp1:p.length=p'.length+1:=by rw [hpe];simp
    have hpr:prevO p=some e0.kn:=by rw [hpe,prevO_snoc]
    have he0:=hb e0 (by rw [e,hpe];simp)
    have hek0:=encs_len e0.kn
    have hat1:(encDs l)[p.length]?=some (.agg [.snap false (encs d.kn),.int .i64 d.tm.k,.str d.tm.s,.int .i64 d.tm.o,.snap false (encs d.tm.l)]):=hat
    refine LpX.zip T6 e0.kn (fun p2 q2 L K=>L=[(0,.snap false (encDs l)),(3,v),(4,.int .i64 p.length),(6,.int .i64 p2.length)]∧H=K∧∀ t∈p2,hasT d.kn t=true) (.nx ⟨rfl,rfl,by simp⟩) ?_ ?_
    ·rintro p2 u q2 _ _ ρ e2 ⟨rfl,rfl,hp2⟩
     have hat2:=at_encs e2
     have hl3:=congrArg List.length e2
     simp only [List.length_append,List.length_cons] at hl3
     have hha:=rhas_fun d.kn u (by have:=he0.2 u (by rw [e2];simp);omega) (by omega) (fun t ht=>by have:=right_bulk (hrz t (by simp [ht]));omega)
     rw [enc_x] at hha
     (repeat' (first | (refine Rn.go ?_;conv=>whnf) | refine .mk ?_ | refine .tt ?_ | refine .ff ?_ | refine .m2 ?_ | refine .m3 ?_ | refine .mk (fun hc=>?_) fun hc=>?_ | refine .lp fun v H lp=>?_ | fail))
     refine .mk (n:=p'.length) ?_ (by omega) hat0 rfl
     (repeat' (first | (refine Rn.go ?_;conv=>whnf) | refine .mk ?_ | refine .tt ?_ | refine .ff ?_ | refine .m2 ?_ | refine .m3 ?_ | refine .mk (fun hc=>?_) fun hc=>?_ | refine .lp fun v H lp=>?_ | fail))
     refine .mk (n:=p'.length) ?_ (by omega) hat0 rfl
     (repeat' (first | (refine Rn.go ?_;conv=>whnf) | refine .mk ?_ | refine .tt ?_ | refine .ff ?_ | refine .m2 ?_ | refine .m3 ?_ | refine .mk (fun hc=>?_) fun hc=>?_ | refine .lp fun v H lp=>?_ | fail))
     refine .p hha ?_
     cases hh:hasT d.kn u
     ·have hkp:kept (prevO p) d.kn=false:=by
       rw [hpr]
       show (e0.kn.all fun t=>hasT d.kn t)=false
       rw [List.all_eq_false]
       exact ⟨u,by rw [e2];simp,by simp [hh]⟩
      (repeat' (first | (refine Rn.go ?_;conv=>whnf) | refine .mk ?_ | refine .tt ?_ | refine .ff ?_ | refine .m2 ?_ | refine .m3 ?_ | refine .mk (fun hc=>?_) fun hc=>?_ | refine .lp fun v H lp=>?_ | fail))
      exact ⟨_,rfl,by rw [hs,if_pos hkp];rfl⟩
     ·(repeat' (first | (refine Rn.go ?_;conv=>whnf) | refine .mk ?_ | refine .tt ?_ | refine .ff ?_ | refine .m2 ?_ | refine .m3 ?_ | refine .mk (fun hc=>?_) fun hc=>?_ | refine .lp fun v H lp=>?_ | fail))
      exact .nx ⟨rfl,rfl,fun w hw=>by rcases List.mem_append.1 hw with h | h;exact hp2 w h;simp at h;rw [h];exact hh⟩
    ·rintro _ _ ρ ⟨rfl,rfl,hp2⟩
     have hkp:kept (prevO p) d.kn=true:=by
      rw [hpr]
      show (e0.kn.all fun t=>hasT d.kn t)=true
      rw [List.all_eq_true]
      exact hp2
     rw [hkp,if_neg (by simp)] at hs
     (repeat' (first | (refine Rn.go ?_;conv=>whnf) | refine .mk ?_ | refine .tt ?_ | refine .ff ?_ | refine .m2 ?_ | refine .m3 ?_ | refine .mk (fun hc=>?_) fun hc=>?_ | refine .lp fun v H lp=>?_ | fail))
     refine .mk (n:=p'.length) ?_ (by omega) hat0 rfl
     (repeat' (first | (refine Rn.go ?_;conv=>whnf) | refine .mk ?_ | refine .tt ?_ | refine .ff ?_ | refine .m2 ?_ | refine .m3 ?_ | refine .mk (fun hc=>?_) fun hc=>?_ | refine .lp fun v H lp=>?_ | fail))
     refine .p hvo ?_
     (repeat' (first | (refine Rn.go ?_;conv=>whnf) | refine .mk ?_ | refine .tt ?_ | refine .ff ?_ | refine .m2 ?_ | refine .m3 ?_ | refine .mk (fun hc=>?_) fun hc=>?_ | refine .lp fun v H lp=>?_ | fail))
     refine LpX.zip T6 (setT (d.kn.flatMap varsT)) (fun p4 q4 L K=>L=[(0,.snap false (encDs l)),(3,v),(4,.int .i64 p.length),(7,.snap false (encs (setT (d.kn.flatMap varsT)))),(8,.int .i64 p4.length)]∧H=K∧∀ x∈p4,hasT (bndO p) x=true) (.nx ⟨rfl,rfl,by simp⟩) ?_ ?_
     ·rintro p4 x q4 _ _ ρ e4 ⟨rfl,rfl,hp4⟩
      have hat4:=at_encs e4
      have hl4:=congrArg List.length e4
      simp only [List.length_append,List.length_cons] at hl4
      have hxb:=hsb x (by rw [e4];simp)
      have hha:=rhas_fun (bndO p) x (by omega) (by omega) (fun t ht=>by have:=hbb t ht;omega)
      rw [enc_x] at hha
      (repeat' (first | (refine Rn.go ?_;conv=>whnf) | refine .mk ?_ | refine .tt ?_ | refine .ff ?_ | refine .m2 ?_ | refine .m3 ?_ | refine .mk (fun hc=>?_) fun hc=>?_ | refine .lp fun v H lp=>?_ | fail))
      refine .plS (.inl ho) hha ?_
      cases hh:hasT (bndO p) x
      ·have hbn:bnd (bndO p) d.kn=false:=by
        rw [hbs,List.all_eq_false]
        exact ⟨x,by rw [e4];simp,by simp [hh]⟩
       (repeat' (first | (refine Rn.go ?_;conv=>whnf) | refine .mk ?_ | refine .tt ?_ | refine .ff ?_ | refine .m2 ?_ | refine .m3 ?_ | refine .mk (fun hc=>?_) fun hc=>?_ | refine .lp fun v H lp=>?_ | fail))
       exact ⟨_,rfl,by rw [hs,if_pos hbn];rfl⟩
      ·(repeat' (first | (refine Rn.go ?_;conv=>whnf) | refine .mk ?_ | refine .tt ?_ | refine .ff ?_ | refine .m2 ?_ | refine .m3 ?_ | refine .mk (fun hc=>?_) fun hc=>?_ | refine .lp fun v H lp=>?_ | fail))
       exact .nx ⟨rfl,rfl,fun w hw=>by rcases List.mem_append.1 hw with h | h;exact hp4 w h;simp at h;rw [h];exact hh⟩
     ·rintro _ _ ρ ⟨rfl,rfl,hp4⟩
      have hbn:bnd (bndO p) d.kn=true:=by
       rw [hbs,List.all_eq_true]
       exact hp4
      rw [hbn,if_neg (by simp)] at hs
      (repeat' (first | (refine Rn.go ?_;conv=>whnf) | refine .mk ?_ | refine .tt ?_ | refine .ff ?_ | refine .m2 ?_ | refine .m3 ?_ | refine .mk (fun hc=>?_) fun hc=>?_ | refine .lp fun v H lp=>?_ | fail))
      refine .p hvt ?_
      (repeat' (first | (refine Rn.go ?_;conv=>whnf) | refine .mk ?_ | refine .tt ?_ | refine .ff ?_ | refine .m2 ?_ | refine .m3 ?_ | refine .mk (fun hc=>?_) fun hc=>?_ | refine .lp fun v H lp=>?_ | fail))
      refine .nx ⟨_,rfl,lp.hv,?_,by rw [prevO_snoc,bndO_snoc];exact hs,fun w hw=>by rcases List.mem_append.1 hw with h | h;exact hp w h;simp at h;rw [h];exact hrz d.tm (by simp)⟩
      have:=lp.out
      rw [bndO_snoc,encs_app]
      exact this
  ·have hx:=hbad (by assumption)
   exact ⟨_,rfl,by rw [hx];rfl⟩
 ·rintro _ H ρ ⟨v,rfl,hH,ho,hs,hp⟩
  (repeat' (first | (refine Rn.go ?_;conv=>whnf) | refine .mk ?_ | refine .tt ?_ | refine .ff ?_ | refine .m2 ?_ | refine .m3 ?_ | refine .mk (fun hc=>?_) fun hc=>?_ | refine .lp fun v H lp=>?_ | fail))
  exact ⟨_,rfl,by rw [hs,sysGo];rfl⟩
end Go.Pm.Nine
end
section
set_option maxRecDepth 4000
namespace Go.Pm.Nine
open Go.Proofs
attribute [local irreducible] thenQ blockQ loopQ bodyQ Ev EvOps CallEv FnEv EvD encSys
theorem valid_kind {t:Tm} (h:valid t=0):t.k=1∨t.k=2∨t.k=3:=by
 obtain ⟨k,n,o,l⟩:=t
 have h1:=(nodes_mk (valid_zero.1 h).1).1
 simp only [node] at h1
 split at h1
 ·cases h1
 ·show k=1∨k=2∨k=3
  omega
theorem rleaf_fun (t:Tm) (n:Int):Fun C 126 [enc t,.int .i64 n] (.bool (decide ((t.k=1∨t.k=2)∧t.o=n))):=by
 rw [enc_x]
 refine Fun.x T6 Tryz.func126 rfl ?_
 (repeat' (first | (refine Rn.go ?_;conv=>whnf) | refine .mk ?_ | refine .tt ?_ | refine .ff ?_ | refine .m2 ?_ | refine .m3 ?_ | refine .mk (fun hc=>?_) fun hc=>?_ | refine .lp fun v H lp=>?_ | fail))
 all_goals exact ⟨_,rfl,by simp [tupOf, *]⟩
theorem rfits_fun (x t:Tm) (hx:bulk x<100000000) (ht:bulk t<100000000):Fun C 69 [enc x,enc t] (.bool (fitsT x t)):=by
 have h1:=(rvalid_fun x (by omega)).nine
 have h2:=(rvalid_fun t (by omega)).nine
 have h3:=rleaf_fun t x.o
 have hk:=valid_kind (t:=t)
 rw [enc_x] at h1 h2 h3 ⊢
 rw [enc_x t]
 refine Fun.x T6 Tryz.func69 rfl ?_
 (repeat' (first | (refine Rn.go ?_;conv=>whnf) | refine .mk ?_ | refine .tt ?_ | refine .ff ?_ | refine .m2 ?_ | refine .m3 ?_ | refine .mk (fun hc=>?_) fun hc=>?_ | refine .lp fun v H lp=>?_ | fail))
 refine .p h1 ?_
 (repeat' (first | (refine Rn.go ?_;conv=>whnf) | refine .mk ?_ | refine .tt ?_ | refine .ff ?_ | refine .m2 ?_ | refine .m3 ?_ | refine .mk (fun hc=>?_) fun hc=>?_ | refine .lp fun v H lp=>?_ | fail))
 ·refine .p h2 ?_
  (repeat' (first | (refine Rn.go ?_;conv=>whnf) | refine .mk ?_ | refine .tt ?_ | refine .ff ?_ | refine .m2 ?_ | refine .m3 ?_ | refine .mk (fun hc=>?_) fun hc=>?_ | refine .lp fun v H lp=>?_ | fail))
  ·exact ⟨_,rfl,by simp [tupOf,fitsT, *]⟩
  ·have hk:=hk (by omega)
   have h8:fitsT x t=decide ((t.k=1∨t.k=2)∧t.o=x.o):=by
    unfold fitsT
    congr 1
    rw [eq_iff_iff]
    constructor
    ·rintro ⟨_,_,_,h | h⟩ <;> omega
    ·intro h;exact ⟨by omega,by omega,by omega,by omega⟩
   refine .p h3 ?_
   rw [h8]
   cases decide ((t.k=1∨t.k=2)∧t.o=x.o)
   all_goals
    (repeat' (first | (refine Rn.go ?_;conv=>whnf) | refine .mk ?_ | refine .tt ?_ | refine .ff ?_ | refine .m2 ?_ | refine .m3 ?_ | refine .mk (fun hc=>?_) fun hc=>?_ | refine .lp fun v H lp=>?_ | fail))
    exact ⟨_,rfl,rfl⟩
  ·exact ⟨_,rfl,by simp [tupOf,fitsT, *]⟩
 all_goals exact ⟨_,rfl,by simp [tupOf,fitsT, *]⟩
theorem rbinding_fun (b:Bdg) (hv:bulk b.v<100000000) (ht:bulk b.t<100000000):Fun C 133 [encB b] (.int .i64 (bdE b)):=by
 have h1:=(rvalid_fun b.v (by omega)).nine
 have h2:=(rvalid_fun b.t (by omega)).nine
 have h3:=(rsame_fun b.v b.t (by omega) (by omega)).nine
 have h4:=rfits_fun b.v b.t hv ht
 rw [enc_x] at h1 h2 h3 h4
 rw [enc_x b.t] at h3 h4
 rw [encB_x]
 refine Fun.x T6 Tryz.func133 rfl ?_
 (repeat' (first | (refine Rn.go ?_;conv=>whnf) | refine .mk ?_ | refine .tt ?_ | refine .ff ?_ | refine .m2 ?_ | refine .m3 ?_ | refine .mk (fun hc=>?_) fun hc=>?_ | refine .lp fun v H lp=>?_ | fail))
 refine .p h1 ?_
 (repeat' (first | (refine Rn.go ?_;conv=>whnf) | refine .mk ?_ | refine .tt ?_ | refine .ff ?_ | refine .m2 ?_ | refine .m3 ?_ | refine .mk (fun hc=>?_) fun hc=>?_ | refine .lp fun v H lp=>?_ | fail))
 ·refine .p h3 ?_
  by_cases hc:cmpT b.v b.t=0
  ·rw [decide_eq_true hc]
   (repeat' (first | (refine Rn.go ?_;conv=>whnf) | refine .mk ?_ | refine .tt ?_ | refine .ff ?_ | refine .m2 ?_ | refine .m3 ?_ | refine .mk (fun hc=>?_) fun hc=>?_ | refine .lp fun v H lp=>?_ | fail))
   exact ⟨_,rfl,by rw [bdE,if_neg (by omega),if_pos (.inr hc)];rfl⟩
  ·rw [decide_eq_false hc]
   have hc0:¬ (b.v.k≠1∨cmpT b.v b.t=0):=by omega
   (repeat' (first | (refine Rn.go ?_;conv=>whnf) | refine .mk ?_ | refine .tt ?_ | refine .ff ?_ | refine .m2 ?_ | refine .m3 ?_ | refine .mk (fun hc=>?_) fun hc=>?_ | refine .lp fun v H lp=>?_ | fail))
   refine .p h2 ?_
   (repeat' (first | (refine Rn.go ?_;conv=>whnf) | refine .mk ?_ | refine .tt ?_ | refine .ff ?_ | refine .m2 ?_ | refine .m3 ?_ | refine .mk (fun hc=>?_) fun hc=>?_ | refine .lp fun v H lp=>?_ | fail))
   ·refine .p h4 ?_
    cases hf:fitsT b.v b.t
    ·(repeat' (first | (refine Rn.go ?_;conv=>whnf) | refine .mk ?_ | refine .tt ?_ | refine .ff ?_ | refine .m2 ?_ | refine .m3 ?_ | refine .mk (fun hc=>?_) fun hc=>?_ | refine .lp fun v H lp=>?_ | fail))
     exact ⟨_,rfl,by rw [bdE,if_neg (by omega),if_neg hc0,if_neg (by omega),if_pos hf];rfl⟩
    ·(repeat' (first | (refine Rn.go ?_;conv=>whnf) | refine .mk ?_ | refine .tt ?_ | refine .ff ?_ | refine .m2 ?_ | refine .m3 ?_ | refine .mk (fun hc=>?_) fun hc=>?_ | refine .lp fun v H lp=>?_ | fail))
     exact ⟨_,rfl,by rw [bdE,if_neg (by omega),if_neg hc0,if_neg (by omega),if_neg (by rw [hf];simp)];rfl⟩
   ·exact ⟨_,rfl,by rw [bdE,if_neg (by omega),if_neg hc0,if_pos (by omega)];rfl⟩
 ·exact ⟨_,rfl,by rw [bdE,if_neg (by omega),if_pos (.inl (by assumption))];rfl⟩
 ·exact ⟨_,rfl,by rw [bdE,if_pos (by omega)];rfl⟩
theorem rSub_fun (s:List Bdg) (hl:s.length<1000000000) (hb:∀ b∈s,bulk b.v<100000000∧bulk b.t<100000000):Fun C 76 [.snap false (encBs s)] (.int .i64 (subV s)):=by
 have hel:=encBs_len s
 refine Fun.x T6 Tryz.func76 rfl ?_
 (repeat' (first | (refine Rn.go ?_;conv=>whnf) | refine .mk ?_ | refine .tt ?_ | refine .ff ?_ | refine .m2 ?_ | refine .m3 ?_ | refine .mk (fun hc=>?_) fun hc=>?_ | refine .lp fun v H lp=>?_ | fail))
 ·exact ⟨_,rfl,by rw [subV,if_pos (by omega)];rfl⟩
 have hsv:subV s=subGo none s:=by rw [subV,if_neg (by omega)]
 refine LpX.zip T6 s (fun p q L H=>L=[(0,.snap false (encBs s)),(3,.int .i64 p.length)]∧H=[]∧subV s=subGo (prevV p) q) (.nx ⟨rfl,rfl,hsv⟩) ?_ ?_
 ·rintro p b q _ _ ρ e ⟨rfl,rfl,hs⟩
  have hat:=at_encBs e
  have hl2:=congrArg List.length e
  simp only [List.length_append,List.length_cons] at hl2
  obtain ⟨hbv,hbt⟩:=hb b (by rw [e];simp)
  have h1:=rbinding_fun b hbv hbt
  rw [encB_x] at h1
  have hE:bdE b≠0→subV s=bdE b:=fun h=>by rw [hs,sub_at (q:=q) h]
  have hN:bdE b=0→subV s=if behind (prevV p) b.v=false then 5 else subGo (some b.v) q:=fun h=>by rw [hs,subGo,if_neg (by rw [h];simp)]
  (repeat' (first | (refine Rn.go ?_;conv=>whnf) | refine .mk ?_ | refine .tt ?_ | refine .ff ?_ | refine .m2 ?_ | refine .m3 ?_ | refine .mk (fun hc=>?_) fun hc=>?_ | refine .lp fun v H lp=>?_ | fail))
  refine .p h1 ?_
  (repeat' (first | (refine Rn.go ?_;conv=>whnf) | refine .mk ?_ | refine .tt ?_ | refine .ff ?_ | refine .m2 ?_ | refine .m3 ?_ | refine .mk (fun hc=>?_) fun hc=>?_ | refine .lp fun v H lp=>?_ | fail))
  ·have hs1:=hN (by omega)
   have hp0:p≠[]:=fun h=>by
    have:p.length=0:=by rw [h];rfl
    omega
   obtain ⟨p',e0,hpe⟩:∃ p' e0,p=p'++[e0]:=by
    rcases List.eq_nil_or_concat p with h | ⟨a,b,h⟩
    ·exact absurd h hp0
    ·exact ⟨a,b,by rw [h];simp⟩
   have hat0:=at_encBs (l:=s) (p:=p') (b:=e0) (q:=b::q) (by rw [e,hpe];simp)
   have hp1:p.length=p'.length+1:=by rw [hpe];simp
   have hpr:prevV p=some e0.v:=by rw [hpe,prevV_snoc]
   have h5:=(rcmp_fun e0.v b.v (by have:=(hb e0 (by rw [e,hpe];simp)).1;omega) (by omega)).nine
   rw [enc_x,enc_x b.v] at h5
   rw [hpr] at hs1
   refine .mk (n:=p'.length) ?_ (by omega) hat0 rfl
   (repeat' (first | (refine Rn.go ?_;conv=>whnf) | refine .mk ?_ | refine .tt ?_ | refine .ff ?_ | refine .m2 ?_ | refine .m3 ?_ | refine .mk (fun hc=>?_) fun hc=>?_ | refine .lp fun v H lp=>?_ | fail))
   refine .p h5 ?_
   (repeat' (first | (refine Rn.go ?_;conv=>whnf) | refine .mk ?_ | refine .tt ?_ | refine .ff ?_ | refine .m2 ?_ | refine .m3 ?_ | refine .mk (fun hc=>?_) fun hc=>?_ | refine .lp fun v H lp=>?_ | fail))
   ·exact ⟨_,rfl,by rw [hs1,if_pos (by simp [behind];omega)];rfl⟩
   ·exact .nx ⟨rfl,rfl,by rw [prevV_snoc,hs1,if_neg (by simp [behind];omega)]⟩
  ·have hs1:=hN (by omega)
   have hp0:p=[]:=List.eq_nil_of_length_eq_zero (by omega)
   have hk0:behind (prevV p) b.v=true:=by rw [hp0];rfl
   rw [hk0,if_neg (by simp)] at hs1
   exact .nx ⟨rfl,rfl,by rw [prevV_snoc];exact hs1⟩
  ·have hx:=hE (by assumption)
   exact ⟨_,rfl,by rw [hx];rfl⟩
 ·rintro _ _ ρ ⟨rfl,rfl,hs⟩
  (repeat' (first | (refine Rn.go ?_;conv=>whnf) | refine .mk ?_ | refine .tt ?_ | refine .ff ?_ | refine .m2 ?_ | refine .m3 ?_ | refine .mk (fun hc=>?_) fun hc=>?_ | refine .lp fun v H lp=>?_ | fail))
  exact ⟨_,rfl,by rw [hs];rfl⟩
theorem getB_at {s p q:List Bdg} {b:Bdg} {x:Tm} (e:s=p++b::q) (hp:∀ c∈p,cmpT c.v x≠0) (hb:cmpT b.v x=0):getB s x=b.t:=by
 subst e
 induction p with
 | nil=>rw [List.nil_append,getB,if_pos hb]
 | cons c p ih=>rw [List.cons_append,getB,if_neg (hp c (by simp)),ih fun d hd=>hp d (by simp [hd])]
theorem rget_fun (s:List Bdg) (x:Tm) (hl:s.length<1000000000) (hb:∀ b∈s,bulk b.v<100000000) (hx:bulk x<100000000):Fun C 219 [.snap false (encBs s),enc x] (enc (getB s x)):=by
 have hel:=encBs_len s
 rw [enc_x x,enc_x]
 refine Fun.x T6 Tryz.func219 rfl ?_
 (repeat' (first | (refine Rn.go ?_;conv=>whnf) | refine .mk ?_ | refine .tt ?_ | refine .ff ?_ | refine .m2 ?_ | refine .m3 ?_ | refine .mk (fun hc=>?_) fun hc=>?_ | refine .lp fun v H lp=>?_ | fail))
 refine LpX.zip T6 s (fun p q L H=>L=[(0,.snap false (encBs s)),(3,.ptr 0 0 0 0),(4,.ptr 1 0 0 0),(5,.int .i64 p.length)]∧H=[⟨.m,0,4,[.agg [.int .i64 x.k,.str x.s,.int .i64 x.o,.snap false (encs x.l)]]⟩,⟨.m,0,4,[.agg [.int .i64 0,.str ByteArray.empty,.int .i64 0,.snap true []]]⟩]∧∀ c∈p,cmpT c.v x≠0) (.nx ⟨rfl,rfl,by simp⟩) ?_ ?_
 ·rintro p b q _ _ ρ e ⟨rfl,rfl,hp⟩
  have hat:=at_encBs e
  have hl2:=congrArg List.length e
  simp only [List.length_append,List.length_cons] at hl2
  have hsa:=(rsame_fun b.v x (by have:=hb b (by rw [e];simp);omega) (by omega)).nine
  rw [enc_x,enc_x x] at hsa
  (repeat' (first | (refine Rn.go ?_;conv=>whnf) | refine .mk ?_ | refine .tt ?_ | refine .ff ?_ | refine .m2 ?_ | refine .m3 ?_ | refine .mk (fun hc=>?_) fun hc=>?_ | refine .lp fun v H lp=>?_ | fail))
  refine .p hsa ?_
  by_cases hc:cmpT b.v x=0
  ·rw [decide_eq_true hc,getB_at e hp hc]
   (repeat' (first | (refine Rn.go ?_;conv=>whnf) | refine .mk ?_ | refine .tt ?_ | refine .ff ?_ | refine .m2 ?_ | refine .m3 ?_ | refine .mk (fun hc=>?_) fun hc=>?_ | refine .lp fun v H lp=>?_ | fail))
   exact retT0
  ·rw [decide_eq_false hc]
   (repeat' (first | (refine Rn.go ?_;conv=>whnf) | refine .mk ?_ | refine .tt ?_ | refine .ff ?_ | refine .m2 ?_ | refine .m3 ?_ | refine .mk (fun hc=>?_) fun hc=>?_ | refine .lp fun v H lp=>?_ | fail))
   exact .nx ⟨rfl,rfl,fun w hw=>by rcases List.mem_append.1 hw with h | h;exact hp w h;simp at h;rw [h];exact hc⟩
 ·rintro _ _ ρ ⟨rfl,rfl,hp⟩
  rw [getB_none hp]
  (repeat' (first | (refine Rn.go ?_;conv=>whnf) | refine .mk ?_ | refine .tt ?_ | refine .ff ?_ | refine .m2 ?_ | refine .m3 ?_ | refine .mk (fun hc=>?_) fun hc=>?_ | refine .lp fun v H lp=>?_ | fail))
  exact retT0
end Go.Pm.Nine
end
section
set_option maxRecDepth 4000
namespace Go.Pm.Nine
open Go.Proofs
attribute [local irreducible] thenQ blockQ loopQ bodyQ Ev EvOps CallEv FnEv EvD encSys
theorem rput_ev (S:List Bdg) (hS:SubOk S) (k s o l) (hb:bulk (.mk k s o l)<10000000) (ih:∀ t∈l,Fun C 170 [.snap false (encBs S),enc t] (enc (putT S t))):Fun C 170 [.snap false (encBs S),enc (.mk k s o l)] (enc (putT S (.mk k s o l))):=by
 have hel:=encs_len l
 have hll:=len_bulks l
 have hl:l.length<10000000:=by simp only [bulk] at hb;omega
 have hge:=rget_fun S (.mk k s o l) (by have:=hS.len;omega) (fun b hb=>by have:=hS.v b hb;omega) (by omega)
 obtain ⟨g,hg⟩:∃ g,g=getB S (.mk k s o l):=⟨_,rfl⟩
 have hpv:k=1→putT S (.mk k s o l)=g:=fun h=>by rw [putT,if_pos h,hg]
 have hpt:k≠1→putT S (.mk k s o l)=.mk k s o (putTs S l):=fun h=>by rw [putT,if_neg h]
 rw [← hg,enc_x g] at hge
 rw [enc_mk] at hge ⊢
 refine Fun.x T6 Tryz.func170 rfl ?_
 by_cases hk:k=1
 ·rw [hpv hk,enc_x]
  (repeat' (first | (refine Rn.go ?_;conv=>whnf) | refine .mk ?_ | refine .tt ?_ | refine .ff ?_ | refine .m2 ?_ | refine .m3 ?_ | refine .mk (fun hc=>?_) fun hc=>?_ | refine .lp fun v H lp=>?_ | fail))
  refine .p hge ?_
  (repeat' (first | (refine Rn.go ?_;conv=>whnf) | refine .mk ?_ | refine .tt ?_ | refine .ff ?_ | refine .m2 ?_ | refine .m3 ?_ | refine .mk (fun hc=>?_) fun hc=>?_ | refine .lp fun v H lp=>?_ | fail))
  exact retT0
 ·rw [hpt hk,enc_mk]
  (repeat' (first | (refine Rn.go ?_;conv=>whnf) | refine .mk ?_ | refine .tt ?_ | refine .ff ?_ | refine .m2 ?_ | refine .m3 ?_ | refine .mk (fun hc=>?_) fun hc=>?_ | refine .lp fun v H lp=>?_ | fail))
  have hr0:HR [⟨.m,0,4,[.agg [.int .i64 k,.str s,.int .i64 o,.snap false (encs l)]]⟩,⟨.m,0,4,[.agg [.int .i64 0,.str ByteArray.empty,.int .i64 0,.snap true []]]⟩,⟨.m,0,4,[.agg [.int .i64 k,.str s,.int .i64 o,.snap true []]]⟩]:=by
   intro x hx
   simp at hx
   rcases hx with rfl | rfl | rfl <;> simp [visRs,visR]
  refine LpX.zip T6 l (fun p q L H=>∃ v,L=[(0,.snap false (encBs S)),(3,.ptr 0 0 0 0),(4,.ptr 1 0 0 0),(5,.ptr 2 0 0 0),(6,.int .i64 p.length)]∧HR H∧H[0]?=some ⟨.m,0,4,[.agg [.int .i64 k,.str s,.int .i64 o,.snap false (encs l)]]⟩∧H[1]?=some ⟨.m,0,4,[.agg [.int .i64 0,.str ByteArray.empty,.int .i64 0,.snap true []]]⟩∧H[2]?=some ⟨.m,0,4,[.agg [.int .i64 k,.str s,.int .i64 o,v]]⟩∧Out 4 H v (encs (putTs S p))∧∀ i∈vid v,3≤i) (.nx ⟨_,rfl,hr0,rfl,rfl,rfl,.inl ⟨rfl,rfl⟩,by simp [vid]⟩) ?_ ?_
  ·rintro p u q _ H ρ e ⟨v,rfl,hH,g0,g1,g2,ho,hv⟩
   have hat:=at_encs e
   have hl2:=congrArg List.length e
   simp only [List.length_append,List.length_cons] at hl2
   have hi:=ih u (by rw [e];simp)
   have hpl:=putTs_len S p
   have hle:=encs_len (putTs S p)
   obtain ⟨w,hw⟩:∃ w,w=putT S u:=⟨_,rfl⟩
   rw [← hw,enc_x u,enc_x w] at hi
   have hsn:encs (putTs S p)++[.agg [.int .i64 w.k,.str w.s,.int .i64 w.o,.snap false (encs w.l)]]=encs (putTs S (p++[u])):=by
    rw [putTs_map,putTs_map,List.map_append,encs_app,← enc_x,hw];rfl
   have hl3:=lt_of_some g2
   (repeat' (first | (refine Rn.go ?_;conv=>whnf) | refine .mk ?_ | refine .tt ?_ | refine .ff ?_ | refine .m2 ?_ | refine .m3 ?_ | refine .mk (fun hc=>?_) fun hc=>?_ | refine .lp fun v H lp=>?_ | fail))
   refine .p hi ?_
   (repeat' (first | (refine Rn.go ?_;conv=>whnf) | refine .mk ?_ | refine .tt ?_ | refine .ff ?_ | refine .m2 ?_ | refine .m3 ?_ | refine .mk (fun hc=>?_) fun hc=>?_ | refine .lp fun v H lp=>?_ | fail))
   refine .lr (fun v' h' lr=>?_) ho
   have hnv:∀ j,j<3→∀ ep n,v≠.mref j ep 0 n:=fun j hj ep n hh=>by have:=hv j (by rw [hh];simp [vid]);omega
   have f0:=(lr.fr 0 (by omega) (hnv 0 (by omega))).trans g0
   have f1:=(lr.fr 1 (by omega) (hnv 1 (by omega))).trans g1
   have f2:=(lr.fr 2 (by omega) (hnv 2 (by omega))).trans g2
   have hr3:=lr.hr
   have hv3:∀ i∈vid v',3≤i:=fun i hi=>by
    rcases lr.vid i hi with h | h
    ·exact hv i h
    ·omega
   have lo:=lr.out
   rw [hsn] at lo
   have hwr:=lo.visR
   rcases lo with ⟨_,hx⟩ | ⟨id,ep,rfl,hid⟩
   ·have:=congrArg List.length hx
    rw [encs_len,putTs_len] at this
    simp at this
   have k2:=lt_of_some f2
   (repeat' (first | (refine Rn.go ?_;conv=>whnf) | refine .mk ?_ | refine .tt ?_ | refine .ff ?_ | refine .m2 ?_ | refine .m3 ?_ | refine .mk (fun hc=>?_) fun hc=>?_ | refine .lp fun v H lp=>?_ | fail))
   have hi2:=hv3 id (by simp [vid])
   exact .nx ⟨_,rfl,hr3.set _ (by simp) (by simpa [visRs,visR] using hwr),(List.getElem?_set_ne (by omega)).trans f0,(List.getElem?_set_ne (by omega)).trans f1,List.getElem?_set_self k2,.inr ⟨id,ep,rfl,(List.getElem?_set_ne (by omega)).trans hid⟩,hv3⟩
  ·rintro _ H ρ ⟨v,rfl,hH,g0,g1,g2,ho,hv⟩
   have k1:=lt_of_some g1
   have e2:=List.getElem?_set_self (a:=(⟨.m,0,4,[.agg [.int .i64 k,.str s,.int .i64 o,v]]⟩:AObj)) k1
   have ho3:Out 4 (H.set 1 ⟨.m,0,4,[.agg [.int .i64 k,.str s,.int .i64 o,v]]⟩) v (encs (putTs S l)):=ho.of_eq fun i hi=>List.getElem?_set_ne (by have:=hv i hi;omega)
   rcases ho with ⟨rfl,he⟩ | ⟨id,ep,rfl,hid⟩
   ·(repeat' (first | (refine Rn.go ?_;conv=>whnf) | refine .mk ?_ | refine .tt ?_ | refine .ff ?_ | refine .m2 ?_ | refine .m3 ?_ | refine .mk (fun hc=>?_) fun hc=>?_ | refine .lp fun v H lp=>?_ | fail))
    refine .mk ?_ (resC_n (T:=T6) rfl e2 rfl rfl rfl rfl)
    exact ⟨retT ho3 (by simp) (by simp)⟩
   ·(repeat' (first | (refine Rn.go ?_;conv=>whnf) | refine .mk ?_ | refine .tt ?_ | refine .ff ?_ | refine .m2 ?_ | refine .m3 ?_ | refine .mk (fun hc=>?_) fun hc=>?_ | refine .lp fun v H lp=>?_ | fail))
    refine .mk ?_ (resC_n (T:=T6) rfl e2 rfl rfl rfl rfl)
    exact ⟨retT ho3 (by simp) (by simp)⟩
theorem rput_fun (S:List Bdg) (hS:SubOk S) (t:Tm) (hb:bulk t<10000000):Fun C 170 [.snap false (encBs S),enc t] (enc (putT S t)):=by
 induction t using Tm.ind with
 | h k s o l ih=>
  refine rput_ev S hS k s o l hb fun t ht=>ih t ht ?_
  have:=bulk_mem ht
  simp only [bulk] at hb
  omega
theorem rSub0 {S:List Bdg} (hS:subV S=0):Fun C 76 [.snap false (encBs S)] (.int .i64 0):=by
 obtain ⟨h1,h2,h3⟩:=subV_zero hS
 have:=rSub_fun S (by omega) fun b hb=>by
  have h4:=valid_bulk (bdE_zero (h2 b hb)).1
  have h5:=valid_bulk (bdE_zero (h2 b hb)).2.2.1
  exact ⟨by omega,by omega⟩
 rwa [hS] at this
theorem rApply_fun (S:List Bdg) (hS:subV S=0) (t:Tm) (hb:bulk t<10000000):Fun C 119 [.snap false (encBs S),enc t] (.tup [enc (applyT S t).1,.int .i64 (applyT S t).2]):=by
 have h0:=rSub0 hS
 have hok:=SubOk.of hS
 have h1:=(rvalid_fun t (by omega)).nine
 have h2:=rput_fun S hok t hb
 have h3:valid t=0→Fun C 125 [enc (putT S t)] (.int .i64 (valid (putT S t))):=fun h=>(rvalid_fun (putT S t) (by have:=sub_put hS h;omega)).nine
 have a1:valid t≠0→applyT S t=(zeroT,valid t):=fun h=>by rw [applyT,if_pos h]
 have a2:valid t=0→valid (putT S t)≠0→applyT S t=(zeroT,valid (putT S t)):=fun h h'=>by rw [applyT,if_neg (by omega),if_pos h']
 have a3:valid t=0→valid (putT S t)=0→applyT S t=(putT S t,0):=fun h h'=>by rw [applyT,if_neg (by omega),if_neg (by omega)]
 generalize applyT S t=A at *
 generalize putT S t=u at *
 rw [enc_x t] at h1 h2 ⊢
 rw [enc_x u] at h2 h3
 refine Fun.x T6 Tryz.func119 rfl ?_
 (repeat' (first | (refine Rn.go ?_;conv=>whnf) | refine .mk ?_ | refine .tt ?_ | refine .ff ?_ | refine .m2 ?_ | refine .m3 ?_ | refine .mk (fun hc=>?_) fun hc=>?_ | refine .lp fun v H lp=>?_ | fail))
 refine .p h0 ?_
 (repeat' (first | (refine Rn.go ?_;conv=>whnf) | refine .mk ?_ | refine .tt ?_ | refine .ff ?_ | refine .m2 ?_ | refine .m3 ?_ | refine .mk (fun hc=>?_) fun hc=>?_ | refine .lp fun v H lp=>?_ | fail))
 refine .p h1 ?_
 (repeat' (first | (refine Rn.go ?_;conv=>whnf) | refine .mk ?_ | refine .tt ?_ | refine .ff ?_ | refine .m2 ?_ | refine .m3 ?_ | refine .mk (fun hc=>?_) fun hc=>?_ | refine .lp fun v H lp=>?_ | fail))
 ·have hv:valid t=0:=by omega
  refine .p h2 ?_
  (repeat' (first | (refine Rn.go ?_;conv=>whnf) | refine .mk ?_ | refine .tt ?_ | refine .ff ?_ | refine .m2 ?_ | refine .m3 ?_ | refine .mk (fun hc=>?_) fun hc=>?_ | refine .lp fun v H lp=>?_ | fail))
  refine .p (h3 hv) ?_
  (repeat' (first | (refine Rn.go ?_;conv=>whnf) | refine .mk ?_ | refine .tt ?_ | refine .ff ?_ | refine .m2 ?_ | refine .m3 ?_ | refine .mk (fun hc=>?_) fun hc=>?_ | refine .lp fun v H lp=>?_ | fail))
  ·rw [a3 hv (by omega),enc_x]
   exact retTX
  ·rw [a2 hv (by omega),zeroT_x]
   exact ⟨_,rfl,rfl⟩
 ·rw [a1 (by omega),zeroT_x]
  exact ⟨_,rfl,rfl⟩
end Go.Pm.Nine
end
section
set_option maxRecDepth 4000
namespace Go.Pm.Nine
open Go.Proofs
attribute [local irreducible] thenQ blockQ loopQ bodyQ Ev EvOps CallEv FnEv EvD encSys
theorem retD {h:AHeap} {v:PV} {k o n:Int} {s:ByteArray} {es:List PV} {l:List Tm} (ho:Out 4 h v es) (hv:isVals es=true) (hn:nrms es=es):∃ r1,rb h (tupOf [.agg [v,.int .i64 k,.str s,.int .i64 o,.snap false (encs l)],.int .i64 n])=some r1∧nrm r1=.tup [.agg [.snap false es,.int .i64 k,.str s,.int .i64 o,.snap false (encs l)],.int .i64 n]:=by
 obtain ⟨r,h1,h2⟩:∃ r,rb1 h v=some r∧nrm r=.snap false es:=by
  rcases ho with ⟨rfl,rfl⟩ | ⟨id,ep,rfl,e2⟩
  ·exact ⟨_,rfl,rfl⟩
  ·exact ⟨.snap false es,by simp [rb1,getM,e2,hv],by simp [nrm,hn]⟩
 refine ⟨.tup [.agg [r,.int .i64 k,.str s,.int .i64 o,.snap false (encs l)],.int .i64 n],?_,by simp [nrm,nrms,h2]⟩
 simp only [tupOf,rb,rbAs,rbA,rb1s,h1]
 simp [rb1]
def rapD (S:List Bdg) (d:Dem):Dem:=if allE S d.kn≠0 then ⟨[],zeroT⟩ else ⟨putTs S d.kn,(applyT S d.tm).1⟩
theorem rap_fun (S:List Bdg) (hS:subV S=0) (d:Dem) (hl:d.kn.length<10000000) (hb:∀ t∈d.kn++[d.tm],bulk t<10000000):Fun C 60 [encD d,.snap false (encBs S)] (.tup [encD (rapD S d),.int .i64 (demE S d)]):=by
 have hel:=encs_len d.kn
 have hap:=rApply_fun S hS d.tm (hb d.tm (by simp))
 have hd1:allE S d.kn≠0→demE S d=allE S d.kn∧rapD S d=⟨[],zeroT⟩:=fun h=>⟨by rw [demE,if_pos h],by rw [rapD,if_pos h]⟩
 have hd2:allE S d.kn=0→demE S d=(applyT S d.tm).2∧rapD S d=⟨putTs S d.kn,(applyT S d.tm).1⟩:=fun h=>⟨by rw [demE,if_neg (by omega)],by rw [rapD,if_neg (by omega)]⟩
 generalize demE S d=DE at *
 generalize rapD S d=RD at *
 obtain ⟨w,hw⟩:∃ w,w=(applyT S d.tm).1:=⟨_,rfl⟩
 obtain ⟨wn,hwn⟩:∃ n,n=(applyT S d.tm).2:=⟨_,rfl⟩
 rw [← hw,← hwn,enc_x d.tm,enc_x w] at hap
 rw [← hw,← hwn] at hd2
 rw [encD_x]
 refine Fun.x T6 Tryz.func60 rfl ?_
 (repeat' (first | (refine Rn.go ?_;conv=>whnf) | refine .mk ?_ | refine .tt ?_ | refine .ff ?_ | refine .m2 ?_ | refine .m3 ?_ | refine .mk (fun hc=>?_) fun hc=>?_ | refine .lp fun v H lp=>?_ | fail))
 have hr0:HR [⟨.m,0,5,[.agg [.snap false (encs d.kn),.int .i64 d.tm.k,.str d.tm.s,.int .i64 d.tm.o,.snap false (encs d.tm.l)]]⟩,⟨.m,0,5,[.agg [.snap true [],.int .i64 0,.str ByteArray.empty,.int .i64 0,.snap true []]]⟩,⟨.m,0,5,[.agg [.snap true [],.int .i64 0,.str ByteArray.empty,.int .i64 0,.snap true []]]⟩]:=by
  intro x hx
  simp at hx
  rcases hx with rfl | rfl | rfl <;> simp [visRs,visR]
 refine LpX.zip T6 d.kn (fun p q L H=>∃ v,L=[(1,.snap false (encBs S)),(2,.ptr 0 0 0 0),(4,.ptr 1 0 0 0),(6,.ptr 2 0 0 0),(7,.int .i64 p.length)]∧HR H∧H[0]?=some ⟨.m,0,5,[.agg [.snap false (encs d.kn),.int .i64 d.tm.k,.str d.tm.s,.int .i64 d.tm.o,.snap false (encs d.tm.l)]]⟩∧H[1]?=some ⟨.m,0,5,[.agg [.snap true [],.int .i64 0,.str ByteArray.empty,.int .i64 0,.snap true []]]⟩∧H[2]?=some ⟨.m,0,5,[.agg [v,.int .i64 0,.str ByteArray.empty,.int .i64 0,.snap true []]]⟩∧Out 4 H v (encs (putTs S p))∧(∀ i∈vid v,3≤i)∧∀ u∈p,(applyT S u).2=0) (.nx ⟨_,rfl,hr0,rfl,rfl,rfl,.inl ⟨rfl,rfl⟩,by simp [vid],by simp⟩) ?_ ?_
 ·rintro p u q _ H ρ e ⟨v,rfl,hH,g0,g1,g2,ho,hv,hp⟩
  have hat:=at_encs e
  have hl2:=congrArg List.length e
  simp only [List.length_append,List.length_cons] at hl2
  have hau:=rApply_fun S hS u (hb u (by rw [e];simp))
  have hpl:=putTs_len S p
  have hle:=encs_len (putTs S p)
  have h0:(applyT S u).2=0→(applyT S u).1=putT S u:=fun h=>by rw [(app_zero h).1]
  have hx:(applyT S u).2≠0→allE S d.kn=(applyT S u).2:=allE_at e hp
  have hpn:(applyT S u).2=0→∀ w∈p++[u],(applyT S w).2=0:=fun h w hw=>by
   rcases List.mem_append.1 hw with h1 | h1
   ·exact hp w h1
   ·simp at h1;rw [h1];exact h
  generalize (applyT S u).1=x at *
  generalize (applyT S u).2=xn at *
  rw [enc_x u,enc_x x] at hau
  have hH2:HR (H++[⟨.m,0,4,[.agg [.int .i64 x.k,.str x.s,.int .i64 x.o,.snap false (encs x.l)]]⟩]):=hH.appV (HV.one (by simp))
  have ho2:=ho.app [⟨.m,0,4,[.agg [.int .i64 x.k,.str x.s,.int .i64 x.o,.snap false (encs x.l)]]⟩]
  have hl3:=lt_of_some g2
  have g0':(H++[⟨.m,0,4,[.agg [.int .i64 x.k,.str x.s,.int .i64 x.o,.snap false (encs x.l)]]⟩])[0]?=some ⟨.m,0,5,[.agg [.snap false (encs d.kn),.int .i64 d.tm.k,.str d.tm.s,.int .i64 d.tm.o,.snap false (encs d.tm.l)]]⟩:=by rw [List.getElem?_append_left (by omega)];exact g0
  have g1':(H++[⟨.m,0,4,[.agg [.int .i64 x.k,.str x.s,.int .i64 x.o,.snap false (encs x.l)]]⟩])[1]?=some ⟨.m,0,5,[.agg [.snap true [],.int .i64 0,.str ByteArray.empty,.int .i64 0,.snap true []]]⟩:=by rw [List.getElem?_append_left (by omega)];exact g1
  have g2':(H++[⟨.m,0,4,[.agg [.int .i64 x.k,.str x.s,.int .i64 x.o,.snap false (encs x.l)]]⟩])[2]?=some ⟨.m,0,5,[.agg [v,.int .i64 0,.str ByteArray.empty,.int .i64 0,.snap true []]]⟩:=by rw [List.getElem?_append_left (by omega)];exact g2
  (repeat' (first | (refine Rn.go ?_;conv=>whnf) | refine .mk ?_ | refine .tt ?_ | refine .ff ?_ | refine .m2 ?_ | refine .m3 ?_ | refine .mk (fun hc=>?_) fun hc=>?_ | refine .lp fun v H lp=>?_ | fail))
  refine .p hau ?_
  (repeat' (first | (refine Rn.go ?_;conv=>whnf) | refine .mk ?_ | refine .tt ?_ | refine .ff ?_ | refine .m2 ?_ | refine .m3 ?_ | refine .mk (fun hc=>?_) fun hc=>?_ | refine .lp fun v H lp=>?_ | fail))
  ·refine .lr (fun v' h' lr=>?_) ho2
   have hnv:∀ j,j<3→∀ ep n,v≠.mref j ep 0 n:=fun j hj ep n hh=>by have:=hv j (by rw [hh];simp [vid]);omega
   have f0:=(lr.fr 0 (by simp) (hnv 0 (by omega))).trans g0'
   have f1:=(lr.fr 1 (by simp;omega) (hnv 1 (by omega))).trans g1'
   have f2:=(lr.fr 2 (by simp;omega) (hnv 2 (by omega))).trans g2'
   have hr3:=lr.hr
   have hv3:∀ i∈vid v',3≤i:=fun i hi=>by
    rcases lr.vid i hi with h | h
    ·exact hv i h
    ·simp at h;omega
   have hxx:=h0 (by omega)
   have hsn:encs (putTs S p)++[.agg [.int .i64 x.k,.str x.s,.int .i64 x.o,.snap false (encs x.l)]]=encs (putTs S (p++[u])):=by
    rw [putTs_map,putTs_map,List.map_append,encs_app,← enc_x,hxx];rfl
   have lo:=lr.out
   rw [hsn] at lo
   have hwr:=lo.visR
   rcases lo with ⟨_,hx⟩ | ⟨id,ep,rfl,hid⟩
   ·have:=congrArg List.length hx
    rw [encs_len,putTs_len] at this
    simp at this
   have k2:=lt_of_some f2
   (repeat' (first | (refine Rn.go ?_;conv=>whnf) | refine .mk ?_ | refine .tt ?_ | refine .ff ?_ | refine .m2 ?_ | refine .m3 ?_ | refine .mk (fun hc=>?_) fun hc=>?_ | refine .lp fun v H lp=>?_ | fail))
   have hi2:=hv3 id (by simp [vid])
   exact .nx ⟨_,rfl,hr3.set _ (by simp) (by simpa [visRs,visR] using hwr),(List.getElem?_set_ne (by omega)).trans f0,(List.getElem?_set_ne (by omega)).trans f1,List.getElem?_set_self k2,.inr ⟨id,ep,rfl,(List.getElem?_set_ne (by omega)).trans hid⟩,hv3,hpn (by omega)⟩
  ·have hxx:=hx (by omega)
   obtain ⟨r1,r2⟩:=hd1 (by omega)
   rw [r1,r2]
   have e2:=List.getElem?_set_self (a:=(⟨.m,0,5,[.agg [.snap true [],.int .i64 0,.str ByteArray.empty,.int .i64 0,.snap true []]]⟩:AObj)) (lt_of_some g1')
   refine .mk ?_ (resC_n (T:=T6) rfl e2 rfl rfl rfl rfl)
   exact ⟨⟨_,rfl,by rw [hxx];rfl⟩⟩
 ·rintro _ H ρ ⟨v,rfl,hH,g0,g1,g2,ho,hv,hp⟩
  have hal:=allE_none hp
  obtain ⟨r1,r2⟩:=hd2 hal
  rw [r1,r2]
  have hH2:HR (H++[⟨.m,0,4,[.agg [.int .i64 w.k,.str w.s,.int .i64 w.o,.snap false (encs w.l)]]⟩]):=hH.appV (HV.one (by simp))
  have ho2:=ho.app [⟨.m,0,4,[.agg [.int .i64 w.k,.str w.s,.int .i64 w.o,.snap false (encs w.l)]]⟩]
  have k2:=lt_of_some g2
  have g1':(H++[⟨.m,0,4,[.agg [.int .i64 w.k,.str w.s,.int .i64 w.o,.snap false (encs w.l)]]⟩])[1]?=some ⟨.m,0,5,[.agg [.snap true [],.int .i64 0,.str ByteArray.empty,.int .i64 0,.snap true []]]⟩:=by rw [List.getElem?_append_left (by omega)];exact g1
  have g2':(H++[⟨.m,0,4,[.agg [.int .i64 w.k,.str w.s,.int .i64 w.o,.snap false (encs w.l)]]⟩])[2]?=some ⟨.m,0,5,[.agg [v,.int .i64 0,.str ByteArray.empty,.int .i64 0,.snap true []]]⟩:=by rw [List.getElem?_append_left (by omega)];exact g2
  have s2:((H++([⟨.m,0,4,[.agg [.int .i64 w.k,.str w.s,.int .i64 w.o,.snap false (encs w.l)]]⟩]:AHeap)).set 2 ⟨.m,0,5,[.agg [v,.int .i64 w.k,.str w.s,.int .i64 w.o,.snap false (encs w.l)]]⟩)[2]?=some ⟨.m,0,5,[.agg [v,.int .i64 w.k,.str w.s,.int .i64 w.o,.snap false (encs w.l)]]⟩:=List.getElem?_set_self (by simp;omega)
  have s1:((H++([⟨.m,0,4,[.agg [.int .i64 w.k,.str w.s,.int .i64 w.o,.snap false (encs w.l)]]⟩]:AHeap)).set 2 ⟨.m,0,5,[.agg [v,.int .i64 w.k,.str w.s,.int .i64 w.o,.snap false (encs w.l)]]⟩)[1]?=some ⟨.m,0,5,[.agg [.snap true [],.int .i64 0,.str ByteArray.empty,.int .i64 0,.snap true []]]⟩:=(List.getElem?_set_ne (by omega)).trans g1'
  have e2:(((H++([⟨.m,0,4,[.agg [.int .i64 w.k,.str w.s,.int .i64 w.o,.snap false (encs w.l)]]⟩]:AHeap)).set 2 ⟨.m,0,5,[.agg [v,.int .i64 w.k,.str w.s,.int .i64 w.o,.snap false (encs w.l)]]⟩).set 1 ⟨.m,0,5,[.agg [v,.int .i64 w.k,.str w.s,.int .i64 w.o,.snap false (encs w.l)]]⟩)[1]?=some ⟨.m,0,5,[.agg [v,.int .i64 w.k,.str w.s,.int .i64 w.o,.snap false (encs w.l)]]⟩:=List.getElem?_set_self (by simp;omega)
  have o3:Out 4 (((H++([⟨.m,0,4,[.agg [.int .i64 w.k,.str w.s,.int .i64 w.o,.snap false (encs w.l)]]⟩]:AHeap)).set 2 ⟨.m,0,5,[.agg [v,.int .i64 w.k,.str w.s,.int .i64 w.o,.snap false (encs w.l)]]⟩).set 1 ⟨.m,0,5,[.agg [v,.int .i64 w.k,.str w.s,.int .i64 w.o,.snap false (encs w.l)]]⟩) v (encs (putTs S d.kn)):=ho2.of_eq fun i hi=>by have:=hv i hi;rw [List.getElem?_set_ne (by omega),List.getElem?_set_ne (by omega)]
  rcases ho with ⟨rfl,he⟩ | ⟨id,ep,rfl,hid⟩
  all_goals
   (repeat' (first | (refine Rn.go ?_;conv=>whnf) | refine .mk ?_ | refine .tt ?_ | refine .ff ?_ | refine .m2 ?_ | refine .m3 ?_ | refine .mk (fun hc=>?_) fun hc=>?_ | refine .lp fun v H lp=>?_ | fail))
   refine .p hap ?_
   (repeat' (first | (refine Rn.go ?_;conv=>whnf) | refine .mk ?_ | refine .tt ?_ | refine .ff ?_ | refine .m2 ?_ | refine .m3 ?_ | refine .mk (fun hc=>?_) fun hc=>?_ | refine .lp fun v H lp=>?_ | fail))
   refine .mk ?_ (resC_n (T:=T6) rfl e2 rfl rfl rfl rfl)
   exact ⟨retD o3 (by simp) (by simp)⟩
end Go.Pm.Nine
end
section
set_option maxRecDepth 4000
namespace Go.Pm.Nine
open Go.Proofs
attribute [local irreducible] thenQ blockQ loopQ bodyQ Ev EvOps CallEv FnEv EvD encSys
theorem rapD_zero {S:List Bdg} {d:Dem} (h:demE S d=0):rapD S d=demP S d:=by
 obtain ⟨h1,h2,_⟩:=demE_zero h
 rw [rapD,if_neg (by omega),(app_zero h2).1]
 rfl
theorem rinst_fun (l:List Dem) (S:List Bdg) (hl:l.length<1000000000) (hb:∀ d∈l,d.kn.length<10000000∧∀ t∈d.kn++[d.tm],bulk t<10000000) (hls:S.length<1000000000) (hbs:∀ b∈S,bulk b.v<100000000∧bulk b.t<100000000) :
  Fun C 26 [.snap false (encDs l),.snap false (encBs S)] (.tup [.snap false (encDs (instL l S)),.int .i64 (instE l S)]):=by
 have h1:=rVal_fun l hl hb
 have h2:=rSub_fun S hls hbs
 have hel:=encDs_len l
 refine Fun.x T6 Tryz.func26 rfl ?_
 (repeat' (first | (refine Rn.go ?_;conv=>whnf) | refine .mk ?_ | refine .tt ?_ | refine .ff ?_ | refine .m2 ?_ | refine .m3 ?_ | refine .mk (fun hc=>?_) fun hc=>?_ | refine .lp fun v H lp=>?_ | fail))
 refine .p h1 ?_
 (repeat' (first | (refine Rn.go ?_;conv=>whnf) | refine .mk ?_ | refine .tt ?_ | refine .ff ?_ | refine .m2 ?_ | refine .m3 ?_ | refine .mk (fun hc=>?_) fun hc=>?_ | refine .lp fun v H lp=>?_ | fail))
 ·have hl0:sysV l=0:=by omega
  obtain ⟨hln,hlz⟩:=sysV_zero hl0
  refine .p h2 ?_
  (repeat' (first | (refine Rn.go ?_;conv=>whnf) | refine .mk ?_ | refine .tt ?_ | refine .ff ?_ | refine .m2 ?_ | refine .m3 ?_ | refine .mk (fun hc=>?_) fun hc=>?_ | refine .lp fun v H lp=>?_ | fail))
  ·have hS:subV S=0:=by omega
   have hi1:demsE S l≠0→instE l S=demsE S l:=fun h=>by rw [instE,if_neg (by omega),if_neg (by omega),if_pos h]
   have hi2:demsE S l=0→instE l S=sysV (l.map (demP S)):=fun h=>by rw [instE,if_neg (by omega),if_neg (by omega),if_neg (by omega)]
   refine LpX.zip T6 l (fun p q L H=>∃ v,L=[(0,.snap false (encDs l)),(1,.snap false (encBs S)),(8,v),(9,.int .i64 p.length)]∧HV H∧Out 5 H v (encDs (p.map (demP S)))∧∀ u∈p,demE S u=0) (.nx ⟨_,rfl,HV.nil,.inl ⟨rfl,rfl⟩,by simp⟩) ?_ ?_
   ·rintro p u q _ H ρ e ⟨v,rfl,hH,ho,hp⟩
    have hat:=at_encDs e
    have hl2:=congrArg List.length e
    simp only [List.length_append,List.length_cons] at hl2
    obtain ⟨hz1,hz2⟩:=hlz u (by rw [e];simp)
    have hra:=rap_fun S hS u (by omega) (fun t ht=>by have:=right_bulk (hz2 t ht);omega)
    have hx:demE S u≠0→demsE S l=demE S u:=demsE_at e hp
    have hz:=rapD_zero (S:=S) (d:=u)
    have hbad:demE S u≠0→instE l S=demE S u∧instL l S=[]:=fun h=>by
     have h3:=hx h
     have h4:=hi1 (by rw [h3];exact h)
     rw [h3] at h4
     exact ⟨h4,by rw [instL,if_pos (by rw [h4];exact h)]⟩
    obtain ⟨w,hw⟩:∃ w,w=rapD S u:=⟨_,rfl⟩
    rw [← hw] at hra hz
    rw [encD_x u,encD_x w] at hra
    have hlm:=encDs_len (p.map (demP S))
    rw [List.length_map] at hlm
    have ho2:=ho.app [⟨.m,0,5,[.agg [.snap false (encs w.kn),.int .i64 w.tm.k,.str w.tm.s,.int .i64 w.tm.o,.snap false (encs w.tm.l)]]⟩]
    have hH3:HV (H++[⟨.m,0,5,[.agg [.snap false (encs w.kn),.int .i64 w.tm.k,.str w.tm.s,.int .i64 w.tm.o,.snap false (encs w.tm.l)]]⟩]):=hH.app (HV.one (by simp))
    (repeat' (first | (refine Rn.go ?_;conv=>whnf) | refine .mk ?_ | refine .tt ?_ | refine .ff ?_ | refine .m2 ?_ | refine .m3 ?_ | refine .mk (fun hc=>?_) fun hc=>?_ | refine .lp fun v H lp=>?_ | fail))
    refine .p hra ?_
    (repeat' (first | (refine Rn.go ?_;conv=>whnf) | refine .mk ?_ | refine .tt ?_ | refine .ff ?_ | refine .m2 ?_ | refine .m3 ?_ | refine .mk (fun hc=>?_) fun hc=>?_ | refine .lp fun v H lp=>?_ | fail))
    ·have hd0:demE S u=0:=by omega
     have hww:=hz hd0
     refine .nx ⟨_,rfl,lp.hv,?_,fun x hx=>by rcases List.mem_append.1 hx with h | h;exact hp x h;simp at h;rw [h];exact hd0⟩
     have:=lp.out
     have e9:encDs (p.map (demP S))++[.agg [.snap false (encs w.kn),.int .i64 w.tm.k,.str w.tm.s,.int .i64 w.tm.o,.snap false (encs w.tm.l)]]=encDs ((p++[u]).map (demP S)):=by rw [List.map_append,encDs_app,hww];rfl
     rw [← e9]
     exact this
    ·obtain ⟨q1,q2⟩:=hbad (by omega)
     exact ⟨_,rfl,by rw [q1,q2];rfl⟩
   ·rintro _ H ρ ⟨v,rfl,hH,ho,hp⟩
    have hi3:=hi2 (demsE_none hp)
    have hcv:=rVal_fun (l.map (demP S)) (by simp;omega) (fun d hd=>by
     obtain ⟨u,hu,rfl⟩:=List.mem_map.1 hd
     refine ⟨?_,fun t ht=>by have:=(demE_zero (hp u hu)).2.2 t ht;omega⟩
     simp only [demP,putTs_len]
     have:=(hlz u hu).1
     omega)
    (repeat' (first | (refine Rn.go ?_;conv=>whnf) | refine .mk ?_ | refine .tt ?_ | refine .ff ?_ | refine .m2 ?_ | refine .m3 ?_ | refine .mk (fun hc=>?_) fun hc=>?_ | refine .lp fun v H lp=>?_ | fail))
    refine .plS (.inl ho) hcv ?_
    (repeat' (first | (refine Rn.go ?_;conv=>whnf) | refine .mk ?_ | refine .tt ?_ | refine .ff ?_ | refine .m2 ?_ | refine .m3 ?_ | refine .mk (fun hc=>?_) fun hc=>?_ | refine .lp fun v H lp=>?_ | fail))
    ·have hz:instE l S=0:=by omega
     have hL:instL l S=l.map (demP S):=by rw [instL,if_neg (by omega)]
     rw [hz,hL]
     exact Ls.ret2 (.inl ho)
    ·have hz:instL l S=[]:=by rw [instL,if_pos (by omega)]
     exact ⟨_,rfl,by rw [hz,hi3];rfl⟩
  ·have hi:instE l S=subV S:=by rw [instE,if_neg (by omega),if_pos (by omega)]
   exact ⟨_,rfl,by rw [instL,if_pos (by omega),hi];rfl⟩
 ·have hi:instE l S=sysV l:=by rw [instE,if_pos (by omega)]
  exact ⟨_,rfl,by rw [instL,if_pos (by omega),hi];rfl⟩
theorem dsame_fun (a:List Dem) (hl:a.length<1000000000) (hb:∀ d∈a,d.kn.length<10000000∧∀ t∈d.kn++[d.tm],bulk t<10000000):Fun C 27 [.snap false (encDs a),.snap false (encDs a)] (.bool true):=by
 have hel:=encDs_len a
 refine Fun.x T6 Tryz.func27 rfl ?_
 (repeat' (first | (refine Rn.go ?_;conv=>whnf) | refine .mk ?_ | refine .tt ?_ | refine .ff ?_ | refine .m2 ?_ | refine .m3 ?_ | refine .mk (fun hc=>?_) fun hc=>?_ | refine .lp fun v H lp=>?_ | fail))
 refine LpX.zip T6 a (fun p q L H=>L=[(0,.snap false (encDs a)),(1,.snap false (encDs a)),(5,.int .i64 p.length)]∧H=[]) (.nx ⟨rfl,rfl⟩) ?_ ?_
 ·rintro p d q _ _ ρ e ⟨rfl,rfl⟩
  have hat:=at_encDs e
  have hl2:=congrArg List.length e
  simp only [List.length_append,List.length_cons] at hl2
  obtain ⟨hd1,hd2⟩:=hb d (by rw [e];simp)
  have hbk:∀ t∈d.kn,bulk t<1000000000:=fun t ht=>by have:=hd2 t (by simp [ht]);omega
  have hbt:bulk d.tm<1000000000:=by have:=hd2 d.tm (by simp);omega
  have hli:=rlists_fun d.kn d.kn (by omega) (by omega) hbk hbk rfl
  have hsa:=(rsame_fun d.tm d.tm hbt hbt).nine
  rw [enc_x,decide_eq_true (cmpT_self d.tm)] at hsa
  (repeat' (first | (refine Rn.go ?_;conv=>whnf) | refine .mk ?_ | refine .tt ?_ | refine .ff ?_ | refine .m2 ?_ | refine .m3 ?_ | refine .mk (fun hc=>?_) fun hc=>?_ | refine .lp fun v H lp=>?_ | fail))
  refine .p hli ?_
  (repeat' (first | (refine Rn.go ?_;conv=>whnf) | refine .mk ?_ | refine .tt ?_ | refine .ff ?_ | refine .m2 ?_ | refine .m3 ?_ | refine .mk (fun hc=>?_) fun hc=>?_ | refine .lp fun v H lp=>?_ | fail))
  refine .p hsa ?_
  (repeat' (first | (refine Rn.go ?_;conv=>whnf) | refine .mk ?_ | refine .tt ?_ | refine .ff ?_ | refine .m2 ?_ | refine .m3 ?_ | refine .mk (fun hc=>?_) fun hc=>?_ | refine .lp fun v H lp=>?_ | fail))
  exact .nx ⟨rfl,rfl⟩
 ·rintro _ _ ρ ⟨rfl,rfl⟩
  (repeat' (first | (refine Rn.go ?_;conv=>whnf) | refine .mk ?_ | refine .tt ?_ | refine .ff ?_ | refine .m2 ?_ | refine .m3 ?_ | refine .mk (fun hc=>?_) fun hc=>?_ | refine .lp fun v H lp=>?_ | fail))
  exact ⟨_,rfl,rfl⟩
end Go.Pm.Nine
end
section
set_option maxRecDepth 4000
namespace Go.Pm
theorem ap_ev {C:Cfg} (T:Tab C.P) {H:AHeap} {st xt el el':TypeId} {sz by':Nat} {z v:PV} {full:Bool} {es ys:List PV} (hk:T.kd st=some (.sl el)) (hk':T.kd xt=some (.sl el')) (hs:T.ts el=some (sz+1)) (hb:T.tb el=some by') (hz:T.tz el=some z) (hby:by'≤1000) (hl:(cells z).length=sz+1) (ho:(cells z).all oneC=true)
  (o:Out (sz+1) H v es) (hy:esOk (sz+1) ys) (hn:es.length+ys.length<1000000000) (hes:isVals es=true) (hys:isVals ys=true) (hH:HV H) :
  ∃ r H',appendP C.P 2 H st xt v (.snap full ys)=some (r,H')∧Out (sz+1) H' r (es++ys)∧HV H'∧H.length≤H'.length∧(∀ (j:Nat) (o:AObj),H[j]?=some o→o.mu≠.m→H'[j]?=some o)∧∀ (j:Nat) (o:AObj),H'[j]?=some o→o.mu≠.l∨H[j]?=some o:=by
 by_cases hne:ys=[]
 ·subst hne
  refine ⟨v,H,?_,by simpa using o,hH,Nat.le_refl _,fun _ _ h _=>h,fun _ _ h=>.inr h⟩
  unfold esOk at hy
  unfold appendP
  rw [kd_sl (T.hkd _ _ hk)]
  simp only [T.hts _ _ hs,T.htb _ _ hb,T.htz _ _ hz,appendee,kd_sl (T.hkd _ _ hk'),elems]
  rw [if_pos ⟨by omega,by omega,⟨hl,ho⟩,hy⟩]
  rcases o with ⟨rfl,_⟩ | ⟨id,ep,rfl,e⟩
  ·simp
  ·simp only [getM_at e rfl (by simp:Mu.m≠Mu.x)]
   rw [if_pos ⟨by simp,trivial⟩]
   simp
 ·have hne2:ys.isEmpty=false:=by cases ys with | nil=>exact absurd rfl hne | cons=>rfl
  rcases o with ⟨rfl,rfl⟩ | ⟨id,ep,rfl,e⟩
  ·refine ⟨_,_,appendP_new T (h:=H) (lv:=2) (full:=full) (by omega) hk hk' hs hb hz hby hl ho hy hne2 (by simpa using hn),.inr ⟨H.length,0,by simp,by simp⟩,hH.app (HV.one hys),by simp,fun j o h _=>by rw [List.getElem?_append_left (lt_of_some h)];exact h,fun j o h=>?_⟩
   by_cases hj:j<H.length
   ·rw [List.getElem?_append_left hj] at h;exact .inr h
   ·have hlt:=lt_of_some h
    simp at hlt
    have:j=H.length:=by omega
    subst this
    simp at h
    subst h
    exact .inl (by simp)
  ·have hlt:=lt_of_some e
   have:=appendP_m T (h:=H) (full:=full) (len:=es.length) hk hk' hs hb hz hby hl ho hy hne2 hn (getM_at e rfl (by simp)) rfl rfl (Nat.le_refl _)
   rw [List.take_length] at this
   refine ⟨_,_,this,.inr ⟨id,ep+1,by simp,List.getElem?_set_self hlt⟩,hH.set id (by simp) (by simp [isVals_eq] at hes hys ⊢;exact ⟨hes,hys⟩),by simp,fun j o h hm=>?_,fun j o h=>?_⟩
   ·by_cases hj:j=id
    ·subst hj;rw [e] at h;cases h;exact absurd rfl hm
    ·rw [List.getElem?_set_ne (by omega)];exact h
   ·by_cases hj:j=id
    ·subst hj;rw [List.getElem?_set_self hlt] at h;cases h;exact .inl (by simp)
    ·rw [List.getElem?_set_ne (by omega)] at h;exact .inr h
section
variable {C:Cfg} (T:Tab C.P) {run:Run} {ops:Array Oper} {b:List Nat} {h0:AHeap} {i:Nat} {L:Al} {ρ:Nat→PV} {h:AHeap}
theorem evK {o:Oper} {r:List Oper} {s s':St} (e:opStepK C run ops b h0 i o s=some s'):evalOpsK C run ops b h0 i (o::r) s=evalOpsK C run ops b h0 (i+1) r s':=by rw [evalOpsK,e]
theorem kP {d:Nat} {op:Op} {v:PV} {y:TypeId} {s:String} {a:Array Edge} (hs:stepP T op L (fun x=>x=v)):opStepK C run ops b h0 i ⟨some d,op,y,s,a,none⟩ ⟨al L ρ,h⟩=some ⟨al ((d,v)::L) ρ,h⟩:=by
 obtain ⟨hh,v',e,rfl⟩:=stepP_out T hs
 unfold opStepK
 simp only [wantedA,hh,if_true,e,al_cons]
theorem kR {d:Nat} {op:Op} {v:PV} {y:TypeId} {s:String} {a:Array Edge} (hs:stepR T op L h (fun x=>x=v)) (hg:rdId op (al L ρ)=none) (hr:isRdK op=true:=by rfl):opStepK C run ops b h0 i ⟨some d,op,y,s,a,none⟩ ⟨al L ρ,h⟩=some ⟨al ((d,v)::L) ρ,h⟩:=by
 obtain ⟨hh,v',e,rfl⟩:=stepR_out T hs
 refine kRd hh hr (by simp only [rdGate,hg]) ?_
 have:=e run 1 ρ
 cases op <;> first | exact this | (cases hr)
end
theorem stBs {C:Cfg} (T:Tab C.P) {L:Al} {ρ:Nat→PV} {M:AHeap} {t:TypeId} {n:Nat} {ps:Array (Nat × Operand)} {vs:List PV} (x:litX T t n ps.toList L (fun _ es=>es=vs)) (hv:isVals vs=true):stepOp C.P 1 (.buildSlice t n ps) (al L ρ) M=some (.snap true vs,M):=by
 obtain ⟨sz,es,rfl,e⟩:=litX_out T x
 have:=e ρ M 1
 rw [if_pos hv] at this
 simpa only [stepOp] using this
theorem calm_plain {C:Cfg} {ops:Array Oper} {L L':Al} {H h':AHeap} (hlk:∀ ρ,lockIds ops (before ops) (al L ρ)=[]) (hsk:sinks ops (before ops)=none) (hno:∀ (j:Nat) (o:AObj),h'[j]?=some o→o.mu≠.l∨H[j]?=some o)
  (hev:∀ run ρ,evalOpsK C run ops (before ops) H 0 ops.toList ⟨al L ρ,H⟩=some ⟨al L' ρ,h'⟩):∀ run ρ,calmD C run ops ⟨al L ρ,H⟩=some ⟨al L' ρ,h'⟩:=by
 intro run ρ
 have h1:∀ x:AHeap,lockL [] x=x:=fun x=>by
  apply List.ext_getElem?
  intro i
  rw [lockL_get]
  simp
 have h2:openL [] H h'=h':=by
  apply List.ext_getElem?
  intro i
  rw [openL_get]
  simp
 unfold calmD
 rw [hlk,h1,hev]
 dsimp only
 have hn:noLock [] H h'=true:=noLock_of fun j o h=>by
  rcases hno j o h with h | h
  ·exact .inl h
  ·exact .inr (.inr h)
 rw [if_pos ⟨hn,by simp only [sinkOk,hsk]⟩,h2]
end Go.Pm
end
section
set_option maxRecDepth 4000
namespace Go.Pm.Nine
open Go.Proofs
attribute [local irreducible] thenQ blockQ loopQ bodyQ Ev EvOps CallEv FnEv EvD encSys
def dsum (l:List Dem):Nat:=(l.map fun d=>bulks d.kn+bulk d.tm+2).sum
def bsum (s:List Bdg):Nat:=(s.map fun b=>bulk b.v+bulk b.t+1).sum
def termsD (l:List Dem):List Tm:=l.flatMap fun d=>d.kn++[d.tm]
def termsB (s:List Bdg):List Tm:=s.flatMap fun b=>[b.v,b.t]
theorem dsum_cons (d:Dem) (l:List Dem):dsum (d::l)=bulks d.kn+bulk d.tm+2+dsum l:=by simp [dsum]
theorem bsum_cons (b:Bdg) (s:List Bdg):bsum (b::s)=bulk b.v+bulk b.t+1+bsum s:=by simp [bsum]
theorem dsum_mem {d:Dem}:∀ {l:List Dem},d∈l→bulks d.kn+bulk d.tm+2≤dsum l
 | u::l,h=>by
  rw [dsum_cons]
  rcases List.mem_cons.1 h with rfl | h
  ·omega
  ·have:=dsum_mem h;omega
theorem bsum_mem {b:Bdg}:∀ {l:List Bdg},b∈l→bulk b.v+bulk b.t+1≤bsum l
 | u::l,h=>by
  rw [bsum_cons]
  rcases List.mem_cons.1 h with rfl | h
  ·omega
  ·have:=bsum_mem h;omega
theorem dsum_len:∀ (l:List Dem),l.length≤dsum l
 | []=>by simp
 | d::l=>by have:=dsum_len l;rw [dsum_cons,List.length_cons];omega
theorem bsum_len:∀ (l:List Bdg),l.length≤bsum l
 | []=>by simp
 | d::l=>by have:=bsum_len l;rw [bsum_cons,List.length_cons];omega
theorem bulks_one (t:Tm):bulks [t]=bulk t:=by simp [bulks]
theorem termsD_bulk:∀ (l:List Dem),bulks (termsD l)≤dsum l
 | []=>by simp [termsD,bulks]
 | d::l=>by
  have:=termsD_bulk l
  rw [dsum_cons]
  simp only [termsD,List.flatMap_cons,bulks_app,bulks_one] at this ⊢
  omega
theorem termsB_bulk:∀ (l:List Bdg),bulks (termsB l)≤bsum l
 | []=>by simp [termsB,bulks]
 | d::l=>by
  have:=termsB_bulk l
  rw [bsum_cons]
  simp only [termsB,List.flatMap_cons,bulks_app,bulks] at this ⊢
  omega
theorem rterms_fun (l:List Dem) (hl:dsum l<100000000):Fun C 22 [.snap false (encDs l)] (.snap false (encs (termsD l))):=by
 have hel:=encDs_len l
 have hdl:=dsum_len l
 refine Fun.x T6 Tryz.func22 rfl ?_
 (repeat' (first | (refine Rn.go ?_;conv=>whnf) | refine .mk ?_ | refine .tt ?_ | refine .ff ?_ | refine .m2 ?_ | refine .m3 ?_ | refine .mk (fun hc=>?_) fun hc=>?_ | refine .lp fun v H lp=>?_ | fail))
 refine LpX.zip T6 l (fun p q L H=>∃ v,L=[(0,.snap false (encDs l)),(3,v),(4,.int .i64 p.length)]∧HV H∧Out 4 H v (encs (termsD p))) (.nx ⟨_,rfl,HV.nil,.inl ⟨rfl,rfl⟩⟩) ?_ ?_
 ·rintro p d q _ H ρ e ⟨v,rfl,hH,ho⟩
  have hat:=at_encDs e
  have hl2:=congrArg List.length e
  simp only [List.length_append,List.length_cons] at hl2
  have hap:termsD l=termsD p++(d.kn++[d.tm])++termsD q:=by rw [e];simp [termsD]
  have hbk:=termsD_bulk l
  have hlb:=len_bulks (termsD l)
  have hln:=congrArg List.length hap
  simp only [List.length_append,List.length_cons,List.length_nil] at hln
  have hle:=encs_len (termsD p)
  have hlk:=encs_len d.kn
  have hvd:isVals [PV.agg [.int .i64 d.tm.k,.str d.tm.s,.int .i64 d.tm.o,.snap false (encs d.tm.l)]]=true:=by simp
  have e9:[.agg [.int .i64 d.tm.k,.str d.tm.s,.int .i64 d.tm.o,.snap false (encs d.tm.l)]]=encs [d.tm]:=by rw [encs,← enc_x];rfl
  obtain ⟨r1,H1,a1,o1,v1,l1,k1,n1⟩:=ap_ev T6 (st:=31) (xt:=31) (full:=false) (es:=encs (termsD p)) (ys:=encs d.kn) rfl rfl rfl rfl rfl (by decide) rfl rfl ho (esOk_encs _) (by omega) (by simp) (by simp) hH
  have hl1:(encs (termsD p)++encs d.kn).length=(termsD p).length+d.kn.length:=by rw [List.length_append];omega
  obtain ⟨r2,H2,a2,o2,v2,l2,k2,n2⟩:=ap_ev T6 (st:=31) (xt:=31) (full:=true) (es:=encs (termsD p)++encs d.kn) (ys:=[.agg [.int .i64 d.tm.k,.str d.tm.s,.int .i64 d.tm.o,.snap false (encs d.tm.l)]]) rfl rfl rfl rfl rfl (by decide) rfl rfl o1 rfl (by rw [hl1];simp;omega) (by rw [isVals_app];simp) hvd v1
  (repeat' (first | (refine Rn.go ?_;conv=>whnf) | refine .mk ?_ | refine .tt ?_ | refine .ff ?_ | refine .m2 ?_ | refine .m3 ?_ | refine .mk (fun hc=>?_) fun hc=>?_ | refine .lp fun v H lp=>?_ | fail))
  refine .calm ?_ H2 (calm_plain (fun _=>rfl) rfl (fun j o h=>?_) (fun run ρ=>?_)) ?_
  rotate_left
  ·rcases n2 j o h with h | h
   ·exact .inl h
   ·exact n1 j o h
  ·refine (evK (kP T6 (by exact rfl))).trans ?_
   refine (evK (kP T6 (by exact rfl))).trans ?_
   refine (evK (kP T6 (by exact rfl))).trans ?_
   refine (evK (kR T6 (by (conv=>whnf);exact .mk (n:=p.length) ⟨rfl⟩ rfl hat rfl) rfl)).trans ?_
   refine (evK (kP T6 (by exact rfl))).trans ?_
   refine (evK (kR T6 (by exact rfl) rfl)).trans ?_
   refine (evK (kWr rfl rfl rfl rfl (opAp rfl rfl a1) l1 k1)).trans ?_
   refine (evK (kP T6 (by exact rfl))).trans ?_
   refine (evK (kP T6 (by exact rfl))).trans ?_
   refine (evK (kR T6 (by (conv=>whnf);exact .mk (n:=p.length) ⟨rfl⟩ rfl hat rfl) rfl)).trans ?_
   refine (evK (kP T6 (by exact rfl))).trans ?_
   refine (evK (kR T6 (by exact rfl) rfl)).trans ?_
   refine (evK (kBs rfl rfl rfl (stBs T6 (by exact rfl) hvd))).trans ?_
   refine (evK (kWr rfl rfl rfl rfl (opAp rfl rfl a2) l2 k2)).trans ?_
   refine (evK (kP T6 (by exact rfl))).trans ?_
   exact rfl
  ·(repeat' (first | (refine Rn.go ?_;conv=>whnf) | refine .mk ?_ | refine .tt ?_ | refine .ff ?_ | refine .m2 ?_ | refine .m3 ?_ | refine .mk (fun hc=>?_) fun hc=>?_ | refine .lp fun v H lp=>?_ | fail))
   refine .nx ⟨_,rfl,v2,?_⟩
   rw [e9,← encs_app,← encs_app] at o2
   rw [show termsD (p++[d])=termsD p++d.kn++[d.tm] by simp [termsD]]
   exact o2
 ·rintro _ H ρ ⟨v,rfl,hH,ho⟩
  (repeat' (first | (refine Rn.go ?_;conv=>whnf) | refine .mk ?_ | refine .tt ?_ | refine .ff ?_ | refine .m2 ?_ | refine .m3 ?_ | refine .mk (fun hc=>?_) fun hc=>?_ | refine .lp fun v H lp=>?_ | fail))
  exact Ls.ret1 (.inl ho) (by simp) (by simp)
def dfew (l:List Dem) (n:Int):Bool:=if 42<l.length then false else if l.any (fun d=>decide (45<d.kn.length))=true then false else few (termsD l) 700 n
theorem dfew_fun (l:List Dem) (n:Int) (hn:n<1000000000) (hl:dsum l<100000000):Fun C 12 [.snap false (encDs l),.int .i64 n] (.bool (dfew l n)):=by
 have hel:=encDs_len l
 have hdl:=dsum_len l
 have h1:=rterms_fun l hl
 have h2:=(few_fun (termsD l) (by have:=termsD_bulk l;omega) 700 n hn).nine
 refine Fun.x T6 Tryz.func12 rfl ?_
 (repeat' (first | (refine Rn.go ?_;conv=>whnf) | refine .mk ?_ | refine .tt ?_ | refine .ff ?_ | refine .m2 ?_ | refine .m3 ?_ | refine .mk (fun hc=>?_) fun hc=>?_ | refine .lp fun v H lp=>?_ | fail))
 ·exact ⟨_,rfl,by rw [dfew,if_pos (by omega)];rfl⟩
 refine LpX.zip T6 l (fun p q L H=>L=[(0,.snap false (encDs l)),(1,.int .i64 n),(5,.int .i64 p.length)]∧H=[]∧∀ d∈p,¬ 45<d.kn.length) (.nx ⟨rfl,rfl,by simp⟩) ?_ ?_
 ·rintro p d q _ _ ρ e ⟨rfl,rfl,hp⟩
  have hat:=at_encDs e
  have hl2:=congrArg List.length e
  simp only [List.length_append,List.length_cons] at hl2
  have hlk:=encs_len d.kn
  (repeat' (first | (refine Rn.go ?_;conv=>whnf) | refine .mk ?_ | refine .tt ?_ | refine .ff ?_ | refine .m2 ?_ | refine .m3 ?_ | refine .mk (fun hc=>?_) fun hc=>?_ | refine .lp fun v H lp=>?_ | fail))
  ·exact ⟨_,rfl,by rw [dfew,if_neg (by omega),if_pos (List.any_eq_true.2 ⟨d,by rw [e];simp,decide_eq_true (by omega)⟩)];rfl⟩
  ·exact .nx ⟨rfl,rfl,fun w hw=>by rcases List.mem_append.1 hw with h | h;exact hp w h;simp at h;rw [h];omega⟩
 ·rintro _ _ ρ ⟨rfl,rfl,hp⟩
  have ha:l.any (fun d=>decide (45<d.kn.length))=false:=by
   rw [List.any_eq_false]
   intro d hd
   simpa using hp d hd
  have hd:dfew l n=few (termsD l) 700 n:=by rw [dfew,if_neg (by omega),if_neg (by rw [ha];simp)]
  (repeat' (first | (refine Rn.go ?_;conv=>whnf) | refine .mk ?_ | refine .tt ?_ | refine .ff ?_ | refine .m2 ?_ | refine .m3 ?_ | refine .mk (fun hc=>?_) fun hc=>?_ | refine .lp fun v H lp=>?_ | fail))
  refine .p h1 ?_
  (repeat' (first | (refine Rn.go ?_;conv=>whnf) | refine .mk ?_ | refine .tt ?_ | refine .ff ?_ | refine .m2 ?_ | refine .m3 ?_ | refine .mk (fun hc=>?_) fun hc=>?_ | refine .lp fun v H lp=>?_ | fail))
  refine .p h2 ?_
  (repeat' (first | (refine Rn.go ?_;conv=>whnf) | refine .mk ?_ | refine .tt ?_ | refine .ff ?_ | refine .m2 ?_ | refine .m3 ?_ | refine .mk (fun hc=>?_) fun hc=>?_ | refine .lp fun v H lp=>?_ | fail))
  exact ⟨_,rfl,by rw [hd];rfl⟩
theorem termsB_len:∀ (s:List Bdg),(termsB s).length=2 * s.length
 | []=>rfl
 | b::s=>by
  have:=termsB_len s
  simp only [termsB,List.flatMap_cons,List.length_append,List.length_cons,List.length_nil] at this ⊢
  omega
theorem sfew_fun (s:List Bdg) (n m:Int) (hn:0≤n) (hn2:n<1000000) (hm:m<1000000000) (hl:bsum s<100000000):Fun C 47 [.snap false (encBs s),.int .i64 n,.int .i64 m] (.bool (few (termsB s) (2 * n) m)):=by
 have hel:=encBs_len s
 have hdl:=bsum_len s
 have h2:=(few_fun (termsB s) (by have:=termsB_bulk s;omega) (2 * n) m hm).nine
 refine Fun.x T6 Tryz.func47 rfl ?_
 (repeat' (first | (refine Rn.go ?_;conv=>whnf) | refine .mk ?_ | refine .tt ?_ | refine .ff ?_ | refine .m2 ?_ | refine .m3 ?_ | refine .mk (fun hc=>?_) fun hc=>?_ | refine .lp fun v H lp=>?_ | fail))
 refine LpX.zip T6 s (fun p q L H=>∃ v,L=[(0,.snap false (encBs s)),(1,.int .i64 n),(2,.int .i64 m),(7,v),(8,.int .i64 p.length)]∧HV H∧Out 4 H v (encs (termsB p))) (.nx ⟨_,rfl,HV.nil,.inl ⟨rfl,rfl⟩⟩) ?_ ?_
 ·rintro p b q _ H ρ e ⟨v,rfl,hH,ho⟩
  have hat:=at_encBs e
  have hl2:=congrArg List.length e
  simp only [List.length_append,List.length_cons] at hl2
  have hle:=encs_len (termsB p)
  have htl:=termsB_len p
  have e9:encs (termsB p)++[.agg [.int .i64 b.v.k,.str b.v.s,.int .i64 b.v.o,.snap false (encs b.v.l)],.agg [.int .i64 b.t.k,.str b.t.s,.int .i64 b.t.o,.snap false (encs b.t.l)]]=encs (termsB (p++[b])):=by
   rw [show termsB (p++[b])=termsB p++[b.v,b.t] by simp [termsB],encs_app,← enc_x,← enc_x];rfl
  (repeat' (first | (refine Rn.go ?_;conv=>whnf) | refine .mk ?_ | refine .tt ?_ | refine .ff ?_ | refine .m2 ?_ | refine .m3 ?_ | refine .mk (fun hc=>?_) fun hc=>?_ | refine .lp fun v H lp=>?_ | fail))
  refine .nx ⟨_,rfl,lp.hv,?_⟩
  have:=lp.out
  rw [e9] at this
  exact this
 ·rintro _ H ρ ⟨v,rfl,hH,ho⟩
  (repeat' (first | (refine Rn.go ?_;conv=>whnf) | refine .mk ?_ | refine .tt ?_ | refine .ff ?_ | refine .m2 ?_ | refine .m3 ?_ | refine .mk (fun hc=>?_) fun hc=>?_ | refine .lp fun v H lp=>?_ | fail))
  refine .plS (.inl ho) h2 ?_
  (repeat' (first | (refine Rn.go ?_;conv=>whnf) | refine .mk ?_ | refine .tt ?_ | refine .ff ?_ | refine .m2 ?_ | refine .m3 ?_ | refine .mk (fun hc=>?_) fun hc=>?_ | refine .lp fun v H lp=>?_ | fail))
  exact ⟨_,rfl,rfl⟩
theorem lfew_fun (s:List Bdg) (hl:bsum s<100000000):Fun C 13 [.snap false (encBs s)] (.bool (few (termsB s) (2 * 20) 300)):=by
 have h1:=sfew_fun s 20 300 (by omega) (by omega) (by omega) hl
 refine Fun.x T6 Tryz.func13 rfl ?_
 (repeat' (first | (refine Rn.go ?_;conv=>whnf) | refine .mk ?_ | refine .tt ?_ | refine .ff ?_ | refine .m2 ?_ | refine .m3 ?_ | refine .mk (fun hc=>?_) fun hc=>?_ | refine .lp fun v H lp=>?_ | fail))
 refine .p h1 ?_
 (repeat' (first | (refine Rn.go ?_;conv=>whnf) | refine .mk ?_ | refine .tt ?_ | refine .ff ?_ | refine .m2 ?_ | refine .m3 ?_ | refine .mk (fun hc=>?_) fun hc=>?_ | refine .lp fun v H lp=>?_ | fail))
 exact ⟨_,rfl,rfl⟩
end Go.Pm.Nine
end
section
set_option maxRecDepth 4000
namespace Go.Pm
theorem frz:∀ (ids:List Nat) (h:AHeap),(∀ id∈ids,∃ o:AObj,h[id]?=some o∧isVals o.es=true∧(o.mu=.m∨o.mu=.f))→∃ h',freezes h ids=some h'
 | [],h,_=>⟨h,rfl⟩
 | id::r,h,hh=>by
  obtain ⟨o,h1,h2,h3⟩:=hh id (by simp)
  have hf:freeze1 h id=some (h.set id {o with mu:=.f }):=by simp only [freeze1,h1];rw [if_pos ⟨h2,h3⟩]
  obtain ⟨h',e⟩:=frz r (h.set id {o with mu:=.f }) fun j hj=>by
   obtain ⟨o',g1,g2,g3⟩:=hh j (by simp [hj])
   by_cases hji:id=j
   ·subst hji
    exact ⟨{o with mu:=.f },List.getElem?_set_self (lt_of_some h1),h2,.inr rfl⟩
   ·exact ⟨o',by rw [List.getElem?_set_ne hji];exact g1,g2,g3⟩
  exact ⟨h',by simp only [freezes,hf,e]⟩
theorem CallEv.any {C:Cfg} {f:FuncId} {args args':List PV} {h:AHeap} {rv:PV} {Q:PV→AHeap→Prop} (hb:rbAs h args=some args') (hnv:isVals args=false) (hids:∀ id∈idsOf args,∃ o:AObj,h[id]?=some o∧isVals o.es=true∧(o.mu=.m∨o.mu=.f)) (a:Fun C f (nrms args') rv) (q:∀ h',Q rv h') (hm:C.mode f=.pure:=by rfl):CallEv C 2 f args h Q:=by
 obtain ⟨n0,hn⟩:=a
 obtain ⟨hf,ef⟩:=frz _ _ hids
 refine ⟨rv,if (scal rv || frozenAll h (idsOf args))=true then h else hf,q _,n0,fun n h1=>?_⟩
 obtain ⟨r0,hc,r1,e1,e3,e4⟩:=hn n h1
 have hsc:scal r1=scal rv:=by have:=scal_nrm' r1;rw [e4] at this;exact this.symm
 unfold callF
 rw [hm]
 simp only [callPure,hnv,Bool.false_eq_true,if_false,hb,e1,e3,hsc,e4]
 split
 ·rfl
 ·simp [ef]
end Go.Pm
namespace Go.Pm.Nine
open Go.Proofs
attribute [local irreducible] thenQ blockQ loopQ bodyQ Ev EvOps CallEv FnEv EvD
@[simp] theorem esOk_encDs (l:List Dem):esOk 5 (encDs l):=by
 unfold esOk
 rw [List.all_eq_true]
 intro v hv
 obtain ⟨t,_,rfl⟩:=List.mem_map.1 hv
 rfl
@[simp] theorem esOk_encBs (l:List Bdg):esOk 8 (encBs l):=by
 unfold esOk
 rw [List.all_eq_true]
 intro v hv
 obtain ⟨t,_,rfl⟩:=List.mem_map.1 hv
 rfl
theorem clonePrim_any {sz:Nat} {es:List PV} (ho:esOk sz es) (hn:es.length<1000000000) (H:AHeap):∃ r H',clonePrim sz [.snap false es] H=some (r,H')∧Out sz H' r es∧(HV H→isVals es=true→HV H')∧(∀ (j:Nat) (o:AObj),H[j]?=some o→H'[j]?=some o):=by
 unfold clonePrim
 cases es with
 | nil=>exact ⟨.snap true [],H,rfl,.inl ⟨rfl,rfl⟩,fun h _=>h,fun _ _ h=>h⟩
 | cons x r=>
  unfold esOk at ho
  simp only [List.isEmpty_cons,Bool.false_eq_true,if_false]
  rw [if_pos ⟨ho,hn⟩]
  exact ⟨_,_,rfl,.inr ⟨H.length,0,rfl,by simp [newObj]⟩,fun h hv=>h.app (HV.one hv),fun j o h=>by rw [newObj,List.getElem?_append_left (lt_of_some h)];exact h⟩
end Go.Pm.Nine
end
section
set_option maxRecDepth 4000
namespace Go.Pm.Nine
open Go.Proofs
attribute [local irreducible] thenQ blockQ loopQ bodyQ Ev EvOps CallEv FnEv EvD encSys
theorem inst_bounds {l:List Dem} {S:List Bdg} (hl:l.length<1000000000):(instL l S).length<1000000000∧∀ d∈instL l S,d.kn.length<10000000∧∀ t∈d.kn++[d.tm],bulk t<10000000:=by
 by_cases h:instE l S=0
 ·have hL:instL l S=l.map (demP S):=by rw [instL,if_neg (by omega)]
  have h1:sysV (l.map (demP S))=0:=by
   unfold instE at h
   split at h
   ·rename_i hn;exact absurd h hn
   ·split at h
    ·rename_i hn;exact absurd h hn
    ·split at h
     ·rename_i hn;exact absurd h hn
     ·exact h
  obtain ⟨q1,q2⟩:=sysV_zero h1
  rw [hL]
  exact ⟨by omega,fun d hd=>⟨by have:=(q2 d hd).1;omega,fun t ht=>by have:=right_bulk ((q2 d hd).2 t ht);omega⟩⟩
 ·have hL:instL l S=[]:=by rw [instL,if_pos h]
  rw [hL]
  exact ⟨by simp,fun d hd=>by cases hd⟩
theorem lawInst_fun (l:List Dem) (S:List Bdg) (hl:dsum l<5000000) (hs:bsum S<5000000):Fun C 7 [.snap false (encDs l),.snap false (encBs S)] (.bool true):=by
 have hdl:=dsum_len l
 have hbl:=bsum_len S
 have hbd:∀ d∈l,d.kn.length<10000000∧∀ t∈d.kn++[d.tm],bulk t<10000000:=fun d hd=>by
  have h1:=dsum_mem hd
  have h2:=len_bulks d.kn
  refine ⟨by omega,fun t ht=>?_⟩
  rcases List.mem_append.1 ht with ht | ht
  ·have:=bulk_mem ht;omega
  ·simp at ht;subst ht;omega
 have hbb:∀ b∈S,bulk b.v<100000000∧bulk b.t<100000000:=fun b hb=>by have:=bsum_mem hb;omega
 have haw:=awk36_fun
 have f1:=dfew_fun l 400 (by omega) (by omega)
 have f2:=lfew_fun S (by omega)
 have m1:=pinst_fun l S (by omega) hbd (by omega) hbb
 have m2:=rinst_fun l S (by omega) hbd (by omega) hbb
 obtain ⟨q1,q2⟩:=inst_bounds (l:=l) (S:=S) (by omega)
 have s1:=dsame_fun (instL l S) q1 q2
 generalize instL l S=X at *
 generalize instE l S=e at *
 have hel:=encDs_len l
 have heb:=encBs_len S
 obtain ⟨r1,H1,a1,o1,v1,k1⟩:=clonePrim_any (esOk_encDs l) (by omega) []
 obtain ⟨r2,H2,a2,o2,v2,k2⟩:=clonePrim_any (esOk_encBs S) (by omega) H1
 refine Fun.x T6 Tryz.func7 rfl ?_
 (repeat' (first | (refine Rn.go ?_;conv=>whnf) | refine .mk ?_ | refine .tt ?_ | refine .ff ?_ | refine .m2 ?_ | refine .m3 ?_ | refine .mk (fun hc=>?_) fun hc=>?_ | refine .lp fun v H lp=>?_ | fail))
 refine .p haw ?_
 (repeat' (first | (refine Rn.go ?_;conv=>whnf) | refine .mk ?_ | refine .tt ?_ | refine .ff ?_ | refine .m2 ?_ | refine .m3 ?_ | refine .mk (fun hc=>?_) fun hc=>?_ | refine .lp fun v H lp=>?_ | fail))
 refine .p f1 ?_
 cases dfew l 400
 ·(repeat' (first | (refine Rn.go ?_;conv=>whnf) | refine .mk ?_ | refine .tt ?_ | refine .ff ?_ | refine .m2 ?_ | refine .m3 ?_ | refine .mk (fun hc=>?_) fun hc=>?_ | refine .lp fun v H lp=>?_ | fail))
  refine .p haw ?_
  (repeat' (first | (refine Rn.go ?_;conv=>whnf) | refine .mk ?_ | refine .tt ?_ | refine .ff ?_ | refine .m2 ?_ | refine .m3 ?_ | refine .mk (fun hc=>?_) fun hc=>?_ | refine .lp fun v H lp=>?_ | fail))
  exact ⟨_,rfl,rfl⟩
 ·(repeat' (first | (refine Rn.go ?_;conv=>whnf) | refine .mk ?_ | refine .tt ?_ | refine .ff ?_ | refine .m2 ?_ | refine .m3 ?_ | refine .mk (fun hc=>?_) fun hc=>?_ | refine .lp fun v H lp=>?_ | fail))
  refine .p f2 ?_
  cases few (termsB S) (2 * 20) 300
  ·(repeat' (first | (refine Rn.go ?_;conv=>whnf) | refine .mk ?_ | refine .tt ?_ | refine .ff ?_ | refine .m2 ?_ | refine .m3 ?_ | refine .mk (fun hc=>?_) fun hc=>?_ | refine .lp fun v H lp=>?_ | fail))
   refine .p haw ?_
   (repeat' (first | (refine Rn.go ?_;conv=>whnf) | refine .mk ?_ | refine .tt ?_ | refine .ff ?_ | refine .m2 ?_ | refine .m3 ?_ | refine .mk (fun hc=>?_) fun hc=>?_ | refine .lp fun v H lp=>?_ | fail))
   exact ⟨_,rfl,rfl⟩
  ·(repeat' (first | (refine Rn.go ?_;conv=>whnf) | refine .mk ?_ | refine .tt ?_ | refine .ff ?_ | refine .m2 ?_ | refine .m3 ?_ | refine .mk (fun hc=>?_) fun hc=>?_ | refine .lp fun v H lp=>?_ | fail))
   refine CallEv.primL rfl a1 ?_
   (repeat' (first | (refine Rn.go ?_;conv=>whnf) | refine .mk ?_ | refine .tt ?_ | refine .ff ?_ | refine .m2 ?_ | refine .m3 ?_ | refine .mk (fun hc=>?_) fun hc=>?_ | refine .lp fun v H lp=>?_ | fail))
   refine CallEv.primL rfl a2 ?_
   (repeat' (first | (refine Rn.go ?_;conv=>whnf) | refine .mk ?_ | refine .tt ?_ | refine .ff ?_ | refine .m2 ?_ | refine .m3 ?_ | refine .mk (fun hc=>?_) fun hc=>?_ | refine .lp fun v H lp=>?_ | fail))
   have o1':Out 5 H2 r1 (encDs l):=o1.of_eq fun i hi=>by
    have h1:=o1.vlt i hi
    have h2:H1[i]?=some H1[i]:=List.getElem?_eq_getElem h1
    rw [k2 i _ h2,h2]
   have tk1:List.take l.length (encDs l)=encDs l:=List.take_of_length_le (by omega)
   have tk2:List.take S.length (encBs S)=encBs S:=List.take_of_length_le (by omega)
   have key:CallEv C 2 25 [r1,r2] H2 (fun v h'=>v=.tup [.snap false (encDs X),.int .i64 e]):=by
    rcases o1' with ⟨rfl,g1⟩ | ⟨i1,p1,rfl,g1⟩ <;> rcases o2 with ⟨rfl,g2⟩ | ⟨i2,p2,rfl,g2⟩
    ·rw [g1,g2] at m1
     exact CallEv.pure rfl rfl (by simpa [nrms,nrm] using m1) rfl
    ·rw [g1] at m1
     refine CallEv.any (args':=[.snap true [],.snap false (encBs S)]) (by simp [rbAs,rbA,rb1,getM,g2,isVal,isVals,tk2]) rfl (fun id hid=>?_) (by simpa [nrms,nrm] using m1) (fun _=>rfl)
     simp [idsOf,cells,ids1] at hid
     subst hid
     exact ⟨_,g2,by simp,.inl rfl⟩
    ·rw [g2] at m1
     refine CallEv.any (args':=[.snap false (encDs l),.snap true []]) (by simp [rbAs,rbA,rb1,getM,g1,isVal,isVals,tk1]) rfl (fun id hid=>?_) (by simpa [nrms,nrm] using m1) (fun _=>rfl)
     simp [idsOf,cells,ids1] at hid
     subst hid
     exact ⟨_,g1,by simp,.inl rfl⟩
    ·refine CallEv.any (args':=[.snap false (encDs l),.snap false (encBs S)]) (by simp [rbAs,rbA,rb1,getM,g1,g2,tk1,tk2]) rfl (fun id hid=>?_) (by simpa [nrms,nrm] using m1) (fun _=>rfl)
     simp [idsOf,cells,ids1] at hid
     rcases hid with rfl | rfl
     ·exact ⟨_,g1,by simp,.inl rfl⟩
     ·exact ⟨_,g2,by simp,.inl rfl⟩
   refine key.mono (fun r h' hr=>?_)
   subst hr
   (repeat' (first | (refine Rn.go ?_;conv=>whnf) | refine .mk ?_ | refine .tt ?_ | refine .ff ?_ | refine .m2 ?_ | refine .m3 ?_ | refine .mk (fun hc=>?_) fun hc=>?_ | refine .lp fun v H lp=>?_ | fail))
   refine .p m2 ?_
   (repeat' (first | (refine Rn.go ?_;conv=>whnf) | refine .mk ?_ | refine .tt ?_ | refine .ff ?_ | refine .m2 ?_ | refine .m3 ?_ | refine .mk (fun hc=>?_) fun hc=>?_ | refine .lp fun v H lp=>?_ | fail))
   refine .p s1 ?_
   (repeat' (first | (refine Rn.go ?_;conv=>whnf) | refine .mk ?_ | refine .tt ?_ | refine .ff ?_ | refine .m2 ?_ | refine .m3 ?_ | refine .mk (fun hc=>?_) fun hc=>?_ | refine .lp fun v H lp=>?_ | fail))
   exact ⟨_,rfl,rfl⟩
end Go.Pm.Nine
end
