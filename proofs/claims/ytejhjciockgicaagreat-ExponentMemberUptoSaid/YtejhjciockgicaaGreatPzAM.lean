/-
  A part of the library Pm and its contracts (joined by program): PmSt2 PmCh PmKl PmSv PmPp PmRf PmChS PmAwk9 PmLawK PmLawN. Conditions: none.
-/
import Derived.Test.YtejhjciockgicaaGreatPzAL
import Derived.Test.YtejhjciockgicaaGreatPzAG
import Derived.Test.YtejhjciockgicaaGreatPzAH
set_option linter.unusedVariables false
set_option linter.unusedSimpArgs false
section
set_option maxRecDepth 4000
namespace Go.Pm
open Go.Proofs
theorem clone_fr {H:AHeap} {f:Bool} {es:List PV} (hH:HV H) (hv:isVals es=true) (he:esOk 1 es) (hl:es.length<1000000000):∃ v h',clonePrim 1 [.snap f es] H=some (v,h')∧Out 1 h' v es∧HV h'∧H.length≤h'.length∧(∀ j,j<H.length→h'[j]?=H[j]?)∧∀ j ep n,v=.mref j ep 0 n→H.length≤j:=by
 cases es with
 | nil=>exact ⟨.snap true [],H,rfl,.inl ⟨rfl,rfl⟩,hH,Nat.le_refl _,fun _ _=>rfl,fun _ _ _ h=>by cases h⟩
 | cons x r=>
  refine ⟨.mref H.length 0 0 (x::r).length,newObj H 1 (x::r),?_,.inr ⟨H.length,0,rfl,by simp [newObj]⟩,hH.app (HV.one hv),by simp [newObj],fun j hj=>List.getElem?_append_left hj,fun j ep n h=>by cases h;exact Nat.le_refl _⟩
  unfold clonePrim
  simp only [List.isEmpty_cons]
  rw [if_neg (by decide),if_pos]
  refine ⟨?_,hl⟩
  rw [List.all_eq_true]
  intro y hy
  have:=List.all_eq_true.1 he y hy
  simpa using this
theorem Lay.row {h h':AHeap} {x n k:Nat} {cv rv rv':PV} {Rs:List Rw} {R:Rw} (L:Lay h x cv rv (.snap true []) n k Rs [] false) (hr:HR h') (ex:h'[x]?=some ⟨.m,0,4,[.agg [cv,rv',.snap true [],.bool false]]⟩) (er:Out 1 h' rv' ((Rs++[R]).map Rw.ptr)) (f:∀ i∈Rs.flatMap Rw.ids,h'[i]?=h[i]?)
  (hR:RwAt h' R) (ha:R.a.length=n) (hb:R.b.length=k) (hv:∀ i∈vid rv',i∈vid rv∨(h.length≤i∧i∉R.ids)) (hi:∀ i∈R.ids,h.length≤i) (hn:R.ids.Nodup):Lay h' x cv rv' (.snap true []) n k (Rs++[R]) [] false:=by
 have lt:=L.lt
 have nd:=L.nd
 simp only [vid,List.nil_append] at nd
 rw [List.nodup_cons,List.nodup_append] at nd
 obtain ⟨n1,n2,n3,n4⟩:=nd
 simp only [Lay.all,vid,List.nil_append,List.mem_cons,List.mem_append] at lt
 simp only [List.mem_append,not_or] at n1
 refine ⟨hr,ex,er,.inl ⟨rfl,rfl⟩,fun Q hQ=>?_,?_⟩
 ·rcases List.mem_append.1 hQ with hQ | hQ
  ·exact ⟨(L.at_ Q hQ).1.of_eq fun i hi=>f i (List.mem_flatMap.2 ⟨Q,hQ,hi⟩),(L.at_ Q hQ).2⟩
  ·obtain rfl:=List.mem_singleton.1 hQ
   exact ⟨hR,ha,hb⟩
 ·simp only [vid,List.nil_append,List.flatMap_append,List.flatMap_cons,List.flatMap_nil,List.append_nil]
  rw [List.nodup_cons,List.nodup_append,List.nodup_append]
  refine ⟨?_,vid_nd _,⟨n3,hn,fun a h1 b h2 hh=>?_⟩,fun a h1 b h2 hh=>?_⟩
  ·simp only [List.mem_append,not_or]
   refine ⟨fun hh=>?_,n1.2,fun hh=>?_⟩
   ·rcases hv x hh with h1 | h1
    ·exact n1.1 h1
    ·have:=lt x (.inl rfl);omega
   ·have:=hi x hh;have:=lt x (.inl rfl);omega
  ·subst hh
   have:=hi a h2;have:=lt a (.inr (.inr h1));omega
  ·subst hh
   rcases hv a h1 with h3 | h3
   ·rcases List.mem_append.1 h2 with h2 | h2
    ·exact n4 a h3 a h2 rfl
    ·have:=hi a h2;have:=lt a (.inr (.inl h3));omega
   ·rcases List.mem_append.1 h2 with h2 | h2
    ·have:=lt a (.inr (.inr h2));omega
    ·exact h3.2 h2
def rowsN (cols:List Tm) (k:Nat) (p:List (List Pw)):List Row:=p.mapIdx fun i x=>(row0 cols k i x,false)
theorem rowsN_snoc (cols:List Tm) (k:Nat) (p:List (List Pw)) (x:List Pw):rowsN cols k (p++[x])=rowsN cols k p++[(row0 cols k p.length x,false)]:=by simp [rowsN,List.mapIdx_append]
structure StP (l:List (List Pw)) (m:List Pw) (N:Nat) (h:AHeap) (x:Nat) (rv pv:PV) (Rs:List Rw) (P:List Int) (lg:Bool) (T:Rw) (res:Option (List Row × List Int)):Prop where
 lay:Lay h x (.snap false (encs (facs (l++[m])))) rv pv (facs (l++[m])).length l.length Rs P lg
 at_:RwAt h T
 ta:T.a=(facs (l++[m])).map (pwr m)
 tb:T.b=List.replicate l.length 0
 td:∀ i∈T.ids,i∉Lay.all x rv pv Rs
 tn:T.ids.Nodup
 pl:P.length=(facs (l++[m])).length
 rl:Rs.length=l.length
 nn:res=none→lg=true
 rn:Rs=[]→rv=.snap true []
 ss:∀ S P',res=some (S,P')→lg=false∧Rs.map Rw.m=S∧P=P'∧∀ R∈Rs,small R.a=true∧small R.b=true
 ge:∀ i∈Lay.all x rv pv Rs++T.ids,N≤i
def startPost (l:List (List Pw)) (m:List Pw) (N:Nat) (res:Option (List Row × List Int)) (r:PV) (h:AHeap):Prop:=
 if gErr (l++[m])≠0 then r=.tup [.nilp,.nilp,.int .i64 (gErr (l++[m]))]
 else if 12<(facs (l++[m])).length then r=.tup [.nilp,.nilp,.int .i64 3]
 else ∃ x rv pv Rs P lg T,r=.tup [.ptr x 0 0 0,.ptr T.r 0 0 0,.int .i64 0]∧StP l m N h x rv pv Rs P lg T res
theorem Col.nil {c st:Nat} {r:Option (List Row × Int)} (h:Col c st [] r):r=some ([],-1):=by
 cases h with
 | zero=>rfl
 | one hb=>have:=hb.at_;simp at this
 | large hb=>have:=hb.at_;simp at this
 | step hb=>have:=hb.at_;simp at this
theorem Col.idx {c st:Nat} {S S':List Row} {r:Option (List Row × Int)} {i:Int} (h:Col c st S r):r=some (S',i)→i=-1∨0≤i:=by
 induction h with
 | zero=>rintro ⟨⟩;exact .inl rfl
 | one=>rintro ⟨⟩;exact .inr (by omega)
 | large=>rintro ⟨⟩
 | step _ _ _ _ ih=>exact ih
theorem row0_small {cols:List Tm} {k i:Nat} {x:List Pw} (h:validP x=0):small (row0 cols k i x)=true:=by
 unfold row0
 rw [small_app,Bool.and_eq_true]
 refine ⟨?_,?_⟩
 ·rw [small,List.all_map,List.all_eq_true]
  intro t _
  have:=pwr_bd (by omega) (validP_zero h).2.1 t
  show smallI _=true
  unfold smallI;rw [decide_eq_true_eq];omega
 ·rw [small,List.all_eq_true]
  intro y hy
  rcases List.mem_or_eq_of_mem_set hy with hy | rfl
  ·rw [List.eq_of_mem_replicate hy];rfl
  ·rfl
attribute [local irreducible] thenQ blockQ loopQ bodyQ Ev EvOps CallEv FnEv EvD
theorem CallEv.col {C:Cfg} {f:FuncId} {args:List PV} {H:AHeap} {x n k m1 m2 rr re pi pe:Nat} {cv:PV} {Rs:List Rw} {W:List Rw→List Int→Bool→Prop} {Q:PV→AHeap→Prop} {P:List Int} {lg:Bool} (L:Lay H x cv (.mref rr re 0 m1) (.mref pi pe 0 m2) n k Rs P lg)
  (a:FnEv C f args H (fun r h'=>r=.tup []∧Frm H h' (Lay.all x (.mref rr re 0 m1) (.mref pi pe 0 m2) Rs)∧∃ Rs' P' lg',Lay h' x cv (.mref rr re 0 m1) (.mref pi pe 0 m2) n k Rs' P' lg'∧Rs'.map Rw.ids=Rs.map Rw.ids∧W Rs' P' lg'))
  (q:∀ h' Rs' P' lg',Frm H h' (Lay.all x (.mref rr re 0 m1) (.mref pi pe 0 m2) Rs)→Lay h' x cv (.mref rr re 0 m1) (.mref pi pe 0 m2) n k Rs' P' lg'→Rs'.map Rw.ids=Rs.map Rw.ids→W Rs' P' lg'→Q (.tup []) h') (hm:C.mode f=.opened:=by rfl):CallEv C 2 f args H Q:=by
 refine CallEv.sm a (fun r h' hr=>⟨?_,hr.2.1.len⟩) (fun r h' hr=>?_) (fun r h' hr hR=>?_) hm
 ·obtain ⟨_,_,_,_,_,L',_⟩:=hr;exact L'.hr
 ·obtain ⟨rfl,hf,Rs',P',lg',L',hi,hw⟩:=hr
  exact q _ Rs' P' lg' hf L' hi hw
 ·obtain ⟨rfl,hf,Rs',P',lg',L',hi,hw⟩:=hr
  have hall:Lay.all x (.mref rr re 0 m1) (.mref pi pe 0 m2) Rs'=Lay.all x (.mref rr re 0 m1) (.mref pi pe 0 m2) Rs:=by unfold Lay.all;rw [List.flatMap_def,List.flatMap_def,hi]
  exact q _ Rs' P' lg' ⟨by rw [List.length_take,Nat.min_eq_left hf.len];exact Nat.le_refl _,fun j h1 h2=>by rw [List.getElem?_take,if_pos h1];exact hf.fr j h1 h2⟩ (L'.take (fun i hi=>L.lt i (by rw [← hall];exact hi)) hR) hi hw
namespace Nine
set_option maxHeartbeats 1000000 in
theorem start_ev (H:AHeap) (hH:HV H) (l:List (List Pw)) (m:List Pw) (res:Option (List Row × List Int)) (hl:l.length≤12) (hs:SmT (l++[m])) (hE:gErr (l++[m])=0→(facs (l++[m])).length≤12→El (facs (l++[m])).length 0 (row0s l m) [] res) :
  FnEv C 95 [.snap false (encPPs l),.snap false (encPs m)] H (fun r h'=>HR h'∧H.length≤h'.length∧(∀ j,j<H.length→h'[j]?=H[j]?)∧startPost l m H.length res r h'):=by
 have hel:(encPPs l).length=l.length:=by simp
 have hsm:=hs.1 m (by simp)
 have hsz:∀ x∈l,(∀ q∈x,bulk q.1<100000000)∧x.length≤200:=fun x hx=>hs.1 x (by simp [hx])
 have hvm:=(pvalid_fun m hsm.1 (by omega)).nine
 have hcols:=cols_fun _ hs
 refine FnEv.x T6 Tryz.func95 rfl ?_
 (repeat' (first | (refine Rn.go ?_;conv=>whnf) | ((fail_if_success (show DrX _ _ _ _ _));refine .mk ?_) | refine .tt ?_ | refine .ff ?_ | refine .m2 ?_ | refine .m3 ?_ | refine .mk (fun hc=>?_) fun hc=>?_ | refine .lp fun v H lp=>?_ | fail))
 refine LpX.zip T6 l (fun p q L h=>L=[(0,.snap false (encPPs l)),(1,.snap false (encPs m)),(19,.snap false (encPPs l)),(20,.int .i64 l.length),(21,.int .i64 p.length)]∧h=H∧gErr p=0) (.nx ⟨rfl,rfl,rfl⟩) ?_ ?_
 ·rintro p x q _ h ρ e ⟨rfl,rfl,hp⟩
  have hl2:=congrArg List.length e
  simp only [List.length_append,List.length_cons] at hl2
  have hat:=at_encPPs e
  have hx:=hsz x (by rw [e];simp)
  have hvx:=(pvalid_fun x hx.1 (by have:=hx.2;omega)).nine
  (repeat' (first | (refine Rn.go ?_;conv=>whnf) | ((fail_if_success (show DrX _ _ _ _ _));refine .mk ?_) | refine .tt ?_ | refine .ff ?_ | refine .m2 ?_ | refine .m3 ?_ | refine .mk (fun hc=>?_) fun hc=>?_ | refine .lp fun v H lp=>?_ | fail))
  refine .p hvx ?_
  (repeat' (first | (refine Rn.go ?_;conv=>whnf) | ((fail_if_success (show DrX _ _ _ _ _));refine .mk ?_) | refine .tt ?_ | refine .ff ?_ | refine .m2 ?_ | refine .m3 ?_ | refine .mk (fun hc=>?_) fun hc=>?_ | refine .lp fun v H lp=>?_ | fail))
  ·exact .nx ⟨rfl,rfl,by rw [gErr_snoc,if_pos hp];exact hc⟩
  ·have hbad:=gErr_bad (l:=l++[m]) (p:=p) (x:=x) (q:=q++[m]) (by rw [e];simp) hp hc
   refine ⟨hH.hr,Nat.le_refl _,fun _ _=>rfl,?_⟩
   unfold startPost
   rw [hbad,if_pos hc];rfl
 ·rintro _ h ρ ⟨rfl,rfl,hg0⟩
  obtain ⟨v1,h3,c1,c2,c3,c4,c5,c6⟩:=clone_fr (f:=false) (es:=encPPs l) hH (by simp) (by simp [esOk,encPPs,cells,oneC]) (by omega)
  (repeat' (first | (refine Rn.go ?_;conv=>whnf) | ((fail_if_success (show DrX _ _ _ _ _));refine .mk ?_) | refine .tt ?_ | refine .ff ?_ | refine .m2 ?_ | refine .m3 ?_ | refine .mk (fun hc=>?_) fun hc=>?_ | refine .lp fun v H lp=>?_ | fail))
  refine .p hvm ?_
  (repeat' (first | (refine Rn.go ?_;conv=>whnf) | ((fail_if_success (show DrX _ _ _ _ _));refine .mk ?_) | refine .tt ?_ | refine .ff ?_ | refine .m2 ?_ | refine .m3 ?_ | refine .mk (fun hc=>?_) fun hc=>?_ | refine .lp fun v H lp=>?_ | fail))
  rotate_left
  ·refine ⟨hH.hr,Nat.le_refl _,fun _ _=>rfl,?_⟩
   unfold startPost
   rw [gErr_snoc,if_pos hg0,if_pos hc];rfl
  have hg1:gErr (l++[m])=0:=by rw [gErr_snoc,if_pos hg0];exact hc
  clear hc
  refine CallEv.primL rfl c1 ?_
  (repeat' (first | (refine Rn.go ?_;conv=>whnf) | ((fail_if_success (show DrX _ _ _ _ _));refine .mk ?_) | refine .tt ?_ | refine .ff ?_ | refine .m2 ?_ | refine .m3 ?_ | refine .mk (fun hc=>?_) fun hc=>?_ | refine .lp fun v H lp=>?_ | fail))
  have hlo:=lp.out
  have hlv:=lp.hv
  have hll:=lp.len
  have hlf:∀ j,j<h.length→H[j]?=h[j]?:=fun j hj=>by
   rw [lp.fr j (by omega) (fun ep n hh=>by have:=c6 j ep n hh;omega)];exact c5 j hj
  have hlr:∀ j ep n,v=.mref j ep 0 n→h.length≤j:=fun j ep n hh=>by
   rcases lp.ref j ep n hh with ⟨ep',n',h0⟩ | h0
   ·exact c6 j ep' n' h0
   ·omega
  rw [show encPPs l++[PV.snap false (encPs m)]=encPPs (l++[m]) by simp [encPPs]] at hlo
  refine .po hlo hcols (fun h4 hh4=>?_)
  have hv4:HV h4:=by
   rcases hh4 with rfl | ⟨_,_,_,rfl⟩
   ·exact hlv
   ·exact hlv.set _ (by simp) (by simp)
  have hl4:h.length≤h4.length:=by
   rcases hh4 with rfl | ⟨_,_,_,rfl⟩
   ·omega
   ·simp;omega
  have hf4:∀ j,j<h.length→h4[j]?=h[j]?:=fun j hj=>by
   rcases hh4 with rfl | ⟨id,ep,hh,rfl⟩
   ·exact hlf j hj
   ·rw [List.getElem?_set_ne (by have:=hlr id ep _ hh;omega)];exact hlf j hj
  clear hh4 hlf hlr hlo lp c1 c2 c3 c4 c5 c6
  obtain ⟨cols,hcl⟩:∃ cols,cols=facs (l++[m]):=⟨_,rfl⟩
  have hec:=encs_len (facs (l++[m]))
  have hx5:(h4++[(⟨.m,0,4,[.agg [.snap false (encs (facs (l++[m]))),.snap true [],.snap true [],.bool false]]⟩:AObj)])[h4.length]?=some ⟨.m,0,4,[.agg [.snap false (encs (facs (l++[m]))),.snap true [],.snap true [],.bool false]]⟩:=by simp
  have hR5:HR (h4++[(⟨.m,0,4,[.agg [.snap false (encs (facs (l++[m]))),.snap true [],.snap true [],.bool false]]⟩:AObj)]):=hv4.hr.appV (HV.one rfl)
  have hf5:∀ j,j<h.length→(h4++[(⟨.m,0,4,[.agg [.snap false (encs (facs (l++[m]))),.snap true [],.snap true [],.bool false]]⟩:AObj)])[j]?=h[j]?:=fun j hj=>by rw [List.getElem?_append_left (by omega)];exact hf4 j hj
  have hl5:h4.length<(h4++[(⟨.m,0,4,[.agg [.snap false (encs (facs (l++[m]))),.snap true [],.snap true [],.bool false]]⟩:AObj)]).length:=by simp
  rw [← hcl] at hec hx5 hR5 hf5 hl5 ⊢
  (repeat' (first | (refine Rn.go ?_;conv=>whnf) | ((fail_if_success (show DrX _ _ _ _ _));refine .mk ?_) | refine .tt ?_ | refine .ff ?_ | refine .m2 ?_ | refine .m3 ?_ | refine .mk (fun hc=>?_) fun hc=>?_ | refine .lp fun v H lp=>?_ | fail))
  ·refine ⟨hR5,by omega,hf5,?_⟩
   unfold startPost
   rw [if_neg (by omega),if_pos (by rw [← hcl];omega)];rfl
  have hE2:=hE hg1 (by rw [← hcl];omega)
  rw [← hcl] at hE2
  clear hE
  have hbl:∀ t∈cols,bulk t<1000000000:=fun t ht=>by
   rw [hcl] at ht
   obtain ⟨x,hx,ht⟩:=List.mem_flatMap.1 ((facs_in _ _).1 ht)
   obtain ⟨p,hp,rfl⟩:=List.mem_map.1 ht
   exact Nat.lt_trans ((hs.1 x hx).1 p hp) (by decide)
  obtain ⟨h5,hh5⟩:∃ h5,h5=h4++[(⟨.m,0,4,[.agg [.snap false (encs cols),.snap true [],.snap true [],.bool false]]⟩:AObj)]:=⟨_,rfl⟩
  rw [← hh5] at hx5 hR5 hf5 hl5 ⊢
  have hx4:h.length≤h4.length:=hl4
  clear hh5 hf4 hv4 hl4
  generalize h4.length=x at *
  have L5:Lay h5 x (.snap false (encs cols)) (.snap true []) (.snap true []) cols.length l.length [] [] false:=⟨hR5,hx5,.inl ⟨rfl,rfl⟩,.inl ⟨rfl,rfl⟩,by simp,by simp [vid]⟩
  refine LpX.zip T6 l (fun p q L k=>∃ rv Rs,L=[(0,.snap false (encPPs l)),(1,.snap false (encPs m)),(11,.ptr x 0 0 0),(50,.snap false (encPPs l)),(51,.int .i64 l.length),(52,.int .i64 p.length)]∧Lay k x (.snap false (encs cols)) rv (.snap true []) cols.length l.length Rs [] false∧Rs.map Rw.m=rowsN cols l.length p∧(∀ j,j<h.length→k[j]?=h[j]?)∧(∀ i∈Lay.all x rv (.snap true []) Rs,h.length≤i)∧h.length≤k.length∧(p=[]→rv=.snap true [])) (.nx ⟨.snap true [],[],rfl,L5,rfl,hf5,by simp [Lay.all,vid];exact hx4,by omega,fun _=>rfl⟩) ?_ ?_
  ·rintro p y q _ k ρ e ⟨rv,Rs,rfl,L,hRs,hf,hge,hlk,_⟩
   have hl2:=congrArg List.length e
   simp only [List.length_append,List.length_cons] at hl2
   have hat:=at_encPPs e
   have ex:=L.ex
   have hR:=L.hr
   (repeat' (first | (refine Rn.go ?_;conv=>whnf) | ((fail_if_success (show DrX _ _ _ _ _));refine .mk ?_) | refine .tt ?_ | refine .ff ?_ | refine .m2 ?_ | refine .m3 ?_ | refine .mk (fun hc=>?_) fun hc=>?_ | refine .lp fun v H lp=>?_ | fail))
   refine .raw fun ρ=>?_
   have hsy:=hsz y (by rw [e];simp)
   have hvy:=validP_zero (gErr_zero hg0 y (by rw [e];simp))
   have hpo:=(pofD_ev cols y (k.map lock1) (by rw [hcl];exact facs_srt _) (by omega) hbl hvy.2.2.2.2 (by omega) (fun q hq=>by rw [hcl];exact (facs_in _ _).2 (List.mem_flatMap.2 ⟨y,by rw [e];simp,List.mem_map.2 ⟨q,hq,rfl⟩⟩))).nine
   rw [List.length_map] at hpo
   refine EvD.sP T6 ?_
   conv=>whnf
   refine EvD.sP T6 ?_
   conv=>whnf
   refine EvD.sP T6 ?_
   conv=>whnf
   refine EvD.sR T6 ?_ hR.closed ⟨vis_at ex (by simp),trivial⟩
   conv=>whnf
   (repeat' (first | (refine Rn.go ?_;conv=>whnf) | refine .mk ?_ | refine .tt ?_ | refine .ff ?_ | refine .m2 ?_ | refine .m3 ?_ | refine .mk (fun hc=>?_) fun hc=>?_ | refine .lp fun v H lp=>?_ | fail))
   refine EvD.sP T6 ?_
   conv=>whnf
   refine EvD.open1 (n:=cols.length) (P:=fun D=>∃ J:AHeap,D=⟨.m,0,1,encIs (cols.map (pwr y))⟩::J∧∀ o∈J,o.mu=.m∧isVals o.es=true) rfl hR.closed rfl rfl rfl rfl (hpo.mono fun r h' hh=>⟨hh.1,?_⟩) fun D hD=>?_
   ·obtain ⟨_,J,rfl,hJ⟩:=hh
    exact ⟨_,rfl,fun o ho=>by
     rcases List.mem_cons.1 ho with rfl | ho
     ·simp
     ·rw [(hJ o ho).1];simp,J,rfl,hJ⟩
   obtain ⟨J,hDJ,hJ⟩:=hD
   refine EvD.sP T6 ?_
   conv=>whnf
   refine EvD.hidLen T6 rfl rfl hR.closed rfl rfl ?_
   refine EvD.hidMake T6 rfl rfl hR.closed rfl rfl rfl rfl rfl (by decide) rfl rfl (by omega) ?_
   refine EvD.sP T6 ?_
   conv=>whnf
   refine EvD.sW T6 rfl rfl ?_
   conv=>whnf
   (repeat' (first | (refine Rn.go ?_;conv=>whnf) | refine .mk ?_ | refine .tt ?_ | refine .ff ?_ | refine .m2 ?_ | refine .m3 ?_ | refine .mk (fun hc=>?_) fun hc=>?_ | refine .lp fun v H lp=>?_ | fail))
   refine EvD.sP T6 ?_
   conv=>whnf
   rw [hel]
   obtain ⟨kA,hkA⟩:∃ kA,kA=k++D++[(⟨.m,0,0+1,List.replicate l.length (.int .i64 0)⟩:AObj)]++[(⟨.m,0,3,[.agg [.mref k.length 0 0 cols.length,.mref (k.length+D.length) 0 0 l.length,.bool false]]⟩:AObj)]:=⟨_,rfl⟩
   rw [← hkA]
   have lD:0<D.length:=by rw [hDJ];simp
   have aF:∀ j,j<k.length→kA[j]?=k[j]?:=fun j hj=>by rw [hkA,List.append_assoc,List.append_assoc,List.getElem?_append_left hj]
   have a3:kA[k.length]?=some ⟨.m,0,1,encIs (cols.map (pwr y))⟩:=by rw [hkA,hDJ];simp
   have a1:kA[k.length+D.length]?=some ⟨.m,0,1,encIs (List.replicate l.length 0)⟩:=by
    rw [hkA,List.getElem?_append_left (by simp),List.getElem?_append_right (by simp)];simp [encIs]
   have hlD:k.length+D.length+1=(k++D++[(⟨.m,0,0+1,List.replicate l.length (.int .i64 0)⟩:AObj)]).length:=by simp;omega
   have a2:kA[k.length+D.length+1]?=some ⟨.m,0,3,[.agg [.mref k.length 0 0 cols.length,.mref (k.length+D.length) 0 0 l.length,.bool false]]⟩:=by
    rw [hkA,hlD,List.getElem?_append_right (Nat.le_refl _),Nat.sub_self];rfl
   have aL:kA.length=k.length+D.length+2:=by rw [hkA];simp;omega
   have hRA:HR kA:=by
    rw [hkA]
    refine HR.app1 (HR.app1 (hR.appV fun o ho=>?_) (by simp) (vis_vals _ _ ?_)) (by simp) (by simp [visRs,visR];omega)
    ·rw [hDJ] at ho
     rcases List.mem_cons.1 ho with rfl | ho
     ·simp
     ·rw [(hJ o ho).1];exact ⟨by simp,(hJ o ho).2⟩
    ·rw [isVals_eq,List.all_eq_true];intro z hz;rw [List.eq_of_mem_replicate hz];rfl
   have xA:kA[x]?=some ⟨.m,0,4,[.agg [.snap false (encs cols),rv,.snap true [],.bool false]]⟩:=by rw [aF x (lt_of_some ex)];exact ex
   have kx:=lt_of_some ex
   clear hkA
   have hrl:(encIs (List.replicate l.length 0)).length=l.length:=by simp
   have hat0:=nthI (a:=List.replicate l.length 0) (c:=p.length) (by simp;omega)
   rw [← hlD]
   clear hlD
   refine EvD.nil ⟨_,_,rfl,?_⟩
   conv=>whnf
   (repeat' (first | (refine Rn.go ?_;conv=>whnf) | refine .mk ?_ | refine .tt ?_ | refine .ff ?_ | refine .m2 ?_ | refine .m3 ?_ | refine .mk (fun hc=>?_) fun hc=>?_ | refine .lp fun v H lp=>?_ | fail))
   rw [encIs_set,Nat.zero_add]
   obtain ⟨kB,hkB⟩:∃ kB,kB=kA.set (k.length+D.length) ⟨.m,0,1,encIs ((List.replicate l.length 0).set p.length 1)⟩:=⟨_,rfl⟩
   rw [← hkB]
   have bL:kB.length=k.length+D.length+2:=by rw [hkB];simp [aL]
   have bF:∀ j,j<k.length→kB[j]?=k[j]?:=fun j hj=>by rw [hkB,List.getElem?_set_ne (by omega)];exact aF j hj
   have b3:kB[k.length]?=some ⟨.m,0,1,encIs (cols.map (pwr y))⟩:=by rw [hkB,List.getElem?_set_ne (by omega)];exact a3
   have b1:kB[k.length+D.length]?=some ⟨.m,0,1,encIs (unitR l.length p.length)⟩:=by rw [hkB];exact List.getElem?_set_self (by omega)
   have b2:kB[k.length+D.length+1]?=some ⟨.m,0,3,[.agg [.mref k.length 0 0 cols.length,.mref (k.length+D.length) 0 0 l.length,.bool false]]⟩:=by rw [hkB,List.getElem?_set_ne (by omega)];exact a2
   have hRB:HR kB:=by rw [hkB];exact hRA.set _ (by simp) (vis_vals _ _ (by simp))
   have xB:kB[x]?=some ⟨.m,0,4,[.agg [.snap false (encs cols),rv,.snap true [],.bool false]]⟩:=by rw [bF x kx];exact ex
   have oB:Out 1 kB rv (Rs.map Rw.ptr):=L.er.of_eq fun i hi=>bF i (L.er.vlt i hi)
   have hRsl:Rs.length=p.length:=by simpa [rowsN] using congrArg List.length hRs
   have hRl:(Rs.map Rw.ptr).length=p.length:=by simp [hRsl]
   clear hkB a1 a2 a3 aL hRA xA
   have hxr:x∉vid rv:=fun hh=>(List.nodup_cons.1 L.nd).1 (by simp [hh])
   have hnx:∀ ep n,rv≠.mref x ep 0 n:=fun ep n hh=>hxr (by rw [hh];simp [vid])
   (repeat' (first | (refine Rn.go ?_;conv=>whnf) | refine .mk ?_ | refine .tt ?_ | refine .ff ?_ | refine .m2 ?_ | refine .m3 ?_ | refine .mk (fun hc=>?_) fun hc=>?_ | refine .lp fun v H lp=>?_ | fail))
   obtain ⟨kE,hkE⟩:∃ kE,kE=kB++[(⟨.m,0,1,[.ptr (k.length+D.length+1) 0 0 0]⟩:AObj)]:=⟨_,rfl⟩
   have eF:∀ j,j<kB.length→kE[j]?=kB[j]?:=fun j hj=>by rw [hkE,List.getElem?_append_left hj]
   have eL:kE.length=kB.length+1:=by rw [hkE];simp
   have eN:kE[kB.length]?=some ⟨.m,0,1,[.ptr (k.length+D.length+1) 0 0 0]⟩:=by rw [hkE];simp
   have hRE:HR kE:=by rw [hkE];exact hRB.app1 (by simp) (by simp [visRs,visR];omega)
   have oE:Out 1 kE rv (Rs.map Rw.ptr):=oB.of_eq fun i hi=>eF i (oB.vlt i hi)
   have hvE:visRs (fun i=>decide (i<kE.length)) (Rs.map Rw.ptr++[PV.ptr (k.length+D.length+1) 0 0 0])=true:=by
    rw [visRs_all,List.all_eq_true]
    intro z hz
    rcases List.mem_append.1 hz with hz | hz
    ·obtain ⟨Q,hQ,rfl⟩:=List.mem_map.1 hz
     have:=L.lt Q.r (by simp only [Lay.all,List.mem_cons,List.mem_append,List.mem_flatMap];exact .inr (.inr (.inr ⟨Q,hQ,by simp [Rw.ids]⟩)))
     simp [Rw.ptr,visR];omega
    ·rw [List.mem_singleton.1 hz];simp [visR];omega
   have rlt:∀ j ep n,rv=.mref j ep 0 n→j<kB.length:=fun j ep n hh=>by have:=oB.vlt j (by rw [hh];simp [vid]);exact this
   rw [← hkE]
   refine .ap1 T6 (v:=rv) (es:=Rs.map Rw.ptr) (e:=.ptr (k.length+D.length+1) 0 0 0) (iy:=kB.length) oE eN (fun ep n hh=>by have:=rlt _ _ _ hh;omega) (by omega) hRE hvE ⟨rfl,rfl⟩ (fun v' H' lr=>?_)
   have lo:=lr.out
   have lh:=lr.hr
   have ll:=lr.len
   have lv:=lr.vid
   have lf:∀ j,j<kB.length→j∉vid rv→H'[j]?=kB[j]?:=fun j hj hn=>by
    rw [lr.fr j (by omega) fun ep n hh=>hn (by rw [hh];simp [vid])];exact eF j hj
   clear lr
   have xC:H'[x]?=some ⟨.m,0,4,[.agg [.snap false (encs cols),rv,.snap true [],.bool false]]⟩:=by rw [lf x (by omega) hxr];exact xB
   have hwr:=lo.visR
   rcases lo with ⟨_,h0⟩ | ⟨iw,ew,rfl,ow⟩
   ·have:=congrArg List.length h0;simp at this
   (repeat' (first | (refine Rn.go ?_;conv=>whnf) | refine .mk ?_ | refine .tt ?_ | refine .ff ?_ | refine .m2 ?_ | refine .m3 ?_ | refine .mk (fun hc=>?_) fun hc=>?_ | refine .lp fun v H lp=>?_ | fail))
   have hiw:=lv iw (by simp [vid])
   have hxw:x≠iw:=fun hh=>by
    rcases hiw with h1 | h1
    ·exact hxr (hh ▸ h1)
    ·omega
   have kH:=lt_of_some xC
   have aR:∀ i,i<kB.length→i∉vid rv→i≠x→(H'.set x ⟨.m,0,4,[.agg [.snap false (encs cols),.mref iw ew 0 (Rs.map Rw.ptr++[PV.ptr (k.length+D.length+1) 0 0 0]).length,.snap true [],.bool false]]⟩)[i]?=kB[i]?:=fun i h1 h2 h3=>by rw [List.getElem?_set_ne (Ne.symm h3)];exact lf i h1 h2
   have ids:∀ i,k.length≤i→i∉vid rv∧i≠x:=fun i hi=>⟨fun hh=>by have:=L.er.vlt i hh;omega,by omega⟩
   have fin:=L.row (R:=⟨k.length+D.length+1,k.length,k.length+D.length,cols.map (pwr y),unitR l.length p.length,false⟩) (rv':=.mref iw ew 0 (Rs.map Rw.ptr++[PV.ptr (k.length+D.length+1) 0 0 0]).length)
    (h':=H'.set x ⟨.m,0,4,[.agg [.snap false (encs cols),.mref iw ew 0 (Rs.map Rw.ptr++[PV.ptr (k.length+D.length+1) 0 0 0]).length,.snap true [],.bool false]]⟩)
    (lh.set x (by simp) (by simp only [visRs,visR,Bool.true_and,Bool.and_true];exact hwr)) (List.getElem?_set_self kH) (.inr ⟨iw,ew,by simp,by rw [List.getElem?_set_ne hxw,ow];simp [Rw.ptr]⟩)
    (fun i hi=>by
     have h1:i<k.length:=L.lt i (by simp only [Lay.all,List.mem_cons,List.mem_append];exact .inr (.inr (.inr hi)))
     rw [aR i (by omega) (fun hh=>?_) (fun hh=>?_),bF i h1]
     ·have:=(List.nodup_cons.1 L.nd).2
      rw [List.nodup_append] at this
      exact this.2.2 i hh i (by simp [hi]) rfl
     ·exact (List.nodup_cons.1 L.nd).1 (by simp only [List.mem_append];exact .inr (.inr (hh ▸ hi))))
    ⟨by rw [aR (k.length+D.length+1) (by omega) (ids (k.length+D.length+1) (by omega)).1 (ids (k.length+D.length+1) (by omega)).2,b2];simp [unitR],by rw [aR k.length (by omega) (ids k.length (by omega)).1 (ids k.length (by omega)).2,b3],by rw [aR (k.length+D.length) (by omega) (ids (k.length+D.length) (by omega)).1 (ids (k.length+D.length) (by omega)).2,b1]⟩
    (by simp) (by simp [unitR]) (fun i hi=>by
     simp [vid] at hi;subst hi
     rcases hiw with h1 | h1
     ·exact .inl h1
     ·exact .inr ⟨by omega,by simp [Rw.ids];omega⟩) (fun i hi=>by simp [Rw.ids] at hi;omega) (by simp only [Rw.ids,List.nodup_cons,List.mem_cons,List.not_mem_nil,or_false,not_or,not_false_eq_true,and_true,List.nodup_nil];omega)
   refine .nx ⟨_,_,rfl,fin,by rw [rowsN_snoc,← hRs];simp [Rw.m,row0],fun j hj=>?_,fun i hi=>?_,by simp;omega,fun hh=>by simp at hh⟩
   ·have h1:j∉vid rv∧j≠x:=⟨fun hh=>by have:=hge j (by simp [Lay.all,hh]);omega,fun hh=>by omega⟩
    rw [aR j (by omega) h1.1 h1.2,bF j (by omega)];exact hf j hj
   ·simp only [Lay.all,vid,List.nil_append,List.mem_cons,List.mem_append,List.not_mem_nil,or_false,List.flatMap_append,List.flatMap_cons,List.flatMap_nil,List.append_nil,Rw.ids] at hi
    rcases hi with rfl | rfl | hi | hi
    ·exact hx4
    ·rcases hiw with h1 | h1
     ·exact hge _ (by simp [Lay.all,h1])
     ·omega
    ·exact hge i (by simp only [Lay.all,List.mem_cons,List.mem_append];exact .inr (.inr (.inr hi)))
    ·omega
  rintro _ k ρ ⟨rv,Rs,rfl,L,hRs,hf,hge,hlk,hrv0⟩
  have hRsl:Rs.length=l.length:=by simpa [rowsN] using congrArg List.length hRs
  clear hlk
  have ex:=L.ex
  (repeat' (first | (refine Rn.go ?_;conv=>whnf) | ((fail_if_success (show DrX _ _ _ _ _));refine .mk ?_) | refine .tt ?_ | refine .ff ?_ | refine .m2 ?_ | refine .m3 ?_ | refine .mk (fun hc=>?_) fun hc=>?_ | refine .lp fun v H lp=>?_ | fail))
  refine LpX.nat T6 (fun m2 L2 k=>∃ (i:Nat) (pv:PV),L2=[(0,.snap false (encPPs l)),(1,.snap false (encPs m)),(11,.ptr x 0 0 0),(89,.int .i64 cols.length),(90,.int .i64 i)]∧i+m2=cols.length∧Lay k x (.snap false (encs cols)) rv pv cols.length l.length Rs (List.replicate i (-1)) false∧(∀ j,j<h.length→k[j]?=h[j]?)∧(∀ i∈Lay.all x rv pv Rs,h.length≤i)) cols.length (.nx ⟨0,.snap true [],by rw [← hec],by omega,L,hf,hge⟩) ?_
  clear ex hf hge L k
  rintro m2 _ k ρ ⟨i,pv,rfl,him,L,hf,hge⟩
  have ex:=L.ex
  have hR:=L.hr
  by_cases hm2:m2=0
  ·subst hm2
   have hin:i=cols.length:=by omega
   subst hin
   (repeat' (first | (refine Rn.go ?_;conv=>whnf) | ((fail_if_success (show DrX _ _ _ _ _));refine .mk ?_) | refine .tt ?_ | refine .ff ?_ | refine .m2 ?_ | refine .m3 ?_ | refine .mk (fun hc=>?_) fun hc=>?_ | refine .lp fun v H lp=>?_ | fail))
   have hsm0:∀ R∈Rs,small R.a=true∧small R.b=true:=fun R hR=>by
    have h1:R.m∈rowsN cols l.length l:=by rw [← hRs];exact List.mem_map_of_mem hR
    obtain ⟨i,hi⟩:=List.getElem?_of_mem h1
    unfold rowsN at hi
    rw [List.getElem?_mapIdx] at hi
    cases hx:l[i]? with
    | none=>rw [hx] at hi;cases hi
    | some y=>
     rw [hx] at hi
     have h2:R.a++R.b=row0 cols l.length i y:=by have:=congrArg (Option.map Prod.fst) hi;simpa [Rw.m] using this.symm
     have h3:=row0_small (cols:=cols) (k:=l.length) (i:=i) (gErr_zero hg0 y (List.mem_of_getElem? hx))
     rw [← h2,small_app,Bool.and_eq_true] at h3
     exact h3
   have hrow:row0s l m=Rs.map Rw.m:=by rw [hRs];unfold row0s rows0 rowsN;rw [← hcl];apply List.ext_getElem?;intro i;simp [List.getElem?_mapIdx];rfl
   rw [hrow] at hE2
   refine LpX.nat T6 (fun m3 L2 k=>∃ (c:Nat) (Rs:List Rw) (P:List Int) (lg:Bool),L2=[(0,.snap false (encPPs l)),(1,.snap false (encPs m)),(11,.ptr x 0 0 0),(106,.int .i64 cols.length),(107,.int .i64 c)]∧c+m3=cols.length∧Lay k x (.snap false (encs cols)) rv pv cols.length l.length Rs P lg∧Rs.length=l.length∧P.length=cols.length∧(∀ j,j<h.length→k[j]?=h[j]?)∧(∀ i∈Lay.all x rv pv Rs,h.length≤i) ∧
    ((lg=true∧res=none)∨(lg=false∧∃ P',P'.length=c∧P=P'++List.replicate (cols.length - c) (-1)∧El cols.length c (Rs.map Rw.m) P' res∧∀ R∈Rs,small R.a=true∧small R.b=true))) cols.length (.nx ⟨0,Rs,_,false,by rw [← hec],by omega,L,hRsl,by simp,hf,hge,.inr ⟨rfl,[],rfl,by simp,hE2,hsm0⟩⟩) ?_
   clear hE2 hrow hsm0 hge hf hR ex L k hRs hRsl Rs
   rintro m3 _ k ρ ⟨c,Rs,P,lg,rfl,hcm,L,hRsl,hPl,hf,hge,hst⟩
   have ex:=L.ex
   have hR:=L.hr
   by_cases hm3:m3=0
   ·subst hm3
    have hcn:c=cols.length:=by omega
    subst hcn
    have hvy:=validP_zero (gErr_zero hg1 m (by simp))
    have hpo:=(pofD_ev cols m (k.map lock1) (by rw [hcl];exact facs_srt _) (by omega) hbl hvy.2.2.2.2 (by omega) (fun q hq=>by rw [hcl];exact (facs_in _ _).2 (List.mem_flatMap.2 ⟨m,by simp,List.mem_map.2 ⟨q,hq,rfl⟩⟩))).nine
    rw [List.length_map] at hpo
    (repeat' (first | (refine Rn.go ?_;conv=>whnf) | ((fail_if_success (show DrX _ _ _ _ _));refine .mk ?_) | refine .tt ?_ | refine .ff ?_ | refine .m2 ?_ | refine .m3 ?_ | refine .mk (fun hc=>?_) fun hc=>?_ | refine .lp fun v H lp=>?_ | fail))
    refine .raw fun ρ=>?_
    refine EvD.sP T6 ?_
    conv=>whnf
    refine EvD.sP T6 ?_
    conv=>whnf
    refine EvD.sP T6 ?_
    conv=>whnf
    refine EvD.sP T6 ?_
    conv=>whnf
    refine EvD.sR T6 ?_ hR.closed ⟨vis_at ex (by simp),trivial⟩
    conv=>whnf
    (repeat' (first | (refine Rn.go ?_;conv=>whnf) | refine .mk ?_ | refine .tt ?_ | refine .ff ?_ | refine .m2 ?_ | refine .m3 ?_ | refine .mk (fun hc=>?_) fun hc=>?_ | refine .lp fun v H lp=>?_ | fail))
    refine EvD.sP T6 ?_
    conv=>whnf
    refine EvD.open1 (n:=cols.length) (P:=fun D=>∃ J:AHeap,D=⟨.m,0,1,encIs (cols.map (pwr m))⟩::J∧∀ o∈J,o.mu=.m∧isVals o.es=true) rfl hR.closed rfl rfl rfl rfl (hpo.mono fun r h' hh=>⟨hh.1,?_⟩) fun D hD=>?_
    ·obtain ⟨_,J,rfl,hJ⟩:=hh
     exact ⟨_,rfl,fun o ho=>by
      rcases List.mem_cons.1 ho with rfl | ho
      ·simp
      ·rw [(hJ o ho).1];simp,J,rfl,hJ⟩
    obtain ⟨J,hDJ,hJ⟩:=hD
    refine EvD.sP T6 ?_
    conv=>whnf
    refine EvD.hidLen T6 rfl rfl hR.closed rfl rfl ?_
    refine EvD.hidMake T6 rfl rfl hR.closed rfl rfl rfl rfl rfl (by decide) rfl rfl (by omega) ?_
    refine EvD.sP T6 ?_
    conv=>whnf
    refine EvD.sW T6 rfl rfl ?_
    conv=>whnf
    (repeat' (first | (refine Rn.go ?_;conv=>whnf) | refine .mk ?_ | refine .tt ?_ | refine .ff ?_ | refine .m2 ?_ | refine .m3 ?_ | refine .mk (fun hc=>?_) fun hc=>?_ | refine .lp fun v H lp=>?_ | fail))
    rw [hel]
    refine EvD.sP T6 ?_
    conv=>whnf
    refine EvD.sP T6 ?_
    conv=>whnf
    refine EvD.sP T6 ?_
    conv=>whnf
    obtain ⟨kA,hkA⟩:∃ kA,kA=k++D++[(⟨.m,0,0+1,List.replicate l.length (.int .i64 0)⟩:AObj)]++[(⟨.m,0,3,[.agg [.mref k.length 0 0 cols.length,.mref (k.length+D.length) 0 0 l.length,.bool false]]⟩:AObj)]:=⟨_,rfl⟩
    rw [← hkA]
    have lD:0<D.length:=by rw [hDJ];simp
    have aF:∀ j,j<k.length→kA[j]?=k[j]?:=fun j hj=>by rw [hkA,List.append_assoc,List.append_assoc,List.getElem?_append_left hj]
    have a3:kA[k.length]?=some ⟨.m,0,1,encIs (cols.map (pwr m))⟩:=by rw [hkA,hDJ];simp
    have a1:kA[k.length+D.length]?=some ⟨.m,0,1,encIs (List.replicate l.length 0)⟩:=by
     rw [hkA,List.getElem?_append_left (by simp),List.getElem?_append_right (by simp)];simp [encIs]
    have hlD:k.length+D.length+1=(k++D++[(⟨.m,0,0+1,List.replicate l.length (.int .i64 0)⟩:AObj)]).length:=by simp;omega
    have a2:kA[k.length+D.length+1]?=some ⟨.m,0,3,[.agg [.mref k.length 0 0 cols.length,.mref (k.length+D.length) 0 0 l.length,.bool false]]⟩:=by
     rw [hkA,hlD,List.getElem?_append_right (Nat.le_refl _),Nat.sub_self];rfl
    have aL:kA.length=k.length+D.length+2:=by rw [hkA];simp;omega
    have hRA:HR kA:=by
     rw [hkA]
     refine HR.app1 (HR.app1 (hR.appV fun o ho=>?_) (by simp) (vis_vals _ _ ?_)) (by simp) (by simp [visRs,visR];omega)
     ·rw [hDJ] at ho
      rcases List.mem_cons.1 ho with rfl | ho
      ·simp
      ·rw [(hJ o ho).1];exact ⟨by simp,(hJ o ho).2⟩
     ·rw [isVals_eq,List.all_eq_true];intro z hz;rw [List.eq_of_mem_replicate hz];rfl
    have kx:=lt_of_some ex
    rw [← hlD]
    clear hkA hlD
    refine EvD.nil ⟨_,_,rfl,?_⟩
    conv=>whnf
    (repeat' (first | (refine Rn.go ?_;conv=>whnf) | refine .mk ?_ | refine .tt ?_ | refine .ff ?_ | refine .m2 ?_ | refine .m3 ?_ | refine .mk (fun hc=>?_) fun hc=>?_ | refine .lp fun v H lp=>?_ | fail))
    refine ⟨hRA,by omega,fun j hj=>by rw [aF j (by omega)];exact hf j hj,?_⟩
    unfold startPost
    rw [if_neg (by omega),if_neg (by rw [← hcl];omega)]
    refine ⟨x,rv,pv,Rs,P,lg,⟨k.length+D.length+1,k.length,k.length+D.length,cols.map (pwr m),List.replicate l.length 0,false⟩,rfl,⟨?_,⟨by simp [a2],a3,a1⟩,by rw [hcl],rfl,fun i hi hh=>?_,?_,by rw [hPl,hcl],hRsl,fun hh=>?_,fun hh=>hrv0 (by subst hh;exact List.eq_nil_of_length_eq_zero hRsl.symm),fun S P3 hh=>?_,fun i hi=>?_⟩⟩
    ·rw [← hcl];exact L.of_eq hRA fun i hi=>aF i (L.lt i hi)
    ·have:=L.lt i hh
     simp [Rw.ids] at hi;omega
    ·simp only [Rw.ids,List.nodup_cons,List.mem_cons,List.not_mem_nil,or_false,not_or,not_false_eq_true,and_true,List.nodup_nil];omega
    ·rcases hst with ⟨h1,_⟩ | ⟨_,P',_,_,hEl,_⟩
     ·exact h1
     ·rw [hh] at hEl
      cases hEl with
      | large h1=>omega
      | next h1=>omega
    ·rcases hst with ⟨_,h1⟩ | ⟨h1,P',h2,h3,hEl,h4⟩
     ·rw [h1] at hh;cases hh
     ·rw [hh] at hEl
      cases hEl with
      | done=>exact ⟨h1,rfl,by rw [h3];simp,h4⟩
      | next h1=>omega
    ·rcases List.mem_append.1 hi with hi | hi
     ·exact hge i hi
     ·simp [Rw.ids] at hi;omega
   ·rcases hst with ⟨rfl,hres⟩ | ⟨rfl,P',hP',hPe,hEl,hsm2⟩
    ·(repeat' (first | (refine Rn.go ?_;conv=>whnf) | ((fail_if_success (show DrX _ _ _ _ _));refine .mk ?_) | refine .tt ?_ | refine .ff ?_ | refine .m2 ?_ | refine .m3 ?_ | refine .mk (fun hc=>?_) fun hc=>?_ | refine .lp fun v H lp=>?_ | fail))
     refine .same (columnL_ev c x _ rv pv _ _ Rs P k L).nine fun r hr=>?_
     subst hr
     (repeat' (first | (refine Rn.go ?_;conv=>whnf) | ((fail_if_success (show DrX _ _ _ _ _));refine .mk ?_) | refine .tt ?_ | refine .ff ?_ | refine .m2 ?_ | refine .m3 ?_ | refine .mk (fun hc=>?_) fun hc=>?_ | refine .lp fun v H lp=>?_ | fail))
     exact .nx ⟨m3 - 1,by omega,c+1,Rs,P,true,rfl,by omega,L,hRsl,hPl,hf,hge,.inl ⟨rfl,hres⟩⟩
    ·obtain ⟨st,cr,hcol,hno,hso⟩:=hEl.link (by omega)
     obtain ⟨pi,pe,rfl,epv⟩:=L.piv0 (by omega)
     have hrep:List.replicate (cols.length - c) (-1:Int)=(-1)::List.replicate (cols.length - (c+1)) (-1):=by
      rw [show cols.length - c=(cols.length - (c+1))+1 by omega,List.replicate_succ]
     by_cases hr0:Rs=[]
     ·subst hr0
      have hcr:=Col.nil hcol
      subst hcr
      obtain rfl:rv=.snap true []:=by
       rcases L.er with ⟨h0,_⟩ | ⟨id,ep,h0,_⟩
       ·exact h0
       ·exact hrv0 (List.eq_nil_of_length_eq_zero hRsl.symm)
      (repeat' (first | (refine Rn.go ?_;conv=>whnf) | ((fail_if_success (show DrX _ _ _ _ _));refine .mk ?_) | refine .tt ?_ | refine .ff ?_ | refine .m2 ?_ | refine .m3 ?_ | refine .mk (fun hc=>?_) fun hc=>?_ | refine .lp fun v H lp=>?_ | fail))
      refine .same (column0_ev c x _ _ _ _ P k L).nine fun r hr=>?_
      subst hr
      (repeat' (first | (refine Rn.go ?_;conv=>whnf) | ((fail_if_success (show DrX _ _ _ _ _));refine .mk ?_) | refine .tt ?_ | refine .ff ?_ | refine .m2 ?_ | refine .m3 ?_ | refine .mk (fun hc=>?_) fun hc=>?_ | refine .lp fun v H lp=>?_ | fail))
      exact .nx ⟨m3 - 1,by omega,c+1,[],P,false,rfl,by omega,L,hRsl,hPl,hf,hge,.inr ⟨rfl,P'++[-1],by simp [hP'],by rw [hPe,hrep];simp,hso _ _ rfl,by simp⟩⟩
     ·obtain ⟨rr,re,rfl⟩:∃ rr re,rv=.mref rr re 0 Rs.length:=by
       rcases L.er with ⟨_,h0⟩ | ⟨id,ep,h0,_⟩
       ·exact absurd (by simpa using h0) hr0
       ·exact ⟨id,ep,by rw [h0];simp⟩
      have hce:=(column_ev c cols.length l.length x rr re pi pe _ k cr st Rs P L hcol (by omega) hPl (by omega) (by omega) (by omega) hsm2).nine
      (repeat' (first | (refine Rn.go ?_;conv=>whnf) | ((fail_if_success (show DrX _ _ _ _ _));refine .mk ?_) | refine .tt ?_ | refine .ff ?_ | refine .m2 ?_ | refine .m3 ?_ | refine .mk (fun hc=>?_) fun hc=>?_ | refine .lp fun v H lp=>?_ | fail))
      refine .col L hce (fun h' Rs' P2 lg2 fr L2 hids hW=>?_)
      obtain ⟨w1,w2⟩:=hW
      have hRl2:Rs'.length=Rs.length:=by simpa using congrArg List.length hids
      have hall:Lay.all x (.mref rr re 0 Rs.length) (.mref pi pe 0 P.length) Rs'=Lay.all x (.mref rr re 0 Rs.length) (.mref pi pe 0 P.length) Rs:=by unfold Lay.all;rw [List.flatMap_def,List.flatMap_def,hids]
      (repeat' (first | (refine Rn.go ?_;conv=>whnf) | ((fail_if_success (show DrX _ _ _ _ _));refine .mk ?_) | refine .tt ?_ | refine .ff ?_ | refine .m2 ?_ | refine .m3 ?_ | refine .mk (fun hc=>?_) fun hc=>?_ | refine .lp fun v H lp=>?_ | fail))
      refine .nx ⟨m3 - 1,by omega,c+1,Rs',P2,lg2,rfl,by omega,L2,by omega,by omega,fun j hj=>?_,fun i hi=>hge i (by rw [← hall];exact hi),?_⟩
      ·rw [fr.fr j (by have:=fr.len;have:=L.lt x (by simp [Lay.all]);omega) (fun hh=>by have:=hge j hh;omega)];exact hf j hj
      ·cases cr with
       | none=>exact .inl ⟨w2,hno rfl⟩
       | some y=>
        obtain ⟨S',ii⟩:=y
        obtain ⟨u1,u2,u3,u4⟩:=w2
        refine .inr ⟨u1,P'++[ii],by simp [hP'],?_,by rw [u2];exact hso _ _ rfl,u3⟩
        rw [u4]
        rcases hcol.idx rfl with rfl | hpos
        ·rw [if_pos (by decide),hPe,hrep];simp
        ·rw [if_neg (by omega),hPe,hrep,List.set_append_right _ _ (by omega),hP',Nat.sub_self,List.set_cons_zero];simp
  ·have ho:=L.ep
   have hil:(encIs (List.replicate i (-1))).length=i:=by simp
   have hnx:∀ ep n,pv≠.mref x ep 0 n:=fun ep n hh=>(List.nodup_cons.1 L.nd).1 (by simp [hh,vid])
   (repeat' (first | (refine Rn.go ?_;conv=>whnf) | ((fail_if_success (show DrX _ _ _ _ _));refine .mk ?_) | refine .tt ?_ | refine .ff ?_ | refine .m2 ?_ | refine .m3 ?_ | refine .mk (fun hc=>?_) fun hc=>?_ | refine .lp fun v H lp=>?_ | fail))
   refine .lr (fun v' H' lr=>?_)
   have xC:H'[x]?=some ⟨.m,0,4,[.agg [.snap false (encs cols),rv,pv,.bool false]]⟩:=by rw [lr.fr x (lt_of_some ex) hnx];exact ex
   obtain ⟨p1,p2,p3⟩:=L.pivot (i:=-1) rfl lr
   have hll:=lr.len
   have hwo:=lr.out
   rcases hwo with ⟨_,h0⟩ | ⟨iw,ew,rfl,ow⟩
   ·have:=congrArg List.length h0;simp at this
   (repeat' (first | (refine Rn.go ?_;conv=>whnf) | ((fail_if_success (show DrX _ _ _ _ _));refine .mk ?_) | refine .tt ?_ | refine .ff ?_ | refine .m2 ?_ | refine .m3 ?_ | refine .mk (fun hc=>?_) fun hc=>?_ | refine .lp fun v H lp=>?_ | fail))
   refine .nx ⟨m2 - 1,by omega,i+1,_,rfl,by omega,by simpa [List.replicate_succ'] using p1,fun j hj=>?_,fun j hj=>?_⟩
   ·rw [p3 j (by have:=L.lt x (by simp [Lay.all]);omega) (fun hh=>by have:=hge j hh;omega)];exact hf j hj
   ·simp only [Lay.all,List.mem_cons,List.mem_append] at hj
    rcases hj with rfl | hj | hj | hj
    ·exact hx4
    ·exact hge j (by simp [Lay.all,hj])
    ·rcases p2 j hj with h1 | h1
     ·exact hge j (by simp [Lay.all,h1])
     ·have:=L.lt x (by simp [Lay.all]);omega
    ·exact hge j (by simp only [Lay.all,List.mem_cons,List.mem_append];exact .inr (.inr (.inr hj)))
end Nine
end Go.Pm
end
section
set_option maxRecDepth 4000
namespace Go.Pm
open Go.Proofs
def slv (b:Bool) (x:Nat):PV:=if b then .bfn 66 1 [.ptr x 0 0 0] else .fn 99 []
def Slv (b:Bool) (x:Nat) (q n k:Nat) (Inv:List Int→Nat→Prop) (S:List Row) (P:List Int):Prop:=∀ (H:AHeap) (cv rv pv:PV) (Rs:List Rw) (lg:Bool) (i vi:Nat) (X:List Int),Lay H x cv rv pv n k Rs P lg→(∀ R∈Rs,small R.a=true∧small R.b=true)→Rs.map Rw.m=S→i<n→¬ atR P i<0→H[vi]?=some ⟨.m,0,1,encIs X⟩→X.length=n→inQ q X→Inv X (i+1) →
 ∀ B∈Rs,rowAt (Rs.map Rw.m) (atR P i)=B.a++B.b→RwAt H B→∃ v:Int,0≤v∧v<q∧Inv (X.set i v) i ∧
  FnEv C (if b then 66 else 99) ((if b then [.ptr x 0 0 0] else [])++[.ptr B.r 0 0 0,.int .i64 i,.mref vi 0 0 n,.int .i64 q]) H (fun r h'=>r=.int .i64 v∧h'=H)
theorem chrL_snoc:∀ {cols:List Tm} {x:List Int} {i:Nat} {t:Tm},cols[i]?=some t→i<x.length→chrL (cols.take (i+1)) (x.take (i+1))=chrL (cols.take i) (x.take i)++if atR x i=0 then [] else [(t,atR x i)]
 | [],_,_,_,h,_=>by simp at h
 | _::_,[],_,_,_,h=>by simp at h
 | u::cols,n::x,0,t,h,_=>by
  simp at h;subst h
  simp only [List.take_succ_cons,List.take_zero,chrL_cons]
  simp [chrL,atR,List.getD]
 | u::cols,n::x,i+1,t,h,hx=>by
  have ih:=chrL_snoc (cols:=cols) (x:=x) (i:=i) (t:=t) (by simpa using h) (by simpa using hx)
  have e:atR (n::x) (i+1)=atR x i:=by simp [atR,List.getD]
  rw [e]
  show chrL (u::cols.take (i+1)) (n::x.take (i+1))=chrL (u::cols.take i) (n::x.take i)++_
  rw [chrL_cons,chrL_cons,ih]
  split <;> simp
attribute [local irreducible] thenQ blockQ loopQ bodyQ Ev EvOps CallEv FnEv EvD
theorem pchar_ev (b:Bool) (H:AHeap) (x n k q at_:Nat) (val:Int) (f:Bool) (cols:List Tm) (rv pv:PV) (Rs:List Rw) (P:List Int) (lg:Bool) (Inv:List Int→Nat→Prop) (L:Lay H x (.snap f (encs cols)) rv pv n k Rs P lg) (hcl:cols.length=n) (hP:P.length=n) (hpv:PvOk (Rs.map Rw.m) P)
  (hsm:∀ R∈Rs,small R.a=true∧small R.b=true) (hn:n<1000) (hl:Rs.length<1000) (ha:at_<n) (hq:0<q) (hq2:q≤1073741824) (hv:0≤val∧val≤1073741824) (hb:∀ t∈cols,bulk t<100000000) (hS:Slv b x q n k Inv (Rs.map Rw.m) P) (h0:Inv ((List.replicate n 0).set at_ (val % q)) at_)
  (hI:∀ X i,i<at_→Inv X (i+1)→atR P i<0→Inv X i) :
  FnEv C 65 [.ptr x 0 0 0,.int .i64 at_,.int .i64 val,.int .i64 q,slv b x] H (fun r h'=>HR h'∧H.length≤h'.length∧(∀ j,j<H.length→h'[j]?=H[j]?) ∧
   ∃ v X,r=.agg [.int .i64 q,v]∧Out 5 h' v (encPs (chrL cols X))∧(∀ i∈vid v,H.length≤i)∧Inv X 0∧X.length=n∧inQ q X):=by
 have hec:=encs_len cols
 have hR:=L.hr
 have ex0:=L.ex
 obtain ⟨pi,pe,rfl,ep0⟩:=L.piv0 (by omega)
 have lH:=lt_of_some ex0
 have lP:=lt_of_some ep0
 have vmod:val.tmod q=val % q:=Int.tmod_eq_emod_of_nonneg hv.1
 have vm0:=Int.emod_nonneg val (show (q:Int)≠0 by omega)
 have vm1:=Int.emod_lt_of_pos val (show (0:Int)<q by omega)
 obtain ⟨G,hG⟩:∃ G,G=H++[(⟨.m,0,2,[.agg [.int .i64 0,.snap true []]]⟩:AObj)]:=⟨_,rfl⟩
 have hRG:HR G:=by rw [hG];exact hR.appV (HV.one rfl)
 have lG:G.length=H.length+1:=by rw [hG];simp
 have fG:∀ j,j<H.length→G[j]?=H[j]?:=fun j hj=>by rw [hG,List.getElem?_append_left hj]
 have cG:G[H.length]?=some ⟨.m,0,2,[.agg [.int .i64 0,.snap true []]]⟩:=by rw [hG];simp
 have exG:G[x]?=some ⟨.m,0,4,[.agg [.snap f (encs cols),rv,.mref pi pe 0 P.length,.bool lg]]⟩:=by rw [fG x lH];exact ex0
 refine FnEv.x T6 Tryz.func65 rfl ?_
 (repeat' (first | (refine Rn.go ?_;conv=>whnf) | refine .mk ?_ | refine .tt ?_ | refine .ff ?_ | refine .m2 ?_ | refine .m3 ?_ | refine .mk (fun hc=>?_) fun hc=>?_ | refine .lp fun v H lp=>?_ | fail))
 rw [← hG,lG,hec,hcl,show List.replicate n (PV.int .i64 0)=encIs (List.replicate n 0) by simp [encIs]]
 obtain ⟨K,hK⟩:∃ K,K=G++[(⟨.m,0,0+1,encIs (List.replicate n 0)⟩:AObj)]:=⟨_,rfl⟩
 have hRK:HR K:=by rw [hK];exact hRG.app1 (by simp) (vis_vals _ _ (by simp))
 have lK:K.length=H.length+2:=by rw [hK];simp [lG]
 have fK:∀ j,j<H.length+1→K[j]?=G[j]?:=fun j hj=>by rw [hK,List.getElem?_append_left (by omega)]
 have xK:K[H.length+1]?=some ⟨.m,0,1,encIs (List.replicate n 0)⟩:=by rw [hK,← lG,List.getElem?_append_right (Nat.le_refl _)];simp
 rw [← hK]
 have hl0:(encIs (List.replicate n 0)).length=n:=by simp
 have hat0:=nthI (a:=List.replicate n 0) (c:=at_) (by simp;omega)
 (repeat' (first | (refine Rn.go ?_;conv=>whnf) | refine .mk ?_ | refine .tt ?_ | refine .ff ?_ | refine .m2 ?_ | refine .m3 ?_ | refine .mk (fun hc=>?_) fun hc=>?_ | refine .lp fun v H lp=>?_ | fail))
 rw [encIs_set,Nat.zero_add,vmod]
 have in0:inQ q ((List.replicate n 0).set at_ (val % q)):=inQ.set (fun x hx=>by rw [List.eq_of_mem_replicate hx];omega) ⟨vm0,vm1⟩ _
 refine LpX.nat T6 (fun m L h=>∃ xs:List Int,L=[(0,.ptr x 0 0 0),(3,.int .i64 q),(4,slv b x),(10,.ptr H.length 0 0 0),(11,.mref (H.length+1) 0 0 n),(12,.int .i64 ((m:Int) - 1))]∧m≤at_∧HR h∧h.length=H.length+2∧(∀ j,j<H.length+1→h[j]?=G[j]?)∧h[H.length+1]?=some ⟨.m,0,1,encIs xs⟩∧xs.length=n∧inQ q xs∧Inv xs m) at_ (.nx ⟨_,rfl,Nat.le_refl _,hRK.set _ (by simp) (vis_vals _ _ (by simp)),by simp [lK],fun j hj=>by rw [List.getElem?_set_ne (by omega)];exact fK j hj,List.getElem?_set_self (by omega),by simp,in0,h0⟩) ?_
 rintro m _ h ρ ⟨xs,rfl,hmc,hh,hlen,hfr,hxs,lxs,hin,hinv⟩
 have hfr2:∀ j,j<H.length→h[j]?=H[j]?:=fun j hj=>by rw [hfr j (by omega),fG j hj]
 have exh:h[x]?=some ⟨.m,0,4,[.agg [.snap f (encs cols),rv,.mref pi pe 0 P.length,.bool lg]]⟩:=by rw [hfr2 x lH];exact ex0
 have eph:h[pi]?=some ⟨.m,pe,1,encIs P⟩:=by rw [hfr2 pi lP];exact ep0
 have Lh:Lay h x (.snap f (encs cols)) rv (.mref pi pe 0 P.length) n k Rs P lg:=L.of_eq hh fun i hi=>hfr2 i (L.lt i hi)
 have hlx:(encIs xs).length=n:=by simp [lxs]
 have hPl:(encIs P).length=P.length:=by simp
 by_cases hm0:m=0
 ·subst hm0
  (repeat' (first | (refine Rn.go ?_;conv=>whnf) | refine .mk ?_ | refine .tt ?_ | refine .ff ?_ | refine .m2 ?_ | refine .m3 ?_ | refine .mk (fun hc=>?_) fun hc=>?_ | refine .lp fun v H lp=>?_ | fail))
  have hRh2:HR (h++[(⟨.m,0,2,[.agg [.int .i64 q,.snap true []]]⟩:AObj)]):=hh.appV (HV.one rfl)
  have hc1:h[H.length]?=some ⟨.m,0,2,[.agg [.int .i64 0,.snap true []]]⟩:=by rw [hfr _ (by omega)];exact cG
  rw [hlen]
  refine LpX.nat T6 (fun m2 L h2=>∃ (i:Nat) (v:PV),L=[(0,.ptr x 0 0 0),(10,.ptr H.length 0 0 0),(13,.ptr (H.length+2) 0 0 0),(65,.mref (H.length+1) 0 0 n),(66,.int .i64 n),(67,.int .i64 i)]∧i+m2=n∧HR h2∧H.length+2<h2.length∧(∀ j,j<H.length+2→h2[j]?=h[j]?)∧h2[H.length+2]?=some ⟨.m,0,2,[.agg [.int .i64 q,v]]⟩∧Out 5 h2 v (encPs (chrL (cols.take i) (xs.take i)))∧∀ i∈vid v,H.length+2<i) n
   (.nx ⟨0,.snap true [],rfl,by omega,hRh2,by simp [hlen],fun j hj=>List.getElem?_append_left (by omega),by rw [← hlen,List.getElem?_append_right (Nat.le_refl _)];simp,.inl ⟨rfl,rfl⟩,by simp [vid]⟩) ?_
  rintro m2 _ h2 ρ ⟨i,v,rfl,hi2,hh2,hln2,hf2,hcl2,ho,hvi⟩
  have e1:h2[x]?=some ⟨.m,0,4,[.agg [.snap f (encs cols),rv,.mref pi pe 0 P.length,.bool lg]]⟩:=by rw [hf2 x (by omega)];exact exh
  have e2:h2[H.length+1]?=some ⟨.m,0,1,encIs xs⟩:=by rw [hf2 _ (by omega)];exact hxs
  have e3:h2[H.length]?=some ⟨.m,0,2,[.agg [.int .i64 0,.snap true []]]⟩:=by rw [hf2 _ (by omega)];exact hc1
  have hvc:=ho.oneC
  have hcx:(cells (PV.agg [.int .i64 q,v])).all oneC=true:=by
   show (true && (oneC v && true))=true
   rw [hvc.1];rfl
  have hvr:=ho.visR
  by_cases hm2:m2=0
  ·have hin2:i=n:=by omega
   subst hin2
   rw [List.take_of_length_le (by omega),List.take_of_length_le (by omega)] at ho
   (repeat' (first | (refine Rn.go ?_;conv=>whnf) | refine .mk ?_ | refine .tt ?_ | refine .ff ?_ | refine .m2 ?_ | refine .m3 ?_ | refine .mk (fun hc=>?_) fun hc=>?_ | refine .lp fun v H lp=>?_ | fail))
   rw [hcx]
   conv=>whnf
   (repeat' (first | (refine Rn.go ?_;conv=>whnf) | refine .mk ?_ | refine .tt ?_ | refine .ff ?_ | refine .m2 ?_ | refine .m3 ?_ | refine .mk (fun hc=>?_) fun hc=>?_ | refine .lp fun v H lp=>?_ | fail))
   refine .mk ?_ (resC_cellN (T:=T6) rfl (List.getElem?_set_self (by omega)) rfl rfl rfl rfl)
   refine Rn.go ?_
   refine ⟨hh2.set _ (by simp) ?_,by simp;omega,fun j hj=>by rw [List.getElem?_set_ne (by omega),hf2 j (by omega)];exact hfr2 j hj,v,xs,rfl,ho.of_eq fun i hi=>List.getElem?_set_ne (by have:=hvi i hi;omega),fun i hi=>by have:=hvi i hi;omega,hinv,lxs,hin⟩
   simp only [visRs,visR,Bool.and_true,Bool.true_and]
   exact hvr
  ·have hxi:=nthI (a:=xs) (c:=i) (by omega)
   obtain ⟨t,ht⟩:∃ t,cols[i]?=some t:=⟨_,List.getElem?_eq_getElem (show i<cols.length by omega)⟩
   have hsp:cols=cols.take i++t::cols.drop (i+1):=by
    have h1:=List.take_append_drop i cols
    rw [List.drop_eq_getElem_cons (show i<cols.length by omega)] at h1
    rw [List.getElem?_eq_getElem (show i<cols.length by omega)] at ht
    cases ht;exact h1.symm
   have hat:=at_encs hsp
   rw [List.length_take,Nat.min_eq_left (by omega)] at hat
   have hsn:=chrL_snoc (x:=xs) ht (by omega)
   have hcn:=clone_fun t (by have:=hb t (List.mem_of_getElem? ht);omega)
   rw [enc_x] at hcn
   by_cases hz:atR xs i=0
   ·rw [if_pos hz,List.append_nil] at hsn
    (repeat' (first | (refine Rn.go ?_;conv=>whnf) | refine .mk ?_ | refine .tt ?_ | refine .ff ?_ | refine .m2 ?_ | refine .m3 ?_ | refine .mk (fun hc=>?_) fun hc=>?_ | refine .lp fun v H lp=>?_ | fail))
    exact .nx ⟨m2 - 1,by omega,i+1,v,rfl,by omega,hh2,hln2,hf2,hcl2,by rw [hsn];exact ho,hvi⟩
   ·rw [if_neg hz] at hsn
    have hQl:=encPs_len (chrL (cols.take i) (xs.take i))
    have hQl2:=chrL_len (cols.take i) (xs.take i)
    rw [List.length_take] at hQl2
    (repeat' (first | (refine Rn.go ?_;conv=>whnf) | refine .mk ?_ | refine .tt ?_ | refine .ff ?_ | refine .m2 ?_ | refine .m3 ?_ | refine .mk (fun hc=>?_) fun hc=>?_ | refine .lp fun v H lp=>?_ | fail))
    refine .p hcn ?_
    (repeat' (first | (refine Rn.go ?_;conv=>whnf) | refine .mk ?_ | refine .tt ?_ | refine .ff ?_ | refine .m2 ?_ | refine .m3 ?_ | refine .mk (fun hc=>?_) fun hc=>?_ | refine .lp fun v H lp=>?_ | fail))
    refine .lr (fun w' H' lr=>?_) (hn:=by simp only [List.length_cons,List.length_nil];omega)
    have lo:=lr.out
    have lh:=lr.hr
    have ll:=lr.len
    have hnv:∀ j,j≤H.length+2→∀ ep n,v≠.mref j ep 0 n:=fun j hj ep n hh=>by have:=hvi j (by rw [hh];simp [vid]);omega
    have lf:∀ j,j≤H.length+2→H'[j]?=h2[j]?:=fun j hj=>lr.fr j (by omega) (hnv j hj)
    have lv:∀ i∈vid w',H.length+2<i:=fun i hi=>by
     rcases lr.vid i hi with h | h
     ·exact hvi i h
     ·omega
    clear lr
    have e5:H'[H.length+2]?=some ⟨.m,0,2,[.agg [.int .i64 q,v]]⟩:=by rw [lf _ (Nat.le_refl _)];exact hcl2
    have k5:=lt_of_some e5
    have hwr:=lo.visR
    have e6:encPs (chrL (cols.take i) (xs.take i))++[.agg [.int .i64 t.k,.str t.s,.int .i64 t.o,.snap false (encs t.l),.int .i64 (atR xs i)]]=encPs (chrL (cols.take (i+1)) (xs.take (i+1))):=by rw [hsn];simp [encPs,encP,enc_x,cells]
    rw [e6] at lo
    rcases lo with ⟨_,h0⟩ | ⟨iw,ew,rfl,ow⟩
    ·have:=congrArg List.length h0;rw [hsn] at this;simp [encPs] at this
    (repeat' (first | (refine Rn.go ?_;conv=>whnf) | refine .mk ?_ | refine .tt ?_ | refine .ff ?_ | refine .m2 ?_ | refine .m3 ?_ | refine .mk (fun hc=>?_) fun hc=>?_ | refine .lp fun v H lp=>?_ | fail))
    refine .nx ⟨m2 - 1,by omega,i+1,_,rfl,by omega,lh.set _ (by simp) ?_,by simp;omega,fun j hj=>by rw [List.getElem?_set_ne (by omega),lf j (by omega)];exact hf2 j hj,List.getElem?_set_self k5,?_,lv⟩
    ·simp only [visRs,visR,Bool.and_true,Bool.true_and]
     exact hwr
    ·exact .inr ⟨iw,ew,rfl,by rw [List.getElem?_set_ne (by have:=lv iw (by simp [vid]);omega)];exact ow⟩
 ·obtain ⟨i,rfl⟩:∃ i,m=i+1:=⟨m - 1,by omega⟩
  have hi1:(((i+1:Nat):Int) - 1)=(i:Int):=by omega
  rw [hi1]
  have hPi:i<P.length:=by omega
  have hPat:=nthI (a:=P) (c:=i) hPi
  by_cases hneg:atR P i<0
  ·(repeat' (first | (refine Rn.go ?_;conv=>whnf) | refine .mk ?_ | refine .tt ?_ | refine .ff ?_ | refine .m2 ?_ | refine .m3 ?_ | refine .mk (fun hc=>?_) fun hc=>?_ | refine .lp fun v H lp=>?_ | fail))
   exact .nx ⟨i,Nat.lt_succ_self _,xs,rfl,by omega,hh,hlen,hfr,hxs,lxs,hin,hI xs i (by omega) hinv hneg⟩
  obtain ⟨rr,re,B,rfl,er,hatB,hBin,hBat,b1,b2,hBlt,hrow,hBz⟩:=Lh.piv hP hpv (show i<n by omega) hneg
  obtain ⟨v,v0,v1,vI,hcall⟩:=hS h _ _ _ Rs lg i (H.length+1) xs Lh hsm rfl (by omega) hneg hxs lxs hin hinv B hBin hrow hBat
  have hrl:(Rs.map Rw.ptr).length=Rs.length:=by simp
  have hxi:=nthI (a:=xs) (c:=i) (by omega)
  cases b
  all_goals
   (repeat' (first | (refine Rn.go ?_;conv=>whnf) | refine .mk ?_ | refine .tt ?_ | refine .ff ?_ | refine .m2 ?_ | refine .m3 ?_ | refine .mk (fun hc=>?_) fun hc=>?_ | refine .lp fun v H lp=>?_ | fail))
   refine .same hcall fun r hr=>?_
   subst hr
   (repeat' (first | (refine Rn.go ?_;conv=>whnf) | refine .mk ?_ | refine .tt ?_ | refine .ff ?_ | refine .m2 ?_ | refine .m3 ?_ | refine .mk (fun hc=>?_) fun hc=>?_ | refine .lp fun v H lp=>?_ | fail))
   rw [encIs_set,Nat.zero_add]
   exact .nx ⟨i,Nat.lt_succ_self _,xs.set i v,rfl,by omega,hh.set _ (by simp) (vis_vals _ _ (by simp)),by simp [hlen],fun j hj=>by rw [List.getElem?_set_ne (by omega)];exact hfr j hj,List.getElem?_set_self (by omega),by simp [lxs],hin.set ⟨v0,v1⟩ _,vI⟩
end Go.Pm
end
section
set_option maxRecDepth 4000
namespace Go.Pm
open Go.Proofs
theorem atR_set {X:List Int} {i j:Nat} {v:Int} (hi:i<X.length):atR (X.set i v) j=if j=i then v else atR X j:=by
 unfold atR
 simp only [List.getD]
 by_cases h:j=i
 ·subst h;rw [if_pos rfl,List.getElem?_set_self hi];rfl
 ·rw [if_neg h,List.getElem?_set_ne (fun hh=>h hh.symm)]
theorem drop_set {X:List Int} {i j:Nat} {v:Int} (h:i<j):(X.set i v).drop j=X.drop j:=by
 apply List.ext_getElem?
 intro k
 rw [List.getElem?_drop,List.getElem?_drop,List.getElem?_set_ne (by omega)]
structure KI (S:List Row) (P:List Int) (e:Nat) (q a:Int) (X:List Int) (i:Nat):Prop where
 at_:atR X e=a
 hi:∀ j,e<j→atR X j=0
 lo:∀ j,j<i→j≠e→atR X j=0
 np:∀ j,i≤j→j<e→atR P j<0→atR X j=0
 kl:∀ j,i≤j→j<e→¬ atR P j<0→q ∣ dotX (X.drop j) ((rowAt S (atR P j)).drop j)
theorem KI.skip {S:List Row} {P X:List Int} {e i:Nat} {q a:Int} (h:KI S P e q a X (i+1)) (hie:i<e) (hp:atR P i<0):KI S P e q a X i where
 at_:=h.at_
 hi:=h.hi
 lo j hj:=h.lo j (by omega)
 np j hj he hh:=by
  by_cases hji:j=i
  ·subst hji;exact h.lo j (by omega) (by omega)
  ·exact h.np j (by omega) he hh
 kl j hj he hh:=by
  by_cases hji:j=i
  ·subst hji;exact absurd hp hh
  ·exact h.kl j (by omega) he hh
theorem KI.put {S:List Row} {P X:List Int} {e i:Nat} {q a v:Int} (h:KI S P e q a X (i+1)) (hie:i<e) (hX:i<X.length) (hl:i<(rowAt S (atR P i)).length) (hp:¬ atR P i<0) (hv:q ∣ dotX (X.drop (i+1)) ((rowAt S (atR P i)).drop (i+1))+atR (rowAt S (atR P i)) i * v):KI S P e q a (X.set i v) i where
 at_:=by rw [atR_set hX,if_neg (by omega)];exact h.at_
 hi j hj:=by rw [atR_set hX,if_neg (by omega)];exact h.hi j hj
 lo j hj hje:=by rw [atR_set hX,if_neg (by omega)];exact h.lo j (by omega) hje
 np j hj he hh:=by
  by_cases hji:j=i
  ·subst hji;exact absurd hh hp
  ·rw [atR_set hX,if_neg hji];exact h.np j (by omega) he hh
 kl j hj he hh:=by
  by_cases hji:j=i
  ·subst hji
   rw [dotX_at (by simp;omega) hl,drop_set (by omega),atR_set hX,if_pos rfl,Int.mul_comm,Int.add_comm]
   exact hv
  ·rw [drop_set (by omega)];exact h.kl j (by omega) he hh
theorem KI.ini {S:List Row} {P:List Int} {e n:Nat} {q a:Int} (he:e<n):KI S P e q a ((List.replicate n 0).set e a) e where
 at_:=by rw [atR_set (by simpa using he),if_pos rfl]
 hi j hj:=by
  rw [atR_set (by simpa using he),if_neg (by omega)]
  simp only [atR,List.getD,List.getElem?_replicate];split <;> rfl
 lo j hj hje:=by
  rw [atR_set (by simpa using he),if_neg hje]
  simp only [atR,List.getD,List.getElem?_replicate];split <;> rfl
 np j hj hh:=by omega
 kl j hj hh:=by omega
theorem KI.kills {S:List Row} {P X:List Int} {e:Nat} {q a:Int} (h:KI S P e q a X 0) (hX:e<X.length) (hl:¬ atR P e<0→e<(rowAt S (atR P e)).length∧q ∣ a * atR (rowAt S (atR P e)) e):Kills S P e q X where
 np i hi hp:=h.np i (by omega) hi hp
 hi:=h.hi
 kl i hi hp:=by
  by_cases hie:i=e
  ·subst hie
   obtain ⟨h1,h2⟩:=hl hp
   rw [dotX_at hX h1,dotX_zero (X.drop (i+1)),Int.add_zero,h.at_]
   ·exact h2
   ·intro k hk
    have:atR (X.drop (i+1)) k=atR X (i+1+k):=by simp [atR,List.getD]
    rw [this,h.hi _ (by omega)];simp
  ·exact h.kl i (by omega) (by omega) hp
theorem drop_app {A B X:List Int} {i:Nat} (h:X.length=A.length) (hi:i≤A.length):dotX (X.drop i) ((A++B).drop i)=dotX (X.drop i) (A.drop i):=by
 rw [List.drop_append_of_le_length hi,dotX_app _ _ _ (by simp;omega)]
theorem dvd_dotX {d:Int}:∀ {x:List Int} (r:List Int),(∀ y∈x,d ∣ y)→d ∣ dotX x r
 | [],r,_=>by simp [dotX]
 | n::x,[],_=>by simp [dotX]
 | n::x,a::r,h=>by
  rw [dotX]
  exact Int.dvd_add (Int.dvd_mul_of_dvd_left (h n (by simp))) (dvd_dotX r fun y hy=>h y (by simp [hy]))
theorem befN_dvd (S:List Row) (P:List Int) {i j:Nat} (h:i≤j):befN S P i ∣ befN S P j:=by
 induction h with
 | refl=>exact Nat.dvd_refl _
 | @step k _ ih=>exact Nat.dvd_trans ih (Nat.dvd_mul_right _ _)
theorem exI_ok {A X:List Int} {c q N Bf:Nat} (hN:N=(atR A c).natAbs) (hz:atR A c≠0) (hq:0<q) (hB:Bf ∣ q) (hX:∀ y∈X,((Bf * N:Nat):Int) ∣ y) :
  0≤exI A X c q∧exI A X c q<q∧(Bf:Int) ∣ exI A X c q∧(q:Int) ∣ dotX (X.drop (c+1)) (A.drop (c+1))+atR A c * exI A X c q:=by
 have hN0:0<N:=by omega
 have hqN:0<q * N:=Nat.mul_pos hq hN0
 obtain ⟨D,hD⟩:∃ D,D=dotX (X.drop (c+1)) (A.drop (c+1)):=⟨_,rfl⟩
 have d1:((Bf * N:Nat):Int) ∣ D:=by rw [hD];exact dvd_dotX _ fun y hy=>hX y (List.mem_of_mem_drop hy)
 have d2:((Bf * N:Nat):Int) ∣ ((q * N:Nat):Int):=Int.natCast_dvd_natCast.2 (Nat.mul_dvd_mul_right hB N)
 obtain ⟨S,hS⟩:∃ S,S=D % ((q * N:Nat):Int):=⟨_,rfl⟩
 have hS0:0≤S:=by rw [hS];exact Int.emod_nonneg _ (by omega)
 have hDS:D=S+((q * N:Nat):Int) * (D / ((q * N:Nat):Int)):=by rw [hS];exact (Int.emod_add_mul_ediv _ _).symm
 have d3:((Bf * N:Nat):Int) ∣ S:=by
  have:S=D - ((q * N:Nat):Int) * (D / ((q * N:Nat):Int)):=by omega
  rw [this];exact Int.dvd_sub d1 (Int.dvd_mul_of_dvd_left d2)
 obtain ⟨w,hw⟩:=d3
 have hST:S=(N:Int) * (Bf * w):=by rw [hw,Int.natCast_mul,Int.mul_comm (Bf:Int),Int.mul_assoc]
 have hT:S.tdiv (N:Int)=Bf * w:=by rw [hST,Int.mul_tdiv_cancel_left _ (by omega)]
 have hex:∃ z:Int,exI A X c q=z % q∧(Bf:Int) ∣ z∧atR A c * z=-S:=by
  unfold exI sumQ
  rw [← hN,← Int.natCast_mul,← hD,← hS,hT,modI_emod _ (by omega)]
  by_cases hp:0<atR A c
  ·rw [if_pos hp]
   exact ⟨_,rfl,by rw [Int.dvd_neg];exact Int.dvd_mul_right _ _,by rw [Int.mul_neg,hST,show atR A c=(N:Int) by omega]⟩
  ·rw [if_neg hp]
   exact ⟨_,rfl,Int.dvd_mul_right _ _,by rw [hST,show atR A c=-(N:Int) by omega,Int.neg_mul]⟩
 obtain ⟨z,hz1,hz2,hz3⟩:=hex
 have hzq:z=z % q+q * (z / q):=(Int.emod_add_mul_ediv _ _).symm
 have hB':(Bf:Int) ∣ (q:Int):=Int.natCast_dvd_natCast.2 hB
 rw [hz1]
 refine ⟨Int.emod_nonneg _ (by omega),Int.emod_lt_of_pos _ (by omega),?_,?_⟩
 ·rw [show z % (q:Int)=z - q * (z / q) by omega]
  exact Int.dvd_sub hz2 (Int.dvd_mul_of_dvd_left hB')
 ·rw [← hD]
  have e1:atR A c * (z % q)=-S - q * (atR A c * (z / q)):=by
   rw [← hz3,show z % (q:Int)=z - q * (z / q) by omega,Int.mul_sub,Int.mul_left_comm]
  have e2:((q * N:Nat):Int) * (D / ((q * N:Nat):Int))=q * (N * (D / ((q * N:Nat):Int))):=by rw [Int.natCast_mul,Int.mul_assoc]
  refine ⟨(N * (D / ((q * N:Nat):Int))) - atR A c * (z / q),?_⟩
  rw [e1,Int.mul_sub]
  rw [e2] at hDS
  omega
theorem slv_prime {x q n k e:Nat} {S:List Row} {P:List Int} {a:Int} (hP:P.length=n) (he:e<n) (hn:n+k<1000) (hpv:PvOk S P) (hq:Prim q) (hq2:q≤400) (hpn:∀ i,i<e→pn S P i=0∨(pn S P i).tmod q≠0) :
  Slv false x q n k (fun X i=>i≤e∧KI S P e q a X i) S P:=by
 intro H cv rv pv Rs lg i vi X L hsm hS hin hp evi lX inX hI B hB hrow hBat
 obtain ⟨hie,hK⟩:=hI
 obtain ⟨_,lA,lB⟩:=L.at_ B hB
 obtain ⟨f1,f2,f3⟩:=hBat
 have hq1:=hq.1
 rw [hS] at hrow
 have hpi:pn S P i=atR B.a i:=by rw [pn,if_neg hp,hrow,atR_app (by omega)]
 obtain ⟨b,u,g1,g2⟩:=(hpv i (atR P i) (by simp [atR,List.getD,List.getElem?_eq_getElem (show i<P.length by omega)])).2 (by omega)
 have hbz:atR B.a i≠0:=by
  have:b=B.a++B.b:=by rw [← rowAt_of g1,hrow]
  rw [this,atR_app (by omega)] at g2;exact g2
 have hnd:=(hpn i (by omega)).resolve_left (by rw [hpi];exact hbz)
 rw [hpi] at hnd
 have hcop:Nat.gcd q (atR B.a i).natAbs=1:=hq.cop fun hd=>hnd (dvd_tmod.1 (Int.ofNat_dvd_left.2 hd))
 have hdr:dotX (X.drop (i+1)) ((rowAt S (atR P i)).drop (i+1))=dotX (X.drop (i+1)) (B.a.drop (i+1)):=by rw [hrow];exact drop_app (by omega) (by omega)
 have har:atR (rowAt S (atR P i)) i=atR B.a i:=by rw [hrow];exact atR_app (by omega)
 obtain ⟨w,w0,w1,wd⟩:∃ w:Int,0≤w∧w<q∧(q:Int) ∣ dotX (X.drop (i+1)) (B.a.drop (i+1))+atR B.a i * w:=by
  rcases Int.lt_or_le (atR B.a i) 0 with hneg | hpos
  ·obtain ⟨w,w0,w1,wd⟩:=inv_ex hcop (by omega) (-dotX (X.drop (i+1)) (B.a.drop (i+1)))
   refine ⟨w,w0,w1,?_⟩
   rw [show (((atR B.a i).natAbs:Nat):Int)=-atR B.a i by omega,Int.neg_mul] at wd
   have:=Int.dvd_neg.2 wd
   rw [Int.neg_add,Int.neg_neg,Int.neg_neg] at this;exact this
  ·obtain ⟨w,w0,w1,wd⟩:=inv_ex hcop (by omega) (dotX (X.drop (i+1)) (B.a.drop (i+1)))
   exact ⟨w,w0,w1,by rw [show (((atR B.a i).natAbs:Nat):Int)=atR B.a i by omega] at wd;exact wd⟩
 have hev:=p1_ev H L.hr B.r B.p B.c vi 0 i q .m .m .m B.u B.a X B.b.length (by decide) (by decide) (by decide) f1 f2 evi (by omega) (by omega) (by omega) (hsm B hB).1 (fun y hy=>by have:=inX y hy;omega) (by omega) (by omega) w.toNat (by omega) (by rw [show ((w.toNat:Nat):Int)=w by omega];exact wd)
 obtain ⟨r,h',⟨⟨v,rfl,v1,v2⟩,rfl⟩,ee⟩:=hev
 rw [lX] at ee
 refine ⟨v,by omega,by omega,⟨by omega,hK.put (by omega) (by omega) (by rw [hrow];simp;omega) hp (by rw [hdr,har];exact v2)⟩,_,_,⟨rfl,rfl⟩,ee⟩
theorem slv_exact {x q n k e:Nat} {S:List Row} {P:List Int} {a:Int} (hP:P.length=n) (he:e<n) (hn:n+k<1000) (hpv:PvOk S P) (hq:q=befN S P e * nb S P e) (hq2:q≤1073741824) :
  Slv true x q n k (fun X i=>i≤e∧KI S P e q a X i∧∀ y∈X,(befN S P i:Int) ∣ y) S P:=by
 intro H cv rv pv Rs lg i vi X L hsm hS hin hp evi lX inX hI B hB hrow hBat
 obtain ⟨hie,hK,hd⟩:=hI
 obtain ⟨_,lA,lB⟩:=L.at_ B hB
 obtain ⟨f1,f2,f3⟩:=hBat
 have hq1:0<q:=by rw [hq];exact Nat.mul_pos (befN_pos S P e) (nb_pos S P e)
 rw [hS] at hrow
 have hpi:pn S P i=atR B.a i:=by rw [pn,if_neg hp,hrow,atR_app (by omega)]
 obtain ⟨b,u,g1,g2⟩:=(hpv i (atR P i) (by simp [atR,List.getD,List.getElem?_eq_getElem (show i<P.length by omega)])).2 (by omega)
 have hbz:atR B.a i≠0:=by
  have:b=B.a++B.b:=by rw [← rowAt_of g1,hrow]
  rw [this,atR_app (by omega)] at g2;exact g2
 have hnb:nb S P i=(atR B.a i).natAbs:=by rw [nb,hpi,if_neg hbz]
 have hdr:dotX (X.drop (i+1)) ((rowAt S (atR P i)).drop (i+1))=dotX (X.drop (i+1)) (B.a.drop (i+1)):=by rw [hrow];exact drop_app (by omega) (by omega)
 have har:atR (rowAt S (atR P i)) i=atR B.a i:=by rw [hrow];exact atR_app (by omega)
 have hBq:befN S P i ∣ q:=by rw [hq];exact Nat.dvd_trans (befN_dvd S P (show i≤e by omega)) (Nat.dvd_mul_right _ _)
 have hNq:nb S P i≤q:=by
  have h1:befN S P (i+1)≤befN S P e:=befN_mono S P hie
  have h2:nb S P i≤befN S P (i+1):=Nat.le_mul_of_pos_left _ (befN_pos S P i)
  have h3:befN S P e≤q:=by rw [hq];exact Nat.le_mul_of_pos_right _ (nb_pos S P e)
  omega
 obtain ⟨v0,v1,v2,v3⟩:=exI_ok (A:=B.a) (X:=X) (c:=i) (q:=q) (N:=nb S P i) (Bf:=befN S P i) hnb hbz hq1 hBq (fun y hy=>hd y hy)
 have hev:=exact_ev H L.hr x B.r B.p B.c vi 0 i q .m .m .m B.u B.a X B.b.length (by decide) (by decide) (by decide) f1 f2 evi (by omega) (by omega) (by omega) (hsm B hB).1 (fun y hy=>by have:=inX y hy;omega) hq1 hq2 hbz (by omega)
 rw [lX] at hev
 refine ⟨exI B.a X i q,v0,v1,⟨by omega,hK.put (by omega) (by omega) (by rw [hrow];simp;omega) hp (by rw [hdr,har];exact v3),fun y hy=>?_⟩,hev⟩
 rcases List.mem_or_eq_of_mem_set hy with hy | rfl
 ·exact Int.dvd_trans (Int.natCast_dvd_natCast.2 (Nat.dvd_mul_right _ _)) (hd y hy)
 ·exact v2
end Go.Pm
end
section
set_option maxRecDepth 4000
namespace Go.Pm
open Go.Proofs
attribute [local irreducible] thenQ blockQ loopQ bodyQ Ev EvOps CallEv FnEv EvD
theorem reduceN_ev (n k x:Nat) (rv pv:PV) (f:Bool) (H:AHeap) (Rs:List Rw) (P:List Int) (tr:Nat) (L:Lay H x (.snap f []) rv pv n k Rs P false) :
  FnEv C 96 [.ptr x 0 0 0,.ptr tr 0 0 0] H (fun r h'=>h'=H∧r=.int .i64 (-1)):=by
 have ex:=L.ex
 have hR:=L.hr
 refine FnEv.x T6 Tryz.func96 rfl ?_
 (repeat' (first | (refine Rn.go ?_;conv=>whnf) | refine .mk ?_ | refine .tt ?_ | refine .ff ?_ | refine .m2 ?_ | refine .m3 ?_ | refine .mk (fun hc=>?_) fun hc=>?_ | refine .lp fun v H lp=>?_ | fail))
 refine LpX.nat T6 (fun m L h=>m=0∧L=[(0,.ptr x 0 0 0),(1,.ptr tr 0 0 0),(12,.int .i64 0),(13,.int .i64 0)]∧h=H) 0 (.nx ⟨rfl,rfl,rfl⟩) ?_
 rintro m _ h ρ ⟨rfl,rfl,rfl⟩
 (repeat' (first | (refine Rn.go ?_;conv=>whnf) | refine .mk ?_ | refine .tt ?_ | refine .ff ?_ | refine .m2 ?_ | refine .m3 ?_ | refine .mk (fun hc=>?_) fun hc=>?_ | refine .lp fun v H lp=>?_ | fail))
 exact ⟨rfl,rfl⟩
theorem reduceA_ev (n k x:Nat) (rv pv:PV) (f:Bool) (cs:List PV) (H:AHeap) (Rs:List Rw) (P:List Int) (T:Rw) (hL:Lay H x (.snap f cs) rv pv n k Rs P false) (hrn:Rs=[]→rv=.snap true []) (hT:RwAt H T) (hTd:∀ i∈T.ids,i∉Lay.all x rv pv Rs) (hTn:T.ids.Nodup)
  (lTa:T.a.length=n) (lTb:T.b.length=k) (hP:P.length=n) (hcs:cs.length=n) (hpv:PvOk (Rs.map Rw.m) P) (hn:n<1000) (hk:k<1000) (hRl:Rs.length<1000) (hsm:∀ R∈Rs,small R.a=true∧small R.b=true) (hsT:small T.a=true∧small T.b=true) :
  FnEv C 96 [.ptr x 0 0 0,.ptr T.r 0 0 0] H (fun r h'=>Frm H h' (Lay.all x rv pv Rs++T.ids)∧∃ T' lg at_,r=.int .i64 at_∧Lay h' x (.snap f cs) rv pv n k Rs P lg∧RwAt h' T'∧T'.ids=T.ids∧T'.u=T.u∧T'.a.length=n∧T'.b.length=k ∧
   match redF (Rs.map Rw.m) P 0 (T.a++T.b) with
   | none=>lg=true∧at_=-1
   | some (t',c')=>lg=false∧at_=c'∧T'.a++T'.b=t'∧small T'.a=true∧small T'.b=true):=by
 by_cases h0:Rs=[]
 ·subst h0
  obtain rfl:=hrn rfl
  have hp1:∀ i∈P,i=-1:=fun i hi=>by
   obtain ⟨c,hc⟩:=List.getElem?_of_mem hi
   obtain ⟨h1,h2⟩:=hpv c i hc
   rcases Int.lt_or_le i 0 with h3 | h3
   ·omega
   ·obtain ⟨b,u,h4,_⟩:=h2 h3;simp at h4
  refine (reduce0_ev n k x pv f cs H P T hL hT lTa hP hcs hp1 hn).mono fun r h' hr=>?_
  obtain ⟨rfl,c',rfl,hred⟩:=hr
  refine ⟨Frm.refl _ _,T,false,c',rfl,hL,hT,rfl,rfl,lTa,lTb,?_⟩
  rw [List.map_nil,hred];exact ⟨rfl,rfl,rfl,hsT.1,hsT.2⟩
 ·by_cases hn0:n=0
  ·have hcs0:cs=[]:=List.eq_nil_of_length_eq_zero (by omega)
   have hP0:P=[]:=List.eq_nil_of_length_eq_zero (by omega)
   subst hcs0 hP0
   refine (reduceN_ev n k x rv pv f H Rs [] T.r hL).mono fun r h' hr=>?_
   obtain ⟨rfl,rfl⟩:=hr
   exact ⟨Frm.refl _ _,T,false,-1,rfl,hL,hT,rfl,rfl,lTa,lTb,rfl,rfl,rfl,hsT.1,hsT.2⟩
  ·obtain ⟨rr,re,rfl⟩:∃ rr re,rv=.mref rr re 0 Rs.length:=by
    rcases hL.er with ⟨_,h1⟩ | ⟨id,ep,h1,_⟩
    ·exact absurd (by simpa using h1) h0
    ·exact ⟨id,ep,by rw [h1];simp⟩
   obtain ⟨pi,pe,rfl,epv⟩:=hL.piv0 (by omega)
   exact reduce_ev n k x rr re pi pe f cs H Rs P T hL hT hTd hTn lTa lTb hP hcs hpv hn hk hRl hsm hsT
theorem CallEv.red {C:Cfg} {f:FuncId} {args:List PV} {H:AHeap} {x n k:Nat} {cv rv pv:PV} {Rs:List Rw} {W:Rw→Bool→Int→Prop} {Q:PV→AHeap→Prop} {P:List Int} {T:Rw} (L:Lay H x cv rv pv n k Rs P false) (hT:RwAt H T)
  (a:FnEv C f args H (fun r h'=>Frm H h' (Lay.all x rv pv Rs++T.ids)∧∃ T' lg at_,r=.int .i64 at_∧Lay h' x cv rv pv n k Rs P lg∧RwAt h' T'∧T'.ids=T.ids∧W T' lg at_))
  (q:∀ h' T' lg at_,Frm H h' (Lay.all x rv pv Rs++T.ids)→Lay h' x cv rv pv n k Rs P lg→RwAt h' T'→T'.ids=T.ids→W T' lg at_→Q (.int .i64 at_) h') (hm:C.mode f=.opened:=by rfl):CallEv C 2 f args H Q:=by
 refine CallEv.sm a (fun r h' hr=>⟨?_,hr.1.len⟩) (fun r h' hr=>?_) (fun r h' hr hR=>?_) hm
 ·obtain ⟨_,_,_,_,_,L',_⟩:=hr;exact L'.hr
 ·obtain ⟨hf,T',lg,at_,rfl,L',hT',hi,hw⟩:=hr
  exact q _ T' lg at_ hf L' hT' hi hw
 ·obtain ⟨hf,T',lg,at_,rfl,L',hT',hi,hw⟩:=hr
  have hlt:∀ i∈T'.ids,i<H.length:=fun i h=>hT.lt i (by rw [← hi];exact h)
  exact q _ T' lg at_ ⟨by rw [List.length_take,Nat.min_eq_left hf.len];exact Nat.le_refl _,fun j h1 h2=>by rw [List.getElem?_take,if_pos h1];exact hf.fr j h1 h2⟩ (L'.take (fun i hi=>L.lt i hi) hR) (hT'.of_eq fun i h=>by rw [List.getElem?_take,if_pos (hlt i h)]) hi hw
structure SvP (l:List (List Pw)) (m:List Pw) (N:Nat) (h:AHeap) (x:Nat) (rv pv:PV) (Rs:List Rw) (P:List Int) (T:Rw) (S:List Row) (t:List Int):Prop where
 lay:Lay h x (.snap false (encs (facs (l++[m])))) rv pv (facs (l++[m])).length l.length Rs P false
 at_:RwAt h T
 ta:T.a.length=(facs (l++[m])).length
 tb:T.b.length=l.length
 tt:T.a++T.b=t
 ts:small T.a=true∧small T.b=true
 sm:∀ R∈Rs,small R.a=true∧small R.b=true
 rs:Rs.map Rw.m=S
 rl:Rs.length=l.length
 ge:∀ i∈Lay.all x rv pv Rs++T.ids,N≤i
def solvePost (l:List (List Pw)) (m:List Pw) (N:Nat) (g:Giv) (r:PV) (h:AHeap):Prop:=
 match g with
 | .err e=>r=.tup [.nilp,.nilp,.int .i64 0,.int .i64 e]
 | .ok S P t c=>∃ x rv pv Rs T,r=.tup [.ptr x 0 0 0,.ptr T.r 0 0 0,.int .i64 c,.int .i64 0]∧SvP l m N h x rv pv Rs P T S t
namespace Nine
theorem solve_ev (H:AHeap) (hH:HV H) (l:List (List Pw)) (m:List Pw) (g:Giv) (hl:l.length≤12) (hs:SmT (l++[m])) (hg:GivR l m g) :
  FnEv C 61 [.snap false (encPPs l),.snap false (encPs m)] H (fun r h'=>HR h'∧H.length≤h'.length∧(∀ j,j<H.length→h'[j]?=H[j]?)∧solvePost l m H.length g r h'):=by
 obtain ⟨res,hE,hgs⟩:∃ res,(gErr (l++[m])=0→(facs (l++[m])).length≤12→El (facs (l++[m])).length 0 (row0s l m) [] res)∧((∃ e,g=.err e∧((gErr (l++[m])≠0∧e=gErr (l++[m]))∨(gErr (l++[m])=0∧12<(facs (l++[m])).length∧e=3)∨(gErr (l++[m])=0∧(facs (l++[m])).length≤12∧res=none∧e=3))) ∨
   (gErr (l++[m])=0∧(facs (l++[m])).length≤12∧∃ S P,res=some (S,P)∧match redF S P 0 (t0r l m) with | none=>g=.err 3 | some (t,c)=>g=.ok S P t c)):=by
  cases hg with
  | bad h=>exact ⟨none,fun h0=>absurd h0 h,.inl ⟨_,rfl,.inl ⟨h,rfl⟩⟩⟩
  | wide h h1=>exact ⟨none,fun _ h2=>by omega,.inl ⟨_,rfl,.inr (.inl ⟨h,h1,rfl⟩)⟩⟩
  | big h h1 h2=>exact ⟨none,fun _ _=>h2,.inl ⟨_,rfl,.inr (.inr ⟨h,h1,rfl,rfl⟩)⟩⟩
  | big2 h h1 h2 h3=>exact ⟨_,fun _ _=>h2,.inr ⟨h,h1,_,_,rfl,by rw [h3]⟩⟩
  | ok h h1 h2 h3=>exact ⟨_,fun _ _=>h2,.inr ⟨h,h1,_,_,rfl,by rw [h3]⟩⟩
 have hst:=start_ev H hH l m res hl hs hE
 refine FnEv.x T6 Tryz.func61 rfl ?_
 (repeat' (first | (refine Rn.go ?_;conv=>whnf) | refine .mk ?_ | refine .tt ?_ | refine .ff ?_ | refine .m2 ?_ | refine .m3 ?_ | refine .mk (fun hc=>?_) fun hc=>?_ | refine .lp fun v H lp=>?_ | fail))
 refine .fr hst (fun r h hr hb=>?_) (fun r h r1 r2 r3 r4=>?_)
 ·unfold startPost at hr ⊢
  split at hr
  ·rename_i h1;rw [if_pos h1];exact hr
  ·rename_i h1
   rw [if_neg h1]
   split at hr
   ·rename_i h2;rw [if_pos h2];exact hr
   ·obtain ⟨x,rv,pv,Rs,P,lg,T,rfl,q⟩:=hr
    have:=q.ge x (by simp [Lay.all])
    simp [belowR,belowA,below1] at hb
    omega
 ·unfold startPost at r4
  rcases hgs with ⟨e,rfl,he⟩ | ⟨h0,h12,S,P,rfl,hm⟩
  ·rcases he with ⟨a,rfl⟩ | ⟨a,b,rfl⟩ | ⟨a,b,rfl,rfl⟩
   ·rw [if_pos a] at r4
    subst r4
    (repeat' (first | (refine Rn.go ?_;conv=>whnf) | refine .mk ?_ | refine .tt ?_ | refine .ff ?_ | refine .m2 ?_ | refine .m3 ?_ | refine .mk (fun hc=>?_) fun hc=>?_ | refine .lp fun v H lp=>?_ | fail))
    exact ⟨r1,r2,r3,rfl⟩
   ·rw [if_neg (by omega),if_pos b] at r4
    subst r4
    (repeat' (first | (refine Rn.go ?_;conv=>whnf) | refine .mk ?_ | refine .tt ?_ | refine .ff ?_ | refine .m2 ?_ | refine .m3 ?_ | refine .mk (fun hc=>?_) fun hc=>?_ | refine .lp fun v H lp=>?_ | fail))
    exact ⟨r1,r2,r3,rfl⟩
   ·rw [if_neg (by omega),if_neg (by omega)] at r4
    obtain ⟨x,rv,pv,Rs,P,lg,T,rfl,q⟩:=r4
    obtain rfl:=q.nn rfl
    have ex:=q.lay.ex
    (repeat' (first | (refine Rn.go ?_;conv=>whnf) | refine .mk ?_ | refine .tt ?_ | refine .ff ?_ | refine .m2 ?_ | refine .m3 ?_ | refine .mk (fun hc=>?_) fun hc=>?_ | refine .lp fun v H lp=>?_ | fail))
    exact ⟨r1,r2,r3,rfl⟩
  ·rw [if_neg (by omega),if_neg (by omega)] at r4
   obtain ⟨x,rv,pv,Rs,P2,lg,T,rfl,q⟩:=r4
   obtain ⟨rfl,rfl,rfl,hsm⟩:=q.ss _ _ rfl
   have ex:=q.lay.ex
   have hEl:=hE h0 h12
   have hinv:=EInv.el hEl (row0s_inv l m) _ _ rfl
   have hts:=t0r_small (l:=l) (m:=m) h0
   have htr:T.a++T.b=t0r l m:=by rw [q.ta,q.tb];rfl
   rw [← htr,small_app,Bool.and_eq_true] at hts
   rw [← htr] at hm
   have hrd:=(reduceA_ev _ _ x rv pv false _ h Rs P2 T q.lay q.rn q.at_ q.td q.tn (by rw [q.ta];simp) (by rw [q.tb];simp) q.pl (by simp) hinv.ok (by omega) (by omega) (by have:=q.rl;omega) hsm hts).nine
   have ge:=q.ge
   have hNl:H.length≤h.length:=r2
   have hlt:∀ i∈Lay.all x rv pv Rs++T.ids,i<h.length:=fun i hi=>by
    rcases List.mem_append.1 hi with hi | hi
    ·exact q.lay.lt i hi
    ·exact q.at_.lt i hi
   (repeat' (first | (refine Rn.go ?_;conv=>whnf) | refine .mk ?_ | refine .tt ?_ | refine .ff ?_ | refine .m2 ?_ | refine .m3 ?_ | refine .mk (fun hc=>?_) fun hc=>?_ | refine .lp fun v H lp=>?_ | fail))
   refine .red q.lay q.at_ hrd (fun h2 T' lg at2 fr L2 hT2 hid hW=>?_)
   obtain ⟨w1,w2,w3,w4⟩:=hW
   have ex2:=L2.ex
   have hfr:∀ j,j<H.length→h2[j]?=H[j]?:=fun j hj=>by
    rw [fr.fr j (by omega) (fun hh=>by have:=ge j hh;omega)];exact r3 j hj
   have hl2:=fr.len
   have hTr:T'.r=T.r:=by have:=congrArg List.head? hid;simpa [Rw.ids] using this
   cases hred:redF (Rs.map Rw.m) P2 0 (T.a++T.b) with
   | none=>
    rw [hred] at hm w4
    obtain ⟨rfl,rfl⟩:=w4
    subst hm
    (repeat' (first | (refine Rn.go ?_;conv=>whnf) | refine .mk ?_ | refine .tt ?_ | refine .ff ?_ | refine .m2 ?_ | refine .m3 ?_ | refine .mk (fun hc=>?_) fun hc=>?_ | refine .lp fun v H lp=>?_ | fail))
    exact ⟨L2.hr,by omega,hfr,rfl⟩
   | some y=>
    obtain ⟨t,c⟩:=y
    rw [hred] at hm w4
    obtain ⟨rfl,rfl,z1,z2⟩:=w4
    subst hm
    (repeat' (first | (refine Rn.go ?_;conv=>whnf) | refine .mk ?_ | refine .tt ?_ | refine .ff ?_ | refine .m2 ?_ | refine .m3 ?_ | refine .mk (fun hc=>?_) fun hc=>?_ | refine .lp fun v H lp=>?_ | fail))
    exact ⟨L2.hr,by omega,hfr,x,rv,pv,Rs,T',by rw [hTr];rfl,⟨L2,hT2,w2,w3,z1,z2,hsm,rfl,q.rl,by rw [hid];exact ge⟩⟩
end Nine
end Go.Pm
end
section
set_option maxRecDepth 4000
namespace Go.Pm
open Go.Proofs
theorem tmod_abs (a:Int) (p:Nat):((a.natAbs:Nat):Int).tmod p=0↔a.tmod p=0:=by
 rw [← dvd_tmod,← dvd_tmod,Int.dvd_natAbs]
theorem prim_sq {p d:Nat} (h2:2≤p) (hd:p<d * d) (h:∀ e,2≤e→e<d→¬ e ∣ p):Prim p:=by
 refine ⟨h2,fun e h3 h4 h5=>?_⟩
 rcases Nat.lt_or_ge e d with h6 | h6
 ·exact h e h3 h6 h5
 ·obtain ⟨f,rfl⟩:=h5
  have hf:f<d:=by
   refine Classical.byContradiction fun hh=>?_
   have:=Nat.mul_le_mul h6 (show d≤f by omega)
   omega
  have hf2:2≤f:=by
   refine Classical.byContradiction fun hh=>?_
   have:f≤1:=by omega
   have:=Nat.mul_le_mul_left e this
   omega
  exact h f hf2 hf (Nat.dvd_mul_left _ _)
attribute [local irreducible] thenQ blockQ loopQ bodyQ Ev EvOps CallEv FnEv EvD
theorem pprime_ev (H:AHeap) (x n k e:Nat) (f:Bool) (cols:List Tm) (rv pv:PV) (Rs:List Rw) (P:List Int) (lg:Bool) (T:Rw) (L:Lay H x (.snap f (encs cols)) rv pv n k Rs P lg) (hT:RwAt H T) (lT:T.a.length=n) (hcl:cols.length=n) (hP:P.length=n) (hpv:PvOk (Rs.map Rw.m) P)
  (hsm:∀ R∈Rs,small R.a=true∧small R.b=true) (hsT:small T.a=true) (hn:n≤12) (hk:k<900) (hl:Rs.length<1000) (he:e<n) (hb:∀ t∈cols,bulk t<100000000) (hz:atR T.a e≠0) :
  FnEv C 63 [.ptr x 0 0 0,.ptr T.r 0 0 0,.int .i64 e] H (fun r h'=>HR h'∧H.length≤h'.length∧(∀ j,j<H.length→h'[j]?=H[j]?) ∧
   ∃ (q:Nat) (v:PV) (X:List Int),r=.agg [.int .i64 q,v]∧Out 5 h' v (encPs (chrL cols X))∧(∀ i∈vid v,H.length≤i)∧X.length=n∧inQ q X∧2≤q∧q≤400∧(atR T.a e).tmod q≠0∧KI (Rs.map Rw.m) P e q 1 X 0):=by
 have hsb:=small_at hsT (i:=e) (by omega)
 obtain ⟨p0,g1,g2,g3,g4,g5⟩:=table_prime hpv (fun R hR=>by
  obtain ⟨Q,hQ,rfl⟩:=List.mem_map.1 hR
  show small (Q.a++Q.b)=true
  rw [small_app,(hsm Q hQ).1,(hsm Q hQ).2];rfl) (show e≤P.length by omega) (by omega) hz hsb
 obtain ⟨G,hG⟩:∃ G,G=H++[(⟨.m,0,2,[.agg [.int .i64 0,.snap true []]]⟩:AObj)]:=⟨_,rfl⟩
 have hRG:HR G:=by rw [hG];exact L.hr.appV (HV.one rfl)
 have lG:G.length=H.length+1:=by rw [hG];simp
 have fG:∀ j,j<H.length→G[j]?=H[j]?:=fun j hj=>by rw [hG,List.getElem?_append_left hj]
 have cG:G[H.length]?=some ⟨.m,0,2,[.agg [.int .i64 0,.snap true []]]⟩:=by rw [hG];simp
 have LG:Lay G x (.snap f (encs cols)) rv pv n k Rs P lg:=L.of_eq hRG fun i hi=>fG i (L.lt i hi)
 obtain ⟨e1,e2,e3⟩:RwAt G T:=hT.of_eq fun i hi=>fG i (hT.lt i hi)
 obtain ⟨pi,pe,rfl,epv⟩:=LG.piv0 (by omega)
 have ex:=LG.ex
 have hPl:(encIs P).length=P.length:=by simp
 have hTa:(encIs T.a).length=T.a.length:=by simp
 have hTe:=nthI (a:=T.a) (c:=e) (by omega)
 refine FnEv.x T6 Tryz.func63 rfl ?_
 (repeat' (first | (refine Rn.go ?_;conv=>whnf) | refine .mk ?_ | refine .tt ?_ | refine .ff ?_ | refine .m2 ?_ | refine .m3 ?_ | refine .mk (fun hc=>?_) fun hc=>?_ | refine .lp fun v H lp=>?_ | fail))
 rw [← hG]
 refine LpX.nat T6 (fun m L h=>∃ p:Nat,L=[(0,.ptr x 0 0 0),(1,.ptr T.r 0 0 0),(2,.int .i64 e),(6,.ptr H.length 0 0 0),(7,.int .i64 p)]∧h=G∧2≤p∧p+m=p0) (p0 - 2) (.nx ⟨2,rfl,rfl,by omega,by omega⟩) ?_
 rintro m _ G ρ ⟨p,rfl,rfl,hp2,hpm⟩
 have ok1:p=p0→(atR T.a e).tmod p≠0:=fun hh=>by rw [hh];exact g4
 (repeat' (first | (refine Rn.go ?_;conv=>whnf) | refine .mk ?_ | refine .tt ?_ | refine .ff ?_ | refine .m2 ?_ | refine .m3 ?_ | refine .mk (fun hc=>?_) fun hc=>?_ | refine .lp fun v H lp=>?_ | fail))
 all_goals
  first
   | (have _hc:¬ (atR T.a e).tmod p=0:=hc;refine LpX.nat T6 (fun m2 L h=>∃ (d:Nat) (ok:Bool),L=[(0,.ptr x 0 0 0),(1,.ptr T.r 0 0 0),(2,.int .i64 e),(6,.ptr H.length 0 0 0),(7,.int .i64 p),(8,.bool ok),(9,.int .i64 d)]∧h=G∧2≤d∧d+m2=p+1∧(p=p0→ok=true)∧(ok=true→(atR T.a e).tmod p≠0∧∀ y,2≤y→y<d→¬ y ∣ p)) (p - 1) (.nx ⟨2,true,rfl,rfl,by omega,by omega,fun _=>rfl,fun _=>⟨hc,fun y h1 h2=>by omega⟩⟩) ?_)
   | (have _hc:(atR T.a e).tmod p=0:=hc;refine LpX.nat T6 (fun m2 L h=>∃ (d:Nat) (ok:Bool),L=[(0,.ptr x 0 0 0),(1,.ptr T.r 0 0 0),(2,.int .i64 e),(6,.ptr H.length 0 0 0),(7,.int .i64 p),(8,.bool ok),(9,.int .i64 d)]∧h=G∧2≤d∧d+m2=p+1∧(p=p0→ok=true)∧(ok=true→(atR T.a e).tmod p≠0∧∀ y,2≤y→y<d→¬ y ∣ p)) (p - 1) (.nx ⟨2,false,rfl,rfl,by omega,by omega,fun hh=>absurd hc (ok1 hh),fun hh=>by cases hh⟩) ?_)
  clear _hc hc
  rintro m2 _ G ρ ⟨d,ok,rfl,rfl,hd2,hdm,hok,hpr⟩
  have hdd:=Nat.mul_le_mul (show d≤401 by omega) (show d≤401 by omega)
  by_cases hsq:d * d≤p
  ·have hdp:d<p:=by
    have:=Nat.mul_le_mul hd2 (Nat.le_refl d)
    omega
   have hpt:p=p0→(p:Int).tmod d≠0:=fun hh=>by rw [hh];exact prim_tmod g3 hd2 (by omega)
   have hsq2:(d:Int) * d≤p:=by rw [← Int.natCast_mul];exact Int.ofNat_le.2 hsq
   have hsq3:(d:Int) * d≤160801:=by omega
   have hsq4:(0:Int)≤(d:Int) * d:=by rw [← Int.natCast_mul];exact Int.natCast_nonneg _
   cases ok
   ·have hlt:p≠p0:=fun hh=>by have:=hok hh;cases this
    (repeat' (first | (refine Rn.go ?_;conv=>whnf) | refine .mk ?_ | refine .tt ?_ | refine .ff ?_ | refine .m2 ?_ | refine .m3 ?_ | refine .mk (fun hc=>?_) fun hc=>?_ | refine .lp fun v H lp=>?_ | fail))
    exact .nx ⟨m2 - 1,by omega,d+1,false,rfl,rfl,by omega,by omega,fun hh=>absurd hh hlt,fun hh=>by cases hh⟩
   ·obtain ⟨q1,q2⟩:=hpr rfl
    (repeat' (first | (refine Rn.go ?_;conv=>whnf) | refine .mk ?_ | refine .tt ?_ | refine .ff ?_ | refine .m2 ?_ | refine .m3 ?_ | refine .mk (fun hc=>?_) fun hc=>?_ | refine .lp fun v H lp=>?_ | fail))
    all_goals first
     | (have _hc:¬ (p:Int).tmod d=0:=hc;exact .nx ⟨m2 - 1,by omega,d+1,true,rfl,rfl,by omega,by omega,fun _=>rfl,fun _=>⟨q1,fun y h1 h2 hy=>by
       rcases Nat.lt_or_ge y d with h3 | h3
       ·exact q2 y h1 h3 hy
       ·have:y=d:=by omega
        subst this
        exact hc (dvd_tmod.1 (Int.natCast_dvd_natCast.2 hy))⟩⟩)
     | exact .nx ⟨m2 - 1,by omega,d+1,false,rfl,rfl,by omega,by omega,fun hh=>absurd hc (hpt hh),fun hh=>by cases hh⟩
  ·have hsq2:¬ (d:Int) * d≤p:=by rw [← Int.natCast_mul];exact fun hh=>hsq (Int.ofNat_le.1 hh)
   have hsq3:(d:Int) * d≤160801:=by rw [← Int.natCast_mul];exact Int.ofNat_le.2 hdd
   (repeat' (first | (refine Rn.go ?_;conv=>whnf) | refine .mk ?_ | refine .tt ?_ | refine .ff ?_ | refine .m2 ?_ | refine .m3 ?_ | refine .mk (fun hc=>?_) fun hc=>?_ | refine .lp fun v H lp=>?_ | fail))
   refine LpX.nat T6 (fun m3 L h=>∃ (i:Nat) (ok:Bool),L=[(0,.ptr x 0 0 0),(1,.ptr T.r 0 0 0),(2,.int .i64 e),(6,.ptr H.length 0 0 0),(7,.int .i64 p),(8,.bool ok),(37,.int .i64 e),(38,.int .i64 i)]∧h=G∧i+m3=e∧(p=p0→ok=true)∧(ok=true→(atR T.a e).tmod p≠0∧Prim p∧∀ j,j<i→pn (Rs.map Rw.m) P j=0∨(pn (Rs.map Rw.m) P j).tmod p≠0)) e (.nx ⟨0,ok,rfl,rfl,by omega,hok,fun hh=>⟨(hpr hh).1,prim_sq hp2 (by omega) (hpr hh).2,fun j hj=>by omega⟩⟩) ?_
   clear hpr hok ok
   rintro m3 _ G ρ ⟨i,ok,rfl,rfl,him,hok,hpr⟩
   by_cases hm3:m3=0
   ·cases ok
    ·have hlt:p≠p0:=fun hh=>by have:=hok hh;cases this
     (repeat' (first | (refine Rn.go ?_;conv=>whnf) | refine .mk ?_ | refine .tt ?_ | refine .ff ?_ | refine .m2 ?_ | refine .m3 ?_ | refine .mk (fun hc=>?_) fun hc=>?_ | refine .lp fun v H lp=>?_ | fail))
     exact .nx ⟨m - 1,by omega,p+1,rfl,rfl,by omega,by omega⟩
    ·obtain ⟨q1,q2,q3⟩:=hpr rfl
     have hie:i=e:=by omega
     subst hie
     have hKs:Slv false x p n k (fun X j=>j≤i∧KI (Rs.map Rw.m) P i p 1 X j) (Rs.map Rw.m) P:=slv_prime hP he (by omega) hpv q2 (by omega) q3
     have h1p:(1:Int) % (p:Int)=1:=Int.emod_eq_of_lt (by omega) (by omega)
     have hch:=pchar_ev false G x n k p i 1 f cols rv _ Rs P lg _ LG hcl hP hpv hsm (by omega) hl he (by omega) (by omega) (by omega) hb hKs ⟨Nat.le_refl _,by rw [h1p];exact KI.ini he⟩ (fun X j hj hI hp=>⟨by omega,hI.2.skip hj hp⟩)
     (repeat' (first | (refine Rn.go ?_;conv=>whnf) | refine .mk ?_ | refine .tt ?_ | refine .ff ?_ | refine .m2 ?_ | refine .m3 ?_ | refine .mk (fun hc=>?_) fun hc=>?_ | refine .lp fun v H lp=>?_ | fail))
     refine .fr hch (fun r h' hr hb=>?_) (fun r h' r1 r2 r3 r4=>?_)
     ·obtain ⟨v,X,rfl,o,fo,hI,lX,hin⟩:=hr
      simp only [belowR,belowA,List.all_cons,List.all_nil,Bool.and_true,Bool.and_eq_true] at hb
      obtain ⟨rfl,w2⟩:=out_b1 o hb.2 fo
      exact ⟨_,X,rfl,.inl ⟨rfl,w2⟩,by simp [vid],hI,lX,hin⟩
     obtain ⟨v,X,rfl,o,fo,hI,lX,hin⟩:=r4
     have how:=o.oneC
     have hcx:(cells (PV.agg [.int .i64 (p:Int),v])).all oneC=true:=by
      show (true && (oneC v && true))=true
      rw [how.1];rfl
     have e8:h'[H.length]?=some ⟨.m,0,2,[.agg [.int .i64 0,.snap true []]]⟩:=by rw [r3 _ (by omega)];exact cG
     have k8:=lt_of_some e8
     have hvr:=o.visR
     (repeat' (first | (refine Rn.go ?_;conv=>whnf) | refine .mk ?_ | refine .tt ?_ | refine .ff ?_ | refine .m2 ?_ | refine .m3 ?_ | refine .mk (fun hc=>?_) fun hc=>?_ | refine .lp fun v H lp=>?_ | fail))
     rw [hcx]
     conv=>whnf
     (repeat' (first | (refine Rn.go ?_;conv=>whnf) | refine .mk ?_ | refine .tt ?_ | refine .ff ?_ | refine .m2 ?_ | refine .m3 ?_ | refine .mk (fun hc=>?_) fun hc=>?_ | refine .lp fun v H lp=>?_ | fail))
     refine .mk ?_ (resC_cellN (T:=T6) rfl (List.getElem?_set_self k8) rfl rfl rfl rfl)
     refine Rn.go ?_
     refine ⟨r1.set _ (by simp) ?_,by simp;omega,fun j hj=>by rw [List.getElem?_set_ne (by omega),r3 j (by omega)];exact fG j hj,p,v,X,rfl,o.of_eq fun i hi=>List.getElem?_set_ne (by have:=fo i hi;omega),fun i hi=>by have:=fo i hi;omega,lX,hin,by omega,by omega,q1,hI.2⟩
     simp only [visRs,visR,Bool.and_true,Bool.true_and]
     exact hvr
   ·have hPi:i<P.length:=by omega
    have hPat:=nthI (a:=P) (c:=i) hPi
    have h5:=g5 i (by omega)
    have hnum:=number_ev n k x _ rv _ G Rs P lg i LG hP hpv (by omega) (fun R hR=>(hsm R hR).1) (by omega) hl
    cases ok
    ·have hlt:p≠p0:=fun hh=>by have:=hok hh;cases this
     (repeat' (first | (refine Rn.go ?_;conv=>whnf) | refine .mk ?_ | refine .tt ?_ | refine .ff ?_ | refine .m2 ?_ | refine .m3 ?_ | refine .mk (fun hc=>?_) fun hc=>?_ | refine .lp fun v H lp=>?_ | fail))
     exact .nx ⟨m3 - 1,by omega,i+1,false,rfl,rfl,by omega,fun hh=>absurd hh hlt,fun hh=>by cases hh⟩
    ·obtain ⟨q1,q2,q3⟩:=hpr rfl
     by_cases hneg:atR P i<0
     ·(repeat' (first | (refine Rn.go ?_;conv=>whnf) | refine .mk ?_ | refine .tt ?_ | refine .ff ?_ | refine .m2 ?_ | refine .m3 ?_ | refine .mk (fun hc=>?_) fun hc=>?_ | refine .lp fun v H lp=>?_ | fail))
      exact .nx ⟨m3 - 1,by omega,i+1,true,rfl,rfl,by omega,fun _=>rfl,fun _=>⟨q1,q2,fun j hj=>by
       rcases Nat.lt_or_ge j i with h3 | h3
       ·exact q3 j h3
       ·have:j=i:=by omega
        subst this
        exact .inl (by rw [pn,if_pos hneg])⟩⟩
     ·have hta:=tmod_abs (pn (Rs.map Rw.m) P i) p
      have hpb:=pn_ok hpv (fun R hR=>by
       obtain ⟨Q,hQ,rfl⟩:=List.mem_map.1 hR
       show small (Q.a++Q.b)=true
       rw [small_app,(hsm Q hQ).1,(hsm Q hQ).2];rfl) hPi
      (repeat' (first | (refine Rn.go ?_;conv=>whnf) | refine .mk ?_ | refine .tt ?_ | refine .ff ?_ | refine .m2 ?_ | refine .m3 ?_ | refine .mk (fun hc=>?_) fun hc=>?_ | refine .lp fun v H lp=>?_ | fail))
      refine .same hnum fun r hr=>?_
      subst hr
      (repeat' (first | (refine Rn.go ?_;conv=>whnf) | refine .mk ?_ | refine .tt ?_ | refine .ff ?_ | refine .m2 ?_ | refine .m3 ?_ | refine .mk (fun hc=>?_) fun hc=>?_ | refine .lp fun v H lp=>?_ | fail))
      all_goals first
       | (have _hc:¬ ((pn (Rs.map Rw.m) P i).natAbs:Int).tmod p=0:=hc;exact .nx ⟨m3 - 1,by omega,i+1,true,rfl,rfl,by omega,fun _=>rfl,fun _=>⟨q1,q2,fun j hj=>by
         rcases Nat.lt_or_ge j i with h3 | h3
         ·exact q3 j h3
         ·have:j=i:=by omega
          subst this
          exact .inr fun hh=>hc (hta.2 hh)⟩⟩)
       | exact .nx ⟨m3 - 1,by omega,i+1,false,rfl,rfl,by omega,fun hh=>(h5.elim (fun h=>absurd (hpb.1.1 h) hneg) (fun h=>absurd (hta.1 hc) (by rw [hh];exact h))),fun hh=>by cases hh⟩
end Go.Pm
end
section
set_option maxRecDepth 4000
namespace Go.Pm
open Go.Proofs
def memV (l:List (List Pw)) (m:List Pw) (g:Giv):List Int:=match g with
 | .err _=>[]
 | .ok S P t c=>if c<0 then (t.drop (facs (l++[m])).length).map (fun n=>-n) else []
def zeroC:PV:=.agg [.int .i64 0,.snap false []]
def RefQ (l:List (List Pw)) (m:List Pw) (g:Giv) (x:PV):Prop:=match g with
 | .err _=>x=zeroC
 | .ok S P t c=>if refE (.ok S P t c)=0 then ∃ (q:Nat) (X:List Int),x=.agg [.int .i64 q,.snap false (encPs (chrL (facs (l++[m])) X))]∧2≤q∧q≤1073741824∧X.length=(facs (l++[m])).length∧inQ q X∧Kills S P c.toNat q X∧¬ (q:Int) ∣ atR X c.toNat * atR t c.toNat else x=zeroC
theorem givR_err {l:List (List Pw)} {m:List Pw} {e:Int} (hg:GivR l m (.err e)):e≠0:=by
 cases hg with
 | bad h=>exact h
 | wide=>decide
 | big=>decide
 | big2=>decide
theorem solvePost_fr {l:List (List Pw)} {m:List Pw} {H h:AHeap} {g:Giv} {r:PV} (p:solvePost l m H.length g r h) (hb:belowR H.length r=true):solvePost l m H.length g r (h.take H.length):=by
 cases g with
 | err e=>exact p
 | ok S P t c=>
  obtain ⟨x,rv,pv,Rs,T,rfl,q⟩:=p
  have:=q.ge x (by simp [Lay.all])
  simp [belowR,belowA,below1] at hb
  omega
attribute [local irreducible] thenQ blockQ loopQ bodyQ Ev EvOps CallEv FnEv EvD
namespace Nine
theorem pmem_fun (l:List (List Pw)) (m:List Pw) (g:Giv) (hl:l.length≤12) (hs:SmT (l++[m])) (hg:GivR l m g) :
  Fun C 20 [.snap false (encPPs l),.snap false (encPs m)] (.tup [.snap false (encIs (memV l m g)),.int .i64 (memE g)]):=by
 have hsv:=solve_ev [] HV.nil l m g hl hs hg
 refine Fun.x T6 Tryz.func20 rfl ?_
 (repeat' (first | (refine Rn.go ?_;conv=>whnf) | refine .mk ?_ | refine .tt ?_ | refine .ff ?_ | refine .m2 ?_ | refine .m3 ?_ | refine .mk (fun hc=>?_) fun hc=>?_ | refine .lp fun v H lp=>?_ | fail))
 refine .fr hsv (fun r h hr hb=>solvePost_fr (H:=[]) hr hb) (fun r h r1 r2 r3 r4=>?_)
 cases g with
 | err e=>
  have he:=givR_err hg
  obtain rfl:r=_:=r4
  (repeat' (first | (refine Rn.go ?_;conv=>whnf) | refine .mk ?_ | refine .tt ?_ | refine .ff ?_ | refine .m2 ?_ | refine .m3 ?_ | refine .mk (fun hc=>?_) fun hc=>?_ | refine .lp fun v H lp=>?_ | fail))
  exact ⟨_,rfl,rfl⟩
 | ok S P t c=>
  obtain ⟨x,rv,pv,Rs,T,rfl,q⟩:=r4
  obtain ⟨e1,e2,e3⟩:=q.at_
  by_cases hc:c<0
  ·have hm:memV l m (.ok S P t c)=T.b.map fun n=>-n:=by
    rw [memV,if_pos hc,← q.tt,List.drop_left' q.ta]
   have hE:memE (.ok S P t c)=0:=by rw [memE,if_neg (by omega)]
   rw [hm,hE]
   have hbl:(encIs T.b).length=T.b.length:=by simp
   have htb:=q.tb
   (repeat' (first | (refine Rn.go ?_;conv=>whnf) | refine .mk ?_ | refine .tt ?_ | refine .ff ?_ | refine .m2 ?_ | refine .m3 ?_ | refine .mk (fun hc=>?_) fun hc=>?_ | refine .lp fun v H lp=>?_ | fail))
   refine LpX.zip T6 T.b (fun p z L k=>∃ v,L=[(10,v),(29,.mref T.c 0 0 T.b.length),(30,.int .i64 T.b.length),(31,.int .i64 p.length)]∧HR k∧k[T.c]?=some ⟨.m,0,1,encIs T.b⟩∧Out 1 k v (encIs (p.map fun n=>-n))∧T.c∉vid v) (.nx ⟨.snap true [],rfl,r1,e3,.inl ⟨rfl,rfl⟩,by simp [vid]⟩) ?_ ?_
   ·rintro p n z _ k ρ e ⟨v,rfl,hk,hkc,ho,hnv⟩
    have hl2:=congrArg List.length e
    simp only [List.length_append,List.length_cons] at hl2
    have hat:(encIs T.b)[0+p.length]?=some (.int .i64 n):=by rw [e];simp [encIs]
    have hnb:=of_decide_eq_true (List.all_eq_true.1 q.ts.2 n (by rw [e];simp))
    have hpl:(encIs (p.map fun n=>-n)).length=p.length:=by simp
    (repeat' (first | (refine Rn.go ?_;conv=>whnf) | refine .mk ?_ | refine .tt ?_ | refine .ff ?_ | refine .m2 ?_ | refine .m3 ?_ | refine .mk (fun hc=>?_) fun hc=>?_ | refine .lp fun v H lp=>?_ | fail))
    refine .lr (fun v' H' lr=>?_)
    have lv:=lr.vid
    have lk:=lt_of_some hkc
    have f1:H'[T.c]?=some ⟨.m,0,1,encIs T.b⟩:=by rw [lr.fr _ lk (fun ep n hh=>hnv (by rw [hh];simp [vid]))];exact hkc
    have lo:=lr.out
    have lh:=lr.hr
    clear lr
    (repeat' (first | (refine Rn.go ?_;conv=>whnf) | refine .mk ?_ | refine .tt ?_ | refine .ff ?_ | refine .m2 ?_ | refine .m3 ?_ | refine .mk (fun hc=>?_) fun hc=>?_ | refine .lp fun v H lp=>?_ | fail))
    refine .nx ⟨v',rfl,lh,f1,?_,fun hh=>?_⟩
    ·simpa [encIs] using lo
    ·rcases lv _ hh with h1 | h1
     ·exact hnv h1
     ·omega
   ·rintro _ k ρ ⟨v,rfl,hk,hkc,ho,hnv⟩
    (repeat' (first | (refine Rn.go ?_;conv=>whnf) | refine .mk ?_ | refine .tt ?_ | refine .ff ?_ | refine .m2 ?_ | refine .m3 ?_ | refine .mk (fun hc=>?_) fun hc=>?_ | refine .lp fun v H lp=>?_ | fail))
    exact Ls.ret2 (.inl ho)
  ·have hm:memV l m (.ok S P t c)=[]:=by rw [memV,if_neg hc]
   have hE:memE (.ok S P t c)=4:=by rw [memE,if_pos (by omega)]
   rw [hm,hE]
   (repeat' (first | (refine Rn.go ?_;conv=>whnf) | refine .mk ?_ | refine .tt ?_ | refine .ff ?_ | refine .m2 ?_ | refine .m3 ?_ | refine .mk (fun hc=>?_) fun hc=>?_ | refine .lp fun v H lp=>?_ | fail))
   exact ⟨_,rfl,rfl⟩
theorem pref_fun (l:List (List Pw)) (m:List Pw) (g:Giv) (hl:l.length≤12) (hs:SmT (l++[m])) (hg:GivR l m g) :
  ∃ x,RefQ l m g x∧Fun C 22 [.snap false (encPPs l),.snap false (encPs m)] (.tup [x,.int .i64 (refE g)]):=by
 have hH0:HV [(⟨.m,0,2,[.agg [.int .i64 0,.snap true []]]⟩:AObj)]:=HV.one rfl
 have hsv:=solve_ev [(⟨.m,0,2,[.agg [.int .i64 0,.snap true []]]⟩:AObj)] hH0 l m g hl hs hg
 refine Fun.ex (Q:=RefQ l m g) (F:=fun x=>.tup [x,.int .i64 (refE g)]) ?_
 refine FnEv.x T6 Tryz.func22 rfl ?_
 (repeat' (first | (refine Rn.go ?_;conv=>whnf) | refine .mk ?_ | refine .tt ?_ | refine .ff ?_ | refine .m2 ?_ | refine .m3 ?_ | refine .mk (fun hc=>?_) fun hc=>?_ | refine .lp fun v H lp=>?_ | fail))
 refine .fr hsv (fun r h hr hb=>solvePost_fr hr hb) (fun r h r1 r2 r3 r4=>?_)
 have e0:h[0]?=some ⟨.m,0,2,[.agg [.int .i64 0,.snap true []]]⟩:=by rw [r3 0 (by simp)];rfl
 have k0:=lt_of_some e0
 cases g with
 | err e=>
  have he:=givR_err hg
  obtain rfl:r=_:=r4
  (repeat' (first | (refine Rn.go ?_;conv=>whnf) | refine .mk ?_ | refine .tt ?_ | refine .ff ?_ | refine .m2 ?_ | refine .m3 ?_ | refine .mk (fun hc=>?_) fun hc=>?_ | refine .lp fun v H lp=>?_ | fail))
  refine .mk ?_ (resC_cellN (T:=T6) rfl (List.getElem?_set_self k0) rfl rfl rfl rfl)
  refine Rn.go ?_
  exact ⟨zeroC,rfl,_,rfl,rfl⟩
 | ok S P t c=>
  obtain ⟨x,rv,pv,Rs,T,rfl,q⟩:=r4
  obtain ⟨v1,v2,v3,v4,v5,v6⟩:=givR_t hg
  by_cases hc:c<0
  ·(repeat' (first | (refine Rn.go ?_;conv=>whnf) | refine .mk ?_ | refine .tt ?_ | refine .ff ?_ | refine .m2 ?_ | refine .m3 ?_ | refine .mk (fun hc=>?_) fun hc=>?_ | refine .lp fun v H lp=>?_ | fail))
   refine .mk ?_ (resC_cellN (T:=T6) rfl (List.getElem?_set_self k0) rfl rfl rfl rfl)
   refine Rn.go ?_
   exact ⟨zeroC,by rw [RefQ,if_neg (by rw [refE,if_pos hc];decide)],_,rfl,by rw [refE,if_pos hc];rfl⟩
  ·obtain ⟨e,rfl,hen⟩:=v6.resolve_left (by omega)
   have hok:=v5.ok
   have hPl:P.length=(facs (l++[m])).length:=v5.pl
   have hbl:∀ t∈facs (l++[m]),bulk t<100000000:=fun t ht=>by
    obtain ⟨y,hy,ht⟩:=List.mem_flatMap.1 ((facs_in _ _).1 ht)
    obtain ⟨p,hp,rfl⟩:=List.mem_map.1 ht
    exact (hs.1 y hy).1 p hp
   obtain ⟨hte,hdv⟩:atR t e≠0∧(¬ atR P e<0→(atR t e).tmod (atR (rowAt S (atR P e)) e)≠0):=by
    cases hg with
    | ok h1 h2 h3 h4=>
     obtain ⟨_,_,_,d⟩:=red_ok (EInv.el h3 (row0s_inv l m) _ _ rfl) P 0 _ t e rfl (t0r_len l m) (by simp) h4
     obtain ⟨e',u1,u2,u3,u4,i,u5,u6⟩:=d (by omega)
     have:e'=e:=by omega
     subst this
     have hPi:atR P e'=i:=by simp [atR,List.getD,u5]
     exact ⟨u3,fun hn=>by rw [hPi];exact u6 (by omega)⟩
   have L:=q.lay
   obtain ⟨pi,pe,rfl,epv⟩:=L.piv0 (by omega)
   have ex:=L.ex
   have hPe:=nthI (a:=P) (c:=e) (by omega)
   have hPln:(encIs P).length=P.length:=by simp
   have hrs:=q.rs
   subst hrs
   have hRl:Rs.length<1000:=by have:=q.rl;omega
   have htT:atR t e=atR T.a e:=by rw [← q.tt];exact atR_app (by have:=q.ta;omega)
   by_cases hneg:atR P e<0
   ·have hpr:=(pprime_ev h x _ _ e false _ rv _ Rs P false T L q.at_ q.ta rfl hPl hok q.sm q.ts.1 (by omega) (by omega) hRl hen hbl (by rw [← htT];exact hte)).nine
    have hE:refE (.ok (Rs.map Rw.m) P t e)=0:=by rw [refE,if_neg hc,Int.toNat_natCast,if_pos hneg]
    (repeat' (first | (refine Rn.go ?_;conv=>whnf) | refine .mk ?_ | refine .tt ?_ | refine .ff ?_ | refine .m2 ?_ | refine .m3 ?_ | refine .mk (fun hc=>?_) fun hc=>?_ | refine .lp fun v H lp=>?_ | fail))
    refine .fr hpr (fun r h' hr hb=>?_) (fun r h' s1 s2 s3 s4=>?_)
    ·obtain ⟨qq,v,X,rfl,o,fo,z⟩:=hr
     simp only [belowR,belowA,List.all_cons,List.all_nil,Bool.and_true,Bool.and_eq_true] at hb
     obtain ⟨rfl,w2⟩:=out_b1 o hb.2 fo
     exact ⟨qq,_,X,rfl,.inl ⟨rfl,w2⟩,by simp [vid],z⟩
    obtain ⟨qq,v,X,rfl,o,fo,lX,hin,z1,z2,z3,z4⟩:=s4
    have how:=o.oneC
    have hcx:(cells (PV.agg [.int .i64 (qq:Int),v])).all oneC=true:=by
     show (true && (oneC v && true))=true
     rw [how.1];rfl
    have e8:h'[0]?=some ⟨.m,0,2,[.agg [.int .i64 0,.snap true []]]⟩:=by rw [s3 0 k0];exact e0
    have k8:=lt_of_some e8
    (repeat' (first | (refine Rn.go ?_;conv=>whnf) | refine .mk ?_ | refine .tt ?_ | refine .ff ?_ | refine .m2 ?_ | refine .m3 ?_ | refine .mk (fun hc=>?_) fun hc=>?_ | refine .lp fun v H lp=>?_ | fail))
    rw [hcx]
    conv=>whnf
    (repeat' (first | (refine Rn.go ?_;conv=>whnf) | refine .mk ?_ | refine .tt ?_ | refine .ff ?_ | refine .m2 ?_ | refine .m3 ?_ | refine .mk (fun hc=>?_) fun hc=>?_ | refine .lp fun v H lp=>?_ | fail))
    refine .mk ?_ (resC_cellN (T:=T6) rfl (List.getElem?_set_self k8) rfl rfl rfl rfl)
    refine Rn.go ?_
    have w2:Out 5 (h'.set 0 ⟨.m,0,2,[.agg [.int .i64 (qq:Int),v]]⟩) v (encPs (chrL (facs (l++[m])) X)):=o.of_eq fun i hi=>List.getElem?_set_ne (by have:=fo i hi;omega)
    obtain ⟨w1,w3,w4⟩:=w2.rbA (encPs_vals _)
    refine ⟨.agg [.int .i64 qq,nrm w1],?_,_,rb_char w2 w3,by rw [hE];simp [nrm,nrms]⟩
    rw [RefQ,if_pos hE,Int.toNat_natCast]
    refine ⟨qq,X,?_,z1,by omega,lX,hin,z4.kills (by omega) (fun hh=>absurd hneg hh),?_⟩
    ·rw [w4];simp
    ·rw [z4.at_,Int.one_mul,htT];exact fun hh=>z3 (dvd_tmod.1 hh)
   ·obtain ⟨rr,re,B,rfl,er,hatB,hBin,hBat,b1,b2,hBlt,hrow,hBz⟩:=L.piv hPl hok hen hneg
    have hnum:=fun c (hc:c<(facs (l++[m])).length)=>(number_ev _ _ x _ _ _ h Rs P false c L hPl hok hc (fun R hR=>(q.sm R hR).1) (by omega) hRl).nine
    have har:atR (rowAt (Rs.map Rw.m) (atR P e)) e=atR B.a e:=by rw [hrow];exact atR_app (by omega)
    have hpe:pn (Rs.map Rw.m) P e=atR B.a e:=by rw [pn,if_neg hneg,har]
    have hnbe:nb (Rs.map Rw.m) P e=(atR B.a e).natAbs:=by rw [nb,hpe,if_neg hBz]
    have hsR:∀ R∈Rs.map Rw.m,small R.1=true:=fun R hR=>by
     obtain ⟨Q,hQ,rfl⟩:=List.mem_map.1 hR
     show small (Q.a++Q.b)=true
     rw [small_app,(q.sm Q hQ).1,(q.sm Q hQ).2];rfl
    have hpb:∀ i,i<P.length→(pn (Rs.map Rw.m) P i).natAbs≤1099511627776:=fun i hi=>by have:=pn_ok hok hsR hi;omega
    have hE:refE (.ok (Rs.map Rw.m) P t e)=if 1073741824<befN (Rs.map Rw.m) P e * nb (Rs.map Rw.m) P e then 3 else 0:=by rw [refE,if_neg hc,Int.toNat_natCast,if_neg hneg]
    rw [har,htT] at hdv
    rw [hE]
    generalize hBF:befN (Rs.map Rw.m) P=bf at *
    have hbf0:bf 0=1:=by rw [← hBF];rfl
    have hbfs:∀ i,bf (i+1)=bf i * nb (Rs.map Rw.m) P i:=fun i=>by rw [← hBF];rfl
    have hbfm:∀ i j,i≤j→bf i≤bf j:=fun i j hij=>by rw [← hBF];exact befN_mono _ _ hij
    have hbfp:∀ i,1≤bf i:=fun i=>by rw [← hBF];exact befN_pos _ _ i
    have hnbp:=nb_pos (Rs.map Rw.m) P e
    have bad:∀ z,z=1073741824→z<bf e * nb (Rs.map Rw.m) P e→RefQ l m (.ok (Rs.map Rw.m) P t e) zeroC:=fun z hz1 hz2=>by
     rw [RefQ,if_neg]
     rw [hE,if_pos (by omega)];decide
    (repeat' (first | (refine Rn.go ?_;conv=>whnf) | refine .mk ?_ | refine .tt ?_ | refine .ff ?_ | refine .m2 ?_ | refine .m3 ?_ | refine .mk (fun hc=>?_) fun hc=>?_ | refine .lp fun v H lp=>?_ | fail))
    refine LpX.nat T6 (fun m3 L k=>∃ i:Nat,L=[(4,.ptr 0 0 0 0),(6,.ptr x 0 0 0),(8,.int .i64 e),(10,.int .i64 (bf i)),(41,.int .i64 e),(42,.int .i64 i)]∧k=h∧i+m3=e∧bf i≤1073741824) e (.nx ⟨0,rfl,rfl,by omega,by omega⟩) ?_
    rintro m3 _ h ρ ⟨i,rfl,rfl,him,hbi⟩
    have fail:∀ k:AHeap,k[0]?=some ⟨.m,0,2,[.agg [.int .i64 0,.snap true []]]⟩→1073741824<bf e * nb (Rs.map Rw.m) P e→∃ x,RefQ l m (.ok (Rs.map Rw.m) P t e) x∧∃ r1,rb k (tupOf [.agg [.int .i64 0,.snap true []],.int .i64 3])=some r1∧nrm r1=.tup [x,.int .i64 (if 1073741824<bf e * nb (Rs.map Rw.m) P e then 3 else 0)]:=fun k _ hz=>⟨zeroC,bad _ rfl hz,_,rfl,by rw [if_pos hz];rfl⟩
    have kk:(h.set 0 ⟨.m,0,2,[.agg [.int .i64 0,.snap true []]]⟩)[0]?=some (⟨.m,0,2,[.agg [.int .i64 0,.snap true []]]⟩:AObj):=List.getElem?_set_self k0
    by_cases hm3:m3=0
    ·have hie:i=e:=by omega
     subst hie
     have hn1:=hnum i hen
     rw [hpe,← hnbe] at hn1
     have hnbb:=hpb i (by omega)
     rw [hpe,← hnbe] at hnbb
     generalize hNB:nb (Rs.map Rw.m) P i=N at *
     have hmr:N≤1073741824→0≤(bf i:Int) * N∧(bf i:Int) * N≤1152921504606846976:=fun hh=>mul_rng (a:=(bf i:Int)) (b:=(N:Int)) (A:=1073741824) (B:=1073741824) (by omega) (by omega)
     have hpm:=hbfp i
     have hle:N≤bf i * N:=Nat.le_mul_of_pos_left _ (by omega)
     have hcast:((bf i * N:Nat):Int)=(bf i:Int) * N:=Int.natCast_mul _ _
     (repeat' (first | (refine Rn.go ?_;conv=>whnf) | refine .mk ?_ | refine .tt ?_ | refine .ff ?_ | refine .m2 ?_ | refine .m3 ?_ | refine .mk (fun hc=>?_) fun hc=>?_ | refine .lp fun v H lp=>?_ | fail))
     refine .same hn1 fun r hr=>?_
     subst hr
     (repeat' (first | (refine Rn.go ?_;conv=>whnf) | refine .mk ?_ | refine .tt ?_ | refine .ff ?_ | refine .m2 ?_ | refine .m3 ?_ | refine .mk (fun hc=>?_) fun hc=>?_ | refine .lp fun v H lp=>?_ | fail))
     ·refine .mk ?_ (resC_cellN (T:=T6) rfl kk rfl rfl rfl rfl)
      refine Rn.go ?_
      exact fail _ kk (by omega)
     refine .same hn1 fun r hr=>?_
     subst hr
     (repeat' (first | (refine Rn.go ?_;conv=>whnf) | refine .mk ?_ | refine .tt ?_ | refine .ff ?_ | refine .m2 ?_ | refine .m3 ?_ | refine .mk (fun hc=>?_) fun hc=>?_ | refine .lp fun v H lp=>?_ | fail))
     ·refine .mk ?_ (resC_cellN (T:=T6) rfl kk rfl rfl rfl rfl)
      refine Rn.go ?_
      exact fail _ kk (by omega)
     refine .same hn1 fun r hr=>?_
     subst hr
     (repeat' (first | (refine Rn.go ?_;conv=>whnf) | refine .mk ?_ | refine .tt ?_ | refine .ff ?_ | refine .m2 ?_ | refine .m3 ?_ | refine .mk (fun hc=>?_) fun hc=>?_ | refine .lp fun v H lp=>?_ | fail))
     have hdv:=hdv hneg
     have hN0:N≠0:=by omega
     have hN1:N≠1:=fun hh=>hdv (by
      rcases (show atR B.a i=1∨atR B.a i=-1 by omega) with h1 | h1 <;> rw [h1] <;> simp)
     have hbN:bf i<bf i * N:=by
      have:=Nat.mul_le_mul_left (bf i) (show 2≤N by omega)
      omega
     rw [← hcast]
     have hqb:bf i * N≤1073741824:=by omega
     have hKs:Slv true x (bf i * N) _ l.length (fun X j=>j≤i∧KI (Rs.map Rw.m) P i ((bf i * N:Nat):Int) (bf i:Int) X j∧∀ y∈X,(befN (Rs.map Rw.m) P j:Int) ∣ y) (Rs.map Rw.m) P:=slv_exact hPl hen (by omega) hok (by rw [hBF,hNB]) hqb
     have h1p:(bf i:Int) % ((bf i * N:Nat):Int)=bf i:=Int.emod_eq_of_lt (by omega) (by omega)
     have hch:=(pchar_ev true h x _ _ (bf i * N) i (bf i) false _ _ _ Rs P false _ L rfl hPl hok q.sm (by omega) hRl hen (by omega) hqb (by omega) hbl hKs ⟨Nat.le_refl _,by rw [h1p];exact KI.ini hen,fun y hy=>by
      rw [h1p] at hy
      rcases List.mem_or_eq_of_mem_set hy with hy | rfl
      ·rw [List.eq_of_mem_replicate hy];exact Int.dvd_zero _
      ·rw [hBF];exact Int.dvd_refl _⟩ (fun X j hj hI hp=>⟨by omega,hI.2.1.skip hj hp,fun y hy=>Int.dvd_trans (Int.natCast_dvd_natCast.2 (Nat.dvd_mul_right _ _)) (hI.2.2 y hy)⟩)).nine
     refine .fr hch (fun r h' hr hb=>?_) (fun r h' s1 s2 s3 s4=>?_)
     ·obtain ⟨v,X,rfl,o,fo,hI,lX,hin⟩:=hr
      simp only [belowR,belowA,List.all_cons,List.all_nil,Bool.and_true,Bool.and_eq_true] at hb
      obtain ⟨rfl,w2⟩:=out_b1 o hb.2 fo
      exact ⟨_,X,rfl,.inl ⟨rfl,w2⟩,by simp [vid],hI,lX,hin⟩
     obtain ⟨v,X,rfl,o,fo,hI,lX,hin⟩:=s4
     have how:=o.oneC
     have hcx:(cells (PV.agg [.int .i64 ((bf i * N:Nat):Int),v])).all oneC=true:=by
      show (true && (oneC v && true))=true
      rw [how.1];rfl
     have e8:h'[0]?=some ⟨.m,0,2,[.agg [.int .i64 0,.snap true []]]⟩:=by rw [s3 0 k0];exact e0
     have k8:=lt_of_some e8
     (repeat' (first | (refine Rn.go ?_;conv=>whnf) | refine .mk ?_ | refine .tt ?_ | refine .ff ?_ | refine .m2 ?_ | refine .m3 ?_ | refine .mk (fun hc=>?_) fun hc=>?_ | refine .lp fun v H lp=>?_ | fail))
     rw [hcx]
     conv=>whnf
     (repeat' (first | (refine Rn.go ?_;conv=>whnf) | refine .mk ?_ | refine .tt ?_ | refine .ff ?_ | refine .m2 ?_ | refine .m3 ?_ | refine .mk (fun hc=>?_) fun hc=>?_ | refine .lp fun v H lp=>?_ | fail))
     refine .mk ?_ (resC_cellN (T:=T6) rfl (List.getElem?_set_self k8) rfl rfl rfl rfl)
     refine Rn.go ?_
     have w2:Out 5 (h'.set 0 ⟨.m,0,2,[.agg [.int .i64 ((bf i * N:Nat):Int),v]]⟩) v (encPs (chrL (facs (l++[m])) X)):=o.of_eq fun j hj=>List.getElem?_set_ne (by have:=fo j hj;omega)
     obtain ⟨w1,w3,w4⟩:=w2.rbA (encPs_vals _)
     refine ⟨.agg [.int .i64 ((bf i * N:Nat):Int),nrm w1],?_,_,rb_char w2 w3,by rw [if_neg (by omega)];simp [nrm,nrms]⟩
     rw [RefQ,if_pos (by rw [hE,if_neg (by omega)]),Int.toNat_natCast]
     refine ⟨bf i * N,X,?_,by omega,hqb,lX,hin,hI.2.1.kills (by omega) (fun _=>⟨by rw [hrow];simp;omega,?_⟩),?_⟩
     ·rw [w4];simp
     ·rw [har,hcast]
      exact Int.mul_dvd_mul_left _ (Int.ofNat_dvd_left.2 (by rw [hnbe];exact Nat.dvd_refl _))
     ·rw [hI.2.1.at_,hcast,htT]
      intro hh
      have:=Int.dvd_of_mul_dvd_mul_left (show (bf i:Int)≠0 by omega) hh
      exact hdv (dvd_tmod.1 (Int.dvd_trans (show atR B.a i ∣ (N:Int) by rw [hnbe];exact Int.dvd_natAbs.2 (Int.dvd_refl _)) this))
    ·have hi1:i<e:=by omega
     have hn1:=hnum i (by omega)
     have hnbb:=hpb i (by omega)
     have hbs:=hbfs i
     have hbm:=hbfm (i+1) e (by omega)
     have hpm:=hbfp i
     obtain ⟨M,hM⟩:∃ M,M=(pn (Rs.map Rw.m) P i).natAbs:=⟨_,rfl⟩
     rw [← hM] at hn1 hnbb
     have hbs2:bf (i+1)=if M=0 then bf i else bf i * M:=by
      rw [hbs,nb]
      by_cases hz:pn (Rs.map Rw.m) P i=0
      ·rw [if_pos hz,if_pos (by rw [hM,hz];rfl),Nat.mul_one]
      ·rw [if_neg hz,if_neg (by omega),hM]
     have hle:M≤bf i * M:=Nat.le_mul_of_pos_left _ (by omega)
     have hle2:bf e≤bf e * nb (Rs.map Rw.m) P e:=Nat.le_mul_of_pos_right _ hnbp
     have hcast:((bf i * M:Nat):Int)=(bf i:Int) * M:=Int.natCast_mul _ _
     have hmr:M≤1073741824→0≤(bf i:Int) * M∧(bf i:Int) * M≤1152921504606846976:=fun hh=>mul_rng (a:=(bf i:Int)) (b:=(M:Int)) (A:=1073741824) (B:=1073741824) (by omega) (by omega)
     clear hM
     (repeat' (first | (refine Rn.go ?_;conv=>whnf) | refine .mk ?_ | refine .tt ?_ | refine .ff ?_ | refine .m2 ?_ | refine .m3 ?_ | refine .mk (fun hc=>?_) fun hc=>?_ | refine .lp fun v H lp=>?_ | fail))
     refine .same hn1 fun r hr=>?_
     subst hr
     (repeat' (first | (refine Rn.go ?_;conv=>whnf) | refine .mk ?_ | refine .tt ?_ | refine .ff ?_ | refine .m2 ?_ | refine .m3 ?_ | refine .mk (fun hc=>?_) fun hc=>?_ | refine .lp fun v H lp=>?_ | fail))
     ·refine .mk ?_ (resC_cellN (T:=T6) rfl kk rfl rfl rfl rfl)
      refine Rn.go ?_
      rw [if_neg (by omega)] at hbs2
      exact fail _ kk (by omega)
     ·refine .mk ?_ (resC_cellN (T:=T6) rfl kk rfl rfl rfl rfl)
      refine Rn.go ?_
      rw [if_neg (by omega)] at hbs2
      exact fail _ kk (by omega)
     ·rw [if_neg (by omega)] at hbs2
      exact .nx ⟨m3 - 1,by omega,i+1,by rw [hbs2,hcast],rfl,by omega,by omega⟩
     ·rw [if_pos (by omega)] at hbs2
      exact .nx ⟨m3 - 1,by omega,i+1,by rw [hbs2],rfl,by omega,by omega⟩
end Nine
end Go.Pm
end
section
set_option maxRecDepth 4000
namespace Go.Pm
open Go.Proofs
theorem modI_zero {n q:Int} (hq:0<q):modI n q=0↔n.tmod q=0:=by
 have h1:=Int.tmod_lt_of_pos n hq
 have h2:=Int.lt_tmod_of_pos n hq
 unfold modI
 generalize n.tmod q=r at *
 rw [Int.tmod_eq_emod_of_nonneg (by omega)]
 by_cases hr:r<0
 ·rw [Int.emod_eq_of_lt (by omega) (by omega)];omega
 ·rw [Int.add_emod_right,Int.emod_eq_of_lt (by omega) (by omega)]
theorem zeroQ_valC {c:Int} {vs:List Pw} (h:rgtC c vs=true) (x:List Pw):zeroQ c (valS vs x)=decide (valC c vs x=0):=by
 have hc:c=0∨1≤c:=by unfold rgtC at h;split at h;cases h;omega
 unfold zeroQ valC
 rcases hc with rfl | hc
 ·simp
 ·rw [if_neg (by omega),Bool.eq_iff_iff]
  have:=modI_zero (n:=valS vs x) (q:=c) (by omega)
  simp only [Bool.or_eq_true,Bool.and_eq_true,decide_eq_true_eq,this]
  constructor
  ·rintro (h | ⟨_,h⟩)
   ·rw [h];exact Int.zero_tmod _
   ·exact h
  ·exact fun h=>.inr ⟨by omega,h⟩
theorem chr_same (c:Int) (vs m:List Pw) (l:List (List Pw)) :
  (decide (validP m=0) && rgtC c vs && l.all (fun x=>decide (validP x=0) && zeroQ c (valS vs x)) && !(zeroQ c (valS vs m))) =
  (decide (validP m=0) && rgtC c vs && l.all (fun x=>decide (validP x=0) && decide (valC c vs x=0)) && decide (valC c vs m≠0)):=by
 cases h:rgtC c vs
 ·simp
 ·simp only [zeroQ_valC h]
  simp
end Go.Pm
end
section
set_option maxRecDepth 100000
namespace Go.Pm.Nine
open Go.Proofs
theorem awake09:pureF C 1000 7 []=some (.bool true):=by kernel_rfl
end Go.Pm.Nine
end
section
set_option maxRecDepth 4000
namespace Go.Pm
open Go.Proofs
attribute [local irreducible] thenQ blockQ loopQ bodyQ Ev EvOps CallEv FnEv EvD
namespace Nine
end Nine
end Go.Pm
end
section
set_option maxRecDepth 4000
namespace Go.Pm
open Go.Proofs
theorem rgtGo_of:∀ {vs:List Pw} {pr:Option Tm},(∀ p∈vs,valid p.1=0∧special p.1=false∧p.2≠0∧-35184372088832≤p.2∧p.2≤35184372088832)→Srt vs→(∀ q,pr=some q→∀ p∈vs,cmpT q p.1<0)→rgtGo pr vs=true
 | [],pr,_,_,_=>rgtGo_nil pr
 | p::vs,pr,h,s,hp=>by
  obtain ⟨h1,h2,h3,h4,h5⟩:=h p (by simp)
  obtain ⟨s1,s2⟩:=List.pairwise_cons.1 s
  rw [rgtGo_cons,if_neg]
  ·exact rgtGo_of (fun q hq=>h q (by simp [hq])) s2 (fun q hq y hy=>by cases hq;exact s1 y hy)
  ·have hb:bef pr p.1=false:=by
    cases pr with
    | none=>rfl
    | some q=>have:=hp q rfl p (by simp);unfold bef;rw [decide_eq_false_iff_not];omega
   simp only [h1,h2,hb,ne_eq,not_true_eq_false,Bool.false_eq_true,or_false,false_or,not_or]
   omega
theorem chr_ok {l:List (List Pw)} {m:List Pw} {S:List Row} {P t X:List Int} {e q:Nat} (hg:GivR l m (.ok S P t e)) (h2:2≤q) (hq:q≤1073741824) (lX:X.length=(facs (l++[m])).length) (hin:inQ q X) (k:Kills S P e q X) (hn:¬ (q:Int) ∣ atR X e * atR t e) :
  (decide (validP m=0) && rgtC q (chrL (facs (l++[m])) X) && l.all (fun x=>decide (validP x=0) && decide (valC q (chrL (facs (l++[m])) X) x=0)) && decide (valC q (chrL (facs (l++[m])) X) m≠0))=true:=by
 obtain ⟨h1,hl12,_⟩:=givR_t hg
 have hv:=gErr_zero h1
 obtain ⟨r1,r2⟩:=ref_ok hg k lX hn
 have hsr:=facs_srt (l++[m])
 have hmem:∀ p∈chrL (facs (l++[m])) X,valid p.1=0∧special p.1=false∧p.2≠0∧-35184372088832≤p.2∧p.2≤35184372088832:=fun p hp=>by
  obtain ⟨c1,c2,c3⟩:=chrL_mem hp
  obtain ⟨y,hy,ht⟩:=List.mem_flatMap.1 ((facs_in _ _).1 c1)
  obtain ⟨z,hz,hze⟩:=List.mem_map.1 ht
  have:=(validP_zero (hv y hy)).2.2.1 z hz
  rw [hze] at this
  have hb:=hin _ c2
  exact ⟨this.1,this.2,c3,by omega,by omega⟩
 have hlen:=chrL_len (facs (l++[m])) X
 have hr:rgtC q (chrL (facs (l++[m])) X)=true:=by
  unfold rgtC
  rw [if_neg (by omega)]
  exact rgtGo_of hmem (chrL_srt hsr) (fun _ h=>by cases h)
 have hm:∀ n:Int,modI n q=0↔(q:Int) ∣ n:=fun n=>by rw [modI_zero (by omega),← dvd_tmod]
 have hq0:¬ (q:Int)=0:=by omega
 rw [hr]
 simp only [Bool.and_eq_true,decide_eq_true_eq,Bool.and_true,List.all_eq_true]
 refine ⟨⟨hv m (by simp),fun x hx=>⟨hv x (by simp [hx]),?_⟩⟩,?_⟩
 ·rw [valC,if_neg hq0];exact (hm _).2 (r1 x hx)
 ·rw [valC,if_neg hq0];exact fun hh=>r2 ((hm _).1 hh)
attribute [local irreducible] thenQ blockQ loopQ bodyQ Ev EvOps CallEv FnEv EvD
namespace Nine
set_option maxHeartbeats 1000000 in
theorem lawN_fun (l:List (List Int)) (mix rest:List Int) (hl:∀ x∈l,i8L x∧x.length<5000000) (ll:l.length<5000000) (hm:i8L mix) (lm:mix.length<5000000) (hr:i8L rest) (lr:rest.length<5000000) :
  Fun C 6 [.agg [.snap false (encLL l),.snap false (encI8 mix),.snap false (encI8 rest)]] (.bool true):=by
 have hall:=(all_fun l mix rest (fun x hx=>⟨(hl x hx).1,Nat.lt_trans (hl x hx).2 (by decide)⟩) (by omega) hm (by omega) hr (by omega)).nine
 have smm:=allM_sm (mix:=mix) (l:=l.take 8) (i:=0) (made_sm rest)
 have sll:∀ x∈(l.take 8).map made,(∀ p∈x,bulk p.1<100000000)∧x.length≤200:=fun x hx=>by
  obtain ⟨y,_,rfl⟩:=List.mem_map.1 hx
  have:=made_sm y
  exact ⟨fun p hp=>Nat.lt_trans (this.1 p hp) (by decide),this.2⟩
 have lll:((l.take 8).map made).length≤8:=by simp;omega
 have hsm:∀ p∈allM mix 0 (l.take 8) (made rest),bulk p.1<100000000:=fun p hp=>Nat.lt_trans (smm.1 p hp) (by decide)
 have hsl:(allM mix 0 (l.take 8) (made rest)).length≤200:=by have:=smm.2;omega
 generalize (l.take 8).map made=G at *
 generalize allM mix 0 (l.take 8) (made rest)=m at *
 have hel:=encLL_len l
 have haw:Fun C 7 [] (.bool true):=Fun.of_run awake09
 have hs:SmT (G++[m]):=by
  refine ⟨fun x hx=>?_,by simp;omega⟩
  rcases List.mem_append.1 hx with hx | hx
  ·exact sll x hx
  ·obtain rfl:=List.mem_singleton.1 hx
   exact ⟨hsm,hsl⟩
 obtain ⟨g,hg⟩:=givR_ex G m
 have f1:=pmem_fun G m g (by omega) hs hg
 obtain ⟨x2,f2'⟩:=rmem_fun G m g (by omega) hs hg
 have f2:=f2'.nine
 obtain ⟨x3,hx3,f3⟩:=pref_fun G m g (by omega) hs hg
 obtain ⟨x4,⟨a4,vs4,rfl⟩,f4'⟩:=rref_fun G m g (by omega) hs hg
 have f4:=f4'.nine
 clear f2' f4'
 refine Fun.x T6 Tryz.func6 rfl ?_
 (repeat' (first | (refine Rn.go ?_;conv=>whnf) | refine .mk ?_ | refine .tt ?_ | refine .ff ?_ | refine .m2 ?_ | refine .m3 ?_ | refine .mk (fun hc=>?_) fun hc=>?_ | refine .lp fun v H lp=>?_ | fail))
 refine .p haw ?_
 (repeat' (first | (refine Rn.go ?_;conv=>whnf) | refine .mk ?_ | refine .tt ?_ | refine .ff ?_ | refine .m2 ?_ | refine .m3 ?_ | refine .mk (fun hc=>?_) fun hc=>?_ | refine .lp fun v H lp=>?_ | fail))
 ·refine .p haw ?_
  (repeat' (first | (refine Rn.go ?_;conv=>whnf) | refine .mk ?_ | refine .tt ?_ | refine .ff ?_ | refine .m2 ?_ | refine .m3 ?_ | refine .mk (fun hc=>?_) fun hc=>?_ | refine .lp fun v H lp=>?_ | fail))
  exact ⟨_,rfl,rfl⟩
 refine .p hall ?_
 (repeat' (first | (refine Rn.go ?_;conv=>whnf) | refine .mk ?_ | refine .tt ?_ | refine .ff ?_ | refine .m2 ?_ | refine .m3 ?_ | refine .mk (fun hc=>?_) fun hc=>?_ | refine .lp fun v H lp=>?_ | fail))
 refine .p f1 ?_
 (repeat' (first | (refine Rn.go ?_;conv=>whnf) | refine .mk ?_ | refine .tt ?_ | refine .ff ?_ | refine .m2 ?_ | refine .m3 ?_ | refine .mk (fun hc=>?_) fun hc=>?_ | refine .lp fun v H lp=>?_ | fail))
 refine .p f2 ?_
 (repeat' (first | (refine Rn.go ?_;conv=>whnf) | refine .mk ?_ | refine .tt ?_ | refine .ff ?_ | refine .m2 ?_ | refine .m3 ?_ | refine .mk (fun hc=>?_) fun hc=>?_ | refine .lp fun v H lp=>?_ | fail))
 refine .p f3 ?_
 cases g with
 | err e=>
  have he:=givR_err hg
  obtain rfl:x3=zeroC:=hx3
  have e1:memE (.err e)=e:=rfl
  have e2:refE (.err e)=e:=rfl
  have e3:memV G m (.err e)=[]:=rfl
  rw [e1] at f2 ⊢
  rw [e2] at f4 ⊢
  rw [e3]
  unfold zeroC
  (repeat' (first | (refine Rn.go ?_;conv=>whnf) | refine .mk ?_ | refine .tt ?_ | refine .ff ?_ | refine .m2 ?_ | refine .m3 ?_ | refine .mk (fun hc=>?_) fun hc=>?_ | refine .lp fun v H lp=>?_ | fail))
  refine .p f4 ?_
  (repeat' (first | (refine Rn.go ?_;conv=>whnf) | refine .mk ?_ | refine .tt ?_ | refine .ff ?_ | refine .m2 ?_ | refine .m3 ?_ | refine .mk (fun hc=>?_) fun hc=>?_ | refine .lp fun v H lp=>?_ | fail))
  exact ⟨_,rfl,rfl⟩
 | ok S P t c=>
  by_cases hc:c<0
  ·have e1:memE (.ok S P t c)=0:=by rw [memE,if_neg (by omega)]
   have e2:refE (.ok S P t c)=5:=by rw [refE,if_pos hc]
   have e3:memV G m (.ok S P t c)=(t.drop (facs (G++[m])).length).map (fun n=>-n):=by rw [memV,if_pos hc]
   have ck:=mem_ok hg hc
   obtain ⟨_,_,h3,_⟩:=givR_t hg
   rw [RefQ,if_neg (by rw [e2];decide)] at hx3
   subst hx3
   rw [e1] at f2 ⊢
   rw [e2] at f4 ⊢
   rw [e3]
   generalize hcs:(t.drop (facs (G++[m])).length).map (fun n=>-n)=cs at *
   have hcl:cs.length=G.length:=by rw [← hcs];simp [h3]
   have z1:(cs.zip G).map (·.2)=G:=List.map_snd_zip (by omega)
   have z2:(cs.zip G).map (·.1)=cs:=List.map_fst_zip (by omega)
   have hz:(cs.zip G).length≤8:=by simp;omega
   have k1:=pck_fun (cs.zip G) m hz (by rw [z1];exact hs)
   have k2:=(rck_fun (cs.zip G) m hz (by rw [z1];exact hs)).nine
   rw [ck,z1,z2] at k1 k2
   unfold zeroC
   (repeat' (first | (refine Rn.go ?_;conv=>whnf) | refine .mk ?_ | refine .tt ?_ | refine .ff ?_ | refine .m2 ?_ | refine .m3 ?_ | refine .mk (fun hc=>?_) fun hc=>?_ | refine .lp fun v H lp=>?_ | fail))
   refine .p f4 ?_
   (repeat' (first | (refine Rn.go ?_;conv=>whnf) | refine .mk ?_ | refine .tt ?_ | refine .ff ?_ | refine .m2 ?_ | refine .m3 ?_ | refine .mk (fun hc=>?_) fun hc=>?_ | refine .lp fun v H lp=>?_ | fail))
   refine .p k2 ?_
   (repeat' (first | (refine Rn.go ?_;conv=>whnf) | refine .mk ?_ | refine .tt ?_ | refine .ff ?_ | refine .m2 ?_ | refine .m3 ?_ | refine .mk (fun hc=>?_) fun hc=>?_ | refine .lp fun v H lp=>?_ | fail))
   refine .p k1 ?_
   (repeat' (first | (refine Rn.go ?_;conv=>whnf) | refine .mk ?_ | refine .tt ?_ | refine .ff ?_ | refine .m2 ?_ | refine .m3 ?_ | refine .mk (fun hc=>?_) fun hc=>?_ | refine .lp fun v H lp=>?_ | fail))
   exact ⟨_,rfl,rfl⟩
  ·obtain ⟨_,_,_,_,_,h6⟩:=givR_t hg
   obtain ⟨e,rfl,hen⟩:=h6.resolve_left (by omega)
   have e1:memE (.ok S P t e)=4:=by rw [memE,if_pos (by omega)]
   have e3:memV G m (.ok S P t e)=[]:=by rw [memV,if_neg hc]
   rw [e1] at f2 ⊢
   rw [e3]
   by_cases hr:refE (.ok S P t e)=0
   ·rw [RefQ,if_pos hr,Int.toNat_natCast] at hx3
    obtain ⟨q,X,rfl,q1,q2,q3,q4,q5,q6⟩:=hx3
    have ok:=chr_ok hg q1 q2 q3 q4 q5 q6
    have hvl:∀ p∈chrL (facs (G++[m])) X,bulk p.1<100000000:=fun p hp=>by
     obtain ⟨y,hy,ht⟩:=List.mem_flatMap.1 ((facs_in _ _).1 (chrL_mem hp).1)
     obtain ⟨z,hz,hze⟩:=List.mem_map.1 ht
     rw [← hze];exact (hs.1 y hy).1 z hz
    have hlen:=chrL_len (facs (G++[m])) X
    have h12:=(givR_t hg).2.1
    have smv:Sm (chrL (facs (G++[m])) X):=⟨fun p hp=>Nat.lt_trans (hvl p hp) (by decide),by omega⟩
    have k1:=(pcr_fun q _ m G smv hvl hsm (by omega) (fun x hx=>⟨(sll x hx).1,by have:=(sll x hx).2;omega⟩) (by omega)).nine
    have k2:=(rcr_fun q _ m G smv hsm (by omega) (fun x hx=>⟨(sll x hx).1,by have:=(sll x hx).2;omega⟩) (by omega)).nine
    rw [chr_same] at k1
    rw [ok] at k1 k2
    have hev:=encPs_len (chrL (facs (G++[m])) X)
    rw [hr] at f4 ⊢
    (repeat' (first | (refine Rn.go ?_;conv=>whnf) | refine .mk ?_ | refine .tt ?_ | refine .ff ?_ | refine .m2 ?_ | refine .m3 ?_ | refine .mk (fun hc=>?_) fun hc=>?_ | refine .lp fun v H lp=>?_ | fail))
    refine .p f4 ?_
    (repeat' (first | (refine Rn.go ?_;conv=>whnf) | refine .mk ?_ | refine .tt ?_ | refine .ff ?_ | refine .m2 ?_ | refine .m3 ?_ | refine .mk (fun hc=>?_) fun hc=>?_ | refine .lp fun v H lp=>?_ | fail))
    refine .p k2 ?_
    (repeat' (first | (refine Rn.go ?_;conv=>whnf) | refine .mk ?_ | refine .tt ?_ | refine .ff ?_ | refine .m2 ?_ | refine .m3 ?_ | refine .mk (fun hc=>?_) fun hc=>?_ | refine .lp fun v H lp=>?_ | fail))
    refine .p k1 ?_
    (repeat' (first | (refine Rn.go ?_;conv=>whnf) | refine .mk ?_ | refine .tt ?_ | refine .ff ?_ | refine .m2 ?_ | refine .m3 ?_ | refine .mk (fun hc=>?_) fun hc=>?_ | refine .lp fun v H lp=>?_ | fail))
    exact ⟨_,rfl,rfl⟩
   ·rw [RefQ,if_neg hr] at hx3
    subst hx3
    generalize refE (.ok S P t e)=r0 at *
    unfold zeroC
    (repeat' (first | (refine Rn.go ?_;conv=>whnf) | refine .mk ?_ | refine .tt ?_ | refine .ff ?_ | refine .m2 ?_ | refine .m3 ?_ | refine .mk (fun hc=>?_) fun hc=>?_ | refine .lp fun v H lp=>?_ | fail))
    refine .p f4 ?_
    (repeat' (first | (refine Rn.go ?_;conv=>whnf) | refine .mk ?_ | refine .tt ?_ | refine .ff ?_ | refine .m2 ?_ | refine .m3 ?_ | refine .mk (fun hc=>?_) fun hc=>?_ | refine .lp fun v H lp=>?_ | fail))
    exact ⟨_,rfl,rfl⟩
end Nine
end Go.Pm
end
