/-
  A part of the library Pm and its contracts (joined by program): PmEr3 PmEr4 PmElI PmEr5 PmEr6. Conditions: none.
-/
import Derived.Test.YtejhjciockgicaaGreatPzAJ
import Derived.Test.YtejhjciockgicaaGreatPzAI
set_option linter.unusedVariables false
set_option linter.unusedSimpArgs false
section
set_option maxRecDepth 4000
namespace Go.Pm
open Go.Proofs
section
variable {C:Cfg} (T:Tab C.P) {h:AHeap}
theorem OpqX.ap1 {L:Al} {t el:TypeId} {x y:Operand} {v e z:PV} {es:List PV} {iy by':Nat} {K:PV→AHeap→Prop} (o:Out 1 h v es) (hye:h[iy]?=some ⟨.m,0,1,[e]⟩) (hv:∀ ep n,v≠.mref iy ep 0 n) (hn:es.length<1000000) (hR:HR h) (hve:visRs (fun i=>decide (i<h.length)) (es++[e])=true) (he:(cells e).length=1∧(cells e).all oneC=true)
  (kk:∀ v' h',LR h v 1 (es++[e]) v' h'→Rn (K v' h')) (hx:evL L x=some v:=by rfl) (hy:evL L y=some (.mref iy 0 0 1):=by rfl) (hk:T.kd t=some (.sl el):=by rfl) (hs:T.ts el=some 1:=by rfl) (hb:T.tb el=some by':=by rfl) (hz:T.tz el=some z:=by rfl) (hby:by'≤1000:=by decide) (hl:(cells z).length=1:=by rfl) (ho:(cells z).all oneC=true:=by rfl) :
  OpqX C (.call ⟨.builtin .append,#[x,y],#[t,t]⟩) L h K:=by
 have hgy:getM h iy 0=some ⟨.m,0,1,[e]⟩:=getM_at hye rfl (by simp)
 have hrm:∀ m,m<1000002→roomy m by'=true:=fun m hm=>by
  unfold roomy
  rw [Bool.and_eq_true,decide_eq_true_eq,decide_eq_true_eq]
  have:m * by'≤1000002 * 1000:=Nat.mul_le_mul (by omega) hby
  omega
 have hel:elems h (.mref iy 0 0 1)=some [e]:=by simp [elems,hgy]
 have hce:([e].all fun v=>decide ((cells v).length=1) && (cells v).all oneC)=true:=by simp only [List.all_cons,List.all_nil,Bool.and_true,Bool.and_eq_true,decide_eq_true_eq];exact he
 rcases o with ⟨rfl,rfl⟩ | ⟨id,ep,rfl,e2⟩
 ·refine .mk (v:=.mref h.length 0 0 1) (h':=h++[⟨.m,0,1,[e]⟩]) (fun run ρ=>?_) (kk _ _ ⟨.inr ⟨h.length,0,rfl,by simp⟩,hR.app1 (by simp) (visRs_imp (f:=fun i=>decide (i<h.length)) (fun i hi=>by have:=of_decide_eq_true hi;exact decide_eq_true (by omega)) _ (by simpa using hve)),by simp,fun j hj _=>List.getElem?_append_left hj,fun j ep n hh=>by cases hh;exact .inr (Nat.le_refl _)⟩)
  simp only [opVal,builtinP,List.map_cons,List.map_nil,evL_ev hx,evL_ev hy,appendP,kd_sl (T.hkd _ _ hk),T.hts _ _ hs,T.htb _ _ hb,T.htz _ _ hz,appendee,hel]
  rw [if_pos ⟨by omega,by omega,⟨hl,ho⟩,hce⟩]
  simp [hrm 1 (by omega),newObj]
 ·have hne:id≠iy:=fun hh=>hv ep es.length (by rw [hh])
  have hg:getM h id ep=some ⟨.m,ep,1,es⟩:=getM_at e2 rfl (by simp)
  refine .mk (v:=.mref id (ep+1) 0 (es.length+1)) (h':=h.set id ⟨.m,ep+1,1,es++[e]⟩) (fun run ρ=>?_) (kk _ _ ⟨.inr ⟨id,ep+1,by simp,List.getElem?_set_self (lt_of_some e2)⟩,hR.set id (by simp) hve,by simp,fun j hj hjv=>List.getElem?_set_ne (fun hh=>hjv ep es.length (by rw [hh])),fun j ep' n hh=>by cases hh;exact .inl ⟨ep,es.length,rfl⟩⟩)
  simp only [opVal,builtinP,List.map_cons,List.map_nil,evL_ev hx,evL_ev hy,appendP,kd_sl (T.hkd _ _ hk),T.hts _ _ hs,T.htb _ _ hb,T.htz _ _ hz,appendee,hel,hg]
  rw [if_pos ⟨by omega,by omega,⟨hl,ho⟩,hce⟩,if_pos ⟨by simp,trivial⟩]
  have hso:sameObj id (.mref iy 0 0 1)=false:=by simp [sameObj];exact fun hh=>hne hh.symm
  simp [hso,hrm (es.length+1) (by omega)]
end
theorem Out.oneC {sz:Nat} {h:AHeap} {v:PV} {es:List PV} (o:Out sz h v es):Pm.oneC v=true∧Pm.cells v=[v]:=by
 rcases o with ⟨rfl,_⟩ | ⟨id,ep,rfl,_⟩ <;> exact ⟨rfl,rfl⟩
theorem Out.visR {sz:Nat} {h:AHeap} {v:PV} {es:List PV} (o:Out sz h v es):Pm.visR (fun i=>decide (i<h.length)) v=true:=by
 rcases o with ⟨rfl,_⟩ | ⟨id,ep,rfl,e⟩
 ·rfl
 ·have:=lt_of_some e;simpa [Pm.visR] using this
theorem El.link {n c:Nat} {S:List Row} {P:List Int} {res:Option (List Row × List Int)} (h:El n c S P res) (hc:c<n):∃ st cr,Col c st S cr∧(cr=none→res=none)∧∀ S' i,cr=some (S',i)→El n (c+1) S' (P++[i]) res:=by
 cases h with
 | done=>omega
 | large _ h1=>exact ⟨_,none,h1,fun _=>rfl,by simp⟩
 | next _ h1 h2=>exact ⟨_,some _,h1,by simp,by rintro _ _ ⟨⟩;exact h2⟩
theorem CallEv.fr {C:Cfg} {f:FuncId} {args:List PV} {H:AHeap} {P Q:PV→AHeap→Prop} (a:FnEv C f args H (fun r h'=>HR h'∧H.length≤h'.length∧(∀ j,j<H.length→h'[j]?=H[j]?)∧P r h')) (hP:∀ r h',P r h'→belowR H.length r=true→P r (h'.take H.length))
  (q:∀ r h',HR h'→H.length≤h'.length→(∀ j,j<H.length→h'[j]?=H[j]?)→P r h'→Q r h') (hm:C.mode f=.opened:=by rfl):CallEv C 2 f args H Q:=by
 refine CallEv.opened hm (a.mono fun r k hr=>?_)
 obtain ⟨r1,r2,r3,r4⟩:=hr
 split
 ·rename_i hc
  rw [Bool.and_eq_true] at hc
  exact q r _ (r1.take r2 hc.2) (by simp;omega) (fun j hj=>by rw [List.getElem?_take,if_pos hj];exact r3 j hj) (hP r k r4 hc.1)
 ·exact q r k r1 r2 r3 r4
theorem out_below {sz n:Nat} {h:AHeap} {v:PV} {es:List PV} (o:Out sz h v es) (hv:∀ j ep n',v=.mref j ep 0 n'→n≤j) (hb:belowA n v=true):v=.snap true []∧es=[]:=by
 rcases o with o | ⟨id,ep,rfl,_⟩
 ·exact o
 ·have:=hv id ep _ rfl
  simp [belowA,below1] at hb
  omega
structure TB (H h:AHeap) (r6 iu w:Nat) (cols:List Tm) (rv pv:PV) (Z:List Rf) (P:List Int):Prop where
 rl:RL h rv iu 0 w Z
 fr:∀ j,j<H.length→h[j]?=H[j]?
 z0:h[H.length]?=some ⟨.m,0,3,[.agg [.snap true [],.snap true [],.snap true []]]⟩
 ex:h[r6]?=some ⟨.m,0,3,[.agg [.snap false (encs cols),rv,pv]]⟩
 ep:Out 1 h pv (encIs P)
 gt:∀ i∈iu::(vid rv++vid pv),r6<i
 nd:(iu::(vid rv++vid pv)).Nodup
 zi:∀ z∈Z,z.i∉iu::(vid rv++vid pv)∧r6<z.i
 h6:H.length<r6
theorem out_belowR {sz n:Nat} {h:AHeap} {v:PV} {es:List PV} (o:Out sz h v es) (hv:∀ j ep n',v=.mref j ep 0 n'→n≤j) (hb:belowR n v=true):v=.snap true []∧es=[]:=by
 rcases o with o | ⟨id,ep,rfl,_⟩
 ·exact o
 ·have:=hv id ep _ rfl
  simp [belowR,belowA,below1] at hb
  omega
theorem Out.vge {sz n:Nat} {h:AHeap} {v:PV} {es:List PV} (o:Out sz h v es) (hv:∀ j ep n',v=.mref j ep 0 n'→n≤j):∀ i∈vid v,n≤i:=by
 rcases o with ⟨rfl,_⟩ | ⟨id,ep,rfl,_⟩
 ·intro i hi;simp [vid] at hi
 ·intro i hi;simp [vid] at hi;subst hi;exact hv _ _ _ rfl
theorem TB.lt {H h:AHeap} {r6 iu w:Nat} {cols:List Tm} {rv pv:PV} {Z:List Rf} {P:List Int} (t:TB H h r6 iu w cols rv pv Z P):∀ i∈iu::(vid rv++vid pv),i<h.length:=by
 intro i hi
 simp only [List.mem_cons,List.mem_append] at hi
 rcases hi with rfl | hi | hi
 ·exact lt_of_some t.rl.eu
 ·exact t.rl.er.vlt i hi
 ·exact t.ep.vlt i hi
theorem TB.grow {H h h':AHeap} {r6 iu w:Nat} {cols:List Tm} {rv pv:PV} {Z:List Rf} {P:List Int} (t:TB H h r6 iu w cols rv pv Z P) (hr:HR h') (he:∀ j,j<h.length→h'[j]?=h[j]?):TB H h' r6 iu w cols rv pv Z P where
 rl:=t.rl.of_eq hr he
 fr j hj:=by rw [he j (Nat.lt_of_lt_of_le hj (Nat.le_of_lt (lt_of_some t.z0)))];exact t.fr j hj
 z0:=by rw [he _ (lt_of_some t.z0)];exact t.z0
 ex:=by rw [he _ (lt_of_some t.ex)];exact t.ex
 ep:=t.ep.of_eq fun i hi=>he i (t.ep.vlt i hi)
 gt:=t.gt
 nd:=t.nd
 zi:=t.zi
 h6:=t.h6
theorem TB.put {H h:AHeap} {r6 iu w rr re i:Nat} {cols:List Tm} {pv:PV} {Z:List Rf} {P:List Int} {z:Rf} (t:TB H h r6 iu w cols (.mref rr re 0 Z.length) pv Z P) (hz:h[z.i]?=some ⟨.m,z.e,1,encIs z.r⟩) (hl:z.r.length=w) (hzi:z.i∉iu::(vid (.mref rr re 0 Z.length)++vid pv)∧r6<z.i) (hu:∀ y,Z[i]?=some y→z.u=y.u) :
  TB H (h.set rr ⟨.m,re,1,(Z.map Rf.v).set i z.v⟩) r6 iu w cols (.mref rr re 0 Z.length) pv (Z.set i z) P:=by
 have hrr:rr∈vid (.mref rr re 0 Z.length):=by simp [vid]
 have nd:=t.nd
 rw [List.nodup_cons,List.nodup_append] at nd
 obtain ⟨n1,_,n3,n4⟩:=nd
 have hiu:iu≠rr:=fun hh=>n1 (by simp [vid,hh])
 have hpv:∀ j∈vid pv,j≠rr:=fun j hj hh=>n4 rr hrr j hj hh.symm
 have hgt:=t.gt rr (by simp [vid])
 have her:h[rr]?=some ⟨.m,re,1,Z.map Rf.v⟩:=by
  rcases t.rl.er with ⟨h0,_⟩ | ⟨_,_,g1,g2⟩
  ·cases h0
  ·simp only [PV.mref.injEq] at g1
   obtain ⟨rfl,rfl,_,_⟩:=g1
   exact g2
 have klt:=lt_of_some her
 have kz:=lt_of_some hz
 have hset:(Z.map Rf.v).set i z.v=(Z.set i z).map Rf.v:=by rw [List.map_set]
 have hmem:∀ y∈Z.set i z,y∈Z∨y=z:=fun y hy=>List.mem_or_eq_of_mem_set hy
 have hb:(Z.set i z).map Rf.b=Z.map Rf.b:=by
  apply List.ext_getElem?
  intro j
  rw [List.getElem?_map,List.getElem?_map,List.getElem?_set]
  split
  ·rename_i hij
   subst hij
   split
   ·rename_i hlt
    have:=hu Z[i] (List.getElem?_eq_getElem hlt)
    simp [List.getElem?_eq_getElem hlt,Rf.b,this]
   ·rename_i hlt
    rw [List.getElem?_eq_none (by omega)]
  ·rfl
 refine ⟨⟨t.rl.hr.set rr (by simp) ?_,?_,?_,?_⟩,fun j hj=>?_,?_,?_,?_,t.gt,t.nd,?_,t.h6⟩
 ·show visRs _ ((Z.map Rf.v).set i z.v)=true
  rw [visRs_all,List.all_eq_true]
  intro y hy
  rcases List.mem_or_eq_of_mem_set hy with hy | rfl
  ·obtain ⟨x,hx,rfl⟩:=List.mem_map.1 hy
   have:=lt_of_some (t.rl.at_ x hx).1
   simpa [Rf.v,visR] using this
  ·simpa [Rf.v,visR] using kz
 ·rw [hset]
  exact .inr ⟨rr,re,by simp,List.getElem?_set_self klt⟩
 ·rw [List.getElem?_set_ne (Ne.symm hiu),hb];exact t.rl.eu
 ·intro y hy
  have key:∀ y:Rf,h[y.i]?=some ⟨.m,y.e,1,encIs y.r⟩→y.i∉iu::(vid (.mref rr re 0 Z.length)++vid pv)→(h.set rr ⟨.m,re,1,(Z.map Rf.v).set i z.v⟩)[y.i]?=some ⟨.m,y.e,1,encIs y.r⟩:=fun y h1 h2=>by
   rw [List.getElem?_set_ne (fun hh=>h2 (by simp [vid,hh]))];exact h1
  rcases hmem y hy with hy | rfl
  ·exact ⟨key y (t.rl.at_ y hy).1 (t.zi y hy).1,(t.rl.at_ y hy).2⟩
  ·exact ⟨key y hz hzi.1,hl⟩
 ·have:=t.h6
  rw [List.getElem?_set_ne (by omega)];exact t.fr j hj
 ·have:=t.h6
  rw [List.getElem?_set_ne (by omega)];exact t.z0
 ·rw [List.getElem?_set_ne (by omega)];exact t.ex
 ·exact t.ep.of_eq fun j hj=>List.getElem?_set_ne (fun hh=>hpv j hj hh.symm)
 ·intro y hy
  rcases hmem y hy with hy | rfl
  ·exact t.zi y hy
  ·exact hzi
theorem LR.vid {H h':AHeap} {v r:PV} {sz:Nat} {es:List PV} (l:LR H v sz es r h'):∀ i∈Pm.vid r,i∈Pm.vid v∨H.length≤i:=by
 rcases l.out with ⟨rfl,_⟩ | ⟨id,ep,rfl,_⟩
 ·intro i hi;simp [Pm.vid] at hi
 ·intro i hi
  simp only [Pm.vid,List.mem_singleton] at hi
  subst hi
  rcases l.ref i ep _ rfl with ⟨ep',n',h⟩ | h
  ·exact .inl (by rw [h];simp [Pm.vid])
  ·exact .inr h
theorem vid_nodup (v:PV):(vid v).Nodup:=by unfold vid;split <;> simp
theorem TB.piv {H h h':AHeap} {r6 iu w:Nat} {cols:List Tm} {rv pv pv':PV} {Z:List Rf} {P:List Int} {x:Int} (t:TB H h r6 iu w cols rv pv Z P) (l:LR h pv 1 (encIs P++[.int .i64 x]) pv' h') :
  TB H (h'.set r6 ⟨.m,0,3,[.agg [.snap false (encs cols),rv,pv']]⟩) r6 iu w cols rv pv' Z (P++[x]):=by
 have nd:=t.nd
 rw [List.nodup_cons,List.nodup_append] at nd
 obtain ⟨n1,_,n3,n4⟩:=nd
 have hl:=l.len
 have klt:=lt_of_some t.ex
 have kiu:=lt_of_some t.rl.eu
 have far:∀ j,j<h.length→j∉vid pv→h'[j]?=h[j]?:=fun j hj hn=>l.fr j hj fun ep n hh=>hn (by rw [hh];simp [vid])
 have gt1:∀ i∈vid pv',r6<i:=fun i hi=>by
  rcases l.vid i hi with h1 | h1
  ·exact t.gt i (by simp [h1])
  ·omega
 have oth:∀ j,j<h.length→j∉vid pv→j≠r6→(h'.set r6 ⟨.m,0,3,[.agg [.snap false (encs cols),rv,pv']]⟩)[j]?=h[j]?:=fun j hj hn h6=>by
  rw [List.getElem?_set_ne (Ne.symm h6)];exact far j hj hn
 have hiu:iu∉vid pv:=fun hh=>n1 (by simp [hh])
 have hgiu:=t.gt iu (by simp)
 have h6:=t.h6
 have hrvv:=t.rl.er.visR
 have hpvv:=l.out.visR
 refine ⟨⟨l.hr.set r6 (by simp) ?_,t.rl.er.of_eq fun i hi=>?_,?_,fun z hz=>⟨?_,(t.rl.at_ z hz).2⟩⟩,fun j hj=>?_,?_,List.getElem?_set_self (by omega),?_,?_,?_,fun z hz=>⟨?_,(t.zi z hz).2⟩,t.h6⟩
 ·simp only [visRs,visR,Bool.true_and,Bool.and_true,Bool.and_eq_true]
  exact ⟨visR_imp (f:=fun i=>decide (i<h.length)) (fun i hi=>by have:=of_decide_eq_true hi;exact decide_eq_true (by omega)) _ hrvv,hpvv⟩
 ·have:=t.gt i (by simp [hi])
  exact oth i (t.rl.er.vlt i hi) (fun hh=>n4 i hi i hh rfl) (by omega)
 ·rw [oth iu kiu hiu (by omega)];exact t.rl.eu
 ·have:=t.zi z hz
  rw [oth z.i (lt_of_some (t.rl.at_ z hz).1) (fun hh=>this.1 (by simp [hh])) (by omega)]
  exact (t.rl.at_ z hz).1
 ·rw [oth j (by omega) (fun hh=>by have:=t.gt j (by simp [hh]);omega) (by omega)];exact t.fr j hj
 ·rw [oth _ (by omega) (fun hh=>by have:=t.gt _ (show H.length∈iu::(vid rv++vid pv) by simp [hh]);omega) (by omega)];exact t.z0
 ·have:Out 1 (h'.set r6 ⟨.m,0,3,[.agg [.snap false (encs cols),rv,pv']]⟩) pv' (encIs P++[.int .i64 x]):=l.out.of_eq fun i hi=>List.getElem?_set_ne (by have:=gt1 i hi;omega)
  simpa [encIs] using this
 ·intro i hi
  simp only [List.mem_cons,List.mem_append] at hi
  rcases hi with rfl | hi | hi
  ·exact hgiu
  ·exact t.gt i (by simp [hi])
  ·exact gt1 i hi
 ·rw [List.nodup_cons,List.nodup_append]
  refine ⟨fun hh=>?_,vid_nodup _,vid_nodup _,fun a ha b hb=>?_⟩
  ·rcases List.mem_append.1 hh with hh | hh
   ·exact n1 (by simp [hh])
   ·rcases l.vid iu hh with h1 | h1
    ·exact hiu h1
    ·omega
  ·rintro rfl
   rcases l.vid a hb with h1 | h1
   ·exact n4 a ha a h1 rfl
   ·have:=t.rl.er.vlt a ha;omega
 ·intro hh
  simp only [List.mem_cons,List.mem_append] at hh
  have hz1:=t.zi z hz
  rcases hh with hh | hh | hh
  ·exact hz1.1 (by simp [hh])
  ·exact hz1.1 (by simp [hh])
  ·rcases l.vid z.i hh with h1 | h1
   ·exact hz1.1 (by simp [h1])
   ·have:=lt_of_some (t.rl.at_ z hz).1;omega
theorem TB.pset {H h:AHeap} {r6 iu w pi pe m:Nat} {cols:List Tm} {rv:PV} {Z:List Rf} {P P':List Int} (t:TB H h r6 iu w cols rv (.mref pi pe 0 m) Z P) (hm:m=P'.length) (kp:pi<h.length) :
  TB H (h.set pi ⟨.m,pe,1,encIs P'⟩) r6 iu w cols rv (.mref pi pe 0 m) Z P':=by
 have nd:=t.nd
 rw [List.nodup_cons,List.nodup_append] at nd
 obtain ⟨n1,_,n3,n4⟩:=nd
 have hp:pi∈vid (.mref pi pe 0 m):=by simp [vid]
 have hg:=t.gt pi (by simp [vid])
 have h6:=t.h6
 refine ⟨⟨t.rl.hr.set pi (by simp) (vis_vals _ _ (by simp)),t.rl.er.of_eq fun i hi=>List.getElem?_set_ne (fun hh=>n4 i hi pi hp hh.symm),by rw [List.getElem?_set_ne (fun hh=>n1 (by simp [vid,hh]))];exact t.rl.eu,fun z hz=>⟨?_,(t.rl.at_ z hz).2⟩⟩,fun j hj=>?_,?_,?_,.inr ⟨pi,pe,by rw [hm];simp,List.getElem?_set_self kp⟩,t.gt,t.nd,t.zi,t.h6⟩
 ·rw [List.getElem?_set_ne (fun hh=>(t.zi z hz).1 (by simp [vid,hh]))];exact (t.rl.at_ z hz).1
 ·rw [List.getElem?_set_ne (by omega)];exact t.fr j hj
 ·rw [List.getElem?_set_ne (by omega)];exact t.z0
 ·rw [List.getElem?_set_ne (by omega)];exact t.ex
theorem TB.use {H h:AHeap} {r6 iu w i:Nat} {cols:List Tm} {rv pv:PV} {Z:List Rf} {P:List Int} {z:Rf} (t:TB H h r6 iu w cols rv pv Z P) (hz:Z[i]?=some z) :
  TB H (h.set iu ⟨.m,0,1,(Z.map Rf.b).set i (.bool true)⟩) r6 iu w cols rv pv (Z.set i {z with u:=true }) P:=by
 have nd:=t.nd
 rw [List.nodup_cons,List.nodup_append] at nd
 obtain ⟨n1,_,n3,n4⟩:=nd
 have hg:=t.gt iu (by simp)
 have h6:=t.h6
 have kiu:=lt_of_some t.rl.eu
 have hzm:=List.mem_of_getElem? hz
 have hv:(Z.set i {z with u:=true }).map Rf.v=Z.map Rf.v:=by
  rw [List.map_set]
  refine list_set_self ?_
  rw [List.getElem?_map,hz];rfl
 have hb:(Z.map Rf.b).set i (.bool true)=(Z.set i {z with u:=true }).map Rf.b:=by rw [List.map_set];rfl
 have hmem:∀ y∈Z.set i {z with u:=true },y∈Z∨y={z with u:=true }:=fun y hy=>List.mem_or_eq_of_mem_set hy
 refine ⟨⟨t.rl.hr.set iu (by simp) (vis_vals _ _ ?_),?_,?_,fun y hy=>?_⟩,fun j hj=>?_,?_,?_,t.ep.of_eq fun j hj=>List.getElem?_set_ne (fun hh=>n1 (by simp [hh,hj])),t.gt,t.nd,fun y hy=>?_,t.h6⟩
 ·rw [hb,isVals_eq,List.all_eq_true];intro y hy;obtain ⟨q,_,rfl⟩:=List.mem_map.1 hy;rfl
 ·rw [hv];exact t.rl.er.of_eq fun j hj=>List.getElem?_set_ne (fun hh=>n1 (by simp [hh,hj]))
 ·rw [List.getElem?_set_self kiu,hb]
 ·have key:∀ y∈Z,(h.set iu ⟨.m,0,1,(Z.map Rf.b).set i (.bool true)⟩)[y.i]?=some ⟨.m,y.e,1,encIs y.r⟩∧y.r.length=w:=fun y hy=>by
   rw [List.getElem?_set_ne (fun hh=>(t.zi y hy).1 (by simp [hh]))];exact t.rl.at_ y hy
  rcases hmem y hy with hy | rfl
  ·exact key y hy
  ·exact key z hzm
 ·rw [List.getElem?_set_ne (by omega)];exact t.fr j hj
 ·rw [List.getElem?_set_ne (by omega)];exact t.z0
 ·rw [List.getElem?_set_ne (by omega)];exact t.ex
 ·rcases hmem y hy with hy | rfl
  ·exact t.zi y hy
  ·exact t.zi z hzm
def unitR (k i:Nat):List Int:=(List.replicate k 0).set i 1
def row0 (cols:List Tm) (k i:Nat) (x:List Pw):List Int:=cols.map (pwr x)++unitR k i
def rows0 (cols:List Tm) (k:Nat) (l:List (List Pw)):List (List Int):=l.mapIdx fun i x=>row0 cols k i x
theorem rows0_snoc (cols:List Tm) (k:Nat) (p:List (List Pw)) (x:List Pw):rows0 cols k (p++[x])=rows0 cols k p++[row0 cols k p.length x]:=by simp [rows0,List.mapIdx_append]
attribute [local irreducible] thenQ blockQ loopQ bodyQ Ev EvOps CallEv FnEv EvD
theorem elim_ev (H:AHeap) (hR:HR H) (l:List (List Pw)) (cols:List Tm) (res:Option (List Row × List Int)) (hk:l.length≤12) (hn:cols.length≤12) (hb:∀ t∈cols,bulk t<1000000000) (hs:∀ x∈l,Sm x) (hv:∀ x∈l,∀ t,smallI (pwr x t)=true)
  (hE:El cols.length 0 ((rows0 cols l.length l).map fun r=>(r,false)) [] res) :
  FnEv C 97 [.snap false (encPPs l),.snap false (encs cols)] H (fun r h'=>HR h'∧H.length≤h'.length∧(∀ j,j<H.length→h'[j]?=H[j]?) ∧
   match res with
   | none=>r=.tup [.agg [.snap true [],.snap true [],.snap true []],.bool false]
   | some (S',P')=>∃ (rv pv:PV) (Z:List Rf),r=.tup [.agg [.snap false (encs cols),rv,pv],.bool true]∧Out 1 h' rv (Z.map Rf.v)∧(∀ z∈Z,h'[z.i]?=some ⟨.m,z.e,1,encIs z.r⟩∧z.r.length=cols.length+l.length∧small z.r=true)∧Z.map Rf.m=S'∧Z.length=l.length∧Out 1 h' pv (encIs P')∧P'.length=cols.length∧(∀ i∈vid rv++vid pv,H.length≤i)):=by
 have hel:(encPPs l).length=l.length:=by simp
 have hec:=encs_len cols
 refine FnEv.x T6 Tryz.func97 rfl ?_
 (repeat' (first | (refine Rn.go ?_;conv=>whnf) | refine .mk ?_ | refine .tt ?_ | refine .ff ?_ | refine .m2 ?_ | refine .m3 ?_ | refine .mk (fun hc=>?_) fun hc=>?_ | refine .lp fun v H lp=>?_ | fail))
 obtain ⟨r6,hr6⟩:∃ r6,r6=(H++[(⟨.m,0,3,[.agg [.snap true [],.snap true [],.snap true []]]⟩:AObj)]).length:=⟨_,rfl⟩
 rw [← hr6]
 have hr7:r6=H.length+1:=by rw [hr6];simp
 have hHR:HR (H++[(⟨.m,0,3,[.agg [.snap true [],.snap true [],.snap true []]]⟩:AObj)]++[(⟨.m,0,3,[.agg [.snap false (encs cols),.snap true [],.snap true []]]⟩:AObj)]):=(hR.appV (HV.one rfl)).appV (HV.one (by simp))
 refine LpX.zip T6 l (fun p q L h=>∃ (Z:List Rf) (rv:PV),L=[(0,.snap false (encPPs l)),(1,.snap false (encs cols)),(4,.ptr H.length 0 0 0),(6,.ptr r6 0 0 0),(7,.int .i64 p.length)]∧HR h∧r6<h.length∧(∀ j,j<H.length→h[j]?=H[j]?)∧h[H.length]?=some ⟨.m,0,3,[.agg [.snap true [],.snap true [],.snap true []]]⟩ ∧
  h[r6]?=some ⟨.m,0,3,[.agg [.snap false (encs cols),rv,.snap true []]]⟩∧Out 1 h rv (Z.map Rf.v)∧Z.map Rf.m=(rows0 cols l.length p).map (fun r=>(r,false))∧(∀ z∈Z,h[z.i]?=some ⟨.m,z.e,1,encIs z.r⟩∧r6<z.i)∧(∀ j ep n,rv=.mref j ep 0 n→r6<j∧∀ z∈Z,z.i≠j))
  (.nx ⟨[],.snap true [],rfl,hHR,by simp;omega,fun j hj=>by rw [List.getElem?_append_left (by simp;omega),List.getElem?_append_left hj],by rw [List.getElem?_append_left (by simp)];simp,by rw [hr6,List.getElem?_append_right (Nat.le_refl _)];simp,.inl ⟨rfl,rfl⟩,rfl,by simp,by simp⟩) ?_ ?_
 ·rintro p x q _ h ρ e ⟨Z,rv,rfl,hh,g1,g2,g3,g4,g5,g6,g7,g8⟩
  have hl3:=congrArg List.length e
  simp only [List.length_append,List.length_cons] at hl3
  have hat:=at_encPPs e
  have hZl:Z.length=p.length:=by have:=congrArg List.length g6;simpa [rows0] using this
  have hxs:=hs x (by rw [e];simp)
  (repeat' (first | (refine Rn.go ?_;conv=>whnf) | refine .mk ?_ | refine .tt ?_ | refine .ff ?_ | refine .m2 ?_ | refine .m3 ?_ | refine .mk (fun hc=>?_) fun hc=>?_ | refine .lp fun v H lp=>?_ | fail))
  have hxl:=encPs_len x
  obtain ⟨w,hw⟩:∃ w,w=cols.length+l.length:=⟨_,rfl⟩
  rw [hel,hec,← hw]
  have hHR2:HR (h++[(⟨.m,0,0+1,List.replicate w (.int .i64 0)⟩:AObj)]):=hh.app1 (by simp) (vis_vals _ _ (by rw [isVals_eq,List.all_eq_true];intro y hy;rw [List.eq_of_mem_replicate hy];rfl))
  refine LpX.zip T6 cols (fun A B L k=>L=[(0,.snap false (encPPs l)),(1,.snap false (encs cols)),(4,.ptr H.length 0 0 0),(6,.ptr r6 0 0 0),(7,.int .i64 p.length),(8,.mref h.length 0 0 w),(9,.int .i64 A.length)]∧HR k∧k.length=h.length+1∧(∀ j,j<h.length→k[j]?=h[j]?) ∧
   k[h.length]?=some ⟨.m,0,1,encIs (A.map (pwr x)++List.replicate (B.length+l.length) 0)⟩) (.nx ⟨rfl,hHR2,by simp,fun j hj=>List.getElem?_append_left hj,by rw [List.getElem?_append_right (Nat.le_refl _),hw];simp [encIs]⟩) ?_ ?_
  ·rintro A t B _ k ρ e2 ⟨rfl,hk2,k1,k2,k3⟩
   have hl4:=congrArg List.length e2
   simp only [List.length_append,List.length_cons] at hl4
   have hat2:=at_encs e2
   have hpw:=rpower_fun x t hxs (hb t (by rw [e2];simp))
   rw [enc_x] at hpw
   have hrl:(encIs (A.map (pwr x)++List.replicate ((t::B).length+l.length) 0)).length=w:=by simp;omega
   have hat3:(encIs (A.map (pwr x)++List.replicate ((t::B).length+l.length) 0))[0+A.length]?=some (.int .i64 0):=by
    rw [show (t::B).length+l.length=(B.length+l.length)+1 by simp;omega,List.replicate_succ];simp [encIs]
   have hset:(encIs (A.map (pwr x)++List.replicate ((t::B).length+l.length) 0)).set (0+A.length) (.int .i64 (pwr x t))=encIs ((A++[t]).map (pwr x)++List.replicate (B.length+l.length) 0):=by
    rw [show (t::B).length+l.length=(B.length+l.length)+1 by simp;omega,List.replicate_succ,Nat.zero_add,encIs,List.map_append,List.set_append_right _ _ (by simp)]
    simp [encIs]
   (repeat' (first | (refine Rn.go ?_;conv=>whnf) | refine .mk ?_ | refine .tt ?_ | refine .ff ?_ | refine .m2 ?_ | refine .m3 ?_ | refine .mk (fun hc=>?_) fun hc=>?_ | refine .lp fun v H lp=>?_ | fail))
   refine .p hpw ?_
   (repeat' (first | (refine Rn.go ?_;conv=>whnf) | refine .mk ?_ | refine .tt ?_ | refine .ff ?_ | refine .m2 ?_ | refine .m3 ?_ | refine .mk (fun hc=>?_) fun hc=>?_ | refine .lp fun v H lp=>?_ | fail))
   rw [hset]
   exact .nx ⟨rfl,hk2.set _ (by simp) (vis_vals _ _ (by simp)),by simp [k1],fun j hj=>by rw [List.getElem?_set_ne (by omega)];exact k2 j hj,by rw [List.getElem?_set_self (by omega)]⟩
  ·rintro _ k ρ ⟨rfl,hk2,k1,k2,k3⟩
   have hrl:(encIs (cols.map (pwr x)++List.replicate (([]:List Tm).length+l.length) 0)).length=w:=by simp;omega
   have hat3:(encIs (cols.map (pwr x)++List.replicate (([]:List Tm).length+l.length) 0))[0+((encs cols).length+p.length)]?=some (.int .i64 0):=by
    rw [hec,Nat.zero_add,encIs,List.getElem?_map,List.getElem?_append_right (by simp)]
    simp [List.getElem?_replicate];omega
   have hset:(encIs (cols.map (pwr x)++List.replicate (([]:List Tm).length+l.length) 0)).set (0+((encs cols).length+p.length)) (.int .i64 1)=encIs (row0 cols l.length p.length x):=by
    rw [hec,Nat.zero_add,encIs,List.map_append,List.set_append_right _ _ (by simp)]
    simp [encIs,row0,unitR,List.map_set]
   have k6:k[r6]?=some ⟨.m,0,3,[.agg [.snap false (encs cols),rv,.snap true []]]⟩:=by rw [k2 r6 g1];exact g4
   have hr0:(row0 cols l.length p.length x).length=w:=by simp [row0,unitR];omega
   (repeat' (first | (refine Rn.go ?_;conv=>whnf) | refine .mk ?_ | refine .tt ?_ | refine .ff ?_ | refine .m2 ?_ | refine .m3 ?_ | refine .mk (fun hc=>?_) fun hc=>?_ | refine .lp fun v H lp=>?_ | fail))
   rw [hset]
   obtain ⟨K1,hK1⟩:∃ K1,K1=k.set h.length ⟨.m,0,1,encIs (row0 cols l.length p.length x)⟩:=⟨_,rfl⟩
   have q1:K1.length=h.length+1:=by rw [hK1];simp [k1]
   have q2:HR K1:=by rw [hK1];exact hk2.set _ (by simp) (vis_vals _ _ (by simp))
   have q3:∀ j,j<h.length→K1[j]?=h[j]?:=fun j hj=>by rw [hK1,List.getElem?_set_ne (by omega)];exact k2 j hj
   have q4:K1[h.length]?=some ⟨.m,0,1,encIs (row0 cols l.length p.length x)⟩:=by rw [hK1,List.getElem?_set_self (by omega)]
   have q6:K1[r6]?=some ⟨.m,0,3,[.agg [.snap false (encs cols),rv,.snap true []]]⟩:=by rw [q3 r6 g1];exact g4
   rw [← hK1]
   (repeat' (first | (refine Rn.go ?_;conv=>whnf) | refine .mk ?_ | refine .tt ?_ | refine .ff ?_ | refine .m2 ?_ | refine .m3 ?_ | refine .mk (fun hc=>?_) fun hc=>?_ | refine .lp fun v H lp=>?_ | fail))
   have rlt:∀ j ep n,rv=.mref j ep 0 n→j<h.length:=fun j ep n hh=>g5.vlt j (by rw [hh];simp [vid])
   have zlt:∀ z∈Z,z.i<h.length:=fun z hz=>lt_of_some (g7 z hz).1
   have qo:Out 1 (K1++[(⟨.m,0,0+1,[.mref h.length 0 0 w]⟩:AObj)]) rv (Z.map Rf.v):=(g5.of_eq (fun i hi=>q3 i (g5.vlt i hi))).app _
   have qR:HR (K1++[(⟨.m,0,0+1,[.mref h.length 0 0 w]⟩:AObj)]):=q2.app1 (by simp) (by simp [visRs,visR];omega)
   have qv:visRs (fun i=>decide (i<(K1++[(⟨.m,0,0+1,[.mref h.length 0 0 w]⟩:AObj)]).length)) (Z.map Rf.v++[.mref h.length 0 0 w])=true:=by
    rw [visRs_all,List.all_eq_true]
    intro y hy
    simp only [List.length_append,List.length_cons,List.length_nil]
    rcases List.mem_append.1 hy with hy | hy
    ·obtain ⟨z,hz,rfl⟩:=List.mem_map.1 hy
     have:=zlt z hz
     simp [Rf.v,visR];omega
    ·obtain rfl:=List.mem_singleton.1 hy
     simp [visR];omega
   refine .ap1 T6 (v:=rv) (es:=Z.map Rf.v) (e:=.mref h.length 0 0 w) (iy:=K1.length) qo (by simp) (fun ep n hh=>by have:=rlt _ _ _ hh;omega) (by simp;omega) qR qv ⟨rfl,rfl⟩ (fun v' h' lr=>?_)
   have ln:=lr.len
   rw [List.length_append] at ln
   simp only [List.length_cons,List.length_nil] at ln
   have f1:∀ j,j<h.length→(∀ ep n,rv≠.mref j ep 0 n)→h'[j]?=h[j]?:=fun j hj hr=>by rw [lr.fr j (by simp;omega) hr,List.getElem?_append_left (by omega)];exact q3 j hj
   have f2:h'[h.length]?=some ⟨.m,0,1,encIs (row0 cols l.length p.length x)⟩:=by rw [lr.fr h.length (by simp;omega) (fun ep n hh=>by have:=rlt _ _ _ hh;omega),List.getElem?_append_left (by omega)];exact q4
   have f6:h'[r6]?=some ⟨.m,0,3,[.agg [.snap false (encs cols),rv,.snap true []]]⟩:=by rw [f1 r6 g1 (fun ep n hh=>by have:=(g8 _ _ _ hh).1;omega)];exact g4
   have lref:=lr.ref
   have lhr:=lr.hr
   rcases lr.out with ⟨_,h0⟩ | ⟨iv,ev,rfl,ev2⟩
   ·have:=congrArg List.length h0;simp at this
   clear lr
   have kiv:=lt_of_some ev2
   have hiv:r6<iv∧(∀ z∈Z,z.i≠iv)∧h.length≠iv:=by
    rcases lref iv ev _ rfl with ⟨ep',n',hh⟩ | hh
    ·have a1:=g8 _ _ _ hh
     have a2:=rlt _ _ _ hh
     exact ⟨a1.1,a1.2,by omega⟩
    ·simp at hh
     exact ⟨by omega,fun z hz hh2=>by have:=zlt z hz;omega,by omega⟩
   have k6:r6<h'.length:=by omega
   (repeat' (first | (refine Rn.go ?_;conv=>whnf) | refine .mk ?_ | refine .tt ?_ | refine .ff ?_ | refine .m2 ?_ | refine .m3 ?_ | refine .mk (fun hc=>?_) fun hc=>?_ | refine .lp fun v H lp=>?_ | fail))
   refine .nx ⟨Z++[⟨h.length,0,row0 cols l.length p.length x,false⟩],.mref iv ev 0 (Z.map Rf.v++[PV.mref h.length 0 0 w]).length,rfl,lhr.set r6 (by simp) (by simpa [visRs,visR] using kiv),by simp;omega,fun j hj=>?_,?_,List.getElem?_set_self k6,?_,?_,?_,?_⟩
   ·rw [List.getElem?_set_ne (by omega),f1 j (by omega) (fun ep n hh=>by have:=(g8 _ _ _ hh).1;omega)]
    exact g2 j hj
   ·rw [List.getElem?_set_ne (by omega),f1 H.length (by omega) (fun ep n hh=>by have:=(g8 _ _ _ hh).1;omega)]
    exact g3
   ·refine .inr ⟨iv,ev,by simp,?_⟩
    rw [List.getElem?_set_ne (by omega),ev2]
    simp [Rf.v,hr0]
   ·rw [rows0_snoc,List.map_append,List.map_append,g6]
    simp [Rf.m]
   ·intro z hz
    rcases List.mem_append.1 hz with hz | hz
    ·obtain ⟨z1,z2⟩:=g7 z hz
     refine ⟨?_,z2⟩
     rw [List.getElem?_set_ne (by omega),f1 z.i (zlt z hz) (fun ep n hh=>(g8 _ _ _ hh).2 z hz rfl)]
     exact z1
    ·obtain rfl:=List.mem_singleton.1 hz
     refine ⟨?_,g1⟩
     rw [List.getElem?_set_ne (show r6≠h.length by omega)]
     exact f2
   ·intro j ep n hh
    simp only [PV.mref.injEq] at hh
    obtain ⟨rfl,_⟩:=hh
    refine ⟨hiv.1,fun z hz=>?_⟩
    rcases List.mem_append.1 hz with hz | hz
    ·exact hiv.2.1 z hz
    ·obtain rfl:=List.mem_singleton.1 hz
     exact hiv.2.2
 ·rintro _ h ρ ⟨Z,rv,rfl,hh,g1,g2,g3,g4,g5,g6,g7,g8⟩
  have hZl:Z.length=l.length:=by have:=congrArg List.length g6;simpa [rows0] using this
  have hHR3:HR (h++[(⟨.m,0,0+1,List.replicate l.length (.bool false)⟩:AObj)]):=hh.app1 (by simp) (vis_vals _ _ (by rw [isVals_eq,List.all_eq_true];intro y hy;rw [List.eq_of_mem_replicate hy];rfl))
  obtain ⟨w,hw⟩:∃ w,w=cols.length+l.length:=⟨_,rfl⟩
  have rlt:∀ j ep n,rv=.mref j ep 0 n→j<h.length:=fun j ep n hh=>g5.vlt j (by rw [hh];simp [vid])
  have hvrv:∀ j∈vid rv,∃ ep n,rv=.mref j ep 0 n:=fun j hj=>by
   rcases g5 with ⟨rfl,_⟩ | ⟨id,ep,rfl,_⟩
   ·simp [vid] at hj
   ·simp only [vid,List.mem_singleton] at hj;subst hj;exact ⟨_,_,rfl⟩
  have hTB:TB H (h++[(⟨.m,0,0+1,List.replicate l.length (.bool false)⟩:AObj)]) r6 h.length w cols rv (.snap true []) Z []:=by
   refine ⟨⟨hHR3,g5.app _,?_,fun z hz=>⟨?_,?_⟩⟩,fun j hj=>?_,?_,?_,.inl ⟨rfl,rfl⟩,?_,?_,?_,by omega⟩
   ·have:Z.map Rf.b=List.replicate l.length (.bool false):=by
     have h1:Z.map Rf.b=(Z.map Rf.m).map (fun R=>PV.bool R.2):=by rw [List.map_map];rfl
     rw [h1,g6,List.map_map]
     rw [show ((fun R:Row=>PV.bool R.2) ∘ fun r:List Int=>(r,false))=fun _=>PV.bool false from rfl,List.map_const']
     simp [rows0]
    rw [this];simp
   ·rw [List.getElem?_append_left (lt_of_some (g7 z hz).1)];exact (g7 z hz).1
   ·have:z.m∈(rows0 cols l.length l).map (fun r=>(r,false)):=by rw [← g6];exact List.mem_map_of_mem hz
    obtain ⟨r,hr,he⟩:=List.mem_map.1 this
    unfold rows0 at hr
    obtain ⟨i,hi⟩:=List.getElem?_of_mem hr
    rw [List.getElem?_mapIdx] at hi
    cases hx:l[i]? with
    | none=>rw [hx] at hi;cases hi
    | some x=>
     rw [hx] at hi
     have e1:z.r=r:=(congrArg Prod.fst he).symm
     have e2:row0 cols l.length i x=r:=by simpa using hi
     rw [e1,← e2,hw];simp [row0,unitR]
   ·rw [List.getElem?_append_left (by omega)];exact g2 j hj
   ·rw [List.getElem?_append_left (by omega)];exact g3
   ·rw [List.getElem?_append_left g1];exact g4
   ·intro i hi
    simp only [vid,List.append_nil,List.mem_cons] at hi
    rcases hi with rfl | hi
    ·exact g1
    ·obtain ⟨ep,n,hh⟩:=hvrv i hi;exact (g8 i ep n hh).1
   ·simp only [vid,List.append_nil,List.nodup_cons]
    refine ⟨fun hi=>?_,?_⟩
    ·obtain ⟨ep,n,hh⟩:=hvrv _ hi;have:=rlt _ _ _ hh;omega
    ·rcases g5 with ⟨rfl,_⟩ | ⟨id,ep,rfl,_⟩ <;> simp [vid]
   ·intro z hz
    refine ⟨fun hi=>?_,(g7 z hz).2⟩
    simp only [vid,List.append_nil,List.mem_cons] at hi
    rcases hi with hi | hi
    ·have:=lt_of_some (g7 z hz).1;omega
    ·obtain ⟨ep,n,hh⟩:=hvrv _ hi;exact (g8 _ ep n hh).2 z hz rfl
  have hS0:Z.map Rf.m=(rows0 cols l.length l).map fun r=>(r,false):=g6
  rw [← hS0] at hE
  have hs0:∀ z∈Z,small z.r=true:=fun z hz=>by
   have:z.m∈(rows0 cols l.length l).map (fun r=>(r,false)):=by rw [← g6];exact List.mem_map_of_mem hz
   obtain ⟨r,hr,he⟩:=List.mem_map.1 this
   unfold rows0 at hr
   obtain ⟨i,hi⟩:=List.getElem?_of_mem hr
   rw [List.getElem?_mapIdx] at hi
   cases hx:l[i]? with
   | none=>rw [hx] at hi;cases hi
   | some x=>
    rw [hx] at hi
    have e1:z.r=r:=(congrArg Prod.fst he).symm
    have e2:row0 cols l.length i x=r:=by simpa using hi
    rw [e1,← e2,row0,small_app,Bool.and_eq_true]
    refine ⟨?_,?_⟩
    ·rw [small,List.all_map,List.all_eq_true];exact fun t _=>hv x (List.mem_of_getElem? hx) t
    ·rw [small,List.all_eq_true]
     intro y hy
     rcases List.mem_or_eq_of_mem_set hy with hy | rfl
     ·rw [List.eq_of_mem_replicate hy];rfl
     ·rfl
  (repeat' (first | (refine Rn.go ?_;conv=>whnf) | refine .mk ?_ | refine .tt ?_ | refine .ff ?_ | refine .m2 ?_ | refine .m3 ?_ | refine .mk (fun hc=>?_) fun hc=>?_ | refine .lp fun v H lp=>?_ | fail))
  rw [hel]
  generalize h.length=iu at hTB ⊢
  clear g5 g6 g7 g8 g4 g3 g2 hS0 hvrv rlt
  refine LpX.zip T6 cols (fun A q L h=>∃ (Z:List Rf) (rv pv:PV) (P:List Int),L=[(1,.snap false (encs cols)),(4,.ptr H.length 0 0 0),(6,.ptr r6 0 0 0),(10,.mref iu 0 0 l.length),(11,.int .i64 A.length)]∧TB H h r6 iu w cols rv pv Z P∧Z.length=l.length∧P.length=A.length∧(∀ z∈Z,small z.r=true) ∧
   El cols.length A.length (Z.map Rf.m) P res) (.nx ⟨Z,rv,.snap true [],[],rfl,hTB,hZl,rfl,hs0,hE⟩) ?_ ?_
  ·rintro A t q _ h ρ e ⟨Z,rv,pv,P,rfl,TB1,hZl,hPl,hsm,hE⟩
   have hl3:=congrArg List.length e
   simp only [List.length_append,List.length_cons] at hl3
   obtain ⟨st,cr,hcol,lk1,lk2⟩:=hE.link (by omega)
   have ex:=TB1.ex
   have hww:A.length<w:=by omega
   have hrv1:=TB1.rl.er.oneC
   have hpv1:=TB1.ep.oneC
   have hpv2:=TB1.ep.visR
   have hop:=open_ev h rv iu 0 w A.length false (encs cols) pv Z TB1.rl hww (by omega) (by omega) hsm hpv2 hpv1.1 hrv1.1
   rw [hZl] at hop
   (repeat' (first | (refine Rn.go ?_;conv=>whnf) | refine .mk ?_ | refine .tt ?_ | refine .ff ?_ | refine .m2 ?_ | refine .m3 ?_ | refine .mk (fun hc=>?_) fun hc=>?_ | refine .lp fun v H lp=>?_ | fail))
   refine .fr hop (fun r h' hr hb=>?_) (fun vo h2 r1 r2 r3 r4=>?_)
   ·obtain ⟨O,a1,a2,a3⟩:=hr
    obtain ⟨rfl,h0⟩:=out_belowR a2 a3 hb
    exact ⟨O,a1,.inl ⟨rfl,h0⟩,by simp⟩
   obtain ⟨O,o1,o2,o3⟩:=r4
   have TB2:=TB1.grow r1 r3
   have hvo:∀ i∈vid vo,i∉iu::(vid rv++vid pv)∧r6<i:=fun i hi=>by
    have h1:=o2.vge o3 i hi
    have h2:=lt_of_some TB1.ex
    exact ⟨fun hh=>by have:=TB1.lt i hh;omega,by omega⟩
   (repeat' (first | (refine Rn.go ?_;conv=>whnf) | refine .mk ?_ | refine .tt ?_ | refine .ff ?_ | refine .m2 ?_ | refine .m3 ?_ | refine .mk (fun hc=>?_) fun hc=>?_ | refine .lp fun v H lp=>?_ | fail))
   refine LpX.nat T6 (fun m L h=>∃ (Z:List Rf) (vo:PV) (O:List Nat),L=[(1,.snap false (encs cols)),(4,.ptr H.length 0 0 0),(6,.ptr r6 0 0 0),(10,.mref iu 0 0 l.length),(11,.int .i64 A.length),(12,vo)]∧TB H h r6 iu w cols rv pv Z P∧Z.length=l.length∧(∀ z∈Z,small z.r=true)∧Opn A.length (Z.map Rf.m) O∧Out 1 h vo (encNs O)∧(∀ i∈vid vo,i∉iu::(vid rv++vid pv)∧r6<i)∧Col A.length m (Z.map Rf.m) cr) st (.nx ⟨Z,vo,O,rfl,TB2,hZl,hsm,o1,o2,hvo,hcol⟩) ?_
   clear TB1 TB2 hsm hcol hvo o1 o2 o3 r1 r2 r3 hop ex hpv2 hZl
   rintro m _ h3 ρ ⟨Z3,vo3,O3,rfl,TB3,hZ3,hs3,p1,p2,p3,hcol3⟩
   have hO3:O3.length=cnt A.length (Z3.map Rf.m):=by rw [p1.1.length_eq,CIx_len]
   have hon:(encNs O3).length=O3.length:=by simp
   have hr3:=TB3.rl.hr
   have ex3:=TB3.ex
   have k6:=lt_of_some ex3
   have hep3:=TB3.ep
   have hPe:(encIs P).length+1<1000000000:=by simp;omega
   by_cases h1:1<O3.length
   ·rcases p1.2 with rfl | ⟨bi,M,b,rfl,hb⟩
    ·simp at h1
    have hc2:2≤cnt A.length (Z3.map Rf.m):=by omega
    obtain ⟨B,hB,hBm⟩:∃ B,Z3[bi]?=some B∧B.m=(b,false):=by
     have:=hb.at_
     rw [List.getElem?_map] at this
     cases hB:Z3[bi]? with
     | none=>rw [hB] at this;cases this
     | some B=>rw [hB] at this;exact ⟨B,rfl,by simpa using this⟩
    have hbl:=lt_of_some hB
    have hbb:b=B.r:=congrArg Prod.fst hBm.symm
    rcases p2 with ⟨_,h0⟩ | ⟨io,eo,rfl,e9⟩
    ·have:=congrArg List.length h0;simp at this
    obtain ⟨rr,re,rfl,er⟩:∃ rr re,rv=.mref rr re 0 Z3.length∧h3[rr]?=some ⟨.m,re,1,Z3.map Rf.v⟩:=by
     rcases TB3.rl.er with ⟨_,h0⟩ | ⟨rr,re,g1,g2⟩
     ·have:=congrArg List.length h0;simp at this;rw [this] at hbl;simp at hbl
     ·exact ⟨rr,re,by rw [g1];simp,g2⟩
    have hzl:(Z3.map Rf.v).length=l.length:=by simp [hZ3]
    have hat0:(encNs (bi::M))[0+0]?=some (.int .i64 (bi:Int)):=rfl
    have hatB:(Z3.map Rf.v)[0+bi]?=some (.mref B.i B.e 0 B.r.length):=by rw [Nat.zero_add,List.getElem?_map,hB];rfl
    have hpo:=p3 io (by simp [vid])
    have hBin:=List.mem_of_getElem? hB
    obtain ⟨eB,lB⟩:=TB3.rl.at_ B hBin
    have hperm:=p1.1
    have hnd:(bi::M).Nodup:=hperm.nodup_iff.2 (CIx_nodup _ _)
    have hmemM:∀ i,i∈bi::M↔∃ R,(Z3.map Rf.m)[i]?=some R∧cand A.length R=true:=fun i=>(hperm.mem_iff).trans CIx_mem
    have hsB:=hs3 B hBin
    have hBz:atR B.r A.length≠0:=by rw [← hbb];exact hb.nz
    rw [hZ3] at TB3 hpo ⊢
    (repeat' (first | (refine Rn.go ?_;conv=>whnf) | refine .mk ?_ | refine .tt ?_ | refine .ff ?_ | refine .m2 ?_ | refine .m3 ?_ | refine .mk (fun hc=>?_) fun hc=>?_ | refine .lp fun v H lp=>?_ | fail))
    refine LpX.zip T6 M (fun M1 M2 L k=>∃ Z2:List Rf,L=[(1,.snap false (encs cols)),(4,.ptr H.length 0 0 0),(6,.ptr r6 0 0 0),(10,.mref iu 0 0 l.length),(11,.int .i64 A.length),(12,.mref io eo 0 (encNs (bi::M)).length),(13,.mref B.i B.e 0 B.r.length),(14,.int .i64 ((M1.length+1:Nat):Int))]∧TB H k r6 iu w cols (.mref rr re 0 l.length) pv Z2 P∧Z2.length=l.length∧k[io]?=some ⟨.m,eo,1,encNs (bi::M)⟩∧k[B.i]?=some ⟨.m,B.e,1,encIs B.r⟩ ∧
     (∀ z∈Z2,small z.r=true)∧Z2.map Rf.m=(Z3.map Rf.m).mapIdx fun i R=>if i∈M1 then redR A.length b R else R) (.nx ⟨Z3,rfl,TB3,hZ3,e9,eB,hs3,by apply List.ext_getElem?;intro i;rw [List.getElem?_mapIdx];cases (Z3.map Rf.m)[i]? <;> simp⟩) ?_ ?_
    ·rintro M1 i0 M2 _ k ρ e2 ⟨Z2,rfl,TBk,hZ2,ko,kB,hs2,hmap⟩
     have hl5:=congrArg List.length e2
     simp only [List.length_append,List.length_cons] at hl5
     have hi0M:i0∈M:=by rw [e2];simp
     have hi01:i0∉M1:=fun hh=>by
      rw [List.nodup_cons,e2,List.nodup_append] at hnd
      exact hnd.2.2.2 i0 hh i0 (by simp) rfl
     have hi0b:i0≠bi:=fun hh=>(List.nodup_cons.1 hnd).1 (hh ▸ hi0M)
     obtain ⟨R0,hR0,hcR0⟩:=(hmemM i0).1 (List.mem_cons_of_mem _ hi0M)
     obtain ⟨z,hz,hzm⟩:∃ z,Z2[i0]?=some z∧z.m=R0:=by
      have h7:(Z2.map Rf.m)[i0]?=some R0:=by rw [hmap,List.getElem?_mapIdx,hR0];simp [hi01]
      rw [List.getElem?_map] at h7
      cases hz:Z2[i0]? with
      | none=>rw [hz] at h7;cases h7
      | some z=>rw [hz] at h7;exact ⟨z,rfl,by simpa using h7⟩
     have hzin:=List.mem_of_getElem? hz
     obtain ⟨ez,lz⟩:=TBk.rl.at_ z hzin
     have hzu:z.u=false:=by rw [← hzm] at hcR0;simp [cand,Rf.m] at hcR0;exact hcR0.1
     have hzv:atR z.r A.length≠0:=by rw [← hzm] at hcR0;simp only [cand,Rf.m,Bool.and_eq_true] at hcR0;exact of_decide_eq_true hcR0.2
     have hzs:=hs2 z hzin
     have xk:=TBk.ex
     have rk:=TBk.rl.hr
     obtain ⟨_,rowk⟩:True∧k[rr]?=some ⟨.m,re,1,Z2.map Rf.v⟩:=by
      refine ⟨trivial,?_⟩
      rcases TBk.rl.er with ⟨h0,_⟩ | ⟨_,_,g1,g2⟩
      ·cases h0
      ·simp only [PV.mref.injEq] at g1
       obtain ⟨rfl,rfl,_,_⟩:=g1
       exact g2
     have hzl2:(Z2.map Rf.v).length=l.length:=by simp [hZ2]
     have hi0l:=lt_of_some hz
     have hMl:M.length+1≤l.length:=by
      have h8:(bi::M).length≤(Z3.map Rf.m).length:=by rw [hO3];exact List.length_filter_le _ _
      simp only [List.length_cons,List.length_map] at h8;omega
     have hatO:(encNs (bi::M))[0+(M1.length+1)]?=some (.int .i64 (i0:Int)):=by rw [Nat.zero_add,e2];simp [encNs]
     have hlO:(encNs (bi::M)).length=M.length+1:=by simp
     have hatZ:(Z2.map Rf.v)[0+i0]?=some (.mref z.i z.e 0 z.r.length):=by rw [Nat.zero_add,List.getElem?_map,hz];rfl
     have hvz:=nthI (a:=z.r) (c:=A.length) (by omega)
     have hvB:=nthI (a:=B.r) (c:=A.length) (by omega)
     have hlz:(encIs z.r).length=z.r.length:=by simp
     have hlB:(encIs B.r).length=B.r.length:=by simp
     have hzb:=of_decide_eq_true (List.all_eq_true.1 hzs (atR z.r A.length) (List.mem_of_getElem? (i:=A.length) (by simp [atR,List.getD,List.getElem?_eq_getElem (show A.length<z.r.length by omega)])))
     have hqs:smallI ((atR z.r A.length).tdiv (atR B.r A.length))=true:=by
      have:((atR z.r A.length).tdiv (atR B.r A.length)).natAbs≤(atR z.r A.length).natAbs:=by rw [Int.natAbs_tdiv];exact Nat.div_le_self _ _
      unfold smallI;rw [decide_eq_true_eq];omega
     have hqb:=of_decide_eq_true hqs
     have hsub:=rsub_ev k rk z.i z.e B.i B.e z.r B.r ((atR z.r A.length).tdiv (atR B.r A.length)) ez kB (by omega) (by omega) hzs hsB hqs
     (repeat' (first | (refine Rn.go ?_;conv=>whnf) | refine .mk ?_ | refine .tt ?_ | refine .ff ?_ | refine .m2 ?_ | refine .m3 ?_ | refine .mk (fun hc=>?_) fun hc=>?_ | refine .lp fun v H lp=>?_ | fail))
     refine .fr hsub (fun r h' hr hb=>?_) (fun r k2 t1 t2 t3 t4=>?_)
     ·by_cases hsm:small (subL z.r B.r ((atR z.r A.length).tdiv (atR B.r A.length)))=true
      ·rw [if_pos hsm] at hr ⊢
       obtain ⟨v,rfl,o,f⟩:=hr
       obtain ⟨rfl,h0⟩:=out_below o f (by simp only [belowR,List.all_cons,Bool.and_eq_true] at hb;exact hb.1)
       exact ⟨_,rfl,.inl ⟨rfl,h0⟩,by simp⟩
      ·rw [if_neg hsm] at hr ⊢;exact hr
     have TBk2:=TBk.grow t1 t3
     have x2:=TBk2.ex
     have z2:=TBk2.z0
     have hstep0:(stepS A.length b bi (Z3.map Rf.m))[i0]?=some (subL z.r B.r ((atR z.r A.length).tdiv (atR B.r A.length)),false):=by
      rw [stepS_get,hR0]
      simp only [Option.map_some,if_neg hi0b,redR,if_pos hcR0]
      rw [← hzm,hbb];simp [Rf.m,hzu]
     by_cases hsm:small (subL z.r B.r ((atR z.r A.length).tdiv (atR B.r A.length)))=true
     ·rw [if_pos hsm] at t4
      obtain ⟨v,rfl,o,fv⟩:=t4
      rcases o with ⟨_,h0⟩ | ⟨iv,ev,rfl,e8⟩
      ·have h8:=congrArg List.length h0
       have h9:=subL_len (a:=z.r) (b:=B.r) (q:=(atR z.r A.length).tdiv (atR B.r A.length)) (by omega)
       simp only [encIs_len,List.length_nil] at h8;omega
      have hvk:=fv iv ev _ rfl
      have klt:=lt_of_some rowk
      have row2:k2[rr]?=some ⟨.m,re,1,Z2.map Rf.v⟩:=by rw [t3 rr klt];exact rowk
      have ko2:k2[io]?=some ⟨.m,eo,1,encNs (bi::M)⟩:=by rw [t3 io (lt_of_some ko)];exact ko
      have kB2:k2[B.i]?=some ⟨.m,B.e,1,encIs B.r⟩:=by rw [t3 B.i (lt_of_some kB)];exact kB
      have hnw:iv∉iu::(vid (.mref rr re 0 l.length)++vid pv)∧r6<iv:=⟨fun hh=>by have:=TBk.lt iv hh;omega,by have:=lt_of_some xk;omega⟩
      have hlS:(encIs (subL z.r B.r ((atR z.r A.length).tdiv (atR B.r A.length)))).length=(subL z.r B.r ((atR z.r A.length).tdiv (atR B.r A.length))).length:=by simp
      have hput:=TB.put (z:=⟨iv,ev,subL z.r B.r ((atR z.r A.length).tdiv (atR B.r A.length)),false⟩) (i:=i0) (by rw [hZ2];exact TBk2) e8 (by show (subL _ _ _).length=w;rw [subL_len (by omega)];exact lz) (by rw [hZ2];exact hnw) (fun y hy=>by rw [hz] at hy;cases hy;exact hzu.symm)
      rw [hZ2] at hput
      have hBrr:B.i≠rr:=fun hh=>(TB3.zi B hBin).1 (by simp [vid,hh])
      have horr:io≠rr:=fun hh=>hpo.1 (by simp [vid,hh])
      rw [hlS]
      (repeat' (first | (refine Rn.go ?_;conv=>whnf) | refine .mk ?_ | refine .tt ?_ | refine .ff ?_ | refine .m2 ?_ | refine .m3 ?_ | refine .mk (fun hc=>?_) fun hc=>?_ | refine .lp fun v H lp=>?_ | fail))
      refine .nx ⟨Z2.set i0 ⟨iv,ev,subL z.r B.r ((atR z.r A.length).tdiv (atR B.r A.length)),false⟩,rfl,by rw [Nat.zero_add];exact hput,by simp [hZ2],by rw [List.getElem?_set_ne (Ne.symm horr)];exact ko2,by rw [List.getElem?_set_ne (Ne.symm hBrr)];exact kB2,fun y hy=>?_,?_⟩
      ·rcases List.mem_or_eq_of_mem_set hy with hy | rfl
       ·exact hs2 y hy
       ·exact hsm
      ·apply List.ext_getElem?
       intro j
       rw [List.map_set,List.getElem?_set,List.getElem?_mapIdx]
       by_cases hj:i0=j
       ·subst hj
        rw [if_pos rfl,if_pos (by simpa using hi0l),hR0]
        simp only [Option.map_some,List.mem_append,List.mem_singleton,or_true,if_true,redR,if_pos hcR0]
        rw [← hzm,hbb];simp [Rf.m,hzu]
       ·rw [if_neg hj,hmap,List.getElem?_mapIdx]
        congr 1
        funext R
        have:(j∈M1++[i0])↔j∈M1:=by simp;exact fun hh=>absurd hh.symm hj
        simp [this]
     ·rw [if_neg hsm] at t4
      subst t4
      have hall:allS (stepS A.length b bi (Z3.map Rf.m))=false:=by
       rw [allS,List.all_eq_false]
       exact ⟨_,List.mem_of_getElem? hstep0,by simpa using hsm⟩
      have hcr:cr=none:=by
       cases hcol3 with
       | zero h=>omega
       | one _ h=>omega
       | large _ _ _=>rfl
       | step hb1 _ h2 _=>obtain ⟨rfl,rfl⟩:=hb.uniq hb1;rw [hall] at h2;cases h2
      have hres:=lk1 hcr
      subst hres
      have h6:=TB3.h6
      (repeat' (first | (refine Rn.go ?_;conv=>whnf) | refine .mk ?_ | refine .tt ?_ | refine .ff ?_ | refine .m2 ?_ | refine .m3 ?_ | refine .mk (fun hc=>?_) fun hc=>?_ | refine .lp fun v H lp=>?_ | fail))
      refine .mk ?_ (resC_cell T6 rfl (List.getElem?_set_self (lt_of_some z2)) rfl rfl rfl rfl)
      refine Rn.go ?_
      exact ⟨t1.set _ (by simp) rfl,by have:=lt_of_some z2;simp;omega,fun j hj=>by rw [List.getElem?_set_ne (by omega)];exact TBk2.fr j hj,rfl⟩
    ·rintro _ k ρ ⟨Z2,rfl,TBk,hZ2,ko,kB,hs2,hmap⟩
     have hst:Z2.map Rf.m=stepS A.length b bi (Z3.map Rf.m):=by
      rw [hmap]
      apply List.ext_getElem?
      intro j
      rw [stepS_get,List.getElem?_mapIdx]
      cases hj:(Z3.map Rf.m)[j]? with
      | none=>rfl
      | some R=>
       simp only [Option.map_some]
       congr 1
       by_cases hjb:j=bi
       ·rw [if_pos hjb,if_neg (by rw [hjb];exact (List.nodup_cons.1 hnd).1)]
       ·rw [if_neg hjb]
        by_cases hjM:j∈M
        ·rw [if_pos hjM]
        ·rw [if_neg hjM,redR,if_neg]
         intro hc
         rcases List.mem_cons.1 ((hmemM j).2 ⟨R,hj,hc⟩) with h | h
         ·exact hjb h
         ·exact hjM h
     have hall:allS (stepS A.length b bi (Z3.map Rf.m))=true:=by
      rw [← hst,allS,List.all_map,List.all_eq_true]
      exact fun z hz=>hs2 z hz
     have xk:=TBk.ex
     have hlO:(encNs (bi::M)).length=M.length+1:=by simp
     have hop:=open_ev k (.mref rr re 0 l.length) iu 0 w A.length false (encs cols) pv Z2 TBk.rl hww (by omega) (by omega) hs2 TBk.ep.visR TBk.ep.oneC.1 rfl
     rw [hZ2] at hop
     (repeat' (first | (refine Rn.go ?_;conv=>whnf) | refine .mk ?_ | refine .tt ?_ | refine .ff ?_ | refine .m2 ?_ | refine .m3 ?_ | refine .mk (fun hc=>?_) fun hc=>?_ | refine .lp fun v H lp=>?_ | fail))
     refine .fr hop (fun r h' hr hb=>?_) (fun vo h2 r1 r2 r3 r4=>?_)
     ·obtain ⟨O,a1,a2,a3⟩:=hr
      obtain ⟨rfl,h0⟩:=out_belowR a2 a3 hb
      exact ⟨O,a1,.inl ⟨rfl,h0⟩,by simp⟩
     obtain ⟨O,o1,o2,o3⟩:=r4
     have TBn:=TBk.grow r1 r3
     have hvo:∀ i∈vid vo,i∉iu::(vid (.mref rr re 0 l.length)++vid pv)∧r6<i:=fun i hi=>by
      have h1:=o2.vge o3 i hi
      have h2:=lt_of_some TBk.ex
      exact ⟨fun hh=>by have:=TBk.lt i hh;omega,by omega⟩
     (repeat' (first | (refine Rn.go ?_;conv=>whnf) | refine .mk ?_ | refine .tt ?_ | refine .ff ?_ | refine .m2 ?_ | refine .m3 ?_ | refine .mk (fun hc=>?_) fun hc=>?_ | refine .lp fun v H lp=>?_ | fail))
     cases hcol3 with
     | zero h=>omega
     | one _ h=>omega
     | large hb1 _ h2=>obtain ⟨rfl,rfl⟩:=hb.uniq hb1;rw [hall] at h2;cases h2
     | step hb1 _ h2 hn2=>
      obtain ⟨rfl,rfl⟩:=hb.uniq hb1
      exact .nx ⟨_,Nat.lt_succ_self _,Z2,vo,O,rfl,TBn,hZ2,hs2,o1,o2,hvo,by rw [hst];exact hn2⟩
   ·have piv:∀ pv' h4,LR h3 pv 1 (encIs P++[.int .i64 (-1)]) pv' h4→h4[r6]?=some ⟨.m,0,3,[.agg [.snap false (encs cols),rv,pv]]⟩∧Out 1 (h4.set r6 ⟨.m,0,3,[.agg [.snap false (encs cols),rv,pv']]⟩) vo3 (encNs O3):=fun pv' h4 lr=>by
     have h6pv:r6∉vid pv:=fun hh=>by have:=TB3.gt r6 (by simp [hh]);omega
     refine ⟨by rw [lr.fr r6 k6 (fun ep n hh=>h6pv (by rw [hh];simp [vid]))];exact ex3,p2.of_eq fun i hi=>?_⟩
     have a1:=p3 i hi
     rw [List.getElem?_set_ne (by omega),lr.fr i (p2.vlt i hi) (fun ep n hh=>a1.1 (by rw [hh];simp [vid]))]
    rcases p1.2 with rfl | ⟨bi,M,b,rfl,hb⟩
    ·(repeat' (first | (refine Rn.go ?_;conv=>whnf) | refine .mk ?_ | refine .tt ?_ | refine .ff ?_ | refine .m2 ?_ | refine .m3 ?_ | refine .mk (fun hc=>?_) fun hc=>?_ | refine .lp fun v H lp=>?_ | fail))
     refine .lr (fun pv' h4 lr=>?_) hep3
     have TB4:=TB3.piv lr
     obtain ⟨f6,p2'⟩:=piv pv' h4 lr
     rcases lr.out with ⟨_,h0⟩ | ⟨ip,pe,rfl,e9⟩
     ·have:=congrArg List.length h0;simp at this
     clear lr
     have hc0:cnt A.length (Z3.map Rf.m)=0:=hO3.symm
     (repeat' (first | (refine Rn.go ?_;conv=>whnf) | refine .mk ?_ | refine .tt ?_ | refine .ff ?_ | refine .m2 ?_ | refine .m3 ?_ | refine .mk (fun hc=>?_) fun hc=>?_ | refine .lp fun v H lp=>?_ | fail))
     cases hcol3 with
     | zero hz=>exact .nx ⟨Z3,rv,.mref ip pe 0 (encIs P++[PV.int .i64 (-1)]).length,P++[-1],rfl,TB4,hZ3,by simp [hPl],hs3,by rw [List.length_append];exact lk2 _ _ rfl⟩
     | one _ h=>omega
     | large _ h _=>omega
     | step _ h _ _=>omega
    ·obtain rfl:M=[]:=List.eq_nil_of_length_eq_zero (by simp only [List.length_cons] at h1;omega)
     have hc1:cnt A.length (Z3.map Rf.m)=1:=hO3.symm
     obtain ⟨B,hB,hBm⟩:∃ B,Z3[bi]?=some B∧B.m=(b,false):=by
      have:=hb.at_
      rw [List.getElem?_map] at this
      cases hB:Z3[bi]? with
      | none=>rw [hB] at this;cases this
      | some B=>rw [hB] at this;exact ⟨B,rfl,by simpa using this⟩
     have hbl:=lt_of_some hB
     have hbb:b=B.r:=congrArg Prod.fst hBm.symm
     have hbu:B.u=false:=congrArg Prod.snd hBm
     (repeat' (first | (refine Rn.go ?_;conv=>whnf) | refine .mk ?_ | refine .tt ?_ | refine .ff ?_ | refine .m2 ?_ | refine .m3 ?_ | refine .mk (fun hc=>?_) fun hc=>?_ | refine .lp fun v H lp=>?_ | fail))
     refine .lr (fun pv' h4 lr=>?_) hep3
     have TB4:=TB3.piv lr
     obtain ⟨f6,p2'⟩:=piv pv' h4 lr
     rcases lr.out with ⟨_,h0⟩ | ⟨ip,pe,rfl,e9⟩
     ·have:=congrArg List.length h0;simp at this
     have l6:=lr.len
     have hoip:∀ i∈vid vo3,i≠ip:=fun i hi=>by
      rintro rfl
      rcases lr.vid i (by simp [vid]) with h | h
      ·exact (p3 i hi).1 (by simp [h])
      ·have:=p2.vlt i hi;omega
     clear lr
     rcases p2' with ⟨_,h0⟩ | ⟨io,eo,rfl,p2'⟩
     ·have:=congrArg List.length h0;simp at this
     obtain ⟨h5,hh5⟩:∃ h5,h5=h4.set r6 ⟨.m,0,3,[.agg [.snap false (encs cols),rv,.mref ip pe 0 (encIs P++[PV.int .i64 (-1)]).length]]⟩:=⟨_,rfl⟩
     have hlen5:(encIs P++[PV.int .i64 (-1)]).length=(P++[-1]).length:=by simp
     have hel5:encIs P++[PV.int .i64 (-1)]=encIs (P++[-1]):=by simp [encIs]
     rw [← hh5] at TB4 p2'
     have x5:=TB4.ex
     have r5:=TB4.rl.hr
     have u5:=TB4.rl.eu
     have e5:h5[ip]?=some ⟨.m,pe,1,encIs (P++[-1])⟩:=by
      rcases TB4.ep with ⟨h0,_⟩ | ⟨_,_,w1,w2⟩
      ·cases h0
      ·simp only [PV.mref.injEq] at w1
       obtain ⟨rfl,rfl,_,_⟩:=w1
       exact w2
     have hatP:(encIs (P++[-1]))[0+A.length]?=some (.int .i64 (-1)):=by rw [← hPl];simp [encIs]
     have hatO:(encNs [bi])[0+0]?=some (.int .i64 (bi:Int)):=rfl
     have hsetP:(encIs (P++[-1])).set (0+A.length) (.int .i64 (bi:Int))=encIs (P++[(bi:Int)]):=by
      rw [← hPl,Nat.zero_add,encIs,List.map_append,List.set_append_right _ _ (by simp)];simp [encIs]
     have hiu2:io∉iu::(vid rv++vid pv)∧r6<io:=p3 io (by simp [vid])
     have hl5:(encIs P++[PV.int .i64 (-1)]).length=A.length+1:=by simp;omega
     have hl6:(encIs (P++[-1])).length=A.length+1:=by simp;omega
     have k5:=lt_of_some e5
     have TB5:=TB4.pset (P':=P++[(bi:Int)]) (by rw [hlen5];simp) k5
     have x6:=TB5.ex
     have u6:=TB5.rl.eu
     have o6:(h5.set ip ⟨.m,pe,1,encIs (P++[(bi:Int)])⟩)[io]?=some ⟨.m,eo,1,encNs [bi]⟩:=by
      rw [List.getElem?_set_ne (fun hh=>hoip io (by simp [vid]) hh.symm)];exact p2'
     have hatU:(Z3.map Rf.b)[0+bi]?=some (.bool false):=by rw [Nat.zero_add,List.getElem?_map,hB];simp [Rf.b,hbu]
     have hul:(Z3.map Rf.b).length=l.length:=by simp [hZ3]
     have TB6:=TB5.use hB
     (repeat' (first | (refine Rn.go ?_;conv=>whnf) | refine .mk ?_ | refine .tt ?_ | refine .ff ?_ | refine .m2 ?_ | refine .m3 ?_ | refine .mk (fun hc=>?_) fun hc=>?_ | refine .lp fun v H lp=>?_ | fail))
     rw [← hh5]
     (repeat' (first | (refine Rn.go ?_;conv=>whnf) | refine .mk ?_ | refine .tt ?_ | refine .ff ?_ | refine .m2 ?_ | refine .m3 ?_ | refine .mk (fun hc=>?_) fun hc=>?_ | refine .lp fun v H lp=>?_ | fail))
     rw [hsetP]
     (repeat' (first | (refine Rn.go ?_;conv=>whnf) | refine .mk ?_ | refine .tt ?_ | refine .ff ?_ | refine .m2 ?_ | refine .m3 ?_ | refine .mk (fun hc=>?_) fun hc=>?_ | refine .lp fun v H lp=>?_ | fail))
     have hfin:(Z3.set bi {B with u:=true }).map Rf.m=(Z3.map Rf.m).set bi (b,true):=by rw [List.map_set,hbb];rfl
     have hsm':∀ z∈Z3.set bi {B with u:=true },small z.r=true:=fun z hz=>by
      rcases List.mem_or_eq_of_mem_set hz with hz | rfl
      ·exact hs3 z hz
      ·exact hs3 B (List.mem_of_getElem? hB)
     cases hcol3 with
     | zero hz=>omega
     | one hb1 _=>
      obtain ⟨rfl,rfl⟩:=hb.uniq hb1
      exact .nx ⟨Z3.set bi {B with u:=true },rv,.mref ip pe 0 (encIs P++[PV.int .i64 (-1)]).length,P++[(bi:Int)],rfl,by rw [Nat.zero_add];exact TB6,by simp [hZ3],by simp [hPl],hsm',by rw [List.length_append,hfin];exact lk2 _ _ rfl⟩
     | large _ h _=>omega
     | step _ h _ _=>omega
  ·rintro _ h ρ ⟨Z,rv,pv,P,rfl,TB1,hZl,hPl,hsm,hE⟩
   have ex:=TB1.ex
   have hz0:=TB1.z0
   cases hE with
   | large hlt _=>omega
   | next hlt _ _=>omega
   | done=>
    have hrv1:=TB1.rl.er.oneC
    have hpv1:=TB1.ep.oneC
    have hcx:(cells (PV.agg [.snap false (encs cols),rv,pv])).all oneC=true:=by
     show (true && (oneC rv && (oneC pv && true)))=true
     rw [hrv1.1,hpv1.1];rfl
    (repeat' (first | (refine Rn.go ?_;conv=>whnf) | refine .mk ?_ | refine .tt ?_ | refine .ff ?_ | refine .m2 ?_ | refine .m3 ?_ | refine .mk (fun hc=>?_) fun hc=>?_ | refine .lp fun v H lp=>?_ | fail))
    rw [hcx]
    conv=>whnf
    (repeat' (first | (refine Rn.go ?_;conv=>whnf) | refine .mk ?_ | refine .tt ?_ | refine .ff ?_ | refine .m2 ?_ | refine .m3 ?_ | refine .mk (fun hc=>?_) fun hc=>?_ | refine .lp fun v H lp=>?_ | fail))
    refine .mk ?_ (resC_cell T6 rfl (List.getElem?_set_self (lt_of_some hz0)) rfl rfl rfl rfl)
    refine Rn.go ?_
    have h6:=TB1.h6
    have far:∀ i,r6<i→(h.set H.length ⟨.m,0,3,[.agg [.snap false (encs cols),rv,pv]]⟩)[i]?=h[i]?:=fun i hi=>List.getElem?_set_ne (by omega)
    refine ⟨TB1.rl.hr.set _ (by simp) ?_,by have:=lt_of_some hz0;simp;omega,fun j hj=>by rw [List.getElem?_set_ne (by omega)];exact TB1.fr j hj,rv,pv,Z,rfl,TB1.rl.er.of_eq fun i hi=>far i (TB1.gt i (by simp [hi])),fun z hz=>⟨by rw [far z.i (TB1.zi z hz).2];exact (TB1.rl.at_ z hz).1,by rw [(TB1.rl.at_ z hz).2,hw],hsm z hz⟩,rfl,hZl,TB1.ep.of_eq fun i hi=>far i (TB1.gt i (by simp [hi])),hPl,fun i hi=>by have:=TB1.gt i (List.mem_cons_of_mem _ hi);omega⟩
    simp only [visRs,visR,Bool.true_and,Bool.and_true,Bool.and_eq_true]
    exact ⟨TB1.rl.er.visR,TB1.ep.visR⟩
end Go.Pm
end
section
set_option maxRecDepth 4000
namespace Go.Pm
open Go.Proofs
attribute [local irreducible] thenQ blockQ loopQ bodyQ Ev EvOps CallEv FnEv EvD
theorem rred_ev (H:AHeap) (hR:HR H) (cols:List Tm) (rv pv:PV) (Z:List Rf) (P:List Int) (m:List Pw) (er:Out 1 H rv (Z.map Rf.v)) (ez:∀ z∈Z,H[z.i]?=some ⟨.m,z.e,1,encIs z.r⟩∧z.r.length=cols.length+Z.length∧small z.r=true) (ep:Out 1 H pv (encIs P)) (hP:P.length=cols.length) (hpv:PvOk (Z.map Rf.m) P)
  (hn:cols.length<1000) (hk:Z.length<1000) (hb:∀ t∈cols,bulk t<1000000000) (hs:Sm m) (hv:∀ t,smallI (pwr m t)=true) :
  FnEv C 98 [.agg [.snap false (encs cols),rv,pv],.snap false (encPs m)] H (fun r h'=>HR h'∧H.length≤h'.length∧(∀ j,j<H.length→h'[j]?=H[j]?) ∧
   match redF (Z.map Rf.m) P 0 (cols.map (pwr m)++List.replicate Z.length 0) with
   | none=>r=.tup [.snap true [],.int .i64 0,.bool false]
   | some (t,c)=>∃ v,r=.tup [v,.int .i64 c,.bool true]∧Out 1 h' v (encIs t)∧(∀ j ep n,v=.mref j ep 0 n→H.length≤j)):=by
 have hec:=encs_len cols
 have hml:=encPs_len m
 have hrv:=er.oneC
 have hpv1:=ep.oneC
 have hx:(cells (PV.agg [.snap false (encs cols),rv,pv])).all oneC=true:=by
  show (true && (oneC rv && (oneC pv && true)))=true
  rw [hrv.1,hpv1.1];rfl
 have hR1:HR (H++[(⟨.m,0,3,[.agg [.snap false (encs cols),rv,pv]]⟩:AObj)]):=hR.app1 (by simp) (by
  simp only [visRs,visR,Bool.and_true,Bool.true_and,Bool.and_eq_true]
  exact ⟨visR_imp (f:=fun i=>decide (i<H.length)) (fun i hi=>by have:=of_decide_eq_true hi;exact decide_eq_true (by omega)) _ er.visR,visR_imp (f:=fun i=>decide (i<H.length)) (fun i hi=>by have:=of_decide_eq_true hi;exact decide_eq_true (by omega)) _ ep.visR⟩)
 obtain ⟨B0,hB0⟩:∃ B0:AObj,B0=⟨.m,0,3,[.agg [.snap false (encs cols),rv,pv]]⟩:=⟨_,rfl⟩
 have er1:Out 1 (H++[(⟨.m,0,3,[.agg [.snap false (encs cols),rv,pv]]⟩:AObj)]) rv (Z.map Rf.v):=er.app _
 have hzl:(Z.map Rf.v).length=Z.length:=by simp
 obtain ⟨w,hw⟩:∃ w,w=cols.length+Z.length:=⟨_,rfl⟩
 refine FnEv.x T6 Tryz.func98 rfl ?_
 (repeat' (first | (refine Rn.go ?_;conv=>whnf) | refine .mk ?_ | refine .tt ?_ | refine .ff ?_ | refine .m2 ?_ | refine .m3 ?_ | refine .mk (fun hc=>?_) fun hc=>?_ | refine .lp fun v H lp=>?_ | fail))
 rw [hx]
 conv=>whnf
 (repeat' (first | (refine Rn.go ?_;conv=>whnf) | refine .mk ?_ | refine .tt ?_ | refine .ff ?_ | refine .m2 ?_ | refine .m3 ?_ | refine .mk (fun hc=>?_) fun hc=>?_ | refine .lp fun v H lp=>?_ | fail))
 rw [hzl,hec,← hw]
 have hHR2:HR (H++[(⟨.m,0,3,[.agg [.snap false (encs cols),rv,pv]]⟩:AObj)]++[(⟨.m,0,0+1,List.replicate w (.int .i64 0)⟩:AObj)]):=hR1.app1 (by simp) (vis_vals _ _ (by rw [isVals_eq,List.all_eq_true];intro y hy;rw [List.eq_of_mem_replicate hy];rfl))
 have hl1:(H++[(⟨.m,0,3,[.agg [.snap false (encs cols),rv,pv]]⟩:AObj)]).length=H.length+1:=by simp
 rw [hl1]
 refine LpX.zip T6 cols (fun A B L k=>L=[(1,.snap false (encPs m)),(2,.ptr H.length 0 0 0),(7,.int .i64 cols.length),(8,.mref (H.length+1) 0 0 w),(9,.int .i64 A.length)]∧HR k∧k.length=H.length+2∧(∀ j,j<H.length→k[j]?=H[j]?)∧k[H.length]?=some ⟨.m,0,3,[.agg [.snap false (encs cols),rv,pv]]⟩ ∧
   k[H.length+1]?=some ⟨.m,0,1,encIs (A.map (pwr m)++List.replicate (B.length+Z.length) 0)⟩) (.nx ⟨rfl,hHR2,by simp,fun j hj=>by rw [List.getElem?_append_left (by simp;omega),List.getElem?_append_left hj],by rw [List.getElem?_append_left (by simp)];simp,by rw [← hl1,List.getElem?_append_right (Nat.le_refl _),hw];simp [encIs]⟩) ?_ ?_
 ·rintro A t B _ k ρ e2 ⟨rfl,hk2,k1,k2,kb,k3⟩
  have hl4:=congrArg List.length e2
  simp only [List.length_append,List.length_cons] at hl4
  have hat2:=at_encs e2
  have hpw:=rpower_fun m t hs (hb t (by rw [e2];simp))
  rw [enc_x] at hpw
  have hrl:(encIs (A.map (pwr m)++List.replicate ((t::B).length+Z.length) 0)).length=w:=by simp;omega
  have hat3:(encIs (A.map (pwr m)++List.replicate ((t::B).length+Z.length) 0))[0+A.length]?=some (.int .i64 0):=by
   rw [show (t::B).length+Z.length=(B.length+Z.length)+1 by simp;omega,List.replicate_succ];simp [encIs]
  have hset:(encIs (A.map (pwr m)++List.replicate ((t::B).length+Z.length) 0)).set (0+A.length) (.int .i64 (pwr m t))=encIs ((A++[t]).map (pwr m)++List.replicate (B.length+Z.length) 0):=by
   rw [show (t::B).length+Z.length=(B.length+Z.length)+1 by simp;omega,List.replicate_succ,Nat.zero_add,encIs,List.map_append,List.set_append_right _ _ (by simp)]
   simp [encIs]
  (repeat' (first | (refine Rn.go ?_;conv=>whnf) | refine .mk ?_ | refine .tt ?_ | refine .ff ?_ | refine .m2 ?_ | refine .m3 ?_ | refine .mk (fun hc=>?_) fun hc=>?_ | refine .lp fun v H lp=>?_ | fail))
  refine .p hpw ?_
  (repeat' (first | (refine Rn.go ?_;conv=>whnf) | refine .mk ?_ | refine .tt ?_ | refine .ff ?_ | refine .m2 ?_ | refine .m3 ?_ | refine .mk (fun hc=>?_) fun hc=>?_ | refine .lp fun v H lp=>?_ | fail))
  rw [hset]
  exact .nx ⟨rfl,hk2.set _ (by simp) (vis_vals _ _ (by simp)),by simp [k1],fun j hj=>by rw [List.getElem?_set_ne (by omega)];exact k2 j hj,by rw [List.getElem?_set_ne (by omega)];exact kb,by rw [List.getElem?_set_self (by omega)]⟩
 ·rintro _ k ρ ⟨rfl,hk2,k1,k2,kb,k3⟩
  (repeat' (first | (refine Rn.go ?_;conv=>whnf) | refine .mk ?_ | refine .tt ?_ | refine .ff ?_ | refine .m2 ?_ | refine .m3 ?_ | refine .mk (fun hc=>?_) fun hc=>?_ | refine .lp fun v H lp=>?_ | fail))
  rw [← hP]
  refine LpX.zip T6 P (fun p q L h=>∃ (iv ev:Nat) (U:List Int),L=[(2,.ptr H.length 0 0 0),(7,.int .i64 P.length),(8,.mref iv ev 0 w),(10,.int .i64 p.length)]∧HR h∧(∀ j,j<H.length→h[j]?=H[j]?)∧h[H.length]?=some ⟨.m,0,3,[.agg [.snap false (encs cols),rv,pv]]⟩∧H.length<iv∧h[iv]?=some ⟨.m,ev,1,encIs U⟩∧U.length=w∧small U=true ∧
   redF (Z.map Rf.m) P 0 (cols.map (pwr m)++List.replicate Z.length 0)=redF (Z.map Rf.m) q p.length U) (.nx ⟨H.length+1,0,cols.map (pwr m)++List.replicate (([]:List Tm).length+Z.length) 0,rfl,hk2,k2,kb,by omega,k3,by simp;omega,?_,by simp⟩) ?_ ?_
  ·rw [small_app,Bool.and_eq_true]
   refine ⟨?_,?_⟩
   ·rw [small,List.all_map,List.all_eq_true];exact fun t _=>hv t
   ·rw [small,List.all_eq_true]
    intro y hy
    rw [List.eq_of_mem_replicate hy];rfl
  ·rintro p i q _ h ρ e ⟨iv,ev,U,rfl,hh,f,fb,hiv,eU,lU,sU,hred⟩
   have hl2:=congrArg List.length e
   simp only [List.length_append,List.length_cons] at hl2
   have hpw:p.length<U.length:=by omega
   have hav:=nthI (a:=U) (c:=p.length) hpw
   have hea:(encIs U).length=U.length:=by simp
   have kb2:=lt_of_some fb
   have er2:Out 1 h rv (Z.map Rf.v):=er.of_eq fun i hi=>f i (er.vlt i hi)
   obtain ⟨ip,pe,rfl,ep2⟩:∃ ip pe,pv=.mref ip pe 0 P.length∧h[ip]?=some ⟨.m,pe,1,encIs P⟩:=by
    rcases ep with ⟨_,h0⟩ | ⟨ip,pe,g1,g2⟩
    ·have:=congrArg List.length h0;rw [encIs_len,List.length_nil] at this;omega
    ·exact ⟨ip,pe,by rw [g1];simp,by rw [f ip (lt_of_some g2)];exact g2⟩
   have hPl:(encIs P).length=P.length:=by simp
   have hPat:(encIs P)[0+p.length]?=some (.int .i64 i):=by rw [e];simp [encIs]
   have hpi:=hpv p.length i (by rw [e];simp)
   rw [redF] at hred
   by_cases hz:atR U p.length=0
   ·rw [if_pos hz] at hred
    (repeat' (first | (refine Rn.go ?_;conv=>whnf) | refine .mk ?_ | refine .tt ?_ | refine .ff ?_ | refine .m2 ?_ | refine .m3 ?_ | refine .mk (fun hc=>?_) fun hc=>?_ | refine .lp fun v H lp=>?_ | fail))
    exact .nx ⟨iv,ev,U,rfl,hh,f,fb,hiv,eU,lU,sU,by rw [hred];simp⟩
   rw [if_neg hz] at hred
   by_cases hi:i<0
   ·rw [if_pos hi] at hred
    (repeat' (first | (refine Rn.go ?_;conv=>whnf) | refine .mk ?_ | refine .tt ?_ | refine .ff ?_ | refine .m2 ?_ | refine .m3 ?_ | refine .mk (fun hc=>?_) fun hc=>?_ | refine .lp fun v H lp=>?_ | fail))
    rw [hred]
    exact ⟨hh,by omega,f,_,rfl,.inr ⟨iv,ev,by simp [lU],eU⟩,fun j ep n hh=>by cases hh;omega⟩
   rw [if_neg hi] at hred
   obtain ⟨b,u,hbs,hbz⟩:=hpi.2 (by omega)
   obtain ⟨B,hB,hBm⟩:∃ B,Z[i.toNat]?=some B∧B.m=(b,u):=by
    rw [List.getElem?_map] at hbs
    cases hB:Z[i.toNat]? with
    | none=>rw [hB] at hbs;cases hbs
    | some B=>rw [hB] at hbs;exact ⟨B,rfl,by simpa using hbs⟩
   have hBin:=List.mem_of_getElem? hB
   have hBlt:=lt_of_some hB
   have hbeq:b=B.r:=congrArg Prod.fst hBm.symm
   subst hbeq
   obtain ⟨eB0,lB,sB⟩:=ez B hBin
   have eB:h[B.i]?=some ⟨.m,B.e,1,encIs B.r⟩:=by rw [f B.i (lt_of_some eB0)];exact eB0
   obtain ⟨rr,re,rfl,er3⟩:∃ rr re,rv=.mref rr re 0 Z.length∧h[rr]?=some ⟨.m,re,1,Z.map Rf.v⟩:=by
    rcases er2 with ⟨_,h0⟩ | ⟨rr,re,g1,g2⟩
    ·have:=congrArg List.length h0;simp at this;rw [this] at hBlt;simp at hBlt
    ·exact ⟨rr,re,by rw [g1,hzl],g2⟩
   have hatB:(Z.map Rf.v)[0+i.toNat]?=some (.mref B.i B.e 0 B.r.length):=by rw [Nat.zero_add,List.getElem?_map,hB];rfl
   have hpB:p.length<B.r.length:=by omega
   have hBv:=nthI (a:=B.r) (c:=p.length) hpB
   have hlB:(encIs B.r).length=B.r.length:=by simp
   rw [rowAt_of hbs] at hred
   have hvs:=of_decide_eq_true (List.all_eq_true.1 sU (atR U p.length) (List.mem_of_getElem? (i:=p.length) (by simp [atR,List.getD,List.getElem?_eq_getElem hpw])))
   by_cases hd:(atR U p.length).tmod (atR B.r p.length)=0
   rotate_left
   ·rw [if_pos hd] at hred
    (repeat' (first | (refine Rn.go ?_;conv=>whnf) | refine .mk ?_ | refine .tt ?_ | refine .ff ?_ | refine .m2 ?_ | refine .m3 ?_ | refine .mk (fun hc=>?_) fun hc=>?_ | refine .lp fun v H lp=>?_ | fail))
    rw [hred]
    exact ⟨hh,by omega,f,_,rfl,.inr ⟨iv,ev,by simp [lU],eU⟩,fun j ep n hh=>by cases hh;omega⟩
   rw [if_neg (by simpa using hd)] at hred
   have hqs:smallI ((atR U p.length).tdiv (atR B.r p.length))=true:=by
    have:((atR U p.length).tdiv (atR B.r p.length)).natAbs≤(atR U p.length).natAbs:=by rw [Int.natAbs_tdiv];exact Nat.div_le_self _ _
    unfold smallI;rw [decide_eq_true_eq];omega
   have hqb:=of_decide_eq_true hqs
   have hsub:=rsub_ev h hh iv ev B.i B.e U B.r ((atR U p.length).tdiv (atR B.r p.length)) eU eB (by omega) (by omega) sU sB hqs
   rw [lU] at hsub
   (repeat' (first | (refine Rn.go ?_;conv=>whnf) | refine .mk ?_ | refine .tt ?_ | refine .ff ?_ | refine .m2 ?_ | refine .m3 ?_ | refine .mk (fun hc=>?_) fun hc=>?_ | refine .lp fun v H lp=>?_ | fail))
   refine .fr hsub (fun r h' hr hb=>?_) (fun r k2 t1 t2 t3 t4=>?_)
   ·by_cases hsm:small (subL U B.r ((atR U p.length).tdiv (atR B.r p.length)))=true
    ·rw [if_pos hsm] at hr ⊢
     obtain ⟨v,rfl,o,f⟩:=hr
     obtain ⟨rfl,h0⟩:=out_below o f (by simp only [belowR,List.all_cons,Bool.and_eq_true] at hb;exact hb.1)
     exact ⟨_,rfl,.inl ⟨rfl,h0⟩,by simp⟩
    ·rw [if_neg hsm] at hr ⊢;exact hr
   by_cases hsm:small (subL U B.r ((atR U p.length).tdiv (atR B.r p.length)))=true
   ·rw [if_pos hsm] at t4 hred
    obtain ⟨v,rfl,o,fv⟩:=t4
    rcases o with ⟨_,h0⟩ | ⟨iv2,ev2,rfl,e8⟩
    ·have h8:=congrArg List.length h0
     have h9:=subL_len (a:=U) (b:=B.r) (q:=(atR U p.length).tdiv (atR B.r p.length)) (by omega)
     simp only [encIs_len,List.length_nil] at h8;omega
    have hvk:=fv iv2 ev2 _ rfl
    have hlS:(encIs (subL U B.r ((atR U p.length).tdiv (atR B.r p.length)))).length=w:=by rw [encIs_len,subL_len (by omega)];exact lU
    rw [hlS]
    (repeat' (first | (refine Rn.go ?_;conv=>whnf) | refine .mk ?_ | refine .tt ?_ | refine .ff ?_ | refine .m2 ?_ | refine .m3 ?_ | refine .mk (fun hc=>?_) fun hc=>?_ | refine .lp fun v H lp=>?_ | fail))
    exact .nx ⟨iv2,ev2,subL U B.r ((atR U p.length).tdiv (atR B.r p.length)),rfl,t1,fun j hj=>by rw [t3 j (by omega)];exact f j hj,by rw [t3 H.length kb2];exact fb,by omega,e8,by rw [← hlS,encIs_len],hsm,by rw [hred];simp⟩
   ·rw [if_neg hsm] at t4 hred
    subst t4
    (repeat' (first | (refine Rn.go ?_;conv=>whnf) | refine .mk ?_ | refine .tt ?_ | refine .ff ?_ | refine .m2 ?_ | refine .m3 ?_ | refine .mk (fun hc=>?_) fun hc=>?_ | refine .lp fun v H lp=>?_ | fail))
    rw [hred]
    exact ⟨t1,by omega,fun j hj=>by rw [t3 j (by omega)];exact f j hj,rfl⟩
  ·rintro _ h ρ ⟨iv,ev,U,rfl,hh,f,fb,hiv,eU,lU,sU,hred⟩
   rw [redF] at hred
   have kb2:=lt_of_some fb
   (repeat' (first | (refine Rn.go ?_;conv=>whnf) | refine .mk ?_ | refine .tt ?_ | refine .ff ?_ | refine .m2 ?_ | refine .m3 ?_ | refine .mk (fun hc=>?_) fun hc=>?_ | refine .lp fun v H lp=>?_ | fail))
   rw [hred]
   exact ⟨hh,by omega,f,_,rfl,.inr ⟨iv,ev,by simp [lU],eU⟩,fun j ep n hh=>by cases hh;omega⟩
end Go.Pm
end
section
namespace Go.Pm
theorem atR_sub {a b:List Int} {q:Int} {c:Nat} (h:a.length=b.length):atR (subL a b q) c=atR a c - q * atR b c:=by
 unfold atR subL
 simp only [List.getD,List.getElem?_zipWith]
 by_cases hc:c<a.length
 ·rw [List.getElem?_eq_getElem hc,List.getElem?_eq_getElem (by omega)];simp
 ·rw [List.getElem?_eq_none (by omega),List.getElem?_eq_none (by omega)];simp
def LinF (w:Nat) (f:List Int→Int):Prop:=∀ a b q,a.length=w→b.length=w→f (subL a b q)=f a - q * f b
structure EInv (w c:Nat) (S:List Row) (P:List Int):Prop where
 len:∀ R∈S,R.1.length=w
 pl:P.length=c
 pv:∀ (k:Nat) (i:Int),P[k]?=some i→-1≤i∧(0≤i→∃ b,S[i.toNat]?=some (b,true)∧atR b k≠0∧∀ j,j<k→atR b j=0)
 un:∀ b,(b,false)∈S→∀ k,k<c→atR b k=0
 us:∀ (j:Nat) (b:List Int),S[j]?=some (b,true)→∃ k:Nat,P[k]?=some (j:Int)
theorem EInv.ok {w c:Nat} {S:List Row} {P:List Int} (h:EInv w c S P):PvOk S P:=fun k i hi=>by
 obtain ⟨h1,h2⟩:=h.pv k i hi
 exact ⟨h1,fun h0=>by obtain ⟨b,e1,e2,_⟩:=h2 h0;exact ⟨b,true,e1,e2⟩⟩
theorem stepS_mem {c bi:Nat} {b:List Int} {S:List Row} {R:Row} (h:R∈stepS c b bi S):R∈S∨∃ a,(a,false)∈S∧R=(subL a b ((atR a c).tdiv (atR b c)),false):=by
 obtain ⟨i,hi⟩:=List.getElem?_of_mem h
 rw [stepS_get] at hi
 cases hS:S[i]? with
 | none=>rw [hS] at hi;cases hi
 | some Q=>
  rw [hS] at hi
  have hQ:=List.mem_of_getElem? hS
  simp only [Option.map_some,Option.some.injEq] at hi
  split at hi
  ·exact .inl (hi ▸ hQ)
  ·unfold redR at hi
   split at hi
   ·rename_i hc
    obtain ⟨a,u⟩:=Q
    have hu:u=false:=by simp [cand] at hc;exact hc.1
    subst hu
    exact .inr ⟨a,hQ,hi.symm⟩
   ·exact .inl (hi ▸ hQ)
theorem stepS_true {c bi j:Nat} {b a:List Int} {S:List Row}:(stepS c b bi S)[j]?=some (a,true)↔S[j]?=some (a,true):=by
 rw [stepS_get]
 cases hS:S[j]? with
 | none=>simp
 | some Q=>
  obtain ⟨x,u⟩:=Q
  simp only [Option.map_some,Option.some.injEq]
  split
  ·exact Iff.rfl
  ·cases u
   ·unfold redR;split <;> simp
   ·simp [redR,cand]
theorem EInv.step {w c:Nat} {S:List Row} {P:List Int} {bi:Nat} {b:List Int} (h:EInv w c S P) (hb:Best c S bi b):EInv w c (stepS c b bi S) P:=by
 have hbm:=List.mem_of_getElem? hb.at_
 have hbl:=h.len _ hbm
 refine ⟨fun R hR=>?_,h.pl,fun k i hi=>?_,fun a ha k hk=>?_,fun j a ha=>h.us j a (stepS_true.1 ha)⟩
 ·rcases stepS_mem hR with hR | ⟨a,ha,rfl⟩
  ·exact h.len R hR
  ·have:=h.len _ ha
   dsimp only at *
   rw [subL_len (by omega)];exact this
 ·obtain ⟨h1,h2⟩:=h.pv k i hi
  exact ⟨h1,fun h0=>by obtain ⟨x,e1,e2⟩:=h2 h0;exact ⟨x,stepS_true.2 e1,e2⟩⟩
 ·rcases stepS_mem ha with hR | ⟨x,hx,he⟩
  ·exact h.un a hR k hk
  ·have e:=congrArg Prod.fst he
   dsimp only at e
   have h1:=h.len _ hx
   dsimp only at h1 hbl
   rw [e,atR_sub (by omega),h.un x hx k hk,h.un b hbm k hk];simp
theorem EInv.col {w c st:Nat} {S:List Row} {P:List Int} {r:Option (List Row × Int)} (hc:Col c st S r):EInv w c S P→∀ S' i,r=some (S',i)→EInv w (c+1) S' (P++[i]):=by
 induction hc with
 | @zero S hz=>
  rintro h _ _ ⟨⟩
  have h0:=cnt_zero hz
  refine ⟨h.len,by simp [h.pl],fun k i hi=>?_,fun a ha k hk=>?_,fun j a ha=>?_⟩
  ·rcases Nat.lt_trichotomy k P.length with h1 | h1 | h1
   ·rw [List.getElem?_append_left h1] at hi;exact h.pv k i hi
   ·subst h1;simp at hi;subst hi;exact ⟨by omega,fun hh=>by omega⟩
   ·rw [List.getElem?_eq_none (by simp;omega)] at hi;cases hi
  ·by_cases hkc:k=c
   ·subst hkc
    have:=h0 _ ha
    simpa [cand] using this
   ·exact h.un a ha k (by omega)
  ·obtain ⟨k,hk⟩:=h.us j a ha
   exact ⟨k,by rw [List.getElem?_append_left (lt_of_some hk)];exact hk⟩
 | @one S bi b hb h1=>
  rintro h _ _ ⟨⟩
  have hbm:=List.mem_of_getElem? hb.at_
  have hlt:=lt_of_some hb.at_
  have only:∀ (j:Nat) (a:List Int),S[j]?=some (a,false)→atR a c≠0→j=bi:=fun j a ha hn=>by
   have hca:cand c (a,false)=true:=by simp [cand,hn]
   have h2:(CIx c S).length=1:=by rw [CIx_len,h1]
   obtain ⟨x,hx⟩:=List.length_eq_one_iff.1 h2
   have m1:j∈CIx c S:=CIx_mem.2 ⟨_,ha,hca⟩
   have m2:bi∈CIx c S:=CIx_mem.2 ⟨_,hb.at_,hb.isc⟩
   rw [hx,List.mem_singleton] at m1 m2
   rw [m1,m2]
  have get:∀ j R,(S.set bi (b,true))[j]?=some R→(j=bi∧R=(b,true))∨(j≠bi∧S[j]?=some R):=fun j R hR=>by
   rw [List.getElem?_set] at hR
   split at hR
   ·rename_i hj;subst hj;(try rw [if_pos hlt] at hR);exact .inl ⟨rfl,by simpa using hR.symm⟩
   ·rename_i hj;exact .inr ⟨fun hh=>hj hh.symm,hR⟩
  have setb:(S.set bi (b,true))[bi]?=some (b,true):=by rw [List.getElem?_set_self hlt]
  refine ⟨fun R hR=>?_,by simp [h.pl],fun k i hi=>?_,fun a ha k hk=>?_,fun j a ha=>?_⟩
  ·rcases List.mem_or_eq_of_mem_set hR with hR | rfl
   ·exact h.len R hR
   ·have:=h.len _ hbm;exact this
  ·rcases Nat.lt_trichotomy k P.length with h1 | h1 | h1
   ·rw [List.getElem?_append_left h1] at hi
    obtain ⟨g1,g2⟩:=h.pv k i hi
    refine ⟨g1,fun h0=>?_⟩
    obtain ⟨x,e1,e2⟩:=g2 h0
    refine ⟨x,?_,e2⟩
    rw [List.getElem?_set]
    split
    ·rename_i hj;rw [← hj,hb.at_] at e1;cases e1
    ·exact e1
   ·have hk:k=c:=by rw [h1,h.pl]
    subst h1
    simp only [List.getElem?_append_right (Nat.le_refl _),Nat.sub_self,List.getElem?_cons_zero,Option.some.injEq] at hi
    subst hi
    refine ⟨by omega,fun _=>⟨b,by simpa using setb,by rw [hk];exact hb.nz,fun j hj=>h.un b hbm j (by omega)⟩⟩
   ·rw [List.getElem?_eq_none (by simp;omega)] at hi;cases hi
  ·obtain ⟨j,hj⟩:=List.getElem?_of_mem ha
   rcases get j _ hj with ⟨_,he⟩ | ⟨hne,hS⟩
   ·cases he
   ·by_cases hkc:k=c
    ·subst hkc
     exact Classical.byContradiction fun hn=>hne (only j a hS hn)
    ·exact h.un a (List.mem_of_getElem? hS) k (by omega)
  ·rcases get j _ ha with ⟨rfl,_⟩ | ⟨hne,hS⟩
   ·exact ⟨P.length,by simp⟩
   ·obtain ⟨k,hk⟩:=h.us j a hS
    exact ⟨k,by rw [List.getElem?_append_left (lt_of_some hk)];exact hk⟩
 | large=>rintro _ _ _ ⟨⟩
 | step hb h2 h3 h4 ih=>exact fun h S' i e=>ih (h.step hb) S' i e
theorem EInv.el {w n c:Nat} {S:List Row} {P:List Int} {r:Option (List Row × List Int)} (hE:El n c S P r):EInv w c S P→∀ S' P',r=some (S',P')→EInv w n S' P':=by
 induction hE with
 | done=>rintro h _ _ ⟨⟩;exact h
 | large=>rintro _ _ _ ⟨⟩
 | next h1 h2 h3 ih=>exact fun h S' P' e=>ih (EInv.col h2 h _ _ rfl) S' P' e
def mu (c:Nat) (S:List Row):Nat:=(S.map fun R=>if cand c R=true then (atR R.1 c).natAbs else 0).sum
theorem sum_le {α:Type} (f g:α→Nat):∀ {l:List α},(∀ x∈l,f x≤g x)→(l.map f).sum≤(l.map g).sum
 | [],_=>Nat.le_refl _
 | x::l,h=>by
  have h1:=h x (by simp)
  have h2:=sum_le f g (l:=l) fun y hy=>h y (by simp [hy])
  simp only [List.map_cons,List.sum_cons];omega
theorem sum_lt {α:Type} (f g:α→Nat):∀ {l:List α},(∀ x∈l,f x≤g x)→(∃ x∈l,f x<g x)→(l.map f).sum<(l.map g).sum
 | [],_,h=>by obtain ⟨_,h,_⟩:=h;cases h
 | x::l,h,k=>by
  have h1:=h x (by simp)
  have h2:=sum_le f g (l:=l) fun y hy=>h y (by simp [hy])
  simp only [List.map_cons,List.sum_cons]
  obtain ⟨y,hy,hlt⟩:=k
  rcases List.mem_cons.1 hy with rfl | hy
  ·omega
  ·have:=sum_lt f g (l:=l) (fun y hy=>h y (by simp [hy])) ⟨y,hy,hlt⟩;omega
theorem tsub_lt {a b:Int} (hb:b≠0):(a - a.tdiv b * b).natAbs<b.natAbs:=by
 have h1:a - a.tdiv b * b=a.tmod b:=by rw [Int.tmod_def,Int.mul_comm]
 rw [h1,Int.natAbs_tmod]
 exact Nat.mod_lt _ (by omega)
theorem mu_step {w c bi:Nat} {S:List Row} {b:List Int} (hl:∀ R∈S,R.1.length=w) (hb:Best c S bi b) (h2:2≤cnt c S):mu c (stepS c b bi S)<mu c S:=by
 have hbl:=hl _ (List.mem_of_getElem? hb.at_)
 dsimp only at hbl
 have hnz:=hb.nz
 have e1:mu c (stepS c b bi S)=((List.range S.length).map fun i=>match (stepS c b bi S)[i]? with | some R=>if cand c R=true then (atR R.1 c).natAbs else 0 | none=>0).sum:=by
  unfold mu
  congr 1
  apply List.ext_getElem?
  intro i
  rw [List.getElem?_map,List.getElem?_map]
  by_cases hi:i<S.length
  ·have hi2:i<(stepS c b bi S).length:=by rw [stepS_len];exact hi
   simp only [List.getElem?_range hi,Option.map_some,List.getElem?_eq_getElem hi2]
  ·rw [List.getElem?_eq_none (show (stepS c b bi S).length≤i by rw [stepS_len];omega),List.getElem?_eq_none (by simp;omega)];rfl
 have e2:mu c S=((List.range S.length).map fun i=>match S[i]? with | some R=>if cand c R=true then (atR R.1 c).natAbs else 0 | none=>0).sum:=by
  unfold mu
  congr 1
  apply List.ext_getElem?
  intro i
  rw [List.getElem?_map,List.getElem?_map]
  by_cases hi:i<S.length
  ·simp only [List.getElem?_range hi,Option.map_some,List.getElem?_eq_getElem hi]
  ·rw [List.getElem?_eq_none (show S.length≤i by omega),List.getElem?_eq_none (by simp;omega)];rfl
 have one:∀ i R,S[i]?=some R→cand c R=true→i≠bi→(if cand c (redR c b R)=true then (atR (redR c b R).1 c).natAbs else 0)<(atR R.1 c).natAbs:=fun i R hR hc hne=>by
  have hlR:=hl _ (List.mem_of_getElem? hR)
  have hm:=hb.min i R hR hc
  rw [redR,if_pos hc]
  dsimp only
  rw [atR_sub (by omega)]
  have:=tsub_lt (a:=atR R.1 c) hnz
  split <;> omega
 rw [e1,e2]
 apply sum_lt
 ·intro i hi
  rw [stepS_get]
  cases hS:S[i]? with
  | none=>exact Nat.le_refl _
  | some R=>
   simp only [Option.map_some]
   by_cases hib:i=bi
   ·rw [if_pos hib];exact Nat.le_refl _
   ·rw [if_neg hib]
    by_cases hc:cand c R=true
    ·have:=one i R hS hc hib
     rw [if_pos hc];exact Nat.le_of_lt this
    ·rw [redR,if_neg hc];exact Nat.le_refl _
 ·have hbx:bi∈CIx c S:=CIx_mem.2 ⟨_,hb.at_,hb.isc⟩
  have hlen:=CIx_len c S
  have hnd:=CIx_nodup c S
  obtain ⟨i,hi,hne⟩:∃ i∈CIx c S,i≠bi:=by
   refine Classical.byContradiction fun hh=>?_
   have hall:∀ i∈CIx c S,i=bi:=fun i hi=>Classical.byContradiction fun hn=>hh ⟨i,hi,hn⟩
   cases hC:CIx c S with
   | nil=>rw [hC] at hbx;cases hbx
   | cons x l=>
    cases l with
    | nil=>rw [hC] at hlen;simp at hlen;omega
    | cons y l=>
     rw [hC] at hnd hall
     have h1:=hall x (by simp)
     have h2:=hall y (by simp)
     rw [h1,h2] at hnd
     simp at hnd
  obtain ⟨R,hR,hc⟩:=CIx_mem.1 hi
  refine ⟨i,List.mem_range.2 (lt_of_some hR),?_⟩
  rw [stepS_get,hR]
  simp only [Option.map_some,if_neg hne,if_pos hc]
  exact one i R hR hc hne
theorem best_ex (c:Nat):∀ S:List Row,cnt c S≠0→∃ bi b,Best c S bi b:=by
 refine snoc_ind (P:=fun S=>cnt c S≠0→∃ bi b,Best c S bi b) (fun h=>absurd rfl h) (fun p R ih h=>?_)
 by_cases h0:cnt c p=0
 ·by_cases hc:cand c R=true
  ·obtain ⟨a,u⟩:=R
   have hu:u=false:=by simp [cand] at hc;exact hc.1
   subst hu
   exact ⟨p.length,a,Best.new hc fun Q hQ hcQ=>by rw [cnt_zero h0 Q hQ] at hcQ;cases hcQ⟩
  ·rw [cnt_snoc,if_neg hc] at h;omega
 ·obtain ⟨bi,b,hb⟩:=ih h0
  by_cases hc:cand c R=true∧(atR R.1 c).natAbs<(atR b c).natAbs
  ·obtain ⟨a,u⟩:=R
   have hu:u=false:=by have:=hc.1;simp [cand] at this;exact this.1
   subst hu
   exact ⟨p.length,a,Best.new hc.1 fun Q hQ hcQ=>by
    obtain ⟨i,hi⟩:=List.getElem?_of_mem hQ
    exact Nat.lt_of_lt_of_le hc.2 (hb.min i Q hi hcQ)⟩
  ·exact ⟨bi,b,hb.no fun hh=>Nat.le_of_not_lt fun hl=>hc ⟨hh,hl⟩⟩
theorem col_ex {w c:Nat}:∀ (m:Nat) (S:List Row),mu c S≤m→(∀ R∈S,R.1.length=w)→∃ st r,Col c st S r:=by
 intro m
 induction m with
 | zero=>
  intro S hm hl
  by_cases h0:cnt c S=0
  ·exact ⟨0,_,.zero h0⟩
  ·obtain ⟨bi,b,hb⟩:=best_ex c S h0
   by_cases h1:cnt c S=1
   ·exact ⟨0,_,.one hb h1⟩
   ·have:=mu_step hl hb (by omega);omega
 | succ m ih=>
  intro S hm hl
  by_cases h0:cnt c S=0
  ·exact ⟨0,_,.zero h0⟩
  ·obtain ⟨bi,b,hb⟩:=best_ex c S h0
   by_cases h1:cnt c S=1
   ·exact ⟨0,_,.one hb h1⟩
   ·have hlt:=mu_step hl hb (by omega)
    cases ha:allS (stepS c b bi S) with
    | false=>exact ⟨0,_,.large hb (by omega) ha⟩
    | true=>
     obtain ⟨st,r,h⟩:=ih (stepS c b bi S) (by omega) fun R hR=>by
      rcases stepS_mem hR with hR | ⟨a,h3,rfl⟩
      ·exact hl R hR
      ·have h4:=hl _ h3
       have h5:=hl _ (List.mem_of_getElem? hb.at_)
       dsimp only at *
       rw [subL_len (by omega)];exact h4
     exact ⟨st+1,r,.step hb (by omega) ha h⟩
theorem el_ex {w n:Nat}:∀ (m c:Nat) (S:List Row) (P:List Int),c+m=n→EInv w c S P→∃ r,El n c S P r:=by
 intro m
 induction m with
 | zero=>intro c S P h hi;obtain rfl:c=n:=(by omega);exact ⟨_,.done⟩
 | succ m ih=>
  intro c S P h hi
  obtain ⟨st,r,hc⟩:=col_ex (c:=c) _ S (Nat.le_refl _) hi.len
  cases r with
  | none=>exact ⟨_,.large (by omega) hc⟩
  | some x=>
   obtain ⟨S',i⟩:=x
   obtain ⟨r,hr⟩:=ih (c+1) S' (P++[i]) (by omega) (hi.col hc _ _ rfl)
   exact ⟨r,.next (by omega) hc hr⟩
theorem Col.zero_fw {w c st:Nat} {S:List Row} {r:Option (List Row × Int)} {f:List Int→Int} (hf:LinF w f) (hc:Col c st S r):(∀ R∈S,R.1.length=w∧f R.1=0)→∀ S' i,r=some (S',i)→∀ R∈S',R.1.length=w∧f R.1=0:=by
 induction hc with
 | zero=>rintro h _ _ ⟨⟩;exact h
 | one hb _=>
  rintro h _ _ ⟨⟩ R hR
  rcases List.mem_or_eq_of_mem_set hR with hR | rfl
  ·exact h R hR
  ·have:=h _ (List.mem_of_getElem? hb.at_);exact this
 | large=>rintro _ _ _ ⟨⟩
 | step hb _ _ _ ih=>
  refine fun h=>ih fun R hR=>?_
  rcases stepS_mem hR with hR | ⟨a,h3,rfl⟩
  ·exact h R hR
  ·have h4:=h _ h3
   have h5:=h _ (List.mem_of_getElem? hb.at_)
   dsimp only at *
   exact ⟨by rw [subL_len (by omega)];exact h4.1,by rw [hf _ _ _ h4.1 h5.1,h4.2,h5.2];simp⟩
theorem El.zero_fw {w n c:Nat} {S:List Row} {P:List Int} {r:Option (List Row × List Int)} {f:List Int→Int} (hf:LinF w f) (hE:El n c S P r):(∀ R∈S,R.1.length=w∧f R.1=0)→∀ S' P',r=some (S',P')→∀ R∈S',R.1.length=w∧f R.1=0:=by
 induction hE with
 | done=>rintro h _ _ ⟨⟩;exact h
 | large=>rintro _ _ _ ⟨⟩
 | next h1 h2 h3 ih=>exact fun h=>ih (Col.zero_fw hf h2 h _ _ rfl)
theorem Col.dvd_bw {w c st:Nat} {S:List Row} {r:Option (List Row × Int)} {f:List Int→Int} {d:Int} (hf:LinF w f) (hc:Col c st S r):(∀ R∈S,R.1.length=w)→∀ S' i,r=some (S',i)→(∀ R∈S',d ∣ f R.1)→∀ R∈S,d ∣ f R.1:=by
 induction hc with
 | zero=>rintro h _ _ ⟨⟩;exact id
 | @one S bi b hb _=>
  rintro h _ _ ⟨⟩ hS R hR
  obtain ⟨j,hj⟩:=List.getElem?_of_mem hR
  by_cases hjb:j=bi
  ·subst hjb
   rw [hb.at_] at hj
   cases hj
   exact hS (b,true) (List.mem_of_getElem? (i:=j) (List.getElem?_set_self (lt_of_some hb.at_)))
  ·exact hS R (List.mem_of_getElem? (i:=j) (by rw [List.getElem?_set_ne (Ne.symm hjb)];exact hj))
 | large=>rintro _ _ _ ⟨⟩
 | @step S bi n b res hb _ _ _ ih=>
  refine fun h S' i e hS R hR=>?_
  have hl:∀ R∈stepS c b bi S,R.1.length=w:=fun R hR=>by
   rcases stepS_mem hR with hR | ⟨a,h3,rfl⟩
   ·exact h R hR
   ·have h4:=h _ h3
    have h5:=h _ (List.mem_of_getElem? hb.at_)
    dsimp only at *
    rw [subL_len (by omega)];exact h4
  have key:=ih hl S' i e hS
  obtain ⟨j,hj⟩:=List.getElem?_of_mem hR
  have hbd:d ∣ f b:=key (b,false) (List.mem_of_getElem? hb.step)
  by_cases hjb:j=bi
  ·subst hjb;rw [hb.at_] at hj;cases hj;exact hbd
  ·have h6:(stepS c b bi S)[j]?=some (redR c b R):=by rw [stepS_get,hj];simp [hjb]
   have h7:=key _ (List.mem_of_getElem? h6)
   unfold redR at h7
   split at h7
   ·dsimp only at h7
    rw [hf _ _ _ (h R hR) (h _ (List.mem_of_getElem? hb.at_))] at h7
    have:=Int.dvd_add h7 (Int.dvd_mul_of_dvd_right (b:=(atR R.1 c).tdiv (atR b c)) hbd)
    simpa using this
   ·exact h7
theorem Col.lens {w c st:Nat} {S:List Row} {r:Option (List Row × Int)} (hc:Col c st S r):(∀ R∈S,R.1.length=w)→∀ S' i,r=some (S',i)→∀ R∈S',R.1.length=w:=fun h S' i e R hR=>
 (Col.zero_fw (f:=fun _=>0) (fun _ _ _ _ _=>by simp) hc (fun R hR=>⟨h R hR,rfl⟩) S' i e R hR).1
theorem El.dvd_bw {w n c:Nat} {S:List Row} {P:List Int} {r:Option (List Row × List Int)} {f:List Int→Int} {d:Int} (hf:LinF w f) (hE:El n c S P r):(∀ R∈S,R.1.length=w)→∀ S' P',r=some (S',P')→(∀ R∈S',d ∣ f R.1)→∀ R∈S,d ∣ f R.1:=by
 induction hE with
 | done=>rintro h _ _ ⟨⟩;exact id
 | large=>rintro _ _ _ ⟨⟩
 | next h1 h2 h3 ih=>exact fun h S' P' e hS=>Col.dvd_bw hf h2 h _ _ rfl (ih (Col.lens h2 h _ _ rfl) S' P' e hS)
theorem red_ok {w n:Nat} {S:List Row} {P0:List Int} (h:EInv w n S P0):∀ (P:List Int) (c:Nat) (t t':List Int) (c':Int),P0.drop c=P→t.length=w→(∀ k,k<c→atR t k=0)→redF S P c t=some (t',c') →
  t'.length=w∧(∀ f d,LinF w f→(∀ R∈S,d ∣ f R.1)→d ∣ f t' - f t)∧(c'=-1→∀ k,k<n→atR t' k=0)∧(c'≠-1→∃ e:Nat,c'=e∧e<n∧atR t' e≠0∧(∀ k,k<e→atR t' k=0)∧∃ i,P0[e]?=some i∧(0≤i→(atR t' e).tmod (atR (rowAt S i) e)≠0)):=by
 intro P
 induction P with
 | nil=>
  intro c t t' c' hP hl hz hr
  simp only [redF,Option.some.injEq,Prod.mk.injEq] at hr
  obtain ⟨rfl,rfl⟩:=hr
  have:P0.length≤c:=by have:=congrArg List.length hP;simp at this;omega
  exact ⟨hl,fun f d _ _=>by simp,fun _ k hk=>hz k (by have:=h.pl;omega),fun hh=>absurd rfl hh⟩
 | cons i P ih=>
  intro c t t' c' hP hl hz hr
  have hc:P0[c]?=some i:=by rw [← List.head?_drop,hP];rfl
  have hP':P0.drop (c+1)=P:=by rw [← List.tail_drop,hP];rfl
  have hcl:=lt_of_some hc
  have hcn:c<n:=by have:=h.pl;omega
  rw [redF] at hr
  by_cases h0:atR t c=0
  ·rw [if_pos h0] at hr
   exact ih (c+1) t t' c' hP' hl (fun k hk=>by (by_cases hkc:k=c;(rw [hkc];exact h0);exact hz k (by omega))) hr
  rw [if_neg h0] at hr
  by_cases hi:i<0
  ·rw [if_pos hi] at hr
   simp only [Option.some.injEq,Prod.mk.injEq] at hr
   obtain ⟨rfl,rfl⟩:=hr
   exact ⟨hl,fun f d _ _=>by simp,fun hh=>by omega,fun _=>⟨c,rfl,hcn,h0,hz,i,hc,fun hh=>by omega⟩⟩
  rw [if_neg hi] at hr
  by_cases hd:(atR t c).tmod (atR (rowAt S i) c)≠0
  ·rw [if_pos hd] at hr
   simp only [Option.some.injEq,Prod.mk.injEq] at hr
   obtain ⟨rfl,rfl⟩:=hr
   exact ⟨hl,fun f d _ _=>by simp,fun hh=>by omega,fun _=>⟨c,rfl,hcn,h0,hz,i,hc,fun _=>hd⟩⟩
  rw [if_neg hd] at hr
  split at hr
  ·obtain ⟨b,e1,e2,e3⟩:=(h.pv c i hc).2 (by omega)
   have hra:=rowAt_of e1
   rw [hra] at hr hd
   have hbm:=List.mem_of_getElem? e1
   have hbl:=h.len _ hbm
   dsimp only at hbl
   have hdv:atR t c - (atR t c).tdiv (atR b c) * atR b c=0:=by
    have h1:=Int.tmod_def (atR t c) (atR b c)
    rw [Int.mul_comm] at h1
    have h2:(atR t c).tmod (atR b c)=0:=Classical.byContradiction hd
    omega
   obtain ⟨g1,g2,g3,g4⟩:=ih (c+1) _ t' c' hP' (by rw [subL_len (by omega)];exact hl) (fun k hk=>by
    rw [atR_sub (by omega)]
    by_cases hkc:k=c
    ·rw [hkc];exact hdv
    ·rw [hz k (by omega),e3 k (by omega)];simp) hr
   refine ⟨g1,fun f d hf hS=>?_,g3,g4⟩
   have h5:=g2 f d hf hS
   rw [hf _ _ _ hl hbl] at h5
   have h6:=hS _ hbm
   have:=Int.dvd_sub h5 (Int.dvd_mul_of_dvd_right (b:=(atR t c).tdiv (atR b c)) h6)
   have e:f t' - (f t - (atR t c).tdiv (atR b c) * f b) - (atR t c).tdiv (atR b c) * f b=f t' - f t:=by omega
   rw [e] at this;exact this
  ·cases hr
end Go.Pm
end
section
set_option maxRecDepth 4000
namespace Go.Pm
open Go.Proofs
def gErr:List (List Pw)→Int
 | []=>0
 | x::l=>if validP x=0 then gErr l else validP x
theorem gErr_snoc (l:List (List Pw)) (x:List Pw):gErr (l++[x])=if gErr l=0 then validP x else gErr l:=by
 induction l with
 | nil=>by_cases h:validP x=0 <;> simp [gErr,h]
 | cons y l ih=>
  rw [List.cons_append,gErr,gErr,ih]
  by_cases h:validP y=0
  ·simp [h]
  ·simp [h]
theorem gErr_bad {l p q:List (List Pw)} {x:List Pw} (e:l=p++x::q) (h:gErr p=0) (hx:validP x≠0):gErr l=validP x:=by
 subst e
 induction p with
 | nil=>simp [gErr,hx]
 | cons y p ih=>
  rw [gErr] at h
  by_cases hy:validP y=0
  ·rw [if_pos hy] at h;rw [List.cons_append,gErr,if_pos hy];exact ih h
  ·rw [if_neg hy] at h;exact absurd h hy
theorem gErr_zero {l:List (List Pw)} (h:gErr l=0):∀ x∈l,validP x=0:=by
 induction l with
 | nil=>simp
 | cons y l ih=>
  rw [gErr] at h
  by_cases hy:validP y=0
  ·rw [if_pos hy] at h
   intro x hx
   rcases List.mem_cons.1 hx with rfl | hx
   ·exact hy
   ·exact ih h x hx
  ·rw [if_neg hy] at h;exact absurd h hy
inductive Giv
 | err (e:Int)
 | ok (S:List Row) (P:List Int) (t:List Int) (c:Int)
def row0s (l:List (List Pw)) (m:List Pw):List Row:=(rows0 (facs (l++[m])) l.length l).map fun r=>(r,false)
def t0r (l:List (List Pw)) (m:List Pw):List Int:=(facs (l++[m])).map (pwr m)++List.replicate l.length 0
inductive GivR (l:List (List Pw)) (m:List Pw):Giv→Prop
 | bad:gErr (l++[m])≠0→GivR l m (.err (gErr (l++[m])))
 | wide:gErr (l++[m])=0→12<(facs (l++[m])).length→GivR l m (.err 3)
 | big:gErr (l++[m])=0→(facs (l++[m])).length≤12→El (facs (l++[m])).length 0 (row0s l m) [] none→GivR l m (.err 3)
 | big2 {S:List Row} {P:List Int}:gErr (l++[m])=0→(facs (l++[m])).length≤12→El (facs (l++[m])).length 0 (row0s l m) [] (some (S,P))→redF S P 0 (t0r l m)=none→GivR l m (.err 3)
 | ok {S:List Row} {P:List Int} {t:List Int} {c:Int}:gErr (l++[m])=0→(facs (l++[m])).length≤12→El (facs (l++[m])).length 0 (row0s l m) [] (some (S,P))→redF S P 0 (t0r l m)=some (t,c)→GivR l m (.ok S P t c)
theorem row0_len (cols:List Tm) (k i:Nat) (x:List Pw):(row0 cols k i x).length=cols.length+k:=by simp [row0,unitR]
theorem row0s_mem {l:List (List Pw)} {m:List Pw} {R:Row} (h:R∈row0s l m):∃ (i:Nat) (x:List Pw),l[i]?=some x∧R=(row0 (facs (l++[m])) l.length i x,false):=by
 obtain ⟨r,hr,rfl⟩:=List.mem_map.1 h
 unfold rows0 at hr
 obtain ⟨i,hi⟩:=List.getElem?_of_mem hr
 rw [List.getElem?_mapIdx] at hi
 cases hx:l[i]? with
 | none=>rw [hx] at hi;cases hi
 | some x=>rw [hx] at hi;exact ⟨i,x,hx,by simpa using hi.symm⟩
theorem row0s_inv (l:List (List Pw)) (m:List Pw):EInv ((facs (l++[m])).length+l.length) 0 (row0s l m) [] where
 len R hR:=by obtain ⟨i,x,_,rfl⟩:=row0s_mem hR;exact row0_len _ _ _ _
 pl:=rfl
 pv k i hi:=by cases hi
 un b _ k hk:=by omega
 us j b hj:=by obtain ⟨_,_,_,h⟩:=row0s_mem (List.mem_of_getElem? hj);cases h
theorem givR_ex (l:List (List Pw)) (m:List Pw):∃ g,GivR l m g:=by
 by_cases h1:gErr (l++[m])=0
 ·by_cases h2:(facs (l++[m])).length≤12
  ·obtain ⟨r,hr⟩:=el_ex (n:=(facs (l++[m])).length) _ 0 (row0s l m) [] (by simp;rfl) (row0s_inv l m)
   cases r with
   | none=>exact ⟨_,.big h1 h2 hr⟩
   | some x=>
    obtain ⟨S,P⟩:=x
    cases hf:redF S P 0 (t0r l m) with
    | none=>exact ⟨_,.big2 h1 h2 hr hf⟩
    | some y=>exact ⟨_,.ok h1 h2 hr hf⟩
  ·exact ⟨_,.wide h1 (by omega)⟩
 ·exact ⟨_,.bad h1⟩
structure GivP (l:List (List Pw)) (m:List Pw) (N:Nat) (h:AHeap) (rv pv v:PV) (Z:List Rf) (S:List Row) (P t:List Int):Prop where
 er:Out 1 h rv (Z.map Rf.v)
 ez:∀ z∈Z,h[z.i]?=some ⟨.m,z.e,1,encIs z.r⟩∧z.r.length=(facs (l++[m])).length+l.length∧small z.r=true
 eS:Z.map Rf.m=S
 lZ:Z.length=l.length
 ep:Out 1 h pv (encIs P)
 et:Out 1 h v (encIs t)
 nw:∀ i∈vid rv++(vid pv++vid v),N≤i
def givPost (l:List (List Pw)) (m:List Pw) (H:AHeap) (g:Giv) (r:PV) (h:AHeap):Prop:=
 match g with
 | .err e=>r=.tup [.agg [.snap true [],.snap true [],.snap true []],.snap true [],.int .i64 0,.int .i64 e]
 | .ok S P t c=>∃ rv pv v Z,r=.tup [.agg [.snap false (encs (facs (l++[m]))),rv,pv],v,.int .i64 c,.int .i64 0]∧GivP l m H.length h rv pv v Z S P t
theorem out_b1 {v:PV} {n sz:Nat} {h:AHeap} {es:List PV} (o:Out sz h v es) (hb:below1 n v=true) (hn:∀ i∈vid v,n≤i):v=.snap true []∧es=[]:=by
 rcases o with o | ⟨id,ep,rfl,_⟩
 ·exact o
 ·have:=hn id (by simp [vid])
  simp only [below1,decide_eq_true_eq] at hb
  omega
theorem resC_cellN {C:Cfg} {T:Tab C.P} {L:Al} {h:AHeap} {a b n:Nat} {t:TypeId} {cs vs:List PV} {sz:Nat} {rs:List ResultVar} (ha:lk L a=some (.ptr b 0 0 0)) (hb:h[b]?=some ⟨.m,0,n,[.agg cs]⟩) (hs:T.ts t=some (sz+1)) (ht:T.ta t=some true) (hl:cs.length=sz+1) (hr:resC T L h rs=some vs):resC T L h (.cell a t::rs)=some (.agg cs::vs):=by
 have hp:pcells h (.ptr b 0 0 0)=some cs:=(pcOf hb).trans rfl
 have hld:loadT T h t (.ptr b 0 0 0)=some (.agg cs):=by
  unfold loadT
  rw [hs,ht,hp]
  have:Nat.ble (sz+1) cs.length=true:=Nat.ble_eq_true_of_le (by omega)
  simp only [this,if_true]
  rw [List.take_of_length_le (by omega)]
 simp only [resC,ha,hld,hr]
attribute [local irreducible] thenQ blockQ loopQ bodyQ Ev EvOps CallEv FnEv EvD
set_option maxHeartbeats 1000000 in
theorem given_ev (H:AHeap) (hH:HV H) (l:List (List Pw)) (m:List Pw) (g:Giv) (hl:l.length≤12) (hs:SmT (l++[m])) (hg:GivR l m g) :
  FnEv C 62 [.snap false (encPPs l),.snap false (encPs m)] H (fun r h'=>HR h'∧H.length≤h'.length∧(∀ j,j<H.length→h'[j]?=H[j]?)∧givPost l m H g r h'):=by
 have hel:(encPPs l).length=l.length:=by simp
 have hap:encPPs l++[.snap false (encPs m)]=encPPs (l++[m]):=by simp [encPPs]
 have hfa:=facs_fun _ hs
 have hlm:(l++[m]).length=l.length+1:=by simp
 have hll:(([]:List PV)++encPPs l).length=l.length:=by simp
 refine FnEv.x T6 Tryz.func62 rfl ?_
 have hz0:(H++[(⟨.m,0,3,[.agg [.snap true [],.snap true [],.snap true []]]⟩:AObj)])[H.length]?=some ⟨.m,0,3,[.agg [.snap true [],.snap true [],.snap true []]]⟩:=by simp
 have hfr0:∀ j,j<H.length→(H++[(⟨.m,0,3,[.agg [.snap true [],.snap true [],.snap true []]]⟩:AObj)])[j]?=H[j]?:=fun j hj=>List.getElem?_append_left hj
 have hln0:(H++[(⟨.m,0,3,[.agg [.snap true [],.snap true [],.snap true []]]⟩:AObj)]).length=H.length+1:=by simp
 (repeat' (first | (refine Rn.go ?_;conv=>whnf) | refine .mk ?_ | refine .tt ?_ | refine .ff ?_ | refine .m2 ?_ | refine .m3 ?_ | refine .mk (fun hc=>?_) fun hc=>?_ | refine .lp fun v H lp=>?_ | fail))
 refine .lp (fun v1 H1 lp1=>?_) (hH:=hH.app (HV.one rfl))
 have lo:=lp1.out
 have lln:=lp1.len
 have lfr:=fun j hj=>lp1.fr j hj (by simp)
 have lrf:∀ j ep n,v1=.mref j ep 0 n→H.length+1≤j:=fun j ep n hh=>by
  rcases lp1.ref j ep n hh with ⟨_,_,h0⟩ | h0
  ·cases h0
  ·omega
 rw [hln0] at lln lfr
 (repeat' (first | (refine Rn.go ?_;conv=>whnf) | refine .mk ?_ | refine .tt ?_ | refine .ff ?_ | refine .m2 ?_ | refine .m3 ?_ | refine .mk (fun hc=>?_) fun hc=>?_ | refine .lp fun v H lp=>?_ | fail))
 refine .lp (fun v2 H2 lp2=>?_) (hH:=lp1.hv)
 clear lp1
 have lo2:=lp2.out
 have hH2:=lp2.hv
 have lln2:=lp2.len
 have lfr2:∀ j,j<H.length+1→H2[j]?=(H++[(⟨.m,0,3,[.agg [.snap true [],.snap true [],.snap true []]]⟩:AObj)])[j]?:=fun j hj=>by
  rw [lp2.fr j (by omega) (fun ep n hh=>by have:=lrf j ep n hh;omega)];exact lfr j hj
 have lrf2:∀ j ep n,v2=.mref j ep 0 n→H.length+1≤j:=fun j ep n hh=>by
  rcases lp2.ref j ep n hh with ⟨ep',n',h0⟩ | h0
  ·exact lrf j ep' n' h0
  ·omega
 clear lp2 lfr lo lrf
 rw [List.nil_append,hap] at lo2
 have hz2:H2[H.length]?=some ⟨.m,0,3,[.agg [.snap true [],.snap true [],.snap true []]]⟩:=by rw [lfr2 _ (by omega)];exact hz0
 have hfr2:∀ j,j<H.length→H2[j]?=H[j]?:=fun j hj=>by rw [lfr2 j (by omega)];exact hfr0 j hj
 have hlap:(encPPs (l++[m])).length=l.length+1:=by simp
 rcases lo2 with ⟨_,h0⟩ | ⟨i2,e2,rfl,o2⟩
 ·have:=congrArg List.length h0;rw [hlap,List.length_nil] at this;omega
 have hi2:=lrf2 i2 e2 _ rfl
 (repeat' (first | (refine Rn.go ?_;conv=>whnf) | refine .mk ?_ | refine .tt ?_ | refine .ff ?_ | refine .m2 ?_ | refine .m3 ?_ | refine .mk (fun hc=>?_) fun hc=>?_ | refine .lp fun v H lp=>?_ | fail))
 refine LpX.zip T6 (l++[m]) (fun p q L h=>L=[(0,.snap false (encPPs l)),(1,.snap false (encPs m)),(4,.ptr H.length 0 0 0),(8,.mref i2 e2 0 (encPPs (l++[m])).length),(9,.int .i64 p.length)]∧h=H2∧gErr p=0) (.nx ⟨rfl,rfl,rfl⟩) ?_ ?_
 ·rintro p x q _ h ρ e ⟨rfl,rfl,hp⟩
  have hl2:=congrArg List.length e
  simp only [List.length_append,List.length_cons,List.length_nil] at hl2
  have hat:=at_encPPs e
  rw [← Nat.zero_add p.length] at hat
  have hx:=hs.1 x (by rw [e];simp)
  have hvx:=rpvalid_fun x hx.1 (by have:=hx.2;omega)
  (repeat' (first | (refine Rn.go ?_;conv=>whnf) | refine .mk ?_ | refine .tt ?_ | refine .ff ?_ | refine .m2 ?_ | refine .m3 ?_ | refine .mk (fun hc=>?_) fun hc=>?_ | refine .lp fun v H lp=>?_ | fail))
  refine .p hvx ?_
  (repeat' (first | (refine Rn.go ?_;conv=>whnf) | refine .mk ?_ | refine .tt ?_ | refine .ff ?_ | refine .m2 ?_ | refine .m3 ?_ | refine .mk (fun hc=>?_) fun hc=>?_ | refine .lp fun v H lp=>?_ | fail))
  ·exact .nx ⟨rfl,rfl,by rw [gErr_snoc,if_pos hp];exact hc⟩
  ·have hbad:=gErr_bad e hp hc
   refine .mk ?_ (resC_cellN (T:=T6) rfl (List.getElem?_set_self (lt_of_some hz2)) rfl rfl rfl rfl)
   refine Rn.go ?_
   refine ⟨(hH2.set _ (by simp) rfl).hr,by simp;omega,fun j hj=>by rw [List.getElem?_set_ne (by omega)];exact hfr2 j hj,?_⟩
   cases hg with
   | bad h=>rw [hbad];rfl
   | wide h=>omega
   | big h=>omega
   | big2 h=>omega
   | ok h=>omega
 ·rintro _ h ρ ⟨rfl,rfl,hg0⟩
  (repeat' (first | (refine Rn.go ?_;conv=>whnf) | refine .mk ?_ | refine .tt ?_ | refine .ff ?_ | refine .m2 ?_ | refine .m3 ?_ | refine .mk (fun hc=>?_) fun hc=>?_ | refine .lp fun v H lp=>?_ | fail))
  refine .pl (.inl (.inr ⟨i2,e2,rfl,o2⟩)) hfa (fun h' fz=>?_)
  have hH3:=fz.hv hH2 (by simp)
  have lln3:h'.length=h.length:=by
   rcases fz with rfl | ⟨_,_,_,rfl⟩
   ·rfl
   ·simp
  have fr3:∀ j,j<H.length+1→h'[j]?=h[j]?:=fun j hj=>by
   rcases fz with rfl | ⟨id,ep,hh,rfl⟩
   ·rfl
   ·simp only [PV.mref.injEq] at hh
    rw [List.getElem?_set_ne (by omega)]
  clear fz hfa o2 lfr2 lrf2
  have hz3:h'[H.length]?=some ⟨.m,0,3,[.agg [.snap true [],.snap true [],.snap true []]]⟩:=by rw [fr3 _ (by omega)];exact hz2
  have hfr3:∀ j,j<H.length→h'[j]?=H[j]?:=fun j hj=>by rw [fr3 j (by omega)];exact hfr2 j hj
  clear fr3 hz2 hfr2 hH2
  have hec:=encs_len (facs (l++[m]))
  by_cases hw:12<(facs (l++[m])).length
  ·(repeat' (first | (refine Rn.go ?_;conv=>whnf) | refine .mk ?_ | refine .tt ?_ | refine .ff ?_ | refine .m2 ?_ | refine .m3 ?_ | refine .mk (fun hc=>?_) fun hc=>?_ | refine .lp fun v H lp=>?_ | fail))
   refine .mk ?_ (resC_cellN (T:=T6) rfl (List.getElem?_set_self (lt_of_some hz3)) rfl rfl rfl rfl)
   refine Rn.go ?_
   refine ⟨(hH3.set _ (by simp) rfl).hr,by simp;omega,fun j hj=>by rw [List.getElem?_set_ne (by omega)];exact hfr3 j hj,?_⟩
   cases hg with
   | bad h=>omega
   | wide h=>rfl
   | big _ h=>omega
   | big2 _ h=>omega
   | ok _ h=>omega
  have hsz:∀ x∈l++[m],Sm x∧∀ t,smallI (pwr x t)=true:=fun x hx=>by
   have h1:=hs.1 x hx
   have h2:=validP_zero (gErr_zero hg0 x hx)
   refine ⟨⟨fun p hp=>Nat.lt_trans (h1.1 p hp) (by decide),by have:=h1.2;omega⟩,fun t=>?_⟩
   have:=pwr_bd (by omega) h2.2.1 t
   unfold smallI;rw [decide_eq_true_eq];omega
  have hbF:∀ t∈facs (l++[m]),bulk t<1000000000:=fun t ht=>by
   rcases accs_mem (ts:=allT (l++[m])) (a:=[]) ht with h | h
   ·simp only [allT,List.mem_flatMap,List.mem_map] at h
    obtain ⟨x,hx,p,hp,rfl⟩:=h
    exact Nat.lt_trans ((hs.1 x hx).1 p hp) (by decide)
   ·cases h
  obtain ⟨res,hE,hres⟩:∃ res,El (facs (l++[m])).length 0 (row0s l m) [] res∧match res with | none=>g=.err 3 | some (S,P)=>match redF S P 0 (t0r l m) with | none=>g=.err 3 | some (t,c)=>g=.ok S P t c:=by
   cases hg with
   | bad h=>omega
   | wide _ h=>omega
   | big _ _ h=>exact ⟨_,h,rfl⟩
   | big2 _ _ h h2=>exact ⟨_,h,by simp [h2]⟩
   | ok _ _ h h2=>exact ⟨_,h,by simp [h2]⟩
  have hinv:=EInv.el hE (row0s_inv l m)
  clear hg
  have hel2:=elim_ev h' hH3.hr l (facs (l++[m])) res hl (by omega) hbF (fun x hx=>(hsz x (by simp [hx])).1) (fun x hx=>(hsz x (by simp [hx])).2) hE
  have kz3:=lt_of_some hz3
  (repeat' (first | (refine Rn.go ?_;conv=>whnf) | refine .mk ?_ | refine .tt ?_ | refine .ff ?_ | refine .m2 ?_ | refine .m3 ?_ | refine .mk (fun hc=>?_) fun hc=>?_ | refine .lp fun v H lp=>?_ | fail))
  refine .fr hel2 (fun r h4 hr hb=>?_) (fun r h4 r1 r2 r3 r4=>?_)
  ·cases res with
   | none=>exact hr
   | some x=>
    obtain ⟨rv,pv,Z,rfl,a1,a2,a3,a4,a5,a6,a7⟩:=hr
    simp only [belowR,belowA,List.all_cons,List.all_nil,Bool.and_true,Bool.and_eq_true] at hb
    obtain ⟨rfl,b1⟩:=out_b1 a1 hb.1.2.1 (fun i hi=>a7 i (by simp [hi]))
    obtain ⟨rfl,b2⟩:=out_b1 a5 hb.1.2.2 (fun i hi=>a7 i (by simp [hi]))
    have hZ:Z=[]:=by cases Z with | nil=>rfl | cons z Z=>cases b1
    subst hZ
    exact ⟨_,_,[],rfl,.inl ⟨rfl,rfl⟩,by simp,a3,a4,.inl ⟨rfl,b2⟩,a6,by simp [vid]⟩
  have hz4:h4[H.length]?=some ⟨.m,0,3,[.agg [.snap true [],.snap true [],.snap true []]]⟩:=by rw [r3 _ kz3];exact hz3
  have kz4:=lt_of_some hz4
  have hfr4:∀ j,j<H.length→h4[j]?=H[j]?:=fun j hj=>by rw [r3 j (by omega)];exact hfr3 j hj
  cases res with
  | none=>
   simp only at hres
   replace r4:r=.tup [.agg [.snap true [],.snap true [],.snap true []],.bool false]:=r4
   subst r4 hres
   (repeat' (first | (refine Rn.go ?_;conv=>whnf) | refine .mk ?_ | refine .tt ?_ | refine .ff ?_ | refine .m2 ?_ | refine .m3 ?_ | refine .mk (fun hc=>?_) fun hc=>?_ | refine .lp fun v H lp=>?_ | fail))
   refine .mk ?_ (resC_cellN (T:=T6) rfl (List.getElem?_set_self (by simp;omega)) rfl rfl rfl rfl)
   refine Rn.go ?_
   have hHR:HR (h4++[(⟨.m,0,3,[.agg [.snap true [],.snap true [],.snap true []]]⟩:AObj)]):=r1.appV (HV.one rfl)
   exact ⟨hHR.set _ (by simp) rfl,by simp;omega,fun j hj=>by rw [List.getElem?_set_ne (by omega),List.getElem?_append_left (by omega)];exact hfr4 j hj,rfl⟩
  | some x=>
   obtain ⟨S,P⟩:=x
   obtain ⟨rv,pv,Z,rfl,a1,a2,a3,a4,a5,a6,a7⟩:=r4
   have hrv:=a1.oneC
   have hpv:=a5.oneC
   have hcx:(cells (PV.agg [.snap false (encs (facs (l++[m]))),rv,pv])).all oneC=true:=by
    show (true && (oneC rv && (oneC pv && true)))=true
    rw [hrv.1,hpv.1];rfl
   (repeat' (first | (refine Rn.go ?_;conv=>whnf) | refine .mk ?_ | refine .tt ?_ | refine .ff ?_ | refine .m2 ?_ | refine .m3 ?_ | refine .mk (fun hc=>?_) fun hc=>?_ | refine .lp fun v H lp=>?_ | fail))
   rw [hcx]
   conv=>whnf
   (repeat' (first | (refine Rn.go ?_;conv=>whnf) | refine .mk ?_ | refine .tt ?_ | refine .ff ?_ | refine .m2 ?_ | refine .m3 ?_ | refine .mk (fun hc=>?_) fun hc=>?_ | refine .lp fun v H lp=>?_ | fail))
   have hr3:=hinv S P rfl
   obtain ⟨G,hG⟩:∃ G,G=h4++[(⟨.m,0,3,[.agg [.snap false (encs (facs (l++[m]))),rv,pv]]⟩:AObj)]:=⟨_,rfl⟩
   rw [← hG]
   have hRG:HR G:=by
    rw [hG]
    refine r1.app1 (by simp) ?_
    simp only [visRs,visR,Bool.and_true,Bool.true_and,Bool.and_eq_true]
    exact ⟨visR_imp (f:=fun i=>decide (i<h4.length)) (fun i hi=>by have:=of_decide_eq_true hi;exact decide_eq_true (by omega)) _ a1.visR,visR_imp (f:=fun i=>decide (i<h4.length)) (fun i hi=>by have:=of_decide_eq_true hi;exact decide_eq_true (by omega)) _ a5.visR⟩
   have lG:G.length=h4.length+1:=by rw [hG];simp
   have fG:∀ j,j<h4.length→G[j]?=h4[j]?:=fun j hj=>by rw [hG];exact List.getElem?_append_left hj
   have eG:G[h4.length]?=some ⟨.m,0,3,[.agg [.snap false (encs (facs (l++[m]))),rv,pv]]⟩:=by rw [hG];simp
   have zG:G[H.length]?=some ⟨.m,0,3,[.agg [.snap true [],.snap true [],.snap true []]]⟩:=by rw [fG _ kz4];exact hz4
   have fGH:∀ j,j<H.length→G[j]?=H[j]?:=fun j hj=>by rw [fG j (by omega)];exact hfr4 j hj
   have a1G:Out 1 G rv (Z.map Rf.v):=a1.of_eq fun i hi=>fG i (a1.vlt i hi)
   have a5G:Out 1 G pv (encIs P):=a5.of_eq fun i hi=>fG i (a5.vlt i hi)
   have a2G:∀ z∈Z,G[z.i]?=some ⟨.m,z.e,1,encIs z.r⟩∧z.r.length=(facs (l++[m])).length+l.length∧small z.r=true:=fun z hz=>by
    obtain ⟨q1,q2⟩:=a2 z hz
    exact ⟨by rw [fG z.i (lt_of_some q1)];exact q1,q2⟩
   subst a3
   have hrd:=rred_ev G hRG (facs (l++[m])) rv pv Z P m a1G (by rw [a4];exact a2G) a5G a6 hr3.ok (by omega) (by omega) hbF (hsz m (by simp)).1 (hsz m (by simp)).2
   rw [a4] at hrd
   refine .fr hrd (fun r h5 hr hb=>?_) (fun r h5 s1 s2 s3 s4=>?_)
   ·cases hrf:redF (Z.map Rf.m) P 0 ((facs (l++[m])).map (pwr m)++List.replicate l.length 0) with
    | none=>rw [hrf] at hr;exact hr
    | some x=>
     rw [hrf] at hr
     obtain ⟨v,rfl,o,f⟩:=hr
     obtain ⟨rfl,h0⟩:=out_below o f (by simp only [belowR,List.all_cons,Bool.and_eq_true] at hb;exact hb.1)
     exact ⟨_,rfl,.inl ⟨rfl,h0⟩,by simp⟩
   have z5:h5[H.length]?=some ⟨.m,0,3,[.agg [.snap true [],.snap true [],.snap true []]]⟩:=by rw [s3 _ (by omega)];exact zG
   have e5:h5[h4.length]?=some ⟨.m,0,3,[.agg [.snap false (encs (facs (l++[m]))),rv,pv]]⟩:=by rw [s3 _ (by omega)];exact eG
   have k5:=lt_of_some z5
   simp only at hres
   rw [show (facs (l++[m])).map (pwr m)++List.replicate l.length 0=t0r l m from rfl] at s4
   cases hrf:redF (Z.map Rf.m) P 0 (t0r l m) with
   | none=>
    rw [hrf] at s4 hres
    replace s4:r=.tup [.snap true [],.int .i64 0,.bool false]:=s4
    replace hres:g=.err 3:=hres
    subst s4 hres
    (repeat' (first | (refine Rn.go ?_;conv=>whnf) | refine .mk ?_ | refine .tt ?_ | refine .ff ?_ | refine .m2 ?_ | refine .m3 ?_ | refine .mk (fun hc=>?_) fun hc=>?_ | refine .lp fun v H lp=>?_ | fail))
    refine .mk ?_ (resC_cellN (T:=T6) rfl (List.getElem?_set_self k5) rfl rfl rfl rfl)
    refine Rn.go ?_
    exact ⟨s1.set _ (by simp) rfl,by simp;omega,fun j hj=>by rw [List.getElem?_set_ne (by omega),s3 j (by omega)];exact fGH j hj,rfl⟩
   | some x=>
    obtain ⟨t,c⟩:=x
    rw [hrf] at s4 hres
    replace hres:g=.ok (Z.map Rf.m) P t c:=hres
    subst hres
    obtain ⟨v,rfl,o,f⟩:=s4
    (repeat' (first | (refine Rn.go ?_;conv=>whnf) | refine .mk ?_ | refine .tt ?_ | refine .ff ?_ | refine .m2 ?_ | refine .m3 ?_ | refine .mk (fun hc=>?_) fun hc=>?_ | refine .lp fun v H lp=>?_ | fail))
    rw [hcx]
    conv=>whnf
    (repeat' (first | (refine Rn.go ?_;conv=>whnf) | refine .mk ?_ | refine .tt ?_ | refine .ff ?_ | refine .m2 ?_ | refine .m3 ?_ | refine .mk (fun hc=>?_) fun hc=>?_ | refine .lp fun v H lp=>?_ | fail))
    refine .mk ?_ (resC_cellN (T:=T6) rfl (List.getElem?_set_self k5) rfl rfl rfl rfl)
    refine Rn.go ?_
    have far:∀ i,H.length<i→(h5.set H.length ⟨.m,0,3,[.agg [.snap false (encs (facs (l++[m]))),rv,pv]]⟩)[i]?=h5[i]?:=fun i hi=>List.getElem?_set_ne (by omega)
    have hvh:∀ i∈vid rv++vid pv,i<h4.length∧H.length<i:=fun i hi=>by
     have h1:=a7 i hi
     rcases List.mem_append.1 hi with hi | hi
     ·exact ⟨a1.vlt i hi,by omega⟩
     ·exact ⟨a5.vlt i hi,by omega⟩
    have hvv:∀ i∈vid v,G.length≤i:=fun i hi=>o.vge f i hi
    refine ⟨s1.set _ (by simp) ?_,by simp;omega,fun j hj=>by rw [List.getElem?_set_ne (by omega),s3 j (by omega)];exact fGH j hj,rv,pv,v,Z,rfl,⟨?_,fun z hz=>?_,rfl,a4,?_,?_,fun i hi=>?_⟩⟩
    ·show visRs _ [.agg [.snap false (encs (facs (l++[m]))),rv,pv]]=true
     simp only [visRs,visR,Bool.and_true,Bool.true_and,Bool.and_eq_true]
     exact ⟨visR_imp (f:=fun i=>decide (i<G.length)) (fun i hi=>by have:=of_decide_eq_true hi;exact decide_eq_true (by omega)) _ a1G.visR,visR_imp (f:=fun i=>decide (i<G.length)) (fun i hi=>by have:=of_decide_eq_true hi;exact decide_eq_true (by omega)) _ a5G.visR⟩
    ·exact a1G.of_eq fun i hi=>by
      have:=hvh i (by simp [hi])
      rw [far i this.2,s3 i (by omega)]
    ·obtain ⟨q1,q2⟩:=a2G z hz
     refine ⟨?_,q2⟩
     have hzr:z.i≠H.length:=fun hh=>by
      rw [hh,zG] at q1
      simp at q1
     rw [List.getElem?_set_ne (Ne.symm hzr),s3 z.i (lt_of_some q1)];exact q1
    ·exact a5G.of_eq fun i hi=>by
      have:=hvh i (by simp [hi])
      rw [far i this.2,s3 i (by omega)]
    ·exact o.of_eq fun i hi=>far i (by have:=hvv i hi;omega)
    ·simp only [List.mem_append] at hi
     rcases hi with hi | hi | hi
     ·have:=hvh i (by simp [hi]);omega
     ·have:=hvh i (by simp [hi]);omega
     ·have:=hvv i hi;omega
end Go.Pm
end
section
set_option maxRecDepth 4000
namespace Go.Pm
open Go.Proofs
theorem redF_small {S:List Row}:∀ {P:List Int} {c:Nat} {t t':List Int} {c':Int},small t=true→redF S P c t=some (t',c')→small t'=true
 | [],c,t,t',c',hs,hr=>by simp only [redF,Option.some.injEq,Prod.mk.injEq] at hr;rw [← hr.1];exact hs
 | i::P,c,t,t',c',hs,hr=>by
  rw [redF] at hr
  split at hr
  ·exact redF_small hs hr
  split at hr
  ·simp only [Option.some.injEq,Prod.mk.injEq] at hr;rw [← hr.1];exact hs
  split at hr
  ·simp only [Option.some.injEq,Prod.mk.injEq] at hr;rw [← hr.1];exact hs
  split at hr
  ·rename_i h;exact redF_small h hr
  ·cases hr
theorem t0r_small {l:List (List Pw)} {m:List Pw} (h:gErr (l++[m])=0):small (t0r l m)=true:=by
 unfold t0r
 rw [small_app,Bool.and_eq_true]
 refine ⟨?_,?_⟩
 ·rw [small,List.all_map,List.all_eq_true]
  intro t _
  have h2:=validP_zero (gErr_zero h m (by simp))
  have:=pwr_bd (by omega) h2.2.1 t
  show smallI _=true
  unfold smallI;rw [decide_eq_true_eq];omega
 ·rw [small,List.all_eq_true]
  intro y hy
  rw [List.eq_of_mem_replicate hy];rfl
theorem t0r_len (l:List (List Pw)) (m:List Pw):(t0r l m).length=(facs (l++[m])).length+l.length:=by simp [t0r]
theorem givR_t {l:List (List Pw)} {m:List Pw} {S:List Row} {P t:List Int} {c:Int} (h:GivR l m (.ok S P t c)):gErr (l++[m])=0∧(facs (l++[m])).length≤12∧t.length=(facs (l++[m])).length+l.length∧small t=true∧EInv ((facs (l++[m])).length+l.length) (facs (l++[m])).length S P∧(c=-1∨∃ e:Nat,c=e∧e<(facs (l++[m])).length):=by
 cases h with
 | ok h1 h2 h3 h4=>
  have hi:=EInv.el h3 (row0s_inv l m) _ _ rfl
  obtain ⟨a,b,c1,d⟩:=red_ok hi P 0 _ t c rfl (t0r_len l m) (by simp) h4
  refine ⟨h1,h2,a,redF_small (t0r_small h1) h4,hi,?_⟩
  by_cases hc:c=-1
  ·exact .inl hc
  ·obtain ⟨e,e1,e2,_⟩:=d hc;exact .inr ⟨e,e1,e2⟩
theorem givPost_fr {l:List (List Pw)} {m:List Pw} {H h:AHeap} {g:Giv} {r:PV} (p:givPost l m H g r h) (hb:belowR H.length r=true):givPost l m H g r (h.take H.length):=by
 cases g with
 | err e=>exact p
 | ok S P t c=>
  obtain ⟨rv,pv,v,Z,rfl,q⟩:=p
  simp only [belowR,belowA,List.all_cons,List.all_nil,Bool.and_true,Bool.and_eq_true] at hb
  have hbv:below1 H.length v=true:=by
   have h3:=hb.2.1
   rcases q.et with ⟨rfl,_⟩ | ⟨id,ep,rfl,_⟩ <;> exact h3
  obtain ⟨rfl,b1⟩:=out_b1 q.er hb.1.2.1 (fun i hi=>q.nw i (by simp [hi]))
  obtain ⟨rfl,b2⟩:=out_b1 q.ep hb.1.2.2 (fun i hi=>q.nw i (by simp [hi]))
  obtain ⟨rfl,b3⟩:=out_b1 q.et hbv (fun i hi=>q.nw i (by simp [hi]))
  have hZ:Z=[]:=by cases Z with | nil=>rfl | cons z Z=>cases b1
  subst hZ
  exact ⟨_,_,_,[],rfl,.inl ⟨rfl,rfl⟩,by simp,q.eS,q.lZ,.inl ⟨rfl,b2⟩,.inl ⟨rfl,b3⟩,by simp [vid]⟩
attribute [local irreducible] thenQ blockQ loopQ bodyQ Ev EvOps CallEv FnEv EvD
def memE (g:Giv):Int:=match g with | .err e=>e | .ok _ _ _ c=>if 0≤c then 4 else 0
theorem rmem_fun (l:List (List Pw)) (m:List Pw) (g:Giv) (hl:l.length≤12) (hs:SmT (l++[m])) (hg:GivR l m g) :
  ∃ x,Fun C 21 [.snap false (encPPs l),.snap false (encPs m)] (.tup [x,.int .i64 (memE g)]):=by
 have hel:(encPPs l).length=l.length:=by simp
 have hgv:=given_ev [] HV.nil l m g hl hs hg
 cases g with
 | err e=>
  have he:e≠0:=by
   cases hg with
   | bad h=>exact h
   | wide=>decide
   | big=>decide
   | big2=>decide
  refine ⟨.snap false [],Fun.x T6 Tryz.func21 rfl ?_⟩
  (repeat' (first | (refine Rn.go ?_;conv=>whnf) | refine .mk ?_ | refine .tt ?_ | refine .ff ?_ | refine .m2 ?_ | refine .m3 ?_ | refine .mk (fun hc=>?_) fun hc=>?_ | refine .lp fun v H lp=>?_ | fail))
  refine .fr hgv (fun r h hr hb=>givPost_fr hr hb) (fun r h r1 r2 r3 r4=>?_)
  replace r4:r=_:=r4
  subst r4
  (repeat' (first | (refine Rn.go ?_;conv=>whnf) | refine .mk ?_ | refine .tt ?_ | refine .ff ?_ | refine .m2 ?_ | refine .m3 ?_ | refine .mk (fun hc=>?_) fun hc=>?_ | refine .lp fun v H lp=>?_ | fail))
  exact ⟨_,rfl,rfl⟩
 | ok S P t c=>
  obtain ⟨g1,g2,g3,g4,g5,g6⟩:=givR_t hg
  by_cases hc:0≤c
  ·refine ⟨.snap false [],Fun.x T6 Tryz.func21 rfl ?_⟩
   (repeat' (first | (refine Rn.go ?_;conv=>whnf) | refine .mk ?_ | refine .tt ?_ | refine .ff ?_ | refine .m2 ?_ | refine .m3 ?_ | refine .mk (fun hc=>?_) fun hc=>?_ | refine .lp fun v H lp=>?_ | fail))
   refine .fr hgv (fun r h hr hb=>givPost_fr hr hb) (fun r h r1 r2 r3 r4=>?_)
   obtain ⟨rv,pv,v,Z,rfl,q⟩:=r4
   have hrv:=q.er.oneC
   have hpv:=q.ep.oneC
   have hcx:(cells (PV.agg [.snap false (encs (facs (l++[m]))),rv,pv])).all oneC=true:=by
    show (true && (oneC rv && (oneC pv && true)))=true
    rw [hrv.1,hpv.1];rfl
   (repeat' (first | (refine Rn.go ?_;conv=>whnf) | refine .mk ?_ | refine .tt ?_ | refine .ff ?_ | refine .m2 ?_ | refine .m3 ?_ | refine .mk (fun hc=>?_) fun hc=>?_ | refine .lp fun v H lp=>?_ | fail))
   rw [hcx]
   conv=>whnf
   (repeat' (first | (refine Rn.go ?_;conv=>whnf) | refine .mk ?_ | refine .tt ?_ | refine .ff ?_ | refine .m2 ?_ | refine .m3 ?_ | refine .mk (fun hc=>?_) fun hc=>?_ | refine .lp fun v H lp=>?_ | fail))
   exact ⟨_,rfl,by simp [memE,hc,tupOf,nrm,nrms]⟩
  ·refine ⟨.snap false (encIs ((t.drop (facs (l++[m])).length).map Neg.neg)),Fun.x T6 Tryz.func21 rfl ?_⟩
   (repeat' (first | (refine Rn.go ?_;conv=>whnf) | refine .mk ?_ | refine .tt ?_ | refine .ff ?_ | refine .m2 ?_ | refine .m3 ?_ | refine .mk (fun hc=>?_) fun hc=>?_ | refine .lp fun v H lp=>?_ | fail))
   refine .fr hgv (fun r h hr hb=>givPost_fr hr hb) (fun r h r1 r2 r3 r4=>?_)
   obtain ⟨rv,pv,v,Z,rfl,q⟩:=r4
   have hrv:=q.er.oneC
   have hpv:=q.ep.oneC
   have hcx:(cells (PV.agg [.snap false (encs (facs (l++[m]))),rv,pv])).all oneC=true:=by
    show (true && (oneC rv && (oneC pv && true)))=true
    rw [hrv.1,hpv.1];rfl
   (repeat' (first | (refine Rn.go ?_;conv=>whnf) | refine .mk ?_ | refine .tt ?_ | refine .ff ?_ | refine .m2 ?_ | refine .m3 ?_ | refine .mk (fun hc=>?_) fun hc=>?_ | refine .lp fun v H lp=>?_ | fail))
   rw [hcx]
   conv=>whnf
   (repeat' (first | (refine Rn.go ?_;conv=>whnf) | refine .mk ?_ | refine .tt ?_ | refine .ff ?_ | refine .m2 ?_ | refine .m3 ?_ | refine .mk (fun hc=>?_) fun hc=>?_ | refine .lp fun v H lp=>?_ | fail))
   obtain ⟨n,hn⟩:∃ n,n=(facs (l++[m])).length:=⟨_,rfl⟩
   have hec:=encs_len (facs (l++[m]))
   have k1:=q.et
   have hG:HR (h++[(⟨.m,0,3,[.agg [.snap false (encs (facs (l++[m]))),rv,pv]]⟩:AObj)]):=by
    refine r1.app1 (by simp) ?_
    simp only [visRs,visR,Bool.and_true,Bool.true_and,Bool.and_eq_true]
    exact ⟨visR_imp (f:=fun i=>decide (i<h.length)) (fun i hi=>by have:=of_decide_eq_true hi;exact decide_eq_true (by omega)) _ q.er.visR,visR_imp (f:=fun i=>decide (i<h.length)) (fun i hi=>by have:=of_decide_eq_true hi;exact decide_eq_true (by omega)) _ q.ep.visR⟩
   refine LpX.zip T6 l (fun a b L H=>∃ w,L=[(0,.snap false (encPPs l)),(6,.ptr h.length 0 0 0),(7,v),(10,w),(11,.int .i64 a.length)]∧HR H∧h.length<H.length∧(∀ j,j≤h.length→H[j]?=(h++[(⟨.m,0,3,[.agg [.snap false (encs (facs (l++[m]))),rv,pv]]⟩:AObj)])[j]?)∧Out 1 H w (encIs (((t.drop (facs (l++[m])).length).take a.length).map Neg.neg))∧∀ j ep n,w=.mref j ep 0 n→h.length<j) (.nx ⟨_,rfl,hG,by simp,fun _ _=>rfl,.inl ⟨rfl,by simp [encIs]⟩,by simp⟩) ?_ ?_
   ·rintro a x b _ H ρ e ⟨w,rfl,hH,k2,k3,k4,k5⟩
    have hl2:=congrArg List.length e
    simp only [List.length_append,List.length_cons] at hl2
    have hlt:(facs (l++[m])).length+a.length<t.length:=by omega
    have k1':Out 1 H v (encIs t):=k1.of_eq fun i hi=>by rw [k3 i (by have:=k1.vlt i hi;omega),List.getElem?_append_left (k1.vlt i hi)]
    obtain ⟨iv,ev,rfl,ev2⟩:∃ iv ev,v=.mref iv ev 0 t.length∧H[iv]?=some ⟨.m,ev,1,encIs t⟩:=by
     rcases k1' with ⟨_,h0⟩ | ⟨iv,ev,q1,q2⟩
     ·have:=congrArg List.length h0;rw [encIs_len,List.length_nil] at this;omega
     ·exact ⟨iv,ev,by rw [q1];simp,q2⟩
    have het:(encIs t).length=t.length:=by simp
    have hav:=nthI (a:=t) (c:=(facs (l++[m])).length+a.length) hlt
    have hav2:(encIs t)[0+((encs (facs (l++[m]))).length+a.length)]?=some (.int .i64 (atR t ((facs (l++[m])).length+a.length))):=by rw [hec];exact hav
    have hvs:=of_decide_eq_true (List.all_eq_true.1 g4 (atR t ((facs (l++[m])).length+a.length)) (List.mem_of_getElem? (i:=(facs (l++[m])).length+a.length) (by simp [atR,List.getD,List.getElem?_eq_getElem hlt])))
    have hb6:H[h.length]?=some ⟨.m,0,3,[.agg [.snap false (encs (facs (l++[m]))),rv,pv]]⟩:=by rw [k3 _ (Nat.le_refl _)];simp
    have hsn:(((t.drop (facs (l++[m])).length).take (a++[x]).length).map Neg.neg)=(((t.drop (facs (l++[m])).length).take a.length).map Neg.neg)++[-(atR t ((facs (l++[m])).length+a.length))]:=by
     rw [List.length_append,List.length_singleton,List.take_add_one,List.getElem?_drop,List.getElem?_eq_getElem hlt]
     simp [atR,List.getD,List.getElem?_eq_getElem hlt]
    have hln:(encIs (((t.drop (facs (l++[m])).length).take a.length).map Neg.neg)).length=a.length:=by simp;omega
    (repeat' (first | (refine Rn.go ?_;conv=>whnf) | refine .mk ?_ | refine .tt ?_ | refine .ff ?_ | refine .m2 ?_ | refine .m3 ?_ | refine .mk (fun hc=>?_) fun hc=>?_ | refine .lp fun v H lp=>?_ | fail))
    refine .lr (fun w' H' lr=>?_)
    have lo:=lr.out
    have lh:=lr.hr
    have ll:=lr.len
    have lf:∀ j,j≤h.length→H'[j]?=H[j]?:=fun j hj=>lr.fr j (by omega) (fun ep n hh=>by have:=k5 j ep n hh;omega)
    have lv:∀ j ep n,w'=.mref j ep 0 n→h.length<j:=fun j ep n hh=>by
     rcases lr.ref j ep n hh with ⟨ep',n',h4⟩ | h4
     ·exact k5 j ep' n' h4
     ·omega
    clear lr
    (repeat' (first | (refine Rn.go ?_;conv=>whnf) | refine .mk ?_ | refine .tt ?_ | refine .ff ?_ | refine .m2 ?_ | refine .m3 ?_ | refine .mk (fun hc=>?_) fun hc=>?_ | refine .lp fun v H lp=>?_ | fail))
    exact .nx ⟨w',rfl,lh,by omega,fun j hj=>by rw [lf j hj];exact k3 j hj,by rw [hsn];simpa [encIs] using lo,lv⟩
   ·rintro _ H ρ ⟨w,rfl,hH,k2,k3,k4,k5⟩
    (repeat' (first | (refine Rn.go ?_;conv=>whnf) | refine .mk ?_ | refine .tt ?_ | refine .ff ?_ | refine .m2 ?_ | refine .m3 ?_ | refine .mk (fun hc=>?_) fun hc=>?_ | refine .lp fun v H lp=>?_ | fail))
    obtain ⟨r1,e1,e2⟩:=k4.rbA (encIs_vals _)
    rw [List.take_of_length_le (by simp;omega)] at e2
    refine ⟨.tup [r1,.int .i64 0],?_,?_⟩
    ·show (rbAs H [w,.int .i64 0]).map PV.tup=_
     rw [rbAs,e1];rfl
    ·simp [nrm,nrms,e2,memE,hc]
end Go.Pm
end
