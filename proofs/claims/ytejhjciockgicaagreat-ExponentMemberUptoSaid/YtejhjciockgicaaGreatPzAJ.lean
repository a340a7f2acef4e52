/-
  A part of the library Pm and its contracts (joined by program): PmEl3 PmPof PmSt0 PmSt1 PmDv PmEr1 PmEr2. Conditions: none.
-/
import Derived.Test.YtejhjciockgicaaGreatPzAI
import Derived.Test.YtejhjciockgicaaGreatPzAD
import Derived.Test.YtejhjciockgicaaGreatPzAG
set_option linter.unusedVariables false
set_option linter.unusedSimpArgs false
section
set_option maxRecDepth 4000
namespace Go.Pm
open Go.Proofs
theorem Lay.other {h h':AHeap} {x:Nat} {cv rv pv:PV} {n k:Nat} {Rs:List Rw} {P:List Int} {lg lg':Bool} (L:Lay h x cv rv pv n k Rs P lg) (hr:HR h') (he:∀ i∈Lay.all x rv pv Rs,i≠x→h'[i]?=h[i]?) (ex:h'[x]?=some ⟨.m,0,4,[.agg [cv,rv,pv,.bool lg']]⟩) :
  Lay h' x cv rv pv n k Rs P lg':=by
 have nx:∀ i,i∈vid rv++(vid pv++Rs.flatMap Rw.ids)→i≠x:=fun i hi hh=>(List.nodup_cons.1 L.nd).1 (hh ▸ hi)
 refine ⟨hr,ex,L.er.of_eq fun i hi=>?_,L.ep.of_eq fun i hi=>?_,fun R hR=>⟨(L.at_ R hR).1.of_eq fun i hi=>?_,(L.at_ R hR).2⟩,L.nd⟩
 ·exact he i (by simp [Lay.all,hi]) (nx i (by simp [hi]))
 ·exact he i (by simp [Lay.all,hi]) (nx i (by simp [hi]))
 ·have hm:i∈Rs.flatMap Rw.ids:=List.mem_flatMap.2 ⟨R,hR,hi⟩
  exact he i (by simp only [Lay.all,List.mem_cons,List.mem_append];exact .inr (.inr (.inr hm))) (nx i (by simp only [List.mem_append];exact .inr (.inr hm)))
def PvOk (S:List Row) (P:List Int):Prop:=∀ (c:Nat) (i:Int),P[c]?=some i→-1≤i∧(0≤i→∃ b u,S[i.toNat]?=some (b,u)∧atR b c≠0)
theorem rowAt_of {S:List Row} {i:Int} {b:List Int} {u:Bool} (h:S[i.toNat]?=some (b,u)):rowAt S i=b:=by simp [rowAt,h]
attribute [local irreducible] thenQ blockQ loopQ bodyQ Ev EvOps CallEv FnEv EvD
theorem reduce_ev (n k x rr re pi pe:Nat) (f:Bool) (cs:List PV) (H:AHeap) (Rs:List Rw) (P:List Int) (T:Rw) (hL:Lay H x (.snap f cs) (.mref rr re 0 Rs.length) (.mref pi pe 0 P.length) n k Rs P false) (hT:RwAt H T) (hTd:∀ i∈T.ids,i∉Lay.all x (.mref rr re 0 Rs.length) (.mref pi pe 0 P.length) Rs) (hTn:T.ids.Nodup)
  (lTa:T.a.length=n) (lTb:T.b.length=k) (hP:P.length=n) (hcs:cs.length=n) (hpv:PvOk (Rs.map Rw.m) P) (hn:n<1000) (hk:k<1000) (hRl:Rs.length<1000) (hsm:∀ R∈Rs,small R.a=true∧small R.b=true) (hsT:small T.a=true∧small T.b=true) :
  FnEv C 96 [.ptr x 0 0 0,.ptr T.r 0 0 0] H (fun r h'=>Frm H h' (Lay.all x (.mref rr re 0 Rs.length) (.mref pi pe 0 P.length) Rs++T.ids)∧∃ T' lg at_,r=.int .i64 at_∧Lay h' x (.snap f cs) (.mref rr re 0 Rs.length) (.mref pi pe 0 P.length) n k Rs P lg∧RwAt h' T'∧T'.ids=T.ids∧T'.u=T.u∧T'.a.length=n∧T'.b.length=k ∧
   match redF (Rs.map Rw.m) P 0 (T.a++T.b) with
   | none=>lg=true∧at_=-1
   | some (t',c')=>lg=false∧at_=c'∧T'.a++T'.b=t'∧small T'.a=true∧small T'.b=true):=by
 refine FnEv.x T6 Tryz.func96 rfl ?_
 have ex0:=hL.ex
 (repeat' (first | (refine Rn.go ?_;conv=>whnf) | refine .mk ?_ | refine .tt ?_ | refine .ff ?_ | refine .m2 ?_ | refine .m3 ?_ | refine .mk (fun hc=>?_) fun hc=>?_ | refine .lp fun v H lp=>?_ | fail))
 rw [hcs]
 refine LpX.zip T6 P (fun p q L h=>∃ U:Rw,L=[(0,.ptr x 0 0 0),(1,.ptr T.r 0 0 0),(12,.int .i64 n),(13,.int .i64 p.length)]∧Frm H h (Lay.all x (.mref rr re 0 Rs.length) (.mref pi pe 0 P.length) Rs++T.ids)∧Lay h x (.snap f cs) (.mref rr re 0 Rs.length) (.mref pi pe 0 P.length) n k Rs P false∧RwAt h U∧U.ids=T.ids∧U.u=T.u∧U.a.length=n∧U.b.length=k∧small U.a=true∧small U.b=true ∧
  redF (Rs.map Rw.m) P 0 (T.a++T.b)=redF (Rs.map Rw.m) q p.length (U.a++U.b)) (.nx ⟨T,rfl,Frm.refl _ _,hL,hT,rfl,rfl,lTa,lTb,hsT.1,hsT.2,rfl⟩) ?_ ?_
 ·rintro p i q _ h ρ e ⟨U,rfl,hlen,L,hU,hid,huu,la,lb,sa,sb,hred⟩
  have hl2:=congrArg List.length e
  simp only [List.length_append,List.length_cons] at hl2
  obtain ⟨e1,e2,e3⟩:=hU
  have hUr:U.r=T.r:=by have:=congrArg List.head? hid;simpa [Rw.ids] using this
  rw [hUr] at e1
  have ex:=L.ex
  have epv:=L.pivs.2
  have er:=L.rows.2
  have hR:=L.hr
  have hav:=nthI (a:=U.a) (c:=p.length) (by omega)
  have hea:(encIs U.a).length=U.a.length:=by simp
  have hPl:(encIs P).length=P.length:=by simp
  have hPat:(encIs P)[0+p.length]?=some (.int .i64 i):=by rw [e];simp [encIs]
  have hpi:=hpv p.length i (by rw [e];simp)
  have hat:atR (U.a++U.b) p.length=atR U.a p.length:=atR_app (by omega)
  rw [redF,hat] at hred
  by_cases hz:atR U.a p.length=0
  ·rw [if_pos hz] at hred
   (repeat' (first | (refine Rn.go ?_;conv=>whnf) | refine .mk ?_ | refine .tt ?_ | refine .ff ?_ | refine .m2 ?_ | refine .m3 ?_ | refine .mk (fun hc=>?_) fun hc=>?_ | refine .lp fun v H lp=>?_ | fail))
   exact .nx ⟨U,rfl,hlen,L,⟨by rw [hUr];exact e1,e2,e3⟩,hid,huu,la,lb,sa,sb,by rw [hred];simp⟩
  rw [if_neg hz] at hred
  by_cases hi:i<0
  ·rw [if_pos hi] at hred
   (repeat' (first | (refine Rn.go ?_;conv=>whnf) | refine .mk ?_ | refine .tt ?_ | refine .ff ?_ | refine .m2 ?_ | refine .m3 ?_ | refine .mk (fun hc=>?_) fun hc=>?_ | refine .lp fun v H lp=>?_ | fail))
   exact ⟨hlen,U,false,p.length,rfl,L,⟨by rw [hUr];exact e1,e2,e3⟩,hid,huu,la,lb,by rw [hred];exact ⟨rfl,rfl,rfl,sa,sb⟩⟩
  rw [if_neg hi] at hred
  obtain ⟨b,u,hb,hbz⟩:=hpi.2 (by omega)
  obtain ⟨B,hB,hBm⟩:∃ B,Rs[i.toNat]?=some B∧B.m=(b,u):=by
   rw [List.getElem?_map] at hb
   cases hB:Rs[i.toNat]? with
   | none=>rw [hB] at hb;cases hb
   | some B=>rw [hB] at hb;exact ⟨B,rfl,by simpa using hb⟩
  have hBin:=List.mem_of_getElem? hB
  have hBlt:=lt_of_some hB
  obtain ⟨⟨f1,f2,f3⟩,b1,b2⟩:=L.at_ B hBin
  have hbeq:b=B.a++B.b:=congrArg Prod.fst hBm.symm
  have hBv2:atR b p.length=atR B.a p.length:=by rw [hbeq];exact atR_app (by omega)
  have hBz:atR B.a p.length≠0:=by rw [← hBv2];exact hbz
  have hBv:=nthI (a:=B.a) (c:=p.length) (by omega)
  have hBa:(encIs B.a).length=B.a.length:=by simp
  have hatB:(Rs.map Rw.ptr)[0+i.toNat]?=some (.ptr B.r 0 0 0):=by rw [Nat.zero_add,List.getElem?_map,hB];rfl
  have hrl:(Rs.map Rw.ptr).length=Rs.length:=by simp
  rw [rowAt_of hb,hBv2] at hred
  by_cases hd:(atR U.a p.length).tmod (atR B.a p.length)=0
  rotate_left
  ·rw [if_pos hd] at hred
   (repeat' (first | (refine Rn.go ?_;conv=>whnf) | refine .mk ?_ | refine .tt ?_ | refine .ff ?_ | refine .m2 ?_ | refine .m3 ?_ | refine .mk (fun hc=>?_) fun hc=>?_ | refine .lp fun v H lp=>?_ | fail))
   exact ⟨hlen,U,false,p.length,rfl,L,⟨by rw [hUr];exact e1,e2,e3⟩,hid,huu,la,lb,by rw [hred];exact ⟨rfl,rfl,rfl,sa,sb⟩⟩
  rw [if_neg (by simpa using hd)] at hred
  have hUids:U.r=T.r∧U.p=T.p∧U.c=T.c:=by simpa [Rw.ids] using hid
  have hBids:∀ i∈B.ids,i∈Lay.all x (.mref rr re 0 Rs.length) (.mref pi pe 0 P.length) Rs:=fun i hi=>by
   simp only [Lay.all,List.mem_cons,List.mem_append,List.mem_flatMap];exact .inr (.inr (.inr ⟨B,hBin,hi⟩))
  have apB:B.ids.Nodup∧∀ i∈B.ids,i≠x:=by
   obtain ⟨X1,X2,hX⟩:=List.append_of_mem hBin
   have L'':=L
   rw [hX] at L''
   obtain ⟨y1,y2,_⟩:=L''.apart
   exact ⟨y1,fun i hi=>(y2 i hi).1⟩
  have hxin:x∈Lay.all x (.mref rr re 0 Rs.length) (.mref pi pe 0 P.length) Rs:=by simp [Lay.all]
  have hnd:[x,U.p,U.c,B.p,B.c].Nodup:=by
   have y1:=apB.1
   have z3:=apB.2 B.p (by simp [Rw.ids])
   have z4:=apB.2 B.c (by simp [Rw.ids])
   have w1:=hTd T.p (by simp [Rw.ids])
   have w2:=hTd T.c (by simp [Rw.ids])
   have v1:T.p≠x:=fun hh=>w1 (hh ▸ hxin)
   have v2:T.c≠x:=fun hh=>w2 (hh ▸ hxin)
   have v3:T.p≠B.p:=fun hh=>w1 (hh ▸ hBids B.p (by simp [Rw.ids]))
   have v4:T.p≠B.c:=fun hh=>w1 (hh ▸ hBids B.c (by simp [Rw.ids]))
   have v5:T.c≠B.p:=fun hh=>w2 (hh ▸ hBids B.p (by simp [Rw.ids]))
   have v6:T.c≠B.c:=fun hh=>w2 (hh ▸ hBids B.c (by simp [Rw.ids]))
   rw [hUids.2.1,hUids.2.2]
   simp only [Rw.ids,List.nodup_cons,List.mem_cons,List.not_mem_nil,or_false,not_or,not_false_eq_true,and_true,List.nodup_nil] at y1 hTn ⊢
   exact ⟨⟨fun h=>v1 h.symm,fun h=>v2 h.symm,fun h=>z3 h.symm,fun h=>z4 h.symm⟩,⟨hTn.2,v3,v4⟩,⟨v5,v6⟩,y1.2⟩
  have hvs:=of_decide_eq_true (List.all_eq_true.1 sa (atR U.a p.length) (List.mem_of_getElem? (i:=p.length) (by simp [atR,List.getD,List.getElem?_eq_getElem (show p.length<U.a.length by omega)])))
  have hqs:smallI ((atR U.a p.length).tdiv (atR B.a p.length))=true:=by
   have:((atR U.a p.length).tdiv (atR B.a p.length)).natAbs≤(atR U.a p.length).natAbs:=by rw [Int.natAbs_tdiv];exact Nat.div_le_self _ _
   unfold smallI;rw [decide_eq_true_eq];omega
  have hqb:=of_decide_eq_true hqs
  obtain ⟨sB1,sB2⟩:=hsm B hBin
  have hsub:=subt_ev h hR x T.r U.p U.c B.r B.p B.c B.u U.u U.a U.b B.a B.b (.snap f cs) (.mref rr re 0 Rs.length) (.mref pi pe 0 P.length) ((atR U.a p.length).tdiv (atR B.a p.length)) ex e1 e2 e3 f1 f2 f3 (by omega) (by omega) (by omega) (by omega) hnd sa sb sB1 sB2 hqs
  have hsubL:subL (U.a++U.b) b ((atR U.a p.length).tdiv (atR B.a p.length))=subL U.a B.a ((atR U.a p.length).tdiv (atR B.a p.length))++subL U.b B.b ((atR U.a p.length).tdiv (atR B.a p.length)):=by rw [hbeq,subL_app (by omega)]
  rw [hsubL,small_app] at hred
  have kx:=lt_of_some ex
  have kp:=lt_of_some e2
  have kc:=lt_of_some e3
  have kr:=lt_of_some e1
  have fin2:∀ h3 K:AHeap,(HR h3∧(∀ j,j<h.length→j≠x→j≠U.p→j≠U.c→h3[j]?=h[j]?) ∧
    ∃ A1' A2' lg,lg = !(small (subL U.a B.a ((atR U.a p.length).tdiv (atR B.a p.length))) && small (subL U.b B.b ((atR U.a p.length).tdiv (atR B.a p.length))))∧A1'.length=U.a.length∧A2'.length=U.b.length∧(lg=false→A1'=subL U.a B.a ((atR U.a p.length).tdiv (atR B.a p.length))∧A2'=subL U.b B.b ((atR U.a p.length).tdiv (atR B.a p.length))) ∧
     h3[x]?=some ⟨.m,0,4,[.agg [.snap f cs,.mref rr re 0 Rs.length,.mref pi pe 0 P.length,.bool lg]]⟩∧h3[U.p]?=some ⟨.m,0,1,encIs A1'⟩∧h3[U.c]?=some ⟨.m,0,1,encIs A2'⟩)→HR K→h.length≤K.length→(∀ j,j<h.length→K[j]?=h3[j]?) →
    ∃ (V:Rw) (lg:Bool),Frm h K (Lay.all x (.mref rr re 0 Rs.length) (.mref pi pe 0 P.length) Rs++T.ids)∧Lay K x (.snap f cs) (.mref rr re 0 Rs.length) (.mref pi pe 0 P.length) n k Rs P lg∧RwAt K V∧V.ids=T.ids∧V.u=T.u∧V.a.length=n∧V.b.length=k∧K[x]?=some ⟨.m,0,4,[.agg [.snap f cs,.mref rr re 0 Rs.length,.mref pi pe 0 P.length,.bool lg]]⟩ ∧
     (lg=false→small V.a=true∧small V.b=true∧redF (Rs.map Rw.m) P 0 (T.a++T.b)=redF (Rs.map Rw.m) q (p.length+1) (V.a++V.b))∧(lg=true→redF (Rs.map Rw.m) P 0 (T.a++T.b)=none):=by
   rintro h3 K ⟨_,t1,A1',A2',lg,t2,t3,t4,t5,t6,t7,t8⟩ hK hl agr
   have hxK:K[x]?=some ⟨.m,0,4,[.agg [.snap f cs,.mref rr re 0 Rs.length,.mref pi pe 0 P.length,.bool lg]]⟩:=by rw [agr x kx];exact t6
   have ltL:=L.lt
   refine ⟨{U with a:=A1',b:=A2' },lg,⟨hl,fun j h1 h2=>by
    rw [agr j h1]
    refine t1 j h1 (fun hh=>h2 (by simp [Lay.all,hh])) (fun hh=>h2 ?_) (fun hh=>h2 ?_)
    ·rw [hh,hUids.2.1];simp [Rw.ids]
    ·rw [hh,hUids.2.2];simp [Rw.ids]⟩,L.other hK (fun i hi hix=>?_) hxK,⟨?_,by rw [agr _ kp];exact t7,by rw [agr _ kc];exact t8⟩,by simpa [Rw.ids] using hid,huu,by show A1'.length=n;omega,by show A2'.length=k;omega,hxK,fun hlg=>?_,fun hlg=>?_⟩
   ·rw [agr i (ltL i hi)]
    refine t1 i (ltL i hi) hix ?_ ?_
    ·rintro rfl;rw [hUids.2.1] at hi;exact hTd T.p (by simp [Rw.ids]) hi
    ·rintro rfl;rw [hUids.2.2] at hi;exact hTd T.c (by simp [Rw.ids]) hi
   ·show K[U.r]?=some ⟨.m,0,3,[.agg [.mref U.p 0 0 A1'.length,.mref U.c 0 0 A2'.length,.bool U.u]]⟩
    rw [t3,t4,hUr,agr _ kr,t1 T.r kr]
    ·exact e1
    ·exact fun hh=>hTd T.r (by simp [Rw.ids]) (hh ▸ hxin)
    ·rw [hUids.2.1];simp only [Rw.ids,List.nodup_cons,List.mem_cons,List.not_mem_nil,or_false,not_or] at hTn;exact hTn.1.1
    ·rw [hUids.2.2];simp only [Rw.ids,List.nodup_cons,List.mem_cons,List.not_mem_nil,or_false,not_or] at hTn;exact hTn.1.2
   ·subst hlg
    obtain ⟨u1,u2⟩:=t5 rfl
    subst u1 u2
    have t2':small (subL U.a B.a ((atR U.a p.length).tdiv (atR B.a p.length)))=true∧small (subL U.b B.b ((atR U.a p.length).tdiv (atR B.a p.length)))=true:=by simpa using t2
    exact ⟨t2'.1,t2'.2,by rw [hred,t2'.1,t2'.2];rfl⟩
   ·rw [hlg] at t2
    cases hx:(small (subL U.a B.a ((atR U.a p.length).tdiv (atR B.a p.length))) && small (subL U.b B.b ((atR U.a p.length).tdiv (atR B.a p.length))))
    ·rw [hred,hx];rfl
    ·rw [hx] at t2;cases t2
  (repeat' (first | (refine Rn.go ?_;conv=>whnf) | refine .mk ?_ | refine .tt ?_ | refine .ff ?_ | refine .m2 ?_ | refine .m3 ?_ | refine .mk (fun hc=>?_) fun hc=>?_ | refine .lp fun v H lp=>?_ | fail))
  refine .sm hsub (fun r h3 hr=>⟨hr.2.2.1,hr.2.1⟩) (fun r h3 hr=>?_) (fun r h3 hr hR3=>?_)
  ·obtain ⟨rfl,r1,r2,r3,r4⟩:=hr
   obtain ⟨V,lg,s0,s1,s2,s3,s4,s5,s6,s7,s8,s9⟩:=fin2 h3 h3 ⟨r2,r3,r4⟩ r2 r1 (fun _ _=>rfl)
   cases lg
   ·obtain ⟨v1,v2,v3⟩:=s8 rfl
    (repeat' (first | (refine Rn.go ?_;conv=>whnf) | refine .mk ?_ | refine .tt ?_ | refine .ff ?_ | refine .m2 ?_ | refine .m3 ?_ | refine .mk (fun hc=>?_) fun hc=>?_ | refine .lp fun v H lp=>?_ | fail))
    exact .nx ⟨V,rfl,hlen.trans s0,s1,s2,s3,s4,s5,s6,v1,v2,by rw [v3];simp⟩
   ·have v3:=s9 rfl
    (repeat' (first | (refine Rn.go ?_;conv=>whnf) | refine .mk ?_ | refine .tt ?_ | refine .ff ?_ | refine .m2 ?_ | refine .m3 ?_ | refine .mk (fun hc=>?_) fun hc=>?_ | refine .lp fun v H lp=>?_ | fail))
    exact ⟨hlen.trans s0,V,true,-1,rfl,s1,s2,s3,s4,s5,s6,by rw [v3];exact ⟨rfl,rfl⟩⟩
  ·obtain ⟨rfl,r1,r2,r3,r4⟩:=hr
   have hlt:h.length≤(h3.take h.length).length:=by simp;omega
   obtain ⟨V,lg,s0,s1,s2,s3,s4,s5,s6,s7,s8,s9⟩:=fin2 h3 (h3.take h.length) ⟨r2,r3,r4⟩ hR3 hlt (fun j hj=>by rw [List.getElem?_take,if_pos hj])
   cases lg
   ·obtain ⟨v1,v2,v3⟩:=s8 rfl
    (repeat' (first | (refine Rn.go ?_;conv=>whnf) | refine .mk ?_ | refine .tt ?_ | refine .ff ?_ | refine .m2 ?_ | refine .m3 ?_ | refine .mk (fun hc=>?_) fun hc=>?_ | refine .lp fun v H lp=>?_ | fail))
    exact .nx ⟨V,rfl,hlen.trans s0,s1,s2,s3,s4,s5,s6,v1,v2,by rw [v3];simp⟩
   ·have v3:=s9 rfl
    (repeat' (first | (refine Rn.go ?_;conv=>whnf) | refine .mk ?_ | refine .tt ?_ | refine .ff ?_ | refine .m2 ?_ | refine .m3 ?_ | refine .mk (fun hc=>?_) fun hc=>?_ | refine .lp fun v H lp=>?_ | fail))
    exact ⟨hlen.trans s0,V,true,-1,rfl,s1,s2,s3,s4,s5,s6,by rw [v3];exact ⟨rfl,rfl⟩⟩
 ·rintro _ h ρ ⟨U,rfl,hlen,L,hU,hid,huu,la,lb,sa,sb,hred⟩
  rw [redF] at hred
  (repeat' (first | (refine Rn.go ?_;conv=>whnf) | refine .mk ?_ | refine .tt ?_ | refine .ff ?_ | refine .m2 ?_ | refine .m3 ?_ | refine .mk (fun hc=>?_) fun hc=>?_ | refine .lp fun v H lp=>?_ | fail))
  exact ⟨hlen,U,false,-1,rfl,L,hU,hid,huu,la,lb,by rw [hred];exact ⟨rfl,rfl,rfl,sa,sb⟩⟩
end Go.Pm
end
section
set_option maxRecDepth 4000
namespace Go.Pm
open Go.Proofs
theorem srt_lt {cs A B:List Tm} {u:Tm} (e:cs=A++u::B) (hs:SrtT cs) {m:Nat} {w:Tm} (hm:cs[m]?=some w):cmpT w u<0↔m<A.length:=by
 subst e
 have h:=List.pairwise_append.1 hs
 rcases Nat.lt_trichotomy m A.length with h1 | h1 | h1
 ·rw [List.getElem?_append_left h1] at hm
  exact ⟨fun _=>h1,fun _=>h.2.2 w (List.mem_of_getElem? hm) u (by simp)⟩
 ·subst h1
  simp at hm
  subst hm
  rw [cmpT_self]
  omega
 ·rw [List.getElem?_append_right (by omega)] at hm
  have h2:(u::B)[m - A.length]?=B[m - A.length - 1]?:=by
   rw [show m - A.length=(m - A.length - 1)+1 by omega];simp
  rw [h2] at hm
  have h3:=(List.pairwise_cons.1 h.2.1).1 w (List.mem_of_getElem? hm)
  have ng:=cmpT_neg u w
  omega
theorem pwr_snoc {p:List Pw} {u t:Tm} {n:Int} (h:cmpT u t≠0):pwr (p++[(u,n)]) t=pwr p t:=by
 induction p with
 | nil=>simp [pwr,h]
 | cons y p ih=>rw [List.cons_append,pwr,pwr,ih]
theorem set_pwr {cs A B:List Tm} {u:Tm} {p:List Pw} {n:Int} (e:cs=A++u::B) (hs:SrtT cs) (hp:∀ y∈p,cmpT y.1 u≠0):(encIs (cs.map (pwr p))).set A.length (.int .i64 n)=encIs (cs.map (pwr (p++[(u,n)]))):=by
 subst e
 have h:=List.pairwise_append.1 hs
 have hA:A.map (pwr p)=A.map (pwr (p++[(u,n)])):=List.map_congr_left fun t ht=>(pwr_snoc (by have:=h.2.2 t ht u (by simp);have:=cmpT_neg t u;omega)).symm
 have hB:B.map (pwr p)=B.map (pwr (p++[(u,n)])):=List.map_congr_left fun t ht=>(pwr_snoc (by have:=(List.pairwise_cons.1 h.2.1).1 t ht;omega)).symm
 have hu:pwr (p++[(u,n)]) u=n:=pwr_at (q:=[]) hp (cmpT_self u)
 simp only [encIs,List.map_append,List.map_cons,hA,hB,hu]
 rw [List.set_append_right _ _ (by simp)]
 simp
attribute [local irreducible] thenQ blockQ loopQ bodyQ Ev EvOps CallEv FnEv EvD
theorem binT_fun (cs A B:List Tm) (u:Tm) (e:cs=A++u::B) (hs:SrtT cs) (hl:cs.length<100000000) (hb:∀ t∈cs,bulk t<1000000000) :
  Fun C 88 [.snap false (encs cs),enc u,.fn 40 []] (.tup [.int .i64 A.length,.bool true]):=by
 have hle:A.length<cs.length:=by rw [e];simp
 have hel:=encs_len cs
 have hul:cs[A.length]?=some u:=by rw [e];simp
 have hub:bulk u<1000000000:=hb u (by rw [e];simp)
 have elem:∀ m,m<cs.length→∃ w,cs[m]?=some w∧(encs cs)[m]?=some (.agg [.int .i64 w.k,.str w.s,.int .i64 w.o,.snap false (encs w.l)])∧Fun C 40 [.agg [.int .i64 w.k,.str w.s,.int .i64 w.o,.snap false (encs w.l)],.agg [.int .i64 u.k,.str u.s,.int .i64 u.o,.snap false (encs u.l)]] (.int .i64 (cmpT w u)):=fun m hm=>by
  have h1:cs[m]?=some cs[m]:=List.getElem?_eq_getElem hm
  refine ⟨_,h1,nth_enc h1,?_⟩
  rw [← enc_x,← enc_x]
  exact tcmp_fun _ _ (hb _ (List.mem_of_getElem? h1)) hub
 have hif:∀ m w,cs[m]?=some w→(cmpT w u<0↔m<A.length):=fun m w hm=>srt_lt e hs hm
 have hz:=cmpT_self u
 generalize A.length=LB at *
 rw [enc_x]
 refine Fun.x T6 Tryz.func88 rfl ?_
 (repeat' (first | (refine Rn.go ?_;conv=>whnf) | refine .mk ?_ | refine .tt ?_ | refine .ff ?_ | refine .m2 ?_ | refine .m3 ?_ | refine .mk (fun hc=>?_) fun hc=>?_ | refine .lp fun v H lp=>?_ | fail))
 refine LpX.nat T6 (fun k L H=>∃ i j:Nat,L=[(0,.snap false (encs cs)),(2,.fn 40 []),(4,.ptr 0 0 0 0),(8,.int .i64 (encs cs).length),(9,.int .i64 i),(10,.int .i64 j)]∧H=[⟨.m,0,4,[.agg [.int .i64 u.k,.str u.s,.int .i64 u.o,.snap false (encs u.l)]]⟩]∧k=j - i∧i≤LB∧LB≤j∧j≤cs.length) cs.length (.nx ⟨0,(encs cs).length,rfl,rfl,by omega,by omega,by omega,by omega⟩) ?_
 rintro k _ _ ρ ⟨i,j,rfl,rfl,hk,i1,i2,i3⟩
 by_cases hij:i<j
 ·obtain ⟨m,hmm⟩:∃ m:Nat,((i:Int)+j) / 2=m:=⟨(i+j) / 2,by omega⟩
  obtain ⟨w,h1,hat,hcm⟩:=elem m (by omega)
  have hiff:=hif m _ h1
  (repeat' (first | (refine Rn.go ?_;conv=>whnf) | refine .mk ?_ | refine .tt ?_ | refine .ff ?_ | refine .m2 ?_ | refine .m3 ?_ | refine .mk (fun hc=>?_) fun hc=>?_ | refine .lp fun v H lp=>?_ | fail))
  refine .mk (n:=m) ?_ hmm hat
  (repeat' (first | (refine Rn.go ?_;conv=>whnf) | refine .mk ?_ | refine .tt ?_ | refine .ff ?_ | refine .m2 ?_ | refine .m3 ?_ | refine .mk (fun hc=>?_) fun hc=>?_ | refine .lp fun v H lp=>?_ | fail))
  refine .p hcm ?_
  (repeat' (first | (refine Rn.go ?_;conv=>whnf) | refine .mk ?_ | refine .tt ?_ | refine .ff ?_ | refine .m2 ?_ | refine .m3 ?_ | refine .mk (fun hc=>?_) fun hc=>?_ | refine .lp fun v H lp=>?_ | fail))
  ·exact .nx ⟨j - (m+1),by omega,m+1,j,rfl,rfl,rfl,by omega,by omega,by omega⟩
  ·exact .nx ⟨m - i,by omega,i,m,rfl,rfl,rfl,by omega,by omega,by omega⟩
 ·have hi:i=LB:=by omega
  subst hi
  obtain ⟨w,h1,hat,hcm⟩:=elem i hle
  rw [hul] at h1
  obtain rfl:=Option.some.inj h1
  rw [hz] at hcm
  (repeat' (first | (refine Rn.go ?_;conv=>whnf) | refine .mk ?_ | refine .tt ?_ | refine .ff ?_ | refine .m2 ?_ | refine .m3 ?_ | refine .mk (fun hc=>?_) fun hc=>?_ | refine .lp fun v H lp=>?_ | fail))
  refine .p hcm ?_
  (repeat' (first | (refine Rn.go ?_;conv=>whnf) | refine .mk ?_ | refine .tt ?_ | refine .ff ?_ | refine .m2 ?_ | refine .m3 ?_ | refine .mk (fun hc=>?_) fun hc=>?_ | refine .lp fun v H lp=>?_ | fail))
  all_goals exact ⟨_,rfl,by simp [tupOf,nrm,nrms, *]⟩
theorem pof_ev (cs:List Tm) (x:List Pw) (H:AHeap) (hH:HV H) (hs:SrtT cs) (hl:cs.length<100000000) (hb:∀ t∈cs,bulk t<1000000000) (hx:Srt x) (lx:x.length<100000000) (hm:∀ p∈x,p.1∈cs) :
  FnEv C 52 [.snap false (encs cs),.snap false (encPs x)] H (fun r h'=>r=.mref H.length 0 0 cs.length∧HV h'∧h'[H.length]?=some ⟨.m,0,1,encIs (cs.map (pwr x))⟩∧H.length≤h'.length∧∀ j,j<H.length→h'[j]?=H[j]?):=by
 have hel:=encs_len cs
 have helx:=encPs_len x
 refine FnEv.x T6 Tryz.func52 rfl ?_
 (repeat' (first | (refine Rn.go ?_;conv=>whnf) | refine .mk ?_ | refine .tt ?_ | refine .ff ?_ | refine .m2 ?_ | refine .m3 ?_ | refine .mk (fun hc=>?_) fun hc=>?_ | refine .lp fun v H lp=>?_ | fail))
 refine LpX.zip T6 x (fun p q L h=>L=[(0,.snap false (encs cs)),(5,.mref H.length 0 0 (encs cs).length),(13,.snap false (encPs x)),(14,.int .i64 (encPs x).length),(15,.int .i64 p.length)]∧HV h∧h[H.length]?=some ⟨.m,0,1,encIs (cs.map (pwr p))⟩∧H.length≤h.length∧∀ j,j<H.length→h[j]?=H[j]?)
  (.nx ⟨rfl,hH.app (HV.one (by rw [isVals_eq,List.all_eq_true];intro y hy;rw [List.eq_of_mem_replicate hy];rfl)),?_,by simp,fun j hj=>List.getElem?_append_left hj⟩) ?_ ?_
 ·have:encIs (cs.map (pwr []))=List.replicate (encs cs).length (.int .i64 0):=by rw [hel,encIs,List.map_map,← List.map_const];rfl
  rw [this];simp
 ·rintro p ⟨u,n⟩ q _ h ρ e ⟨rfl,hh,e1,h1,h2⟩
  have hat:=at_encPs e
  have hl2:=congrArg List.length e
  simp only [List.length_append,List.length_cons] at hl2
  obtain ⟨A,B,hc⟩:=List.append_of_mem (hm (u,n) (by rw [e];simp))
  dsimp only at hc
  have hbin:=binT_fun cs A B u hc hs hl hb
  rw [enc_x] at hbin
  have hlA:A.length<cs.length:=by rw [hc];simp
  have hat2:(encIs (cs.map (pwr p)))[0+A.length]?=some (.int .i64 (pwr p u)):=by rw [hc];simp [encIs]
  have hlen:(encIs (cs.map (pwr p))).length=cs.length:=by simp
  have hne:∀ y∈p,cmpT y.1 u≠0:=fun y hy=>by
   rw [e] at hx
   have:=(List.pairwise_append.1 hx).2.2 y hy (u,n) (by simp)
   simp only at this;omega
  (repeat' (first | (refine Rn.go ?_;conv=>whnf) | refine .mk ?_ | refine .tt ?_ | refine .ff ?_ | refine .m2 ?_ | refine .m3 ?_ | refine .mk (fun hc=>?_) fun hc=>?_ | refine .lp fun v H lp=>?_ | fail))
  refine .p hbin ?_
  have hset:(encIs (cs.map (pwr p))).set (0+A.length) (.int .i64 n)=encIs (cs.map (pwr (p++[(u,n)]))):=by rw [Nat.zero_add];exact set_pwr hc hs hne
  (repeat' (first | (refine Rn.go ?_;conv=>whnf) | refine .mk ?_ | refine .tt ?_ | refine .ff ?_ | refine .m2 ?_ | refine .m3 ?_ | refine .mk (fun hc=>?_) fun hc=>?_ | refine .lp fun v H lp=>?_ | fail))
  rw [hset]
  exact .nx ⟨rfl,(hh.app (HV.one (by simp))).set _ (by simp) (by simp),List.getElem?_set_self (by simp;omega),by simp;omega,fun j hj=>by rw [List.getElem?_set_ne (by omega),List.getElem?_append_left (by omega)];exact h2 j hj⟩
 ·rintro _ h ρ ⟨rfl,hh,e1,h1,h2⟩
  (repeat' (first | (refine Rn.go ?_;conv=>whnf) | refine .mk ?_ | refine .tt ?_ | refine .ff ?_ | refine .m2 ?_ | refine .m3 ?_ | refine .mk (fun hc=>?_) fun hc=>?_ | refine .lp fun v H lp=>?_ | fail))
  exact ⟨by rw [hel];rfl,hh,e1,h1,h2⟩
theorem CallEv.nw {C:Cfg} {f:FuncId} {args:List PV} {H:AHeap} {n:Nat} {P:AHeap→Prop} {Q:PV→AHeap→Prop} (a:FnEv C f args H (fun r h'=>r=.mref H.length 0 0 n∧P h')) (q:∀ h',P h'→Q (.mref H.length 0 0 n) h') (hm:C.mode f=.opened:=by rfl):CallEv C 2 f args H Q:=by
 refine CallEv.opened hm (a.mono fun r k hr=>?_)
 obtain ⟨rfl,hp⟩:=hr
 have:belowR H.length (.mref H.length 0 0 n)=false:=by simp [belowR,belowA,below1]
 rw [this]
 exact q _ hp
end Go.Pm
end
section
set_option maxRecDepth 4000
namespace Go.Pm
open Go.Proofs
section
variable {C:Cfg} (T:Tab C.P) {ops:Array Oper} {i d:Nat} {ty:TypeId} {pos:String} {af:Array Edge} {r:List Oper} {ρ:Nat→PV} {L:List (Nat × PV)} {h:AHeap} {L0:Nat} {own:List Nat} {Q:St→Prop}
theorem EvD.sP {op:Op} (hs:stepP T op L fun v=>EvD C ops (i+1) r ⟨⟨al ((d,v)::L) ρ,h⟩,L0,own⟩ Q):EvD C ops i (⟨some d,op,ty,pos,af,none⟩::r) ⟨⟨al L ρ,h⟩,L0,own⟩ Q:=by
 obtain ⟨hh,v,hv,k⟩:=stepP_out T hs
 exact EvD.plain hh (fun run=>hv run 1 ρ h) k
theorem EvD.sR {op:Op} (hs:stepR T op L h fun v=>EvD C ops (i+1) r ⟨⟨al ((d,v)::L) ρ,h⟩,h.length,[]⟩ Q) (hcl:closedH h=true) (hv:visX L h op.operands.toList):EvD C ops i (⟨some d,op,ty,pos,af,none⟩::r) ⟨⟨al L ρ,h⟩,h.length,[]⟩ Q:=by
 obtain ⟨hh,v,hc,k⟩:=stepR_out T hs
 exact EvD.read hh hcl (vis_of hv) ⟨0,fun n lv _ _=>hc _ lv ρ⟩ k
theorem EvD.sW {op:Op} (hh:heapy op=true) (hl:level ops (before ops) i=2) (hs:stepW T op L h fun v h'=>EvD C ops (i+1) r ⟨⟨al ((d,v)::L) ρ,h'⟩,h'.length,[]⟩ Q):EvD C ops i (⟨some d,op,ty,pos,af,none⟩::r) ⟨⟨al L ρ,h⟩,L0,own⟩ Q:=by
 obtain ⟨v,h',hc,k⟩:=stepW_out T hs
 exact EvD.two hh hl ⟨0,fun n _=>hc _ ρ⟩ k
theorem EvD.open1 {x:Operand} {xs:List Operand} {ats:Array TypeId} {f:FuncId} {args:List PV} {n:Nat} {P:AHeap→Prop} (hl:level ops (before ops) i=1) (hcl:closedH h=true) (hf:evL L x=some (.fn f [])) (ha:evsL L xs=some args) (hm:C.mode f=.opened) (hvis:visRs (visible h) args=true)
  (a:FnEv C f args (h.map lock1) (fun r' h'=>r'=.mref h.length 0 0 n∧∃ D,h'=h.map lock1++D∧(∀ o∈D,o.mu≠.l)∧P D))
  (k:∀ D,P D→EvD C ops (i+1) r ⟨⟨al ((d,.mref h.length 0 0 n)::L) ρ,h++D⟩,h.length,List.replicate D.length i⟩ Q):EvD C ops i (⟨some d,.call ⟨.value x,xs.toArray,ats⟩,ty,pos,af,none⟩::r) ⟨⟨al L ρ,h⟩,h.length,[]⟩ Q:=by
 obtain ⟨r',h',⟨rfl,D,rfl,hD,hP⟩,n0,hn⟩:=a
 refine EvD.step ⟨n0,fun m h1=>?_⟩ (k D hP)
 have hM:maskE ((before ops).getD i 0).testBit h.length [] h=h:=by simp [maskE]
 have he:=evsL_ev (ρ:=ρ) ha
 have hdr:(h.map lock1++D).drop h.length=D:=by rw [List.drop_append_of_le_length (by simp),List.drop_eq_nil_of_le (by simp)];simp
 have hDl:(D.all fun o=>decide (o.mu≠.l))=true:=by rw [List.all_eq_true];exact fun o ho=>decide_eq_true (hD o ho)
 have hb:belowR h.length (.mref h.length 0 0 n)=false:=by simp [belowR,belowA,below1]
 have hcall:callF C (runF C m) 1 f args h=some (.mref h.length 0 0 n,h++D):=by
  unfold callF
  simp only [hm,callOpen,lockCall,hn m h1,hdr,hDl]
  simp [hb]
 have hop:((Op.call ⟨.value x,xs.toArray,ats⟩).operands.toList.all fun y=>visR (visible h) (ev (al L ρ) y))=true:=by
  rw [List.all_eq_true]
  intro y hy
  simp [Op.operands,Call.operands] at hy
  rcases hy with rfl | hy
  ·rw [evL_ev hf];rfl
  ·rw [visRs_all] at hvis
   have:ev (al L ρ) y∈args:=by rw [← he];exact List.mem_map.2 ⟨y,hy,rfl⟩
   exact List.all_eq_true.1 hvis _ this
 have hl2:¬ level ops (before ops) i=2:=by rw [hl];decide
 have hval:opVal C (runF C m) 1 (.call ⟨.value x,xs.toArray,ats⟩) (al L ρ) h=some (.mref h.length 0 0 n,h++D):=by
  simp only [opVal,calleeP,evL_ev hf,he,List.append_nil,hcall]
 have hdl:(h++D).drop h.length=D:=by simp
 simp only [opStepD,wantedA,show heapy (.call ⟨.value x,xs.toArray,ats⟩)=true from rfl,Bool.true_eq_false,if_false,hl2,hM,hcl,hop,and_self,if_true,hval,hdl,hDl,al_cons,List.nil_append]
theorem hide_closed {D:AHeap} (hcl:closedH h=true):closedH (h++D.map hide1)=true:=by
 unfold closedH at hcl ⊢
 rw [List.all_eq_true] at hcl ⊢
 intro o ho
 rcases List.mem_append.1 ho with ho | ho
 ·have:=hcl o ho
  rw [Bool.or_eq_true] at this ⊢
  rcases this with h1 | h1
  ·exact .inl h1
  ·refine .inr (visRs_imp (fun i hi=>?_) _ h1)
   unfold visible at hi ⊢
   split at hi
   ·rename_i o ho
    rw [List.getElem?_append_left (lt_of_some ho),ho];exact hi
   ·cases hi
 ·obtain ⟨o',_,rfl⟩:=List.mem_map.1 ho
  simp [hide1]
theorem mask_hide {D:AHeap} {e:Nat→Bool} {j:Nat} (he:e j=false):maskE e h.length (List.replicate D.length j) (h++D)=h++D.map hide1:=by
 unfold maskE
 rw [List.take_left' rfl,List.drop_left' rfl]
 congr 1
 induction D with
 | nil=>rfl
 | cons o D ih=>simp [List.replicate_succ,he,ih]
theorem EvD.hid {op:Op} {D:AHeap} {j:Nat} {v:PV} {E:AHeap} (hh:heapy op=true) (hl:level ops (before ops) i=1) (he:((before ops).getD i 0).testBit j=false) (hcl:closedH h=true) (hop:∀ y∈op.operands.toList,isVal (ev (al L ρ) y)=true)
  (hc:∀ run,opVal C run 1 op (al L ρ) (h++D.map hide1)=some (v,h++D.map hide1++E)) (hE:∀ o∈E,o.mu≠.l) (k:EvD C ops (i+1) r ⟨⟨al ((d,v)::L) ρ,h++D++E⟩,h.length,List.replicate D.length j++List.replicate E.length i⟩ Q) :
  EvD C ops i (⟨some d,op,ty,pos,af,none⟩::r) ⟨⟨al L ρ,h++D⟩,h.length,List.replicate D.length j⟩ Q:=by
 refine EvD.step ⟨0,fun m _=>?_⟩ k
 have hl2:¬ level ops (before ops) i=2:=by rw [hl];decide
 have hM:maskE ((before ops).getD i 0).testBit h.length (List.replicate D.length j) (h++D)=h++D.map hide1:=mask_hide he
 have hop2:(op.operands.toList.all fun y=>visR (visible (h++D.map hide1)) (ev (al L ρ) y))=true:=by
  rw [List.all_eq_true];exact fun y hy=>vis_val _ _ (hop y hy)
 have hdr:(h++D.map hide1++E).drop (h++D).length=E:=by
  rw [List.drop_append_of_le_length (by simp),List.drop_eq_nil_of_le (by simp)];simp
 have hEl:(E.all fun o=>decide (o.mu≠.l))=true:=by rw [List.all_eq_true];exact fun o ho=>decide_eq_true (hE o ho)
 simp only [opStepD,wantedA,hh,Bool.true_eq_false,if_false,hl2,hM,hide_closed hcl,hop2,and_self,if_true,hc,hdr,hEl,al_cons]
theorem EvD.hidLen {x:Operand} {t el:TypeId} {D:AHeap} {j:Nat} {full:Bool} {es:List PV} (hl:level ops (before ops) i=1) (he:((before ops).getD i 0).testBit j=false) (hcl:closedH h=true) (hx:evL L x=some (.snap full es)) (hk:T.kd t=some (.sl el))
  (k:EvD C ops (i+1) r ⟨⟨al ((d,.int .i64 es.length)::L) ρ,h++D⟩,h.length,List.replicate D.length j⟩ Q):EvD C ops i (⟨some d,.call ⟨.builtin .len,#[x],#[t]⟩,ty,pos,af,none⟩::r) ⟨⟨al L ρ,h++D⟩,h.length,List.replicate D.length j⟩ Q:=by
 refine EvD.hid (E:=[]) (v:=.int .i64 es.length) rfl hl he hcl (fun y hy=>?_) (fun run=>?_) (by simp) (by simpa using k)
 ·simp [Op.operands,Call.operands] at hy
  subst hy
  rw [evL_ev hx];rfl
 ·simp only [opVal,builtinP,List.map_cons,List.map_nil,evL_ev hx,lenP,kd_sl (T.hkd _ _ hk),Option.map_some,List.append_nil]
theorem EvD.hidMake {l:Operand} {t el:TypeId} {D:AHeap} {j:Nat} {kk:IntKind} {n sz by':Nat} {z:PV} (hl:level ops (before ops) i=1) (he:((before ops).getD i 0).testBit j=false) (hcl:closedH h=true) (hx:evL L l=some (.int kk n)) (hk:T.kd t=some (.sl el)) (hs:T.ts el=some (sz+1)) (hb:T.tb el=some by') (hz:T.tz el=some z)
  (hby:by'≤65536) (hzl:(cells z).length=sz+1) (ho:(cells z).all oneC=true) (hn:n≤1073741824)
  (k:EvD C ops (i+1) r ⟨⟨al ((d,.mref (h.length+D.length) 0 0 n)::L) ρ,h++D++[⟨.m,0,sz+1,List.replicate n z⟩]⟩,h.length,List.replicate D.length j++[i]⟩ Q):EvD C ops i (⟨some d,.makeSlice t l l,ty,pos,af,none⟩::r) ⟨⟨al L ρ,h++D⟩,h.length,List.replicate D.length j⟩ Q:=by
 refine EvD.hid (E:=[⟨.m,0,sz+1,List.replicate n z⟩]) (v:=.mref (h.length+D.length) 0 0 n) rfl hl he hcl (fun y hy=>?_) (fun run=>?_) (by simp) k
 ·simp [Op.operands] at hy
  subst hy
  rw [evL_ev hx];rfl
 ·simp only [opVal,stepOp,evL_ev hx,makeSliceP,kd_sl (T.hkd _ _ hk),T.hts _ _ hs,T.htb _ _ hb,T.htz _ _ hz]
  rw [if_pos ⟨by omega,by omega,by omega,by omega,by omega,hby,hzl,ho⟩]
  simp [newObj]
end
end Go.Pm
end
section
set_option maxRecDepth 4000
namespace Go.Pm
open Go.Proofs
attribute [local irreducible] thenQ blockQ loopQ bodyQ Ev EvOps CallEv FnEv EvD
theorem pofD_ev (cs:List Tm) (x:List Pw) (H:AHeap) (hs:SrtT cs) (hl:cs.length<100000000) (hb:∀ t∈cs,bulk t<1000000000) (hx:Srt x) (lx:x.length<100000000) (hm:∀ p∈x,p.1∈cs) :
  FnEv C 52 [.snap false (encs cs),.snap false (encPs x)] H (fun r h'=>r=.mref H.length 0 0 cs.length∧∃ J:AHeap,h'=H++⟨.m,0,1,encIs (cs.map (pwr x))⟩::J∧∀ o∈J,o.mu=.m∧isVals o.es=true):=by
 have hel:=encs_len cs
 have helx:=encPs_len x
 refine FnEv.x T6 Tryz.func52 rfl ?_
 (repeat' (first | (refine Rn.go ?_;conv=>whnf) | refine .mk ?_ | refine .tt ?_ | refine .ff ?_ | refine .m2 ?_ | refine .m3 ?_ | refine .mk (fun hc=>?_) fun hc=>?_ | refine .lp fun v H lp=>?_ | fail))
 refine LpX.zip T6 x (fun p q L h=>L=[(0,.snap false (encs cs)),(5,.mref H.length 0 0 (encs cs).length),(13,.snap false (encPs x)),(14,.int .i64 (encPs x).length),(15,.int .i64 p.length)]∧∃ J:AHeap,h=H++⟨.m,0,1,encIs (cs.map (pwr p))⟩::J∧∀ o∈J,o.mu=.m∧isVals o.es=true)
  (.nx ⟨rfl,[],?_,by simp⟩) ?_ ?_
 ·have:encIs (cs.map (pwr []))=List.replicate (encs cs).length (.int .i64 0):=by rw [hel,encIs,List.map_map,← List.map_const];rfl
  rw [this]
 ·rintro p ⟨u,n⟩ q _ h ρ e ⟨rfl,J,hJ,hJv⟩
  have e1:h[H.length]?=some ⟨.m,0,1,encIs (cs.map (pwr p))⟩:=by rw [hJ];simp
  have h1:H.length<h.length:=by rw [hJ];simp
  have hat:=at_encPs e
  have hl2:=congrArg List.length e
  simp only [List.length_append,List.length_cons] at hl2
  obtain ⟨A,B,hc⟩:=List.append_of_mem (hm (u,n) (by rw [e];simp))
  dsimp only at hc
  have hbin:=binT_fun cs A B u hc hs hl hb
  rw [enc_x] at hbin
  have hlA:A.length<cs.length:=by rw [hc];simp
  have hat2:(encIs (cs.map (pwr p)))[0+A.length]?=some (.int .i64 (pwr p u)):=by rw [hc];simp [encIs]
  have hlen:(encIs (cs.map (pwr p))).length=cs.length:=by simp
  have hne:∀ y∈p,cmpT y.1 u≠0:=fun y hy=>by
   rw [e] at hx
   have:=(List.pairwise_append.1 hx).2.2 y hy (u,n) (by simp)
   simp only at this;omega
  (repeat' (first | (refine Rn.go ?_;conv=>whnf) | refine .mk ?_ | refine .tt ?_ | refine .ff ?_ | refine .m2 ?_ | refine .m3 ?_ | refine .mk (fun hc=>?_) fun hc=>?_ | refine .lp fun v H lp=>?_ | fail))
  refine .p hbin ?_
  have hset:(encIs (cs.map (pwr p))).set (0+A.length) (.int .i64 n)=encIs (cs.map (pwr (p++[(u,n)]))):=by rw [Nat.zero_add];exact set_pwr hc hs hne
  (repeat' (first | (refine Rn.go ?_;conv=>whnf) | refine .mk ?_ | refine .tt ?_ | refine .ff ?_ | refine .m2 ?_ | refine .m3 ?_ | refine .mk (fun hc=>?_) fun hc=>?_ | refine .lp fun v H lp=>?_ | fail))
  rw [hset]
  refine .nx ⟨rfl,J++[⟨.m,0,5,[.agg [.int .i64 u.k,.str u.s,.int .i64 u.o,.snap false (encs u.l),.int .i64 n]]⟩],?_,?_⟩
  ·rw [hJ,List.append_assoc,List.cons_append,List.set_append_right _ _ (Nat.le_refl _),Nat.sub_self,List.set_cons_zero]
  ·intro o ho
   rcases List.mem_append.1 ho with ho | ho
   ·exact hJv o ho
   ·rw [List.mem_singleton.1 ho];exact ⟨rfl,by simp⟩
 ·rintro _ h ρ ⟨rfl,J,hJ,hJv⟩
  (repeat' (first | (refine Rn.go ?_;conv=>whnf) | refine .mk ?_ | refine .tt ?_ | refine .ff ?_ | refine .m2 ?_ | refine .m3 ?_ | refine .mk (fun hc=>?_) fun hc=>?_ | refine .lp fun v H lp=>?_ | fail))
  exact ⟨by rw [hel];rfl,J,hJ,hJv⟩
end Go.Pm
end
section
set_option maxRecDepth 4000
namespace Go.Pm
open Go.Proofs
theorem wrapM (n:Int):IntKind.u64.wrap n=n % 18446744073709551616:=by simp [IntKind.wrap,IntKind.bits,IntKind.signed]
theorem wrapN {n:Int} (h1:0≤n) (h2:n<18446744073709551616):IntKind.u64.wrap n=n:=by rw [wrapM];omega
theorem wrap8 {n:Int} (h1:0≤n) (h2:n<256):IntKind.u8.wrap n=n:=by
 have:IntKind.u8.wrap n=n % 256:=by simp [IntKind.wrap,IntKind.bits,IntKind.signed]
 rw [this];omega
theorem and32 (a:Nat) (h:a<18446744073709551616):IntKind.u64.wrap ((BitVec.ofInt IntKind.u64.bits (a:Int) &&& BitVec.ofInt IntKind.u64.bits (4294967295:Int)).toNat:Int)=((a % 4294967296:Nat):Int):=by
 have h1:(BitVec.ofInt IntKind.u64.bits (a:Int)).toNat=a:=by
  rw [BitVec.toNat_ofInt];show ((a:Int) % (2 ^ 64:Nat)).toNat=a;omega
 have h2:(BitVec.ofInt IntKind.u64.bits (4294967295:Int)).toNat=4294967295:=by decide
 rw [BitVec.toNat_and,h1,h2,show (4294967295:Nat)=2 ^ 32 - 1 from rfl,Nat.and_two_pow_sub_one_eq_mod]
 exact wrapN (by omega) (by omega)
theorem or64 (a b s:Nat) (hb:b<2 ^ s) (h:a * 2 ^ s+b<18446744073709551616):IntKind.u64.wrap ((BitVec.ofInt IntKind.u64.bits ((a * 2 ^ s:Nat):Int) ||| BitVec.ofInt IntKind.u64.bits (b:Int)).toNat:Int)=((a * 2 ^ s+b:Nat):Int):=by
 have h1:∀ x:Nat,x<18446744073709551616→(BitVec.ofInt IntKind.u64.bits (x:Int)).toNat=x:=fun x hx=>by
  rw [BitVec.toNat_ofInt];show ((x:Int) % (2 ^ 64:Nat)).toNat=x;omega
 rw [BitVec.toNat_or,h1 _ (by omega),h1 _ (by omega),Nat.mul_comm a,← Nat.two_pow_add_eq_or_of_lt hb]
 exact wrapN (by omega) (by rw [Nat.mul_comm] at h;omega)
theorem shrN (a s:Nat) (hs:s≤64):Int.fdiv (a:Int) (2 ^ (min ((s:Nat):Int).toNat 64))=((a / 2 ^ s:Nat):Int):=by
 rw [Int.toNat_natCast,Nat.min_eq_left hs,Int.fdiv_eq_ediv_of_nonneg _ (by exact Int.le_of_lt (Int.pow_pos (by decide)))]
 rw [Int.natCast_ediv];congr 1
theorem shr32 (a:Nat):Int.fdiv (a:Int) (2 ^ (min (32:Int).toNat IntKind.u64.bits))=((a / 4294967296:Nat):Int):=shrN a 32 (by decide)
theorem shr16 (a:Nat):Int.fdiv (a:Int) (2 ^ (min (16:Int).toNat IntKind.u64.bits))=((a / 65536:Nat):Int):=shrN a 16 (by decide)
theorem shr8 (a:Nat):Int.fdiv (a:Int) (2 ^ (min (8:Int).toNat IntKind.u64.bits))=((a / 256:Nat):Int):=shrN a 8 (by decide)
def len8 (b:Nat):Nat:=if b=0 then 0 else Nat.log2 b+1
def tabB (s:ByteArray):Bool:=(List.range 256).all fun n=>decide (s[n]?=some (UInt8.ofNat (len8 n)))
theorem tab_ok {s:ByteArray} (h:tabB s=true) {n:Nat} (hn:n<256):s[n]?=some (UInt8.ofNat (len8 n)):=
 of_decide_eq_true (List.all_eq_true.1 h n (List.mem_range.2 hn))
theorem len8_ok {b:Nat} (h0:0<b) (h:b<256):1≤len8 b∧len8 b≤8∧2 ^ (len8 b - 1)≤b∧b<2 ^ len8 b:=by
 have hl:Nat.log2 b<8:=(Nat.log2_lt (by omega)).2 h
 have h1:=Nat.log2_self_le (n:=b) (by omega)
 have h2:=Nat.lt_log2_self (n:=b)
 unfold len8
 rw [if_neg (by omega)]
 exact ⟨by omega,by omega,by simpa using h1,h2⟩
theorem kn_gt {u v n1 n0 q r:Nat} (hn:0<n1) (e:u=q * n1+r) (h:4294967296 * r+v<q * n0):(u * 4294967296+v) / (n1 * 4294967296+n0)<q:=by
 rw [Nat.div_lt_iff_lt_mul (by omega),Nat.mul_add,← Nat.mul_assoc]
 generalize q * n1=a at *
 generalize q * n0=b at *
 omega
theorem kn_le {u v n1 n0 q r:Nat} (hn:0<n1) (e:u=q * n1+r) (h:q * n0≤4294967296 * r+v):q≤(u * 4294967296+v) / (n1 * 4294967296+n0):=by
 rw [Nat.le_div_iff_mul_le (by omega),Nat.mul_add,← Nat.mul_assoc]
 generalize q * n1=a at *
 generalize q * n0=b at *
 omega
theorem kn_hi {u v Y:Nat} (hu:u<Y) (hv:v<4294967296):(u * 4294967296+v) / Y<4294967296:=by
 rw [Nat.div_lt_iff_lt_mul (by omega)];omega
theorem kn_ini {u v n1 n0:Nat} (hn:0<n1) (hv:v<4294967296):(u * 4294967296+v) / (n1 * 4294967296+n0)≤u / n1:=by
 rw [Nat.le_div_iff_mul_le hn]
 have h:=Nat.div_mul_le_self (u * 4294967296+v) (n1 * 4294967296+n0)
 rw [Nat.mul_add,← Nat.mul_assoc] at h
 generalize (u * 4294967296+v) / (n1 * 4294967296+n0)=q at *
 generalize q * n1=a at *
 omega
theorem kn_q2 {u n1 n0:Nat} (hn:2147483648≤n1) (h0:n0<4294967296) (hu:u<n1 * 4294967296+n0):u / n1≤4294967297:=by
 have:u / n1<4294967298:=by rw [Nat.div_lt_iff_lt_mul (by omega)];omega
 omega
theorem kn_all {u v n1 n0 q r Q p:Nat} (hn:2147483648≤n1) (h0:n0<4294967296) (hQ:Q=(u * 4294967296+v) / (n1 * 4294967296+n0)) (e:u=q * n1+r) (hq:Q≤q) (hq2:q≤4294967297) (hp:p=q * n0) :
  (4294967296 * r+v<p→Q<q)∧(p≤4294967296 * r+v→q=Q)∧(Q<q→4294967296≤r+n1→q=Q+1)∧(Q<q→u=(q - 1) * n1+(r+n1))∧(q<4294967296→p≤18446744065119617025):=by
 have g4:Q<q→u=(q - 1) * n1+(r+n1):=fun h=>by
  obtain ⟨k,rfl⟩:∃ k,q=k+1:=⟨q - 1,by omega⟩
  rw [Nat.add_mul] at e
  rw [Nat.add_sub_cancel];omega
 refine ⟨fun h=>?_,fun h=>?_,fun h1 h2=>?_,g4,fun h=>?_⟩
 ·rw [hQ];exact kn_gt (by omega) e (by omega)
 ·have:=kn_le (v:=v) (n0:=n0) (by omega) e (by omega)
  omega
 ·have h3:=Nat.mul_le_mul (show q - 1≤4294967296 by omega) (show n0≤4294967295 by omega)
  have:=kn_le (v:=v) (n0:=n0) (by omega) (g4 h1) (by omega)
  omega
 ·rw [hp];exact Nat.mul_le_mul (show q≤4294967295 by omega) (show n0≤4294967295 by omega)
attribute [local irreducible] thenQ blockQ loopQ bodyQ Ev EvOps CallEv FnEv EvD
theorem len64_fun (x:Nat) (h0:0<x) (h:x<18446744073709551616):∃ n:Nat,1≤n∧n≤64∧2 ^ (n - 1)≤x∧x<2 ^ n∧Fun C 133 [.int .u64 x] (.int .i64 n):=by
 obtain ⟨s1,x1,hx1,hs1,b1⟩:∃ s1 x1:Nat,x1=x / 2 ^ s1∧(s1=if 4294967296≤x then 32 else 0)∧0<x1∧x1<4294967296:=by
  by_cases hc:4294967296≤x
  ·exact ⟨32,x / 4294967296,rfl,by rw [if_pos hc],by omega,by omega⟩
  ·exact ⟨0,x,by simp,by rw [if_neg hc],by omega,by omega⟩
 obtain ⟨s2,x2,hx2,hs2,b2⟩:∃ s2 x2:Nat,x2=x1 / 2 ^ s2∧(s2=if 65536≤x1 then 16 else 0)∧0<x2∧x2<65536:=by
  by_cases hc:65536≤x1
  ·exact ⟨16,x1 / 65536,rfl,by rw [if_pos hc],by omega,by omega⟩
  ·exact ⟨0,x1,by simp,by rw [if_neg hc],by omega,by omega⟩
 obtain ⟨s3,x3,hx3,hs3,b3⟩:∃ s3 x3:Nat,x3=x2 / 2 ^ s3∧(s3=if 256≤x2 then 8 else 0)∧0<x3∧x3<256:=by
  by_cases hc:256≤x2
  ·exact ⟨8,x2 / 256,rfl,by rw [if_pos hc],by omega,by omega⟩
  ·exact ⟨0,x2,by simp,by rw [if_neg hc],by omega,by omega⟩
 obtain ⟨l1,l2,l3,l4⟩:=len8_ok b3.1 b3.2
 have hs:s1+s2+s3≤56:=by
  rw [hs1,hs2,hs3];split <;> split <;> split <;> omega
 have hxx:x3=x / 2 ^ (s1+s2+s3):=by rw [hx3,hx2,hx1,Nat.div_div_eq_div_mul,Nat.div_div_eq_div_mul,Nat.pow_add,Nat.pow_add,Nat.mul_assoc]
 have hp:0<2 ^ (s1+s2+s3):=Nat.pow_pos (by decide)
 refine ⟨s1+s2+s3+len8 x3,by omega,by omega,?_,?_,?_⟩
 ·rw [show s1+s2+s3+len8 x3 - 1=(s1+s2+s3)+(len8 x3 - 1) by omega,Nat.pow_add,Nat.mul_comm]
  rw [hxx] at l3 ⊢
  exact (Nat.le_div_iff_mul_le hp).1 l3
 ·rw [Nat.pow_add,Nat.mul_comm]
  rw [hxx] at l4 ⊢
  exact (Nat.div_lt_iff_lt_mul hp).1 l4
 ·have hu8:(UInt8.ofNat (len8 x3)).toNat=len8 x3:=by simp;omega
  have i1:(4294967296≤x∧s1=32∧x1=x / 4294967296)∨(x<4294967296∧s1=0∧x1=x):=by
   rw [hx1,hs1];split
   ·exact .inl ⟨by omega,rfl,rfl⟩
   ·exact .inr ⟨by omega,rfl,by simp⟩
  have i2:(65536≤x1∧s2=16∧x2=x1 / 65536)∨(x1<65536∧s2=0∧x2=x1):=by
   rw [hx2,hs2];split
   ·exact .inl ⟨by omega,rfl,rfl⟩
   ·exact .inr ⟨by omega,rfl,by simp⟩
  have i3:(256≤x2∧s3=8∧x3=x2 / 256)∨(x2<256∧s3=0∧x3=x2):=by
   rw [hx3,hs3];split
   ·exact .inl ⟨by omega,rfl,rfl⟩
   ·exact .inr ⟨by omega,rfl,by simp⟩
  clear hx1 hx2 hx3 hs1 hs2 hs3 hxx hp l3 l4
  refine Fun.x T6 Tryz.func133 rfl ?_
  (repeat' (first | (refine Rn.go ?_;conv=>whnf) | refine ShrX.mk ?_ (shr32 _) (by decide) | refine ShrX.mk ?_ (shr16 _) (by decide) | refine ShrX.mk ?_ (shr8 _) (by decide) | ((fail_if_success (show ShrX _ _ _ _));refine .mk ?_) | refine .tt ?_ | refine .ff ?_ | refine .m2 ?_ | refine .m3 ?_ | refine .mk (fun hc=>?_) fun hc=>?_ | refine .lp fun v H lp=>?_ | fail))
  all_goals
   refine .raw (x3:Int) (by rw [wrap8 (by omega) (by omega)];omega) ?_
   (repeat' (first | (refine Rn.go ?_;conv=>whnf) | refine ShrX.mk ?_ (shr32 _) (by decide) | refine ShrX.mk ?_ (shr16 _) (by decide) | refine ShrX.mk ?_ (shr8 _) (by decide) | ((fail_if_success (show ShrX _ _ _ _));refine .mk ?_) | refine .tt ?_ | refine .ff ?_ | refine .m2 ?_ | refine .m3 ?_ | refine .mk (fun hc=>?_) fun hc=>?_ | refine .lp fun v H lp=>?_ | fail))
   refine .mk (n:=x3) (b:=UInt8.ofNat (len8 x3)) ?_ rfl (tab_ok (by kernel_rfl) b3.2)
   rw [hu8]
   (repeat' (first | (refine Rn.go ?_;conv=>whnf) | refine ShrX.mk ?_ (shr32 _) (by decide) | refine ShrX.mk ?_ (shr16 _) (by decide) | refine ShrX.mk ?_ (shr8 _) (by decide) | ((fail_if_success (show ShrX _ _ _ _));refine .mk ?_) | refine .tt ?_ | refine .ff ?_ | refine .m2 ?_ | refine .m3 ?_ | refine .mk (fun hc=>?_) fun hc=>?_ | refine .lp fun v H lp=>?_ | fail))
   exact ⟨_,rfl,by simp only [tupOf,nrm,PV.int.injEq,true_and];omega⟩
theorem mulN {a b A B c:Nat} (ha:a≤A) (hb:b≤B) (h:A * B<18446744073709551616) (hc:c=a * b):IntKind.u64.wrap ((a:Int) * (b:Int))=(c:Int):=by
 subst hc
 have:=Nat.mul_le_mul ha hb
 rw [← Int.natCast_mul];exact wrapN (by omega) (by omega)
theorem addN {a b c:Nat} (h:a+b<18446744073709551616) (hc:c=a+b):IntKind.u64.wrap ((a:Int)+(b:Int))=(c:Int):=by
 subst hc
 rw [← Int.natCast_add];exact wrapN (by omega) (by omega)
theorem mul64_fun (x y:Nat) (hx:x<18446744073709551616) (hy:y<18446744073709551616):Fun C 135 [.int .u64 x,.int .u64 y] (.tup [.int .u64 ((x * y / 18446744073709551616:Nat):Int),.int .u64 ((x * y % 18446744073709551616:Nat):Int)]):=by
 have x0:x % 4294967296≤4294967295:=by omega
 have x1:x / 4294967296≤4294967295:=by omega
 have y0:y % 4294967296≤4294967295:=by omega
 have y1:y / 4294967296≤4294967295:=by omega
 obtain ⟨D,hD⟩:∃ D,D=(x % 4294967296) * (y % 4294967296):=⟨_,rfl⟩
 obtain ⟨B,hB⟩:∃ B,B=(x / 4294967296) * (y % 4294967296):=⟨_,rfl⟩
 obtain ⟨E,hE⟩:∃ E,E=(x % 4294967296) * (y / 4294967296):=⟨_,rfl⟩
 obtain ⟨A,hA⟩:∃ A,A=(x / 4294967296) * (y / 4294967296):=⟨_,rfl⟩
 have lD:D≤18446744065119617025:=by rw [hD];exact Nat.mul_le_mul x0 y0
 have lB:B≤18446744065119617025:=by rw [hB];exact Nat.mul_le_mul x1 y0
 have lE:E≤18446744065119617025:=by rw [hE];exact Nat.mul_le_mul x0 y1
 have lA:A≤18446744065119617025:=by rw [hA];exact Nat.mul_le_mul x1 y1
 have hxy:x * y=A * 18446744073709551616+(B+E) * 4294967296+D:=by
  have ex:x=4294967296 * (x / 4294967296)+x % 4294967296:=(Nat.div_add_mod x _).symm
  have ey:y=4294967296 * (y / 4294967296)+y % 4294967296:=(Nat.div_add_mod y _).symm
  rw [hA,hB,hD,hE]
  generalize x / 4294967296=a at *
  generalize x % 4294967296=b at *
  generalize y / 4294967296=c at *
  generalize y % 4294967296=d at *
  subst ex ey
  have q1:4294967296 * a * (4294967296 * c)=18446744073709551616 * (a * c):=by rw [Nat.mul_assoc,Nat.mul_left_comm a,← Nat.mul_assoc]
  rw [Nat.add_mul,Nat.mul_add,Nat.mul_add,q1,Nat.mul_assoc,← Nat.mul_assoc b,Nat.mul_comm b 4294967296,Nat.mul_assoc]
  omega
 refine Fun.x T6 Tryz.func135 rfl ?_
 (repeat' (first | (refine Rn.go ?_;conv=>whnf) | refine ShrX.mk ?_ (shr32 _) (by decide) | refine ShrX.mk ?_ (shr16 _) (by decide) | refine ShrX.mk ?_ (shr8 _) (by decide) | ((fail_if_success (show ShrX _ _ _ _));refine .mk ?_) | refine .tt ?_ | refine .ff ?_ | refine .m2 ?_ | refine .m3 ?_ | refine .mk (fun hc=>?_) fun hc=>?_ | refine .lp fun v H lp=>?_ | fail))
 refine .mk _ (and32 x hx) ?_
 (repeat' (first | (refine Rn.go ?_;conv=>whnf) | refine ShrX.mk ?_ (shr32 _) (by decide) | refine ShrX.mk ?_ (shr16 _) (by decide) | refine ShrX.mk ?_ (shr8 _) (by decide) | ((fail_if_success (show ShrX _ _ _ _));refine .mk ?_) | refine .tt ?_ | refine .ff ?_ | refine .m2 ?_ | refine .m3 ?_ | refine .mk (fun hc=>?_) fun hc=>?_ | refine .lp fun v H lp=>?_ | fail))
 refine .mk _ (and32 y hy) ?_
 (repeat' (first | (refine Rn.go ?_;conv=>whnf) | refine ShrX.mk ?_ (shr32 _) (by decide) | refine ShrX.mk ?_ (shr16 _) (by decide) | refine ShrX.mk ?_ (shr8 _) (by decide) | ((fail_if_success (show ShrX _ _ _ _));refine .mk ?_) | refine .tt ?_ | refine .ff ?_ | refine .m2 ?_ | refine .m3 ?_ | refine .mk (fun hc=>?_) fun hc=>?_ | refine .lp fun v H lp=>?_ | fail))
 refine .raw _ (mulN x0 y0 (by decide) hD) ?_
 (repeat' (first | (refine Rn.go ?_;conv=>whnf) | refine ShrX.mk ?_ (shr32 _) (by decide) | refine ShrX.mk ?_ (shr16 _) (by decide) | refine ShrX.mk ?_ (shr8 _) (by decide) | ((fail_if_success (show ShrX _ _ _ _));refine .mk ?_) | refine .tt ?_ | refine .ff ?_ | refine .m2 ?_ | refine .m3 ?_ | refine .mk (fun hc=>?_) fun hc=>?_ | refine .lp fun v H lp=>?_ | fail))
 refine .raw _ (mulN x1 y0 (by decide) hB) ?_
 (repeat' (first | (refine Rn.go ?_;conv=>whnf) | refine ShrX.mk ?_ (shr32 _) (by decide) | refine ShrX.mk ?_ (shr16 _) (by decide) | refine ShrX.mk ?_ (shr8 _) (by decide) | ((fail_if_success (show ShrX _ _ _ _));refine .mk ?_) | refine .tt ?_ | refine .ff ?_ | refine .m2 ?_ | refine .m3 ?_ | refine .mk (fun hc=>?_) fun hc=>?_ | refine .lp fun v H lp=>?_ | fail))
 refine .raw _ (addN (by omega) rfl) ?_
 (repeat' (first | (refine Rn.go ?_;conv=>whnf) | refine ShrX.mk ?_ (shr32 _) (by decide) | refine ShrX.mk ?_ (shr16 _) (by decide) | refine ShrX.mk ?_ (shr8 _) (by decide) | ((fail_if_success (show ShrX _ _ _ _));refine .mk ?_) | refine .tt ?_ | refine .ff ?_ | refine .m2 ?_ | refine .m3 ?_ | refine .mk (fun hc=>?_) fun hc=>?_ | refine .lp fun v H lp=>?_ | fail))
 refine .mk _ (and32 _ (by omega)) ?_
 (repeat' (first | (refine Rn.go ?_;conv=>whnf) | refine ShrX.mk ?_ (shr32 _) (by decide) | refine ShrX.mk ?_ (shr16 _) (by decide) | refine ShrX.mk ?_ (shr8 _) (by decide) | ((fail_if_success (show ShrX _ _ _ _));refine .mk ?_) | refine .tt ?_ | refine .ff ?_ | refine .m2 ?_ | refine .m3 ?_ | refine .mk (fun hc=>?_) fun hc=>?_ | refine .lp fun v H lp=>?_ | fail))
 refine .raw _ (mulN x0 y1 (by decide) hE) ?_
 (repeat' (first | (refine Rn.go ?_;conv=>whnf) | refine ShrX.mk ?_ (shr32 _) (by decide) | refine ShrX.mk ?_ (shr16 _) (by decide) | refine ShrX.mk ?_ (shr8 _) (by decide) | ((fail_if_success (show ShrX _ _ _ _));refine .mk ?_) | refine .tt ?_ | refine .ff ?_ | refine .m2 ?_ | refine .m3 ?_ | refine .mk (fun hc=>?_) fun hc=>?_ | refine .lp fun v H lp=>?_ | fail))
 refine .raw _ (addN (by omega) rfl) ?_
 (repeat' (first | (refine Rn.go ?_;conv=>whnf) | refine ShrX.mk ?_ (shr32 _) (by decide) | refine ShrX.mk ?_ (shr16 _) (by decide) | refine ShrX.mk ?_ (shr8 _) (by decide) | ((fail_if_success (show ShrX _ _ _ _));refine .mk ?_) | refine .tt ?_ | refine .ff ?_ | refine .m2 ?_ | refine .m3 ?_ | refine .mk (fun hc=>?_) fun hc=>?_ | refine .lp fun v H lp=>?_ | fail))
 refine .raw _ (mulN x1 y1 (by decide) hA) ?_
 (repeat' (first | (refine Rn.go ?_;conv=>whnf) | refine ShrX.mk ?_ (shr32 _) (by decide) | refine ShrX.mk ?_ (shr16 _) (by decide) | refine ShrX.mk ?_ (shr8 _) (by decide) | ((fail_if_success (show ShrX _ _ _ _));refine .mk ?_) | refine .tt ?_ | refine .ff ?_ | refine .m2 ?_ | refine .m3 ?_ | refine .mk (fun hc=>?_) fun hc=>?_ | refine .lp fun v H lp=>?_ | fail))
 refine .raw _ (addN (by omega) rfl) ?_
 (repeat' (first | (refine Rn.go ?_;conv=>whnf) | refine ShrX.mk ?_ (shr32 _) (by decide) | refine ShrX.mk ?_ (shr16 _) (by decide) | refine ShrX.mk ?_ (shr8 _) (by decide) | ((fail_if_success (show ShrX _ _ _ _));refine .mk ?_) | refine .tt ?_ | refine .ff ?_ | refine .m2 ?_ | refine .m3 ?_ | refine .mk (fun hc=>?_) fun hc=>?_ | refine .lp fun v H lp=>?_ | fail))
 refine .raw _ (addN (by omega) rfl) ?_
 (repeat' (first | (refine Rn.go ?_;conv=>whnf) | refine ShrX.mk ?_ (shr32 _) (by decide) | refine ShrX.mk ?_ (shr16 _) (by decide) | refine ShrX.mk ?_ (shr8 _) (by decide) | ((fail_if_success (show ShrX _ _ _ _));refine .mk ?_) | refine .tt ?_ | refine .ff ?_ | refine .m2 ?_ | refine .m3 ?_ | refine .mk (fun hc=>?_) fun hc=>?_ | refine .lp fun v H lp=>?_ | fail))
 refine .raw ((x * y % 18446744073709551616:Nat):Int) (by rw [wrapM,← Int.natCast_mul];rfl) ?_
 (repeat' (first | (refine Rn.go ?_;conv=>whnf) | refine ShrX.mk ?_ (shr32 _) (by decide) | refine ShrX.mk ?_ (shr16 _) (by decide) | refine ShrX.mk ?_ (shr8 _) (by decide) | ((fail_if_success (show ShrX _ _ _ _));refine .mk ?_) | refine .tt ?_ | refine .ff ?_ | refine .m2 ?_ | refine .m3 ?_ | refine .mk (fun hc=>?_) fun hc=>?_ | refine .lp fun v H lp=>?_ | fail))
 refine ⟨_,rfl,?_⟩
 simp only [tupOf,nrm,nrms,PV.tup.injEq,List.cons.injEq,PV.int.injEq,true_and,and_true]
 rw [hxy]
 omega
theorem lz64_fun (y:Nat) (h0:0<y) (h:y<18446744073709551616):∃ s:Nat,s≤63∧9223372036854775808≤y * 2 ^ s∧y * 2 ^ s<18446744073709551616∧Fun C 144 [.int .u64 y] (.int .i64 s):=by
 obtain ⟨n,n1,n2,n3,n4,hf⟩:=len64_fun y h0 h
 have hp:0<2 ^ (64 - n):=Nat.pow_pos (by decide)
 refine ⟨64 - n,by omega,?_,?_,?_⟩
 ·have:=Nat.mul_le_mul_right (2 ^ (64 - n)) n3
  rw [← Nat.pow_add,show n - 1+(64 - n)=63 by omega] at this
  exact this
 ·have:=Nat.mul_lt_mul_of_pos_right n4 hp
  rw [← Nat.pow_add,show n+(64 - n)=64 by omega] at this
  exact this
 ·refine Fun.x T6 Tryz.func144 rfl ?_
  (repeat' (first | (refine Rn.go ?_;conv=>whnf) | refine .mk ?_ | refine .tt ?_ | refine .ff ?_ | refine .m2 ?_ | refine .m3 ?_ | refine .mk (fun hc=>?_) fun hc=>?_ | refine .lp fun v H lp=>?_ | fail))
  refine .p hf ?_
  (repeat' (first | (refine Rn.go ?_;conv=>whnf) | refine .mk ?_ | refine .tt ?_ | refine .ff ?_ | refine .m2 ?_ | refine .m3 ?_ | refine .mk (fun hc=>?_) fun hc=>?_ | refine .lp fun v H lp=>?_ | fail))
  exact ⟨_,rfl,by simp only [tupOf,nrm,PV.int.injEq,true_and];omega⟩
theorem shlN {a s c:Nat} (hs:s≤64) (hc:c=a * 2 ^ s % 18446744073709551616):IntKind.u64.wrap ((a:Int) * 2 ^ (min ((s:Nat):Int).toNat IntKind.u64.bits))=(c:Int):=by
 subst hc
 have e:(2:Int) ^ (min ((s:Nat):Int).toNat IntKind.u64.bits)=((2 ^ s:Nat):Int):=by
  rw [Int.toNat_natCast,show min s IntKind.u64.bits=s from Nat.min_eq_left hs];exact (Int.natCast_pow 2 s).symm
 rw [e,← Int.natCast_mul,wrapM];rfl
theorem shrS {a s:Nat} {b:Int} (hb:b=(s:Int)) (hs:s≤64):Int.fdiv (a:Int) (2 ^ (min b.toNat IntKind.u64.bits))=((a / 2 ^ s:Nat):Int):=by subst hb;exact shrN a s hs
theorem quoN (a b:Nat):Int.tdiv (a:Int) (b:Int)=((a / b:Nat):Int):=by rw [Int.tdiv_eq_ediv_of_nonneg (by omega)];exact (Int.natCast_ediv a b).symm
theorem remN (a b:Nat):Int.tmod (a:Int) (b:Int)=((a % b:Nat):Int):=by rw [Int.tmod_eq_emod_of_nonneg (by omega)];exact (Int.natCast_emod a b).symm
set_option maxHeartbeats 2000000 in
theorem div64_fun (hi lo y:Nat) (hy:y<18446744073709551616) (hh:hi<y) (hl:lo<18446744073709551616):∃ q,Fun C 136 [.int .u64 hi,.int .u64 lo,.int .u64 y] (.tup [q,.int .u64 (((hi * 18446744073709551616+lo) % y:Nat):Int)]):=by
 obtain ⟨s,s1,s2,s3,hlz⟩:=lz64_fun y (by omega) hy
 obtain ⟨Y,hY⟩:∃ Y,Y=y * 2 ^ s:=⟨_,rfl⟩
 have ps:0<2 ^ s:=Nat.pow_pos (by decide)
 have ps2:2 ^ s * 2 ^ (64 - s)=18446744073709551616:=by rw [← Nat.pow_add,show s+(64 - s)=64 by omega]
 suffices hmain:FnEv C 136 [.int .u64 hi,.int .u64 lo,.int .u64 y] [] (fun r0 hc=>∃ q,True∧∃ r1,rb hc r0=some r1∧nrm r1=.tup [q,.int .u64 (((hi * 18446744073709551616+lo) % y:Nat):Int)]) by
  obtain ⟨x,_,hx⟩:=Fun.ex hmain
  exact ⟨x,hx⟩
 refine FnEv.x T6 Tryz.func136 rfl ?_
 by_cases hz:hi=0
 ·subst hz
  (repeat' (first | (refine Rn.go ?_;conv=>whnf) | refine .mk ?_ | refine .tt ?_ | refine .ff ?_ | refine .m2 ?_ | refine .m3 ?_ | refine .mk (fun hc=>?_) fun hc=>?_ | refine .lp fun v H lp=>?_ | fail))
  refine .raw ((lo / y:Nat):Int) (by rw [quoN];exact wrapN (Int.natCast_nonneg _) (Int.ofNat_lt.2 (Nat.lt_of_le_of_lt (Nat.div_le_self lo y) hl))) ?_
  (repeat' (first | (refine Rn.go ?_;conv=>whnf) | refine .mk ?_ | refine .tt ?_ | refine .ff ?_ | refine .m2 ?_ | refine .m3 ?_ | refine .mk (fun hc=>?_) fun hc=>?_ | refine .lp fun v H lp=>?_ | fail))
  exact ⟨_,trivial,_,rfl,by simp [tupOf,nrm,nrms,remN];rfl⟩
 ·obtain ⟨n1,hn1⟩:∃ n1,n1=Y / 4294967296:=⟨_,rfl⟩
  obtain ⟨n0,hn0⟩:∃ n0,n0=Y % 4294967296:=⟨_,rfl⟩
  obtain ⟨u,hu⟩:∃ u,u=hi * 2 ^ s+lo / 2 ^ (64 - s):=⟨_,rfl⟩
  obtain ⟨w,hw⟩:∃ w,w=lo * 2 ^ s % 18446744073709551616:=⟨_,rfl⟩
  obtain ⟨v1,hv1⟩:∃ v1,v1=w / 4294967296:=⟨_,rfl⟩
  obtain ⟨v0,hv0⟩:∃ v0,v0=w % 4294967296:=⟨_,rfl⟩
  have hlow:lo / 2 ^ (64 - s)<2 ^ s:=by rw [Nat.div_lt_iff_lt_mul (Nat.pow_pos (by decide)),ps2];exact hl
  have hM:(hi * 18446744073709551616+lo) * 2 ^ s=u * 18446744073709551616+w:=by
   have h1:lo * 2 ^ s / 18446744073709551616=lo / 2 ^ (64 - s):=by rw [← ps2,Nat.mul_comm (2 ^ s),Nat.mul_div_mul_right _ _ ps]
   have h2:=Nat.div_add_mod (lo * 2 ^ s) 18446744073709551616
   rw [h1,← hw] at h2
   rw [Nat.add_mul,hu,Nat.add_mul,Nat.mul_right_comm]
   omega
  have huY:u<Y:=by
   have h1:hi * 18446744073709551616+lo<y * 18446744073709551616:=by omega
   have h2:=Nat.mul_lt_mul_of_pos_right h1 ps
   rw [hM,Nat.mul_right_comm,← hY] at h2
   omega
  have hYb:Y<18446744073709551616:=by omega
  have hYe:Y=n1 * 4294967296+n0:=by omega
  have hn1b:2147483648≤n1:=by omega
  have hhi:hi * 2 ^ s<18446744073709551616:=Nat.lt_of_le_of_lt (show hi * 2 ^ s≤u by rw [hu];exact Nat.le_add_right _ _) (by omega)
  (repeat' (first | (refine Rn.go ?_;conv=>whnf) | refine .mk ?_ | refine .tt ?_ | refine .ff ?_ | refine .m2 ?_ | refine .m3 ?_ | refine .mk (fun hc=>?_) fun hc=>?_ | refine .lp fun v H lp=>?_ | fail))
  refine .p hlz ?_
  (repeat' (first | (refine Rn.go ?_;conv=>whnf) | refine .mk ?_ | refine .tt ?_ | refine .ff ?_ | refine .m2 ?_ | refine .m3 ?_ | refine .mk (fun hc=>?_) fun hc=>?_ | refine .lp fun v H lp=>?_ | fail))
  refine .mk (Y:Int) (shlN (by omega) (by rw [hY];exact (Nat.mod_eq_of_lt s3).symm)) (by omega) ?_
  (repeat' (first | (refine Rn.go ?_;conv=>whnf) | refine ShrX.mk ?_ (shr32 _) (by decide) | refine ShrX.mk ?_ (shr16 _) (by decide) | refine ShrX.mk ?_ (shr8 _) (by decide) | ((fail_if_success (show ShrX _ _ _ _));refine .mk ?_) | refine .tt ?_ | refine .ff ?_ | refine .m2 ?_ | refine .m3 ?_ | refine .mk (fun hc=>?_) fun hc=>?_ | refine .lp fun v H lp=>?_ | fail))
  rw [← hn1]
  refine .mk _ (and32 Y (by omega)) ?_
  rw [← hn0]
  (repeat' (first | (refine Rn.go ?_;conv=>whnf) | refine ShrX.mk ?_ (shr32 _) (by decide) | refine ShrX.mk ?_ (shr16 _) (by decide) | refine ShrX.mk ?_ (shr8 _) (by decide) | ((fail_if_success (show ShrX _ _ _ _));refine .mk ?_) | refine .tt ?_ | refine .ff ?_ | refine .m2 ?_ | refine .m3 ?_ | refine .mk (fun hc=>?_) fun hc=>?_ | refine .lp fun v H lp=>?_ | fail))
  refine .mk ((hi * 2 ^ s:Nat):Int) (shlN (by omega) (Nat.mod_eq_of_lt hhi).symm) (by omega) ?_
  (repeat' (first | (refine Rn.go ?_;conv=>whnf) | refine ShrX.mk ?_ (shr32 _) (by decide) | refine ShrX.mk ?_ (shr16 _) (by decide) | refine ShrX.mk ?_ (shr8 _) (by decide) | ((fail_if_success (show ShrX _ _ _ _));refine .mk ?_) | refine .tt ?_ | refine .ff ?_ | refine .m2 ?_ | refine .m3 ?_ | refine .mk (fun hc=>?_) fun hc=>?_ | refine .lp fun v H lp=>?_ | fail))
  refine .mk ?_ (shrS (s:=64 - s) (by omega) (by omega)) (by omega)
  (repeat' (first | (refine Rn.go ?_;conv=>whnf) | refine ShrX.mk ?_ (shr32 _) (by decide) | refine ShrX.mk ?_ (shr16 _) (by decide) | refine ShrX.mk ?_ (shr8 _) (by decide) | ((fail_if_success (show ShrX _ _ _ _));refine .mk ?_) | refine .tt ?_ | refine .ff ?_ | refine .m2 ?_ | refine .m3 ?_ | refine .mk (fun hc=>?_) fun hc=>?_ | refine .lp fun v H lp=>?_ | fail))
  refine .mk _ (or64 hi (lo / 2 ^ (64 - s)) s hlow (by omega)) ?_
  rw [← hu]
  (repeat' (first | (refine Rn.go ?_;conv=>whnf) | refine ShrX.mk ?_ (shr32 _) (by decide) | refine ShrX.mk ?_ (shr16 _) (by decide) | refine ShrX.mk ?_ (shr8 _) (by decide) | ((fail_if_success (show ShrX _ _ _ _));refine .mk ?_) | refine .tt ?_ | refine .ff ?_ | refine .m2 ?_ | refine .m3 ?_ | refine .mk (fun hc=>?_) fun hc=>?_ | refine .lp fun v H lp=>?_ | fail))
  refine .mk (w:Int) (shlN (by omega) hw) (by omega) ?_
  (repeat' (first | (refine Rn.go ?_;conv=>whnf) | refine ShrX.mk ?_ (shr32 _) (by decide) | refine ShrX.mk ?_ (shr16 _) (by decide) | refine ShrX.mk ?_ (shr8 _) (by decide) | ((fail_if_success (show ShrX _ _ _ _));refine .mk ?_) | refine .tt ?_ | refine .ff ?_ | refine .m2 ?_ | refine .m3 ?_ | refine .mk (fun hc=>?_) fun hc=>?_ | refine .lp fun v H lp=>?_ | fail))
  rw [← hv1]
  refine .mk _ (and32 w (by omega)) ?_
  rw [← hv0]
  (repeat' (first | (refine Rn.go ?_;conv=>whnf) | refine ShrX.mk ?_ (shr32 _) (by decide) | refine ShrX.mk ?_ (shr16 _) (by decide) | refine ShrX.mk ?_ (shr8 _) (by decide) | ((fail_if_success (show ShrX _ _ _ _));refine .mk ?_) | refine .tt ?_ | refine .ff ?_ | refine .m2 ?_ | refine .m3 ?_ | refine .mk (fun hc=>?_) fun hc=>?_ | refine .lp fun v H lp=>?_ | fail))
  have qn:=Nat.div_mul_le_self u n1
  have qm:=Nat.div_add_mod u n1
  rw [Nat.mul_comm] at qm
  have qr:=Nat.mod_lt u (show 0<n1 by omega)
  have q2:=kn_q2 hn1b (show n0<4294967296 by omega) (hYe ▸ huY)
  refine .raw ((u / n1:Nat):Int) (by rw [quoN];exact wrapN (Int.natCast_nonneg _) (by omega)) ?_
  (repeat' (first | (refine Rn.go ?_;conv=>whnf) | refine ShrX.mk ?_ (shr32 _) (by decide) | refine ShrX.mk ?_ (shr16 _) (by decide) | refine ShrX.mk ?_ (shr8 _) (by decide) | ((fail_if_success (show ShrX _ _ _ _));refine .mk ?_) | refine .tt ?_ | refine .ff ?_ | refine .m2 ?_ | refine .m3 ?_ | refine .mk (fun hc=>?_) fun hc=>?_ | refine .lp fun v H lp=>?_ | fail))
  have qs:u / n1 * n1<18446744073709551616:=Nat.lt_of_le_of_lt qn (by omega)
  refine .raw ((u / n1 * n1:Nat):Int) (by rw [← Int.natCast_mul];exact wrapN (Int.natCast_nonneg _) (Int.ofNat_lt.2 qs)) ?_
  (repeat' (first | (refine Rn.go ?_;conv=>whnf) | refine ShrX.mk ?_ (shr32 _) (by decide) | refine ShrX.mk ?_ (shr16 _) (by decide) | refine ShrX.mk ?_ (shr8 _) (by decide) | ((fail_if_success (show ShrX _ _ _ _));refine .mk ?_) | refine .tt ?_ | refine .ff ?_ | refine .m2 ?_ | refine .m3 ?_ | refine .mk (fun hc=>?_) fun hc=>?_ | refine .lp fun v H lp=>?_ | fail))
  have er:(u:Int) - ((u / n1 * n1:Nat):Int)=((u % n1:Nat):Int):=by omega
  rw [er]
  obtain ⟨Q,hQ⟩:∃ Q,Q=(u * 4294967296+v1) / (n1 * 4294967296+n0):=⟨_,rfl⟩
  have hv1b:v1<4294967296:=by omega
  have hv0b:v0<4294967296:=by omega
  have hn0b:n0<4294967296:=by omega
  have hQb:Q<4294967296:=by rw [hQ];exact kn_hi (by omega) hv1b
  have hQi:Q≤u / n1:=by rw [hQ];exact kn_ini (by omega) hv1b
  have hQY:=Nat.div_add_mod (u * 4294967296+v1) (n1 * 4294967296+n0)
  have hQl:=Nat.mod_lt (u * 4294967296+v1) (show 0<n1 * 4294967296+n0 by omega)
  rw [← hQ,← hYe] at hQY
  rw [← hYe] at hQl
  obtain ⟨u2,hu2⟩:∃ u2,u2=(u * 4294967296+v1) % Y:=⟨_,rfl⟩
  rw [← hu2] at hQY hQl
  obtain ⟨pY,hpY⟩:∃ pY,pY=Q * Y:=⟨_,rfl⟩
  rw [Nat.mul_comm,← hpY] at hQY
  obtain ⟨Q2,hQ2⟩:∃ Q2,Q2=(u2 * 4294967296+v0) / (n1 * 4294967296+n0):=⟨_,rfl⟩
  have hQ2b:Q2<4294967296:=by rw [hQ2];exact kn_hi (by omega) hv0b
  have hQ2i:Q2≤u2 / n1:=by rw [hQ2];exact kn_ini (by omega) hv0b
  have q22:=kn_q2 hn1b hn0b (hYe ▸ hQl)
  have qn2:=Nat.div_mul_le_self u2 n1
  have qm2:=Nat.div_add_mod u2 n1
  rw [Nat.mul_comm] at qm2
  have qr2:=Nat.mod_lt u2 (show 0<n1 by omega)
  have qs2:u2 / n1 * n1<18446744073709551616:=Nat.lt_of_le_of_lt qn2 (by omega)
  have er2:(u2:Int) - ((u2 / n1:Nat):Int) * (n1:Int)=((u2 % n1:Nat):Int):=by rw [← Int.natCast_mul];omega
  have hQY2:=Nat.div_add_mod (u2 * 4294967296+v0) (n1 * 4294967296+n0)
  have hQl2:=Nat.mod_lt (u2 * 4294967296+v0) (show 0<n1 * 4294967296+n0 by omega)
  rw [← hQ2,← hYe] at hQY2
  rw [← hYe] at hQl2
  obtain ⟨R,hR⟩:∃ R,R=(u2 * 4294967296+v0) % Y:=⟨_,rfl⟩
  rw [← hR] at hQY2 hQl2
  obtain ⟨pY2,hpY2⟩:∃ pY2,pY2=Q2 * Y:=⟨_,rfl⟩
  rw [Nat.mul_comm,← hpY2] at hQY2
  have hfin:R / 2 ^ s=(hi * 18446744073709551616+lo) % y:=by
   have h1:(hi * 18446744073709551616+lo) * 2 ^ s % (y * 2 ^ s)=R:=by
    rw [hM,← hY,hR]
    have h2:u * 18446744073709551616+w=Y * (Q * 4294967296)+(u2 * 4294967296+v0):=by
     rw [← Nat.mul_assoc,Nat.mul_comm Y,← hpY];omega
    rw [h2,Nat.mul_add_mod]
   rw [Nat.mul_mod_mul_right] at h1
   rw [← h1,Nat.mul_div_cancel _ ps]
  refine LpX.nat T6 (fun m L H=>∃ q r:Nat,L=[(2,.int .u64 Y),(8,.int .u64 s),(9,.int .u64 n1),(10,.int .u64 n0),(11,.int .u64 u),(13,.int .u64 v1),(14,.int .u64 v0),(15,.int .u64 q),(16,.int .u64 r)]∧H=[]∧m=q∧u=q * n1+r∧Q≤q∧r<4294967296∧q≤4294967297) (u / n1) (.nx ⟨u / n1,u % n1,rfl,rfl,rfl,qm.symm,hQi,by omega,q2⟩) ?_
  rintro m _ _ ρ ⟨q,r,rfl,rfl,rfl,e,hq,hr,hq2⟩
  obtain ⟨p,hp⟩:∃ p,p=m * n0:=⟨_,rfl⟩
  obtain ⟨g1,g2,g3,g4,g5⟩:=kn_all hn1b hn0b hQ e hq hq2 hp
  by_cases c1:4294967296≤m
  all_goals
   try have hpb:=g5 (by omega)
   (repeat' (first | (refine Rn.go ?_;conv=>whnf) | refine ShrX.mk ?_ (shr32 _) (by decide) | refine ShrX.mk ?_ (shr16 _) (by decide) | refine ShrX.mk ?_ (shr8 _) (by decide) | ((fail_if_success (show ShrX _ _ _ _));refine .mk ?_) | refine Wr.mk ?_ (wrapN (by omega) (by omega)) | refine .tt ?_ | refine .ff ?_ | refine .m2 ?_ | refine .m3 ?_ | refine .mk (fun hc=>?_) fun hc=>?_ | refine .lp fun v H lp=>?_ | fail))
  all_goals first
   | exact .nx ⟨m - 1,by omega,m - 1,r+n1,rfl,rfl,rfl,g4 (by first | omega | exact g1 (by omega)),by first | omega | (have:=g1 (by omega);omega),by omega,by omega⟩
   | rw [show (m:Int) - 1=(Q:Int) from by
     have:=g3 (by first | omega | exact g1 (by omega)) (by omega)
     omega]
   | rw [show (m:Int)=(Q:Int) from by
     have:=g2 (by omega)
     omega]
  all_goals
   clear g1 g2 g3 g4 g5
   refine .raw ((u * 4294967296 % 18446744073709551616:Nat):Int) (by rw [wrapM];omega) ?_
   (repeat' (first | (refine Rn.go ?_;conv=>whnf) | refine ShrX.mk ?_ (shr32 _) (by decide) | refine ShrX.mk ?_ (shr16 _) (by decide) | refine ShrX.mk ?_ (shr8 _) (by decide) | ((fail_if_success (show ShrX _ _ _ _));refine .mk ?_) | refine Wr.mk ?_ (wrapN (by omega) (by omega)) | refine .tt ?_ | refine .ff ?_ | refine .m2 ?_ | refine .m3 ?_ | refine .mk (fun hc=>?_) fun hc=>?_ | refine .lp fun v H lp=>?_ | fail))
   refine .raw ((pY % 18446744073709551616:Nat):Int) (by rw [wrapM,← Int.natCast_mul,← hpY];rfl) ?_
   (repeat' (first | (refine Rn.go ?_;conv=>whnf) | refine ShrX.mk ?_ (shr32 _) (by decide) | refine ShrX.mk ?_ (shr16 _) (by decide) | refine ShrX.mk ?_ (shr8 _) (by decide) | ((fail_if_success (show ShrX _ _ _ _));refine .mk ?_) | refine Wr.mk ?_ (wrapN (by omega) (by omega)) | refine .tt ?_ | refine .ff ?_ | refine .m2 ?_ | refine .m3 ?_ | refine .mk (fun hc=>?_) fun hc=>?_ | refine .lp fun v H lp=>?_ | fail))
   refine .raw (u2:Int) (by rw [wrapM];omega) ?_
   (repeat' (first | (refine Rn.go ?_;conv=>whnf) | refine ShrX.mk ?_ (shr32 _) (by decide) | refine ShrX.mk ?_ (shr16 _) (by decide) | refine ShrX.mk ?_ (shr8 _) (by decide) | ((fail_if_success (show ShrX _ _ _ _));refine .mk ?_) | refine Wr.mk ?_ (wrapN (by omega) (by omega)) | refine .tt ?_ | refine .ff ?_ | refine .m2 ?_ | refine .m3 ?_ | refine .mk (fun hc=>?_) fun hc=>?_ | refine .lp fun v H lp=>?_ | fail))
   refine .raw ((u2 / n1:Nat):Int) (by rw [quoN];exact wrapN (Int.natCast_nonneg _) (by omega)) ?_
   (repeat' (first | (refine Rn.go ?_;conv=>whnf) | refine ShrX.mk ?_ (shr32 _) (by decide) | refine ShrX.mk ?_ (shr16 _) (by decide) | refine ShrX.mk ?_ (shr8 _) (by decide) | ((fail_if_success (show ShrX _ _ _ _));refine .mk ?_) | refine Wr.mk ?_ (wrapN (by omega) (by omega)) | refine .tt ?_ | refine .ff ?_ | refine .m2 ?_ | refine .m3 ?_ | refine .mk (fun hc=>?_) fun hc=>?_ | refine .lp fun v H lp=>?_ | fail))
   rw [er2]
   refine LpX.nat T6 (fun m L H=>∃ q r:Nat,L=[(2,.int .u64 Y),(8,.int .u64 s),(9,.int .u64 n1),(10,.int .u64 n0),(14,.int .u64 v0),(15,.int .u64 Q),(16,.int .u64 r),(17,.int .u64 u2),(18,.int .u64 q)]∧H=[]∧m=q∧u2=q * n1+r∧Q2≤q∧r<4294967296∧q≤4294967297) (u2 / n1) (.nx ⟨u2 / n1,u2 % n1,rfl,rfl,rfl,qm2.symm,hQ2i,by omega,q22⟩) ?_
   rintro m2 _ _ ρ ⟨q,r2,rfl,rfl,rfl,e2,hq2',hr2,hq22⟩
   obtain ⟨p2,hp2⟩:∃ p2,p2=m2 * n0:=⟨_,rfl⟩
   obtain ⟨g1,g2,g3,g4,g5⟩:=kn_all hn1b hn0b hQ2 e2 hq2' hq22 hp2
   by_cases c2:4294967296≤m2
   all_goals
    try have hpb2:=g5 (by omega)
    (repeat' (first | (refine Rn.go ?_;conv=>whnf) | refine ShrX.mk ?_ (shr32 _) (by decide) | refine ShrX.mk ?_ (shr16 _) (by decide) | refine ShrX.mk ?_ (shr8 _) (by decide) | ((fail_if_success (show ShrX _ _ _ _));refine .mk ?_) | refine Wr.mk ?_ (wrapN (by omega) (by omega)) | refine .tt ?_ | refine .ff ?_ | refine .m2 ?_ | refine .m3 ?_ | refine .mk (fun hc=>?_) fun hc=>?_ | refine .lp fun v H lp=>?_ | fail))
   all_goals first
    | exact .nx ⟨m2 - 1,by omega,m2 - 1,r2+n1,rfl,rfl,rfl,g4 (by first | omega | exact g1 (by omega)),by first | omega | (have:=g1 (by omega);omega),by omega,by omega⟩
    | rw [show (m2:Int) - 1=(Q2:Int) from by
      have:=g3 (by first | omega | exact g1 (by omega)) (by omega)
      omega]
    | rw [show (m2:Int)=(Q2:Int) from by
      have:=g2 (by omega)
      omega]
   all_goals
    (repeat' (first | (refine Rn.go ?_;conv=>whnf) | refine ShrX.mk ?_ (shr32 _) (by decide) | refine ShrX.mk ?_ (shr16 _) (by decide) | refine ShrX.mk ?_ (shr8 _) (by decide) | ((fail_if_success (show ShrX _ _ _ _));refine .mk ?_) | refine Wr.mk ?_ (wrapN (by omega) (by omega)) | refine .tt ?_ | refine .ff ?_ | refine .m2 ?_ | refine .m3 ?_ | refine .mk (fun hc=>?_) fun hc=>?_ | refine .lp fun v H lp=>?_ | fail))
    refine .raw ((u2 * 4294967296 % 18446744073709551616:Nat):Int) (by rw [wrapM];omega) ?_
    (repeat' (first | (refine Rn.go ?_;conv=>whnf) | refine ShrX.mk ?_ (shr32 _) (by decide) | refine ShrX.mk ?_ (shr16 _) (by decide) | refine ShrX.mk ?_ (shr8 _) (by decide) | ((fail_if_success (show ShrX _ _ _ _));refine .mk ?_) | refine Wr.mk ?_ (wrapN (by omega) (by omega)) | refine .tt ?_ | refine .ff ?_ | refine .m2 ?_ | refine .m3 ?_ | refine .mk (fun hc=>?_) fun hc=>?_ | refine .lp fun v H lp=>?_ | fail))
    refine .raw ((pY2 % 18446744073709551616:Nat):Int) (by rw [wrapM,← Int.natCast_mul,← hpY2];rfl) ?_
    (repeat' (first | (refine Rn.go ?_;conv=>whnf) | refine ShrX.mk ?_ (shr32 _) (by decide) | refine ShrX.mk ?_ (shr16 _) (by decide) | refine ShrX.mk ?_ (shr8 _) (by decide) | ((fail_if_success (show ShrX _ _ _ _));refine .mk ?_) | refine Wr.mk ?_ (wrapN (by omega) (by omega)) | refine .tt ?_ | refine .ff ?_ | refine .m2 ?_ | refine .m3 ?_ | refine .mk (fun hc=>?_) fun hc=>?_ | refine .lp fun v H lp=>?_ | fail))
    refine .raw (R:Int) (by rw [wrapM];omega) ?_
    (repeat' (first | (refine Rn.go ?_;conv=>whnf) | refine ShrX.mk ?_ (shr32 _) (by decide) | refine ShrX.mk ?_ (shr16 _) (by decide) | refine ShrX.mk ?_ (shr8 _) (by decide) | ((fail_if_success (show ShrX _ _ _ _));refine .mk ?_) | refine Wr.mk ?_ (wrapN (by omega) (by omega)) | refine .tt ?_ | refine .ff ?_ | refine .m2 ?_ | refine .m3 ?_ | refine .mk (fun hc=>?_) fun hc=>?_ | refine .lp fun v H lp=>?_ | fail))
    refine .mk ?_ (shrS (s:=s) rfl (by omega)) (by omega)
    rw [hfin]
    (repeat' (first | (refine Rn.go ?_;conv=>whnf) | refine ShrX.mk ?_ (shr32 _) (by decide) | refine ShrX.mk ?_ (shr16 _) (by decide) | refine ShrX.mk ?_ (shr8 _) (by decide) | ((fail_if_success (show ShrX _ _ _ _));refine .mk ?_) | refine Wr.mk ?_ (wrapN (by omega) (by omega)) | refine .tt ?_ | refine .ff ?_ | refine .m2 ?_ | refine .m3 ?_ | refine .mk (fun hc=>?_) fun hc=>?_ | refine .lp fun v H lp=>?_ | fail))
    exact ⟨_,trivial,_,rfl,rfl⟩
end Go.Pm
end
section
set_option maxRecDepth 4000
namespace Go.Pm
open Go.Proofs
attribute [local irreducible] thenQ blockQ loopQ bodyQ Ev EvOps CallEv FnEv EvD
theorem rabs_fun (n:Int) (h : -9223372036854775807≤n∧n≤9223372036854775807):Fun C 68 [.int .i64 n] (.int .i64 (max n (-n))):=by
 refine Fun.x T6 Tryz.func68 rfl ?_
 (repeat' (first | (refine Rn.go ?_;conv=>whnf) | refine .mk ?_ | refine .tt ?_ | refine .ff ?_ | refine .m2 ?_ | refine .m3 ?_ | refine .mk (fun hc=>?_) fun hc=>?_ | refine .lp fun v H lp=>?_ | fail))
 exact ⟨_,rfl,by simp [tupOf]⟩
theorem div_lt2 {n q:Int} (hn:n≠0):(2199023255552:Int).tdiv (max n (-n))<max q (-q)↔2199023255552<(q * n).natAbs:=by
 rw [absI,absI,Int.natAbs_mul]
 have h0:0<n.natAbs:=by omega
 generalize n.natAbs=N at *
 generalize q.natAbs=Q at *
 rw [show (2199023255552:Int)=((2199023255552:Nat):Int) from rfl,Int.tdiv_eq_ediv_of_nonneg (by omega),← Int.natCast_ediv]
 rw [Int.ofNat_lt,Nat.div_lt_iff_lt_mul h0]
theorem div_rng2 {n:Int} (hn:n≠0):0≤(2199023255552:Int).tdiv (max n (-n))∧(2199023255552:Int).tdiv (max n (-n))≤2199023255552:=by
 rw [absI]
 generalize n.natAbs=N
 rw [show (2199023255552:Int)=((2199023255552:Nat):Int) from rfl,Int.tdiv_eq_ediv_of_nonneg (by omega),← Int.natCast_ediv]
 have:=Nat.div_le_self 2199023255552 N
 generalize 2199023255552 / N=D at *
 omega
theorem rsub_ev (H:AHeap) (hR:HR H) (ia ea ip ep:Nat) (A B:List Int) (q:Int) (ha:H[ia]?=some ⟨.m,ea,1,encIs A⟩) (hb:H[ip]?=some ⟨.m,ep,1,encIs B⟩) (hl:A.length=B.length) (hn:A.length<100000) (sA:small A=true) (sB:small B=true) (sq:smallI q=true) :
  FnEv C 119 [.mref ia ea 0 A.length,.mref ip ep 0 B.length,.int .i64 q] H (fun r h'=>HR h'∧H.length≤h'.length∧(∀ j,j<H.length→h'[j]?=H[j]?) ∧
   if small (subL A B q)=true then ∃ v,r=.tup [v,.bool true]∧Out 1 h' v (encIs (subL A B q))∧(∀ j ep n,v=.mref j ep 0 n→H.length≤j) else r=.tup [.snap true [],.bool false]):=by
 have hqq:=of_decide_eq_true sq
 have habq:=rabs_fun q (by omega)
 have hla:(encIs A).length=A.length:=by simp
 have hlb:(encIs B).length=B.length:=by simp
 have ka:=lt_of_some ha
 have kb:=lt_of_some hb
 refine FnEv.x T6 Tryz.func119 rfl ?_
 (repeat' (first | (refine Rn.go ?_;conv=>whnf) | refine .mk ?_ | refine .tt ?_ | refine .ff ?_ | refine .m2 ?_ | refine .m3 ?_ | refine .mk (fun hc=>?_) fun hc=>?_ | refine .lp fun v H lp=>?_ | fail))
 have hw1:(A.zip B).map (·.1)=A:=List.map_fst_zip (by omega)
 have hw2:(A.zip B).map (·.2)=B:=List.map_snd_zip (by omega)
 have hw3:(A.zip B).map (fun z=>z.1 - q * z.2)=subL A B q:=by rw [subL,List.zip,List.map_zipWith]
 have hwl:(A.zip B).length=A.length:=by rw [← List.length_map (f:=(·.1)),hw1]
 generalize hzw:A.zip B=w at *
 refine LpX.zip T6 w (fun p r L h=>∃ v,L=[(0,.mref ia ea 0 A.length),(1,.mref ip ep 0 B.length),(2,.int .i64 q),(8,v),(9,.int .i64 p.length)]∧HR h∧H.length≤h.length∧(∀ j,j<H.length→h[j]?=H[j]?)∧Out 1 h v (encIs (p.map fun z=>z.1 - q * z.2))∧(∀ j ep n,v=.mref j ep 0 n→H.length≤j)∧small (p.map fun z=>z.1 - q * z.2)=true)
  (.nx ⟨.snap true [],rfl,hR,Nat.le_refl _,fun _ _=>rfl,.inl ⟨rfl,rfl⟩,(fun j ep n hh=>by cases hh),rfl⟩) ?_ ?_
 ·rintro p ⟨a,n⟩ r _ h ρ e ⟨v,rfl,hh,h1,h2,ho,hv,hs⟩
  have hl3:=congrArg List.length e
  simp only [List.length_append,List.length_cons] at hl3
  have ha':h[ia]?=some ⟨.m,ea,1,encIs A⟩:=by rw [h2 ia ka];exact ha
  have hb':h[ip]?=some ⟨.m,ep,1,encIs B⟩:=by rw [h2 ip kb];exact hb
  have hat2:(encIs B)[0+p.length]?=some (.int .i64 n):=by rw [← hw2,e];simp [encIs]
  have hat3:(encIs A)[0+p.length]?=some (.int .i64 a):=by rw [← hw1,e];simp [encIs]
  have hn':=of_decide_eq_true (List.all_eq_true.1 sB n (by rw [← hw2,e];simp))
  have ha2:=of_decide_eq_true (List.all_eq_true.1 sA a (by rw [← hw1,e];simp))
  have habn:=rabs_fun n (by omega)
  have hno:smallI (a - q * n)=false→small (subL A B q)=false:=fun hh=>by
   rw [← hw3,e,small,List.all_map,List.all_eq_false]
   exact ⟨(a,n),by simp,by simpa using hh⟩
  have hln:(encIs (p.map fun z=>z.1 - q * z.2)).length+1<1000000000:=by simp;omega
  by_cases hbig:n≠0∧(2199023255552:Int).tdiv (max n (-n))<max q (-q)
  ·obtain ⟨hn0,hbig⟩:=hbig
   have hT:=div_rng2 hn0
   have hns:smallI (a - q * n)=false:=by
    have:=(div_lt2 hn0).1 hbig
    unfold smallI;rw [decide_eq_false_iff_not];omega
   (repeat' (first | (refine Rn.go ?_;conv=>whnf) | refine .mk ?_ | refine .tt ?_ | refine .ff ?_ | refine .m2 ?_ | refine .m3 ?_ | refine .mk (fun hc=>?_) fun hc=>?_ | refine .lp fun v H lp=>?_ | fail))
   refine .p habq ?_
   (repeat' (first | (refine Rn.go ?_;conv=>whnf) | refine .mk ?_ | refine .tt ?_ | refine .ff ?_ | refine .m2 ?_ | refine .m3 ?_ | refine .mk (fun hc=>?_) fun hc=>?_ | refine .lp fun v H lp=>?_ | fail))
   refine .p habn ?_
   (repeat' (first | (refine Rn.go ?_;conv=>whnf) | refine .mk ?_ | refine .tt ?_ | refine .ff ?_ | refine .m2 ?_ | refine .m3 ?_ | refine .mk (fun hc=>?_) fun hc=>?_ | refine .lp fun v H lp=>?_ | fail))
   exact ⟨hh,h1,h2,by rw [if_neg (by rw [hno hns];simp)];rfl⟩
  ·have hqn : -2199023255552≤q * n∧q * n≤2199023255552:=by
    by_cases hn0:n=0
    ·subst hn0;simp
    ·have:¬ 2199023255552<(q * n).natAbs:=fun hh=>hbig ⟨hn0,(div_lt2 hn0).2 hh⟩
     omega
   have habv:=rabs_fun (a - q * n) (by omega)
   by_cases hs2:smallI (a - q * n)=true
   ·have hsm:=of_decide_eq_true hs2
    by_cases hn0:n=0
    ·(repeat' (first | (refine Rn.go ?_;conv=>whnf) | refine .mk ?_ | refine .tt ?_ | refine .ff ?_ | refine .m2 ?_ | refine .m3 ?_ | refine .mk (fun hc=>?_) fun hc=>?_ | refine .lp fun v H lp=>?_ | fail))
     refine .p habv ?_
     (repeat' (first | (refine Rn.go ?_;conv=>whnf) | refine .mk ?_ | refine .tt ?_ | refine .ff ?_ | refine .m2 ?_ | refine .m3 ?_ | refine .mk (fun hc=>?_) fun hc=>?_ | refine .lp fun v H lp=>?_ | fail))
     refine .lr (fun v3 H3 lr=>?_)
     (repeat' (first | (refine Rn.go ?_;conv=>whnf) | refine .mk ?_ | refine .tt ?_ | refine .ff ?_ | refine .m2 ?_ | refine .m3 ?_ | refine .mk (fun hc=>?_) fun hc=>?_ | refine .lp fun v H lp=>?_ | fail))
     exact .nx ⟨v3,rfl,lr.hr,by have:=lr.len;omega,fun j hj=>by rw [lr.fr j (by omega) (fun ep n hh=>by have:=hv j ep n hh;omega)];exact h2 j hj,by simpa [encIs] using lr.out,(fun j ep n hh=>by
      rcases lr.ref j ep n hh with ⟨ep',n',h3⟩ | h3
      ·exact hv j ep' n' h3
      ·omega),by rw [List.map_append,small_app,hs];simpa [small] using hs2⟩
    ·have hT:=div_rng2 hn0
     have hbig':¬ (2199023255552:Int).tdiv (max n (-n))<max q (-q):=fun hh=>hbig ⟨hn0,hh⟩
     (repeat' (first | (refine Rn.go ?_;conv=>whnf) | refine .mk ?_ | refine .tt ?_ | refine .ff ?_ | refine .m2 ?_ | refine .m3 ?_ | refine .mk (fun hc=>?_) fun hc=>?_ | refine .lp fun v H lp=>?_ | fail))
     refine .p habq ?_
     (repeat' (first | (refine Rn.go ?_;conv=>whnf) | refine .mk ?_ | refine .tt ?_ | refine .ff ?_ | refine .m2 ?_ | refine .m3 ?_ | refine .mk (fun hc=>?_) fun hc=>?_ | refine .lp fun v H lp=>?_ | fail))
     refine .p habn ?_
     (repeat' (first | (refine Rn.go ?_;conv=>whnf) | refine .mk ?_ | refine .tt ?_ | refine .ff ?_ | refine .m2 ?_ | refine .m3 ?_ | refine .mk (fun hc=>?_) fun hc=>?_ | refine .lp fun v H lp=>?_ | fail))
     refine .p habv ?_
     (repeat' (first | (refine Rn.go ?_;conv=>whnf) | refine .mk ?_ | refine .tt ?_ | refine .ff ?_ | refine .m2 ?_ | refine .m3 ?_ | refine .mk (fun hc=>?_) fun hc=>?_ | refine .lp fun v H lp=>?_ | fail))
     refine .lr (fun v3 H3 lr=>?_)
     (repeat' (first | (refine Rn.go ?_;conv=>whnf) | refine .mk ?_ | refine .tt ?_ | refine .ff ?_ | refine .m2 ?_ | refine .m3 ?_ | refine .mk (fun hc=>?_) fun hc=>?_ | refine .lp fun v H lp=>?_ | fail))
     exact .nx ⟨v3,rfl,lr.hr,by have:=lr.len;omega,fun j hj=>by rw [lr.fr j (by omega) (fun ep n hh=>by have:=hv j ep n hh;omega)];exact h2 j hj,by simpa [encIs] using lr.out,(fun j ep n hh=>by
      rcases lr.ref j ep n hh with ⟨ep',n',h3⟩ | h3
      ·exact hv j ep' n' h3
      ·omega),by rw [List.map_append,small_app,hs];simpa [small] using hs2⟩
   ·have hs3:smallI (a - q * n)=false:=by simpa using hs2
    have hsm:=of_decide_eq_false hs3
    have hnsm:=hno hs3
    by_cases hn0:n=0
    ·(repeat' (first | (refine Rn.go ?_;conv=>whnf) | refine .mk ?_ | refine .tt ?_ | refine .ff ?_ | refine .m2 ?_ | refine .m3 ?_ | refine .mk (fun hc=>?_) fun hc=>?_ | refine .lp fun v H lp=>?_ | fail))
     refine .p habv ?_
     (repeat' (first | (refine Rn.go ?_;conv=>whnf) | refine .mk ?_ | refine .tt ?_ | refine .ff ?_ | refine .m2 ?_ | refine .m3 ?_ | refine .mk (fun hc=>?_) fun hc=>?_ | refine .lp fun v H lp=>?_ | fail))
     exact ⟨hh,h1,h2,by rw [if_neg (by rw [hnsm];simp)];rfl⟩
    ·have hT:=div_rng2 hn0
     have hbig':¬ (2199023255552:Int).tdiv (max n (-n))<max q (-q):=fun hh=>hbig ⟨hn0,hh⟩
     (repeat' (first | (refine Rn.go ?_;conv=>whnf) | refine .mk ?_ | refine .tt ?_ | refine .ff ?_ | refine .m2 ?_ | refine .m3 ?_ | refine .mk (fun hc=>?_) fun hc=>?_ | refine .lp fun v H lp=>?_ | fail))
     refine .p habq ?_
     (repeat' (first | (refine Rn.go ?_;conv=>whnf) | refine .mk ?_ | refine .tt ?_ | refine .ff ?_ | refine .m2 ?_ | refine .m3 ?_ | refine .mk (fun hc=>?_) fun hc=>?_ | refine .lp fun v H lp=>?_ | fail))
     refine .p habn ?_
     (repeat' (first | (refine Rn.go ?_;conv=>whnf) | refine .mk ?_ | refine .tt ?_ | refine .ff ?_ | refine .m2 ?_ | refine .m3 ?_ | refine .mk (fun hc=>?_) fun hc=>?_ | refine .lp fun v H lp=>?_ | fail))
     refine .p habv ?_
     (repeat' (first | (refine Rn.go ?_;conv=>whnf) | refine .mk ?_ | refine .tt ?_ | refine .ff ?_ | refine .m2 ?_ | refine .m3 ?_ | refine .mk (fun hc=>?_) fun hc=>?_ | refine .lp fun v H lp=>?_ | fail))
     exact ⟨hh,h1,h2,by rw [if_neg (by rw [hnsm];simp)];rfl⟩
 ·rintro _ h ρ ⟨v,rfl,hh,h1,h2,ho,hv,hs⟩
  rw [hw3] at ho hs
  have ha':h[ia]?=some ⟨.m,ea,1,encIs A⟩:=by rw [h2 ia ka];exact ha
  (repeat' (first | (refine Rn.go ?_;conv=>whnf) | refine .mk ?_ | refine .tt ?_ | refine .ff ?_ | refine .m2 ?_ | refine .m3 ?_ | refine .mk (fun hc=>?_) fun hc=>?_ | refine .lp fun v H lp=>?_ | fail))
  exact ⟨hh,h1,h2,by rw [if_pos hs];exact ⟨v,rfl,ho,hv⟩⟩
end Go.Pm
end
section
set_option maxRecDepth 4000
namespace Go.Pm
open Go.Proofs
structure Rf where
 i:Nat
 e:Nat
 r:List Int
 u:Bool
def Rf.v (z:Rf):PV:=.mref z.i z.e 0 z.r.length
def Rf.m (z:Rf):Row:=(z.r,z.u)
def Rf.b (z:Rf):PV:=.bool z.u
def encNs (l:List Nat):List PV:=l.map fun (i:Nat)=>.int .i64 i
@[simp] theorem encNs_len (l:List Nat):(encNs l).length=l.length:=by simp [encNs]
@[simp] theorem encNs_vals (l:List Nat):isVals (encNs l)=true:=by induction l with | nil=>rfl | cons x l ih=>simpa [encNs] using ih
structure RL (h:AHeap) (rv:PV) (iu eu w:Nat) (Z:List Rf):Prop where
 hr:HR h
 er:Out 1 h rv (Z.map Rf.v)
 eu:h[iu]?=some ⟨.m,eu,1,Z.map Rf.b⟩
 at_:∀ z∈Z,h[z.i]?=some ⟨.m,z.e,1,encIs z.r⟩∧z.r.length=w
theorem RL.of_eq {h h':AHeap} {rv:PV} {iu eu w:Nat} {Z:List Rf} (L:RL h rv iu eu w Z) (hr:HR h') (he:∀ j,j<h.length→h'[j]?=h[j]?):RL h' rv iu eu w Z:=
 ⟨hr,L.er.of_eq (fun i hi=>he i (L.er.vlt i hi)),by rw [he iu (lt_of_some L.eu)];exact L.eu,fun z hz=>⟨by rw [he z.i (lt_of_some (L.at_ z hz).1)];exact (L.at_ z hz).1,(L.at_ z hz).2⟩⟩
def CIx (c:Nat) (S:List Row):List Nat:=(List.range S.length).filter fun i=>match S[i]? with | some R=>cand c R | none=>false
theorem CIx_snoc (c:Nat) (p:List Row) (R:Row):CIx c (p++[R])=CIx c p++if cand c R=true then [p.length] else []:=by
 unfold CIx
 rw [List.length_append,List.length_singleton,List.range_succ,List.filter_append]
 congr 1
 ·apply List.filter_congr
  intro i hi
  rw [List.getElem?_append_left (List.mem_range.1 hi)]
 ·by_cases h:cand c R=true <;> simp [h]
theorem snoc_ind {α:Type} {P:List α→Prop} (h0:P []) (hs:∀ l a,P l→P (l++[a])):∀ l,P l:=by
 intro l
 have:∀ r:List α,P r.reverse:=by
  intro r
  induction r with
  | nil=>exact h0
  | cons a r ih=>rw [List.reverse_cons];exact hs _ _ ih
 simpa using this l.reverse
theorem CIx_len (c:Nat):∀ S:List Row,(CIx c S).length=cnt c S:=by
 refine snoc_ind (P:=fun S=>(CIx c S).length=cnt c S) rfl (fun p R ih=>?_)
 rw [CIx_snoc,cnt_snoc,List.length_append,ih];by_cases h:cand c R=true <;> simp [h]
theorem CIx_mem {c:Nat} {S:List Row} {i:Nat}:i∈CIx c S↔∃ R,S[i]?=some R∧cand c R=true:=by
 unfold CIx
 rw [List.mem_filter,List.mem_range]
 constructor
 ·rintro ⟨h1,h2⟩
  rw [List.getElem?_eq_getElem h1] at h2
  exact ⟨_,List.getElem?_eq_getElem h1,h2⟩
 ·rintro ⟨R,h1,h2⟩
  exact ⟨lt_of_some h1,by rw [h1];exact h2⟩
theorem CIx_nodup (c:Nat) (S:List Row):(CIx c S).Nodup:=List.Pairwise.filter _ List.nodup_range
def Opn (c:Nat) (S:List Row) (O:List Nat):Prop:=O.Perm (CIx c S)∧(O=[]∨∃ (bi:Nat) (M:List Nat) (b:List Int),O=bi::M∧Best c S bi b)
attribute [local irreducible] thenQ blockQ loopQ bodyQ Ev EvOps CallEv FnEv EvD
theorem open_ev (H:AHeap) (rv:PV) (iu eu w c:Nat) (f:Bool) (cs:List PV) (pv:PV) (Z:List Rf) (L:RL H rv iu eu w Z) (hc:c<w) (hw:w<100000) (hZ:Z.length<1000) (hsm:∀ z∈Z,small z.r=true) (hpv:visR (fun i=>decide (i<H.length)) pv=true) (ho2:oneC pv=true) (hrv:oneC rv=true) :
  FnEv C 118 [.agg [.snap f cs,rv,pv],.mref iu eu 0 Z.length,.int .i64 c] H (fun r h'=>HR h'∧H.length≤h'.length∧(∀ j,j<H.length→h'[j]?=H[j]?)∧∃ O,Opn c (Z.map Rf.m) O∧Out 1 h' r (encNs O)∧(∀ j ep n,r=.mref j ep 0 n→H.length≤j)):=by
 have hR:=L.hr
 have hrvv:visR (fun i=>decide (i<H.length)) rv=true:=by
  rcases L.er with ⟨rfl,_⟩ | ⟨id,ep,rfl,e⟩
  ·rfl
  ·have:=lt_of_some e;simpa [visR] using this
 have hx:(cells (PV.agg [.snap f cs,rv,pv])).all oneC=true:=by
  show (true && (oneC rv && (oneC pv && true)))=true
  rw [ho2,hrv];rfl
 have hR1:HR (H++[(⟨.m,0,3,[.agg [.snap f cs,rv,pv]]⟩:AObj)]):=hR.app1 (by simp) (by
  simp only [visRs,visR,Bool.and_true,Bool.true_and,Bool.and_eq_true,decide_eq_true_eq]
  exact ⟨visR_imp (f:=fun i=>decide (i<H.length)) (fun i hi=>by have:=of_decide_eq_true hi;exact decide_eq_true (by omega)) _ hrvv,visR_imp (f:=fun i=>decide (i<H.length)) (fun i hi=>by have:=of_decide_eq_true hi;exact decide_eq_true (by omega)) _ hpv⟩)
 refine FnEv.x T6 Tryz.func118 rfl ?_
 (repeat' (first | (refine Rn.go ?_;conv=>whnf) | refine .mk ?_ | refine .tt ?_ | refine .ff ?_ | refine .m2 ?_ | refine .m3 ?_ | refine .mk (fun hc=>?_) fun hc=>?_ | refine .lp fun v H lp=>?_ | fail))
 rw [hx]
 conv=>whnf
 (repeat' (first | (refine Rn.go ?_;conv=>whnf) | refine .mk ?_ | refine .tt ?_ | refine .ff ?_ | refine .m2 ?_ | refine .m3 ?_ | refine .mk (fun hc=>?_) fun hc=>?_ | refine .lp fun v H lp=>?_ | fail))
 refine LpX.zip T6 Z (fun p q L h=>∃ v O,L=[(1,.mref iu eu 0 Z.length),(2,.int .i64 c),(3,.ptr H.length 0 0 0),(7,v),(8,.int .i64 p.length)]∧HR h∧H.length<h.length∧(∀ j,j<H.length→h[j]?=H[j]?)∧h[H.length]?=some ⟨.m,0,3,[.agg [.snap f cs,rv,pv]]⟩∧Opn c (p.map Rf.m) O∧Out 1 h v (encNs O)∧(∀ j ep n,v=.mref j ep 0 n→H.length<j))
  (.nx ⟨.snap true [],[],rfl,hR1,by simp,fun j hj=>List.getElem?_append_left hj,by simp,⟨by simp [CIx],.inl rfl⟩,.inl ⟨rfl,rfl⟩,(fun j ep n hh=>by cases hh)⟩) ?_ ?_
 ·rintro p z q _ h ρ e ⟨v,O,rfl,hh,h1,h2,h3,hO,ho,hv⟩
  have hl3:=congrArg List.length e
  simp only [List.length_append,List.length_cons] at hl3
  have Lh:=L.of_eq hh h2
  have hzl:(Z.map Rf.v).length=Z.length:=by simp
  obtain ⟨rr,re,hrv2,er⟩:∃ rr re,rv=.mref rr re 0 Z.length∧h[rr]?=some ⟨.m,re,1,Z.map Rf.v⟩:=by
   rcases Lh.er with ⟨_,h0⟩ | ⟨rr,re,g1,g2⟩
   ·have:=congrArg List.length h0;rw [hzl,List.length_nil] at this;omega
   ·exact ⟨rr,re,by rw [g1,hzl],g2⟩
  subst hrv2
  have eu:=Lh.eu
  obtain ⟨ez,lz⟩:=Lh.at_ z (by rw [e];simp)
  have hul:(Z.map Rf.b).length=Z.length:=by simp
  have hat:(Z.map Rf.v)[0+p.length]?=some (.mref z.i z.e 0 z.r.length):=by rw [e,Nat.zero_add];simp [Rf.v]
  have hau:(Z.map Rf.b)[0+p.length]?=some (.bool z.u):=by rw [e,Nat.zero_add];simp [Rf.b]
  have hrl:(encIs z.r).length=z.r.length:=by simp
  have hav:=nthI (a:=z.r) (c:=c) (by omega)
  have hm:(p++[z]).map Rf.m=p.map Rf.m++[z.m]:=by simp
  have hOl:O.length=cnt c (p.map Rf.m):=by rw [hO.1.length_eq,CIx_len]
  have hcl:cnt c (p.map Rf.m)≤p.length:=by unfold cnt;exact Nat.le_trans (List.length_filter_le _ _) (by simp)
  have hno:cand c z.m=false→Opn c ((p++[z]).map Rf.m) O:=fun hn=>by
   obtain ⟨o1,o2⟩:=hO
   refine ⟨by rw [hm,CIx_snoc,hn];simpa using o1,?_⟩
   rcases o2 with o2 | ⟨bi,M,b,rfl,hb⟩
   ·exact .inl o2
   ·exact .inr ⟨bi,M,b,rfl,by rw [hm];exact hb.no (fun hh=>by rw [hn] at hh;cases hh)⟩
  cases hu:z.u
  rotate_left
  ·rw [hu] at hau
   have hn:cand c z.m=false:=by simp [cand,Rf.m,hu]
   (repeat' (first | (refine Rn.go ?_;conv=>whnf) | refine .mk ?_ | refine .tt ?_ | refine .ff ?_ | refine .m2 ?_ | refine .m3 ?_ | refine .mk (fun hc=>?_) fun hc=>?_ | refine .lp fun v H lp=>?_ | fail))
   exact .nx ⟨v,O,rfl,hh,h1,h2,h3,hno hn,ho,hv⟩
  rw [hu] at hau
  by_cases hz0:atR z.r c=0
  ·have hn:cand c z.m=false:=by simp [cand,Rf.m,hz0]
   (repeat' (first | (refine Rn.go ?_;conv=>whnf) | refine .mk ?_ | refine .tt ?_ | refine .ff ?_ | refine .m2 ?_ | refine .m3 ?_ | refine .mk (fun hc=>?_) fun hc=>?_ | refine .lp fun v H lp=>?_ | fail))
   exact .nx ⟨v,O,rfl,hh,h1,h2,h3,hno hn,ho,hv⟩
  have hyes:cand c (z.r,false)=true:=by simp [cand,hz0]
  have hzm:z.m=(z.r,false):=by rw [Rf.m,hu]
  have hln:(encNs O).length+1<1000000000:=by rw [encNs_len];omega
  have hes:encNs O++[.int .i64 (p.length:Int)]=encNs (O++[p.length]):=by simp [encNs]
  (repeat' (first | (refine Rn.go ?_;conv=>whnf) | refine .mk ?_ | refine .tt ?_ | refine .ff ?_ | refine .m2 ?_ | refine .m3 ?_ | refine .mk (fun hc=>?_) fun hc=>?_ | refine .lp fun v H lp=>?_ | fail))
  refine .lr (fun v3 H3 lr=>?_)
  have lo:=lr.out
  have lh:=lr.hr
  have lf:∀ j,j≤H.length→H3[j]?=h[j]?:=fun j hj=>lr.fr j (by omega) (fun ep n hh=>by have:=hv j ep n hh;omega)
  have ll:=lr.len
  have lv:∀ j ep n,v3=.mref j ep 0 n→H.length<j:=fun j ep n hh=>by
   rcases lr.ref j ep n hh with ⟨ep',n',h4⟩ | h4
   ·exact hv j ep' n' h4
   ·omega
  clear lr
  rw [hes] at lo
  rcases lo with ⟨_,h0⟩ | ⟨iv,ev,rfl,ev2⟩
  ·have:=congrArg List.length h0;simp at this
  have k1:∀ j,j<H.length→H3[j]?=H[j]?:=fun j hj=>by rw [lf j (by omega)];exact h2 j hj
  have L3:=L.of_eq lh k1
  have er3:H3[rr]?=some ⟨.m,re,1,Z.map Rf.v⟩:=by
   rcases L3.er with ⟨h0,_⟩ | ⟨_,_,g1,g2⟩
   ·cases h0
   ·simp only [PV.mref.injEq] at g1
    obtain ⟨rfl,rfl,_,_⟩:=g1
    exact g2
  have eu3:=L3.eu
  obtain ⟨ez3,_⟩:=L3.at_ z (by rw [e];simp)
  have h33:H3[H.length]?=some ⟨.m,0,3,[.agg [.snap f cs,.mref rr re 0 Z.length,pv]]⟩:=by rw [lf H.length (Nat.le_refl _)];exact h3
  have hel:(encNs (O++[p.length])).length=O.length+1:=by simp
  have hvs:=of_decide_eq_true (List.all_eq_true.1 (hsm z (by rw [e];simp)) (atR z.r c) (List.mem_of_getElem? (i:=c) (by simp [atR,List.getD,List.getElem?_eq_getElem (show c<z.r.length by omega)])))
  have habz:=rabs_fun (atR z.r c) (by omega)
  obtain ⟨o1,o2⟩:=hO
  rcases o2 with rfl | ⟨bi,M,b,rfl,hb⟩
  ·have hat0:(encNs ([]++[p.length]))[0+0]?=some (.int .i64 (p.length:Int)):=rfl
   have hopn:Opn c ((p++[z]).map Rf.m) [p.length]:=by
    have hnil:CIx c (p.map Rf.m)=[]:=List.eq_nil_of_length_eq_zero (by rw [← o1.length_eq];rfl)
    refine ⟨by rw [hm,hzm,CIx_snoc,hyes,hnil];simp,.inr ⟨p.length,[],z.r,rfl,?_⟩⟩
    rw [hm,hzm]
    have:=Best.new (c:=c) (p:=p.map Rf.m) hyes (fun Q hQ hcQ=>by
     obtain ⟨i,hi⟩:=List.getElem?_of_mem hQ
     have:i∈CIx c (p.map Rf.m):=CIx_mem.2 ⟨Q,hi,hcQ⟩
     rw [hnil] at this;cases this)
    simpa using this
   (repeat' (first | (refine Rn.go ?_;conv=>whnf) | refine .mk ?_ | refine .tt ?_ | refine .ff ?_ | refine .m2 ?_ | refine .m3 ?_ | refine .mk (fun hc=>?_) fun hc=>?_ | refine .lp fun v H lp=>?_ | fail))
   refine .p habz ?_
   (repeat' (first | (refine Rn.go ?_;conv=>whnf) | refine .mk ?_ | refine .tt ?_ | refine .ff ?_ | refine .m2 ?_ | refine .m3 ?_ | refine .mk (fun hc=>?_) fun hc=>?_ | refine .lp fun v H lp=>?_ | fail))
   refine .p habz ?_
   (repeat' (first | (refine Rn.go ?_;conv=>whnf) | refine .mk ?_ | refine .tt ?_ | refine .ff ?_ | refine .m2 ?_ | refine .m3 ?_ | refine .mk (fun hc=>?_) fun hc=>?_ | refine .lp fun v H lp=>?_ | fail))
   exact .nx ⟨_,[p.length],rfl,lh,by omega,k1,h33,hopn,.inr ⟨iv,ev,rfl,ev2⟩,lv⟩
  ·have hbl:bi<p.length:=by have:=lt_of_some hb.at_;simpa using this
   obtain ⟨B,hB,hBm⟩:∃ B,p[bi]?=some B∧B.m=(b,false):=by
    have:=hb.at_
    rw [List.getElem?_map] at this
    cases hB:p[bi]? with
    | none=>rw [hB] at this;cases this
    | some B=>rw [hB] at this;exact ⟨B,rfl,by simpa using this⟩
   have hBin:B∈Z:=by rw [e];exact List.mem_append.2 (.inl (List.mem_of_getElem? hB))
   obtain ⟨eB,lB⟩:=L3.at_ B hBin
   have hbB:b=B.r:=congrArg Prod.fst hBm.symm
   subst hbB
   have hatB:(Z.map Rf.v)[0+bi]?=some (.mref B.i B.e 0 B.r.length):=by rw [e,Nat.zero_add,List.getElem?_map,List.getElem?_append_left hbl,hB];rfl
   have hBl:(encIs B.r).length=B.r.length:=by simp
   have hBv:=nthI (a:=B.r) (c:=c) (by omega)
   have hBs:=of_decide_eq_true (List.all_eq_true.1 (hsm B hBin) (atR B.r c) (List.mem_of_getElem? (i:=c) (by simp [atR,List.getD,List.getElem?_eq_getElem (show c<B.r.length by omega)])))
   have habB:=rabs_fun (atR B.r c) (by omega)
   have hat0:(encNs (bi::M++[p.length]))[0+0]?=some (.int .i64 (bi:Int)):=rfl
   by_cases hlt:(atR z.r c).natAbs<(atR B.r c).natAbs
   ·have hk:(((encNs (bi::M++[p.length])).length:Int) - 1).toNat=M.length+1:=by simp <;> omega
    have hatk:(encNs (bi::M++[p.length]))[0+(((encNs (bi::M++[p.length])).length:Int) - 1).toNat]?=some (.int .i64 (p.length:Int)):=by rw [hk];simp [encNs]
    have hel2:((encNs (bi::M++[p.length])).set (0+0) (.int .i64 (p.length:Int))).length=M.length+2:=by simp
    have hatk2:((encNs (bi::M++[p.length])).set (0+0) (.int .i64 (p.length:Int)))[0+(((encNs (bi::M++[p.length])).length:Int) - 1).toNat]?=some (.int .i64 (p.length:Int)):=by rw [hk];simp [encNs]
    have hset:((encNs (bi::M++[p.length])).set (0+0) (.int .i64 (p.length:Int))).set (0+(((encNs (bi::M++[p.length])).length:Int) - 1).toNat) (.int .i64 (bi:Int))=encNs (p.length::(M++[bi])):=by
     rw [hk]
     simp only [encNs,List.map_append,List.map_cons,List.map_nil,List.cons_append,Nat.zero_add,List.set_cons_zero,List.set_cons_succ]
     rw [List.set_append_right _ _ (by simp)]
     simp
    have kiv:=lt_of_some ev2
    have hst:∀ V:List PV,(H3.set iv ⟨.m,ev,0+1,V⟩)[iv]?=some ⟨.m,ev,0+1,V⟩:=fun V=>List.getElem?_set_self kiv
    have hst2:=hst ((encNs (bi::M++[p.length])).set (0+0) (.int .i64 (p.length:Int)))
    have hiv:=lv iv ev _ rfl
    have hopn:Opn c ((p++[z]).map Rf.m) (p.length::(M++[bi])):=by
     refine ⟨?_,.inr ⟨p.length,M++[bi],z.r,rfl,?_⟩⟩
     ·rw [hm,hzm,CIx_snoc,if_pos hyes,List.length_map]
      have h1:(p.length::(M++[bi])).Perm (p.length::(bi::M)):=List.Perm.cons _ (List.perm_append_comm (l₁:=M) (l₂:=[bi]))
      have h2:(p.length::(bi::M)).Perm ((bi::M)++[p.length]):=List.perm_append_comm (l₁:=[p.length]) (l₂:=bi::M)
      exact (h1.trans h2).trans (o1.append_right _)
     ·rw [hm,hzm]
      have:=Best.new (c:=c) (p:=p.map Rf.m) hyes (fun Q hQ hcQ=>by
       obtain ⟨i,hi⟩:=List.getElem?_of_mem hQ
       exact Nat.lt_of_lt_of_le hlt (hb.min i Q hi hcQ))
      simpa using this
    (repeat' (first | (refine Rn.go ?_;conv=>whnf) | refine .mk ?_ | refine .tt ?_ | refine .ff ?_ | refine .m2 ?_ | refine .m3 ?_ | refine .mk (fun hc=>?_) fun hc=>?_ | refine .lp fun v H lp=>?_ | fail))
    refine .p habB ?_
    (repeat' (first | (refine Rn.go ?_;conv=>whnf) | refine .mk ?_ | refine .tt ?_ | refine .ff ?_ | refine .m2 ?_ | refine .m3 ?_ | refine .mk (fun hc=>?_) fun hc=>?_ | refine .lp fun v H lp=>?_ | fail))
    refine .p habz ?_
    (repeat' (first | (refine Rn.go ?_;conv=>whnf) | refine .mk ?_ | refine .tt ?_ | refine .ff ?_ | refine .m2 ?_ | refine .m3 ?_ | refine .mk (fun hc=>?_) fun hc=>?_ | refine .lp fun v H lp=>?_ | fail))
    rw [hset,List.set_set]
    have hHR:HR (H3.set iv ⟨.m,ev,0+1,encNs (p.length::(M++[bi]))⟩):=lh.set iv (by simp) (vis_vals _ _ (by simp))
    exact .nx ⟨.mref iv ev 0 (encNs (bi::M++[p.length])).length,p.length::(M++[bi]),rfl,hHR,by simp;omega,fun j hj=>by rw [List.getElem?_set_ne (by omega)];exact k1 j hj,by rw [List.getElem?_set_ne (by omega)];exact h33,hopn,.inr ⟨iv,ev,by simp,by rw [List.getElem?_set_self kiv]⟩,fun j ep n hh=>by cases hh;exact hiv⟩
   ·have hopn:Opn c ((p++[z]).map Rf.m) (bi::(M++[p.length])):=by
     refine ⟨by rw [hm,hzm,CIx_snoc,if_pos hyes,List.length_map];exact (show ((bi::M)++[p.length]).Perm (CIx c (p.map Rf.m)++[p.length]) from o1.append_right _) |> fun h=>by simpa using h,.inr ⟨bi,M++[p.length],B.r,rfl,?_⟩⟩
     rw [hm,hzm]
     exact hb.no fun _=>Nat.le_of_not_lt hlt
    (repeat' (first | (refine Rn.go ?_;conv=>whnf) | refine .mk ?_ | refine .tt ?_ | refine .ff ?_ | refine .m2 ?_ | refine .m3 ?_ | refine .mk (fun hc=>?_) fun hc=>?_ | refine .lp fun v H lp=>?_ | fail))
    refine .p habB ?_
    (repeat' (first | (refine Rn.go ?_;conv=>whnf) | refine .mk ?_ | refine .tt ?_ | refine .ff ?_ | refine .m2 ?_ | refine .m3 ?_ | refine .mk (fun hc=>?_) fun hc=>?_ | refine .lp fun v H lp=>?_ | fail))
    refine .p habz ?_
    (repeat' (first | (refine Rn.go ?_;conv=>whnf) | refine .mk ?_ | refine .tt ?_ | refine .ff ?_ | refine .m2 ?_ | refine .m3 ?_ | refine .mk (fun hc=>?_) fun hc=>?_ | refine .lp fun v H lp=>?_ | fail))
    exact .nx ⟨_,bi::(M++[p.length]),rfl,lh,by omega,k1,h33,hopn,.inr ⟨iv,ev,rfl,ev2⟩,lv⟩
 ·rintro _ h ρ ⟨v,O,rfl,hh,h1,h2,h3,hO,ho,hv⟩
  have Lh:=L.of_eq hh h2
  have er:=Lh.er
  have hzl:(Z.map Rf.v).length=Z.length:=by simp
  (repeat' (first | (refine Rn.go ?_;conv=>whnf) | refine .mk ?_ | refine .tt ?_ | refine .ff ?_ | refine .m2 ?_ | refine .m3 ?_ | refine .mk (fun hc=>?_) fun hc=>?_ | refine .lp fun v H lp=>?_ | fail))
  exact ⟨hh,by omega,h2,O,hO,ho,fun j ep n hh=>Nat.le_of_lt (hv j ep n hh)⟩
end Go.Pm
end
